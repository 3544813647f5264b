/- Plain laws: the Times of the log, as the statement goes through them. -/
import Derived.Test.YtmkdlelpipefbaaGreatDoorUar
import Derived.Test.YtmkdlelpipefbaaGreatDoorUas
set_option linter.unusedSimpArgs false
set_option linter.unusedVariables false
namespace Go.Proofs
open Go Go.Q
def tmD (s:List Sto) (d:Dig):Int:=((getS s d).getD Pat.zero).time
def lastT (s:List Sto) (l:List Dig) (i:Nat):Int:=if i=0 then 0 else tmD s (l.getD (i - 1) Dig.zero)
def ascB (s:List Sto) (l:List Dig) (i:Nat):Bool:=(List.range i).all fun j=>decide (lastT s l j≤tmD s (l.getD j Dig.zero))
def needB (s:List Sto) (d:Dig) (k:Nat):Bool:=((ndS s d).take k).all fun x=>decide (tmD s x≤tmD s d)
def soundB (s:List Sto) (l:List Dig) (i:Nat):Bool:=(List.range i).all fun j=>needB s (l.getD j Dig.zero) (ndS s (l.getD j Dig.zero)).length
theorem ascB_succ {s:List Sto} {l:List Dig} {i:Nat} (h:i < l.length):ascB s l (i+1)=(ascB s l i&&decide (lastT s l i≤tmD s l[i])):=by
 unfold ascB
 rw[List.range_succ,List.all_append,List.all_cons,List.all_nil,Bool.and_true,getD_get h]
theorem lastT_succ {s:List Sto} {l:List Dig} {i:Nat} (h:i < l.length):lastT s l (i+1)=tmD s l[i]:=by
 unfold lastT
 rw[if_neg (by omega),Nat.add_sub_cancel,getD_get h]
theorem soundB_succ {s:List Sto} {l:List Dig} {i:Nat} (h:i < l.length):soundB s l (i+1)=(soundB s l i&&needB s l[i] (ndS s l[i]).length):=by
 unfold soundB
 rw[List.range_succ,List.all_append,List.all_cons,List.all_nil,Bool.and_true,getD_get h]
theorem needB_zero (s:List Sto) (d:Dig):needB s d 0=true:=by simp[needB]
theorem needB_succ {s:List Sto} {d:Dig} {k:Nat} (h:k < (ndS s d).length):needB s d (k+1)=(needB s d k&&decide (tmD s (ndS s d)[k]≤tmD s d)):=by
 unfold needB
 rw[List.take_succ_eq_append_getElem h,List.all_append]
 simp
theorem time_pos {s:List Sto} (v:Valid s) {x:Sto} (hx:x∈s):0≤x.patch.time:=by
 have h1:=(rId_ok (v.id x hx).1).1
 rw[checkP_head]at h1
 by_cases h2:rHead x.patch≠0
 ·rw[if_pos h2]at h1;exact absurd h1 h2
 ·have h2:=Classical.not_not.1 h2
  unfold rHead at h2
  refine Int.not_lt.1 fun h3=>?_
  by_cases a1:rName x.patch.author=false
  ·rw[if_pos a1]at h2;exact absurd h2 (by decide)
  rw[if_neg a1]at h2
  by_cases a2:1000 < (x.patch.message.length:Int)
  ·rw[if_pos a2]at h2;exact absurd h2 (by decide)
  rw[if_neg a2,if_pos (.inl h3)]at h2
  exact absurd h2 (by decide)
theorem log_asc {s:List Sto} (v:Valid s) (h:soundB s (rLog s) (rLog s).length=true):ascB s (rLog s) (rLog s).length=true:=by
 have hL:=log_lin v
 have hget: ∀ i (hi:i < (rLog s).length),∃ x∈s,x.id=(rLog s)[i]∧tmD s (rLog s)[i]=x.patch.time∧ndS s (rLog s)[i]=rNeeds x.patch:=fun i hi=>by
  obtain⟨x,hx,e⟩:=List.mem_map.1 ((hL.mem _).1 (List.getElem_mem hi))
  have:=getS_in v.asc hx
  refine⟨x,hx,e,?_,?_⟩
  ·unfold tmD;rw[←e,this];rfl
  ·unfold ndS;rw[←e,this];rfl
 have hs: ∀ x∈s,∀ y∈s,y.id∈rNeeds x.patch→y.patch.time≤x.patch.time:=fun x hx y hy hn=>by
  obtain⟨i,hi,e⟩:=List.mem_iff_getElem.1 ((hL.mem x.id).2 (List.mem_map.2 ⟨x,hx,rfl⟩))
  have h1:=List.all_eq_true.1 h i (List.mem_range.2 hi)
  rw[getD_get hi]at h1
  obtain⟨x',hx',e1,e2,e3⟩:=hget i hi
  obtain rfl:=sto_unique v.asc hx hx' (e.symm.trans e1.symm)
  unfold needB at h1
  rw[List.take_length,e3]at h1
  have h2:=of_decide_eq_true (List.all_eq_true.1 h1 _ hn)
  rw[e2]at h2
  have h3:tmD s y.id=y.patch.time:=by unfold tmD;rw[getS_in v.asc hy];rfl
  rwa [h3]at h2
 refine List.all_eq_true.2 fun j hj=>decide_eq_true ?_
 have hj:=List.mem_range.1 hj
 rw[getD_get hj]
 obtain⟨y,hy,e1,e2,_⟩:=hget j hj
 rw[e2]
 cases j with
 |zero=>exact time_pos v hy
 |succ j=>
  rw[lastT_succ (by omega)]
  obtain⟨x,hx,e3,e4,_⟩:=hget j (by omega)
  rw[e4]
  exact log_times v hs hj hx hy e3 e1
end Go.Proofs
namespace Go.Proofs
open Go Go.Q
attribute [local irreducible] pwp pops pAny PCalls OpN
set_option maxHeartbeats 8000000 in
theorem historyLog_fn (s:List Sto) (t:Tag) (n:UInt8):FnC Tryz.prog 5 [.slice (s.map eSto) t,eU8 n] (.raw (.bool true)):=⟨by
 refine fn_of Tryz.func5 Tryz.ntmps5 rfl (rs:= [.tmp 4]) rfl rfl fun hb LF=>?_
 have cf:=fun t=>Fine_ct s t
 cases hf:rFine s with
 |false=>
  rw[hf]at cf
  refine wf ?_
  exact end1 (.refl _)
 |true=>
 rw[hf]at cf
 have v:=valid_of hf
 have h40:=v.close.1.1
 have hL:=log_lin v
 have hll:=hL.len v.asc
 have c1:=fun t=>logP_fn s t v (by omega)
 have c2:=fun t u=>linP_fn s t (rLog s) u v
 rw[(lin_iff v.asc).2 hL]at c2
 obtain⟨k,hkd⟩: ∃ k,k=n.toNat % ((rLog s).length+1):=⟨_,rfl⟩
 have hk:k < (rLog s).length+1:=by rw[hkd];exact Nat.mod_lt _ (by omega)
 have hlp:=log_prefix v (k:=k) (by omega)
 have e1:((rLog s).length:Int)+1=(((rLog s).length+1:Nat):Int):=by omega
 have vp:=hL.prefix_valid v k
 have hpl:=hL.prefix_len v.asc (n:=k) (by omega)
 have c3:=fun t u=>prefixP_fn s t (rLog s) u (k:Int) v
 rw[prefix_lin v hL (by omega)]at c3
 have c4:=fun t=>logP_fn (keepS s ((rLog s).take k)) t vp (by omega)
 rw[hlp]at c4
 dsimp only at c3
 have hfin:=log_asc v
 generalize rLog s=l at*
 have c5:=fun t u=>SameD_ct (l.take k) (l.take k) t u
 rw[decide_eq_true (rfl:l.take k=l.take k)]at c5
 generalize keepS s (l.take k)=p at*
 refine wf ?_
 refine s_convI (k₀:= .u8) (n:=(n.toNat:Int)) rfl (IntWalk.i64_in _ (by have:=n.toNat_lt;omega)) ?_
 refine wf ?_
 rw[e1]
 refine s_rem (m:=n.toNat) (n:=l.length+1) rfl rfl (by omega) ?_
 rw[←hkd]
 refine wf ?_
 refine pwp_loopS (σ:=Nat) (fun i=>i≤l.length) (fun i=>l.length - i) (fun i=> [(0,.slice (s.map eSto) t),(9,.raw (.int .i64 (lastT s l i))),(10,.raw (.bool (ascB s l i))),(11,.raw (.bool (soundB s l i))),(54,.slice (l.map eDig) .ro),(55,.raw (.int .i64 l.length)),(56,.raw (.int .i64 i))]) (fun _=>LF) 0 (by simp) ⟨rfl,rfl,holdsB (by rfl) (by simp[ascB]),holdsB (by rfl) (by simp[soundB]),rfl,rfl,rfl⟩ (.refl _) ?_
 rintro i hi
 refine wf ?_
 refine pwp_condD (fun hc=>?_) (fun hc=>?_)
 ·have hlt:i < l.length:=by omega
  have i1:Small (rBig ((getS s l[i]).getD Pat.zero)=false):=⟨v.close.great _⟩
  have ea:=ascB_succ (s:=s) hlt
  have el:=lastT_succ (s:=s) hlt
  have es:=soundB_succ (s:=s) hlt
  have ht:tmD s l[i]=((getS s l[i]).getD Pat.zero).time:=rfl
  have hnd:ndS s l[i]=rNeeds ((getS s l[i]).getD Pat.zero):=rfl
  have hnl:=nd_len v l[i]
  have hz:=needB_zero s l[i]
  have hsu:=fun j (hj:j < (ndS s l[i]).length)=>needB_succ hj
  rw[hnd]at es hnl hsu
  obtain⟨A2,hA2⟩: ∃ A2,A2=ascB s l (i+1):=⟨_,rfl⟩
  obtain⟨t2,hT2⟩: ∃ t2,t2=lastT s l (i+1):=⟨_,rfl⟩
  obtain⟨S2,hS2⟩: ∃ S2,S2=soundB s l (i+1):=⟨_,rfl⟩
  rw[←hA2]at ea
  rw[←hT2]at el
  rw[←hS2]at es
  generalize ascB s l i=A at ea ⊢
  generalize lastT s l i=t1 at ea ⊢
  generalize soundB s l i=S at es ⊢
  refine wz fun b13=>?_
  refine pwp_freezeD 13 ?_
  refine wz fun b14=>?_
  refine pwp_freezeD 14 ?_
  generalize (getS s l[i]).getD Pat.zero=q at i1 ht hnl es hsu ⊢
  rw[ht]at ea el hsu
  generalize l[i]=x at hz hsu es ⊢
  refine wf ?_
  refine pops_cutE [(10,.raw (.bool (A2))),(0,.slice (s.map eSto) t),(11,.raw (.bool S)),(14,.pt (ePat q) 0),(54,.slice (l.map eDig) .ro),(55,.raw (.int .i64 l.length)),(56,.raw (.int .i64 i))] (LF) ?_ ?_
  ·repeat' (first|(refine pwp_condD (fun h=>?_) (fun h=>?_)<;>refine wf ?_)|(refine pwp_condN (fun h=>?_) (fun h=>?_)<;>refine wf ?_)|(refine pwp_condB (fun h=>?_) (fun h=>?_)<;>refine wf ?_)|(refine pops_if (fun h=>?_) (fun h=>?_)<;>(have h2:=h;(try simp only[decide_eq_true_eq,decide_eq_false_iff_not,Bool.not_eq_true',Bool.not_eq_false']at h2);refine wf ?_)))
   all_goals (refine⟨⟨holdsB (by rfl) ?_,rfl,rfl,rfl,rfl,rfl,rfl⟩,.refl _⟩;first|(simp_all;done)|grind)
  refine wf ?_
  generalize rNeeds q=nd at hnl hsu es ⊢
  rw[←el]
  refine pwp_loopS (σ:=Nat) (fun j=>j≤nd.length) (fun j=>nd.length - j) (fun j=> [(0,.slice (s.map eSto) t),(9,.raw (.int .i64 t2)),(10,.raw (.bool A2)),(11,.raw (.bool (S&&needB s x j))),(14,.pt (ePat q) 0),(54,.slice (l.map eDig) .ro),(55,.raw (.int .i64 l.length)),(56,.raw (.int .i64 i)),(76,.slice (nd.map eDig) .ro),(77,.raw (.int .i64 nd.length)),(78,.raw (.int .i64 j))]) (fun _=>LF) 0 (by simp) ⟨rfl,rfl,rfl,holdsB (by rfl) (by rw[hz,Bool.and_true]),rfl,rfl,rfl,rfl,rfl,rfl,rfl⟩ (.refl _) ?_
  rintro j hj
  refine wf ?_
  refine pwp_condD (fun hc=>?_) (fun hc=>?_)
  ·have hjl:j < nd.length:=by omega
   have hs:=hsu j hjl
   have ht2:tmD s nd[j]=((getS s nd[j]).getD Pat.zero).time:=rfl
   obtain⟨B2,hB2⟩: ∃ B2,B2=needB s x (j+1):=⟨_,rfl⟩
   rw[←hB2]at hs
   generalize needB s x j=B at hs ⊢
   refine wz fun b17=>?_
   refine pwp_freezeD 17 ?_
   refine wz fun b18=>?_
   refine pwp_freezeD 18 ?_
   rw[ht2]at hs
   generalize (getS s nd[j]).getD Pat.zero=r at hs ⊢
   refine wf ?_
   refine pops_cutE [(11,.raw (.bool ((S&&B2)))),(0,.slice (s.map eSto) t),(9,.raw (.int .i64 t2)),(10,.raw (.bool A2)),(14,.pt (ePat q) 0),(54,.slice (l.map eDig) .ro),(55,.raw (.int .i64 l.length)),(56,.raw (.int .i64 i)),(76,.slice (nd.map eDig) .ro),(77,.raw (.int .i64 nd.length)),(78,.raw (.int .i64 j))] (LF) ?_ ?_
   ·repeat' (first|(refine pwp_condD (fun h=>?_) (fun h=>?_)<;>refine wf ?_)|(refine pwp_condN (fun h=>?_) (fun h=>?_)<;>refine wf ?_)|(refine pwp_condB (fun h=>?_) (fun h=>?_)<;>refine wf ?_)|(refine pops_if (fun h=>?_) (fun h=>?_)<;>(have h2:=h;(try simp only[decide_eq_true_eq,decide_eq_false_iff_not,Bool.not_eq_true',Bool.not_eq_false']at h2);refine wf ?_)))
    all_goals (refine⟨⟨holdsB (by rfl) ?_,rfl,rfl,rfl,rfl,rfl,rfl,rfl,rfl,rfl,rfl⟩,.refl _⟩;first|(simp_all;done)|grind)
   refine wf ?_
   exact⟨j+1,by omega,by dsimp only;omega,⟨rfl,rfl,rfl,by rw[←hB2];rfl,rfl,rfl,rfl,rfl,rfl,rfl,rfl⟩,.refl _⟩
  ·have hjj:j=nd.length:=by omega
   rw[hjj,←es]
   refine wf ?_
   exact⟨i+1,by omega,by dsimp only;omega,⟨rfl,by rw[←hT2];rfl,by rw[←hA2];rfl,by rw[←hS2];rfl,rfl,rfl,rfl⟩,.refl _⟩
 ·have hii:i=l.length:=by omega
  rw[hii]
  generalize ascB s l l.length=A at hfin ⊢
  generalize soundB s l l.length=S at hfin ⊢
  cases A with
  |true=>
   refine wf ?_
   exact end1 (.refl _)
  |false=>
   cases S with
   |true=>cases hfin rfl
   |false=>
    refine wf ?_
    exact end1 (.refl _)⟩
end Go.Proofs
