/- Contracts: sets with one more patch (the reference's layer 17). -/
import Derived.Test.YtddlffkdpocmhaaGreatDoorUak
import Derived.Test.YtddlffkdpocmhaaGreatDoorUag
import Derived.Test.YtddlffkdpocmhaaGreatDoorUaj
import Derived.Test.YtddlffkdpocmhaaGreatDoorUai
import Derived.Shelf.SlSortCmp.NoneTotal
import Derived.Test.YtddlffkdpocmhaaGreatDoorUah
import Derived.Shelf.SlGeneric
import Derived.Ground.SlsfProg
set_option linter.unusedSimpArgs false
set_option linter.unusedVariables false
namespace Go.Proofs
open Go Go.Q
attribute [local irreducible] pwp pops PCalls OpN
def putS (s:List Sto) (x:Sto):List Sto:=s.takeWhile (fun y=>decide (cmpD y.id x.id < 0))++x::s.dropWhile (fun y=>decide (cmpD y.id x.id < 0))
theorem while_at {α:Type} {q:α→Bool}: ∀ {l:List α} {k:Nat},k≤l.length→(∀ i (h:i < l.length),i < k→q l[i]=true)→(∀ h:k < l.length,q l[k]=false)→l.takeWhile q=l.take k∧l.dropWhile q=l.drop k
 | [],k,hk,_,_=>by simp
 |x::l,0,_,_,h=>by
  have:=h (by simp)
  simp only[List.getElem_cons_zero]at this
  simp[this]
 |x::l,k+1,hk,h1,h2=>by
  have h0:=h1 0 (by simp) (by omega)
  simp only[List.getElem_cons_zero]at h0
  have ih:=while_at (l:=l) (k:=k) (q:=q) (by simpa using hk) (fun i h hi=>by have:=h1 (i+1) (by simpa using h) (by omega);simpa using this) (fun h=>by have:=h2 (by simpa using h);simpa using this)
  simp[h0,ih.1,ih.2]
set_option maxHeartbeats 1000000 in
instance put_ct (s:List Sto) (x:Sto) (t:Tag) [hs:Small (s.length≤1000)]:FnC Tryz.prog 99 [.slice (s.map eSto) t,.agg (eSto x)] (.slice ((putS s x).map eSto) .ro):=⟨by
 have hlen:=hs.out
 refine fn_of Tryz.func99 Tryz.ntmps99 rfl (rs:= [.tmp 4]) rfl rfl fun hb LF=>?_
 refine walkb fun b=>?_
 refine pwp_loopS (σ:=Nat) (fun k=>k≤s.length∧ ∀ i (h:i < s.length),i < k→decide (cmpD s[i].id x.id < 0)=true) (fun k=>s.length - k) (fun k=> [(0,.slice (s.map eSto) t),(3,.raw (.pointer (some ⟨b,0,none⟩))),(5,.raw (.int .i64 k))]) (fun _=> .box b 59 (eSto x)::LF) 0 ⟨by simp,by simp⟩ ⟨rfl,rfl,rfl⟩ (.refl _) ?_
 rintro k ⟨hk,he⟩
 have fin:(∀ h:k < s.length,decide (cmpD s[k].id x.id < 0)=false)→putS s x=s.take k++ [x]++s.drop k:=fun hn=>by
  obtain⟨e1,e2⟩:=while_at (q:=fun(y:Sto)=>decide (cmpD y.id x.id < 0)) hk he hn
  rw[putS,e1,e2];simp
 refine walk ?_
 refine pops_cutE [(21,.raw (.bool (decide ((k:Int) < s.length∧cmpD (s.getD k Sto.zero).id x.id < 0)))),(0,.slice (s.map eSto) t),(3,.raw (.pointer (some ⟨b,0,none⟩))),(5,.raw (.int .i64 k))] (.box b 59 (eSto x)::LF) ?_ ?_
 ·repeat' (first|(refine pwp_condD (fun h=>?_) (fun h=>?_)<;>refine walk ?_)|(refine pwp_condN (fun h=>?_) (fun h=>?_)<;>refine walk ?_)|(refine pwp_condB (fun h=>?_) (fun h=>?_)<;>refine walk ?_)|(refine pops_if (fun h=>?_) (fun h=>?_)<;>(have h2:=h;(try simp only[decide_eq_true_eq,decide_eq_false_iff_not,Bool.not_eq_true',Bool.not_eq_false']at h2);refine walkp ?_)))
  all_goals (refine⟨⟨holdsB (by rfl) ?_,rfl,rfl,rfl⟩,.refl _⟩;first|(simp_all[List.getD];done)|grind)
 refine walk ?_
 refine pwp_condD (fun h=>?_) (fun h=>?_)
 ·have hlt:k < s.length:=by omega
  have e0:s.getD k Sto.zero=s[k]:=by simp[List.getD,hlt]
  rw[e0]at h
  refine walk ?_
  exact⟨k+1,⟨by omega,upto_succ (q:=fun(y:Sto)=>decide (cmpD y.id x.id < 0)) he hlt (decide_eq_true h.2)⟩,by dsimp only;omega,⟨rfl,rfl,rfl⟩,.refl _⟩
 have hput:=fin (fun hlt=>by
  have e0:s.getD k Sto.zero=s[k]:=by simp[List.getD,hlt]
  rw[e0]at h
  exact decide_eq_false (fun h'=>h ⟨by omega,h'⟩))
 clear fin
 refine walkn ?_
 refine pwp_drawP 4 [4,7] ?_ ?_
 ·decide+kernel
 refine walkp ?_
 have tl:(s.take k).length≤1000:=by rw[List.length_take];omega
 have dl:(s.drop k).length≤1000:=by rw[List.length_drop];omega
 refine pAny_next (fuel:=4) [4,5] (by decide+kernel) (by simp) fun i hi=>?_
 simp only[List.mem_cons,List.not_mem_nil,or_false]at hi
 rcases hi with rfl|rfl
 ·refine⟨_,rfl,?_⟩
  refine walkap fun t1=>?_
  refine pAny_next (fuel:=3) [5] (by decide+kernel) (by simp) fun i hi=>?_
  simp only[List.mem_cons,List.not_mem_nil,or_false]at hi
  subst hi
  refine⟨_,rfl,?_⟩
  refine walkp ?_
  refine pAny_next (fuel:=2) [6] (by decide+kernel) (by simp) fun i hi=>?_
  simp only[List.mem_cons,List.not_mem_nil,or_false]at hi
  subst hi
  refine⟨_,rfl,?_⟩
  refine walkp ?_
  refine pAny_next (fuel:=1) [7] (by decide+kernel) (by simp) fun i hi=>?_
  simp only[List.mem_cons,List.not_mem_nil,or_false]at hi
  subst hi
  refine⟨_,rfl,?_⟩
  refine walkap fun t2=>?_
  refine pAny_next (fuel:=0) [8] (by decide+kernel) (by simp) fun i hi=>?_
  simp only[List.mem_cons,List.not_mem_nil,or_false]at hi
  subst hi
  refine⟨_,rfl,?_⟩
  refine walkp ?_
  refine pAny_end (by decide+kernel) ?_
  refine walka fun t3=>?_
  refine end1 (.ros ?_)
  rw[hput]
 ·refine⟨_,rfl,?_⟩
  refine walkp ?_
  refine pAny_next (fuel:=3) [4,6] (by decide+kernel) (by simp) fun i hi=>?_
  simp only[List.mem_cons,List.not_mem_nil,or_false]at hi
  rcases hi with rfl|rfl
  ·refine⟨_,rfl,?_⟩
   refine walkap fun t1=>?_
   refine pAny_next (fuel:=2) [6] (by decide+kernel) (by simp) fun i hi=>?_
   simp only[List.mem_cons,List.not_mem_nil,or_false]at hi
   subst hi
   refine⟨_,rfl,?_⟩
   refine walkp ?_
   refine pAny_next (fuel:=1) [7] (by decide+kernel) (by simp) fun i hi=>?_
   simp only[List.mem_cons,List.not_mem_nil,or_false]at hi
   subst hi
   refine⟨_,rfl,?_⟩
   refine walkap fun t2=>?_
   refine pAny_next (fuel:=0) [8] (by decide+kernel) (by simp) fun i hi=>?_
   simp only[List.mem_cons,List.not_mem_nil,or_false]at hi
   subst hi
   refine⟨_,rfl,?_⟩
   refine walkp ?_
   refine pAny_end (by decide+kernel) ?_
   refine walka fun t3=>?_
   refine end1 (.ros ?_)
   rw[hput]
  ·refine⟨_,rfl,?_⟩
   refine walkp ?_
   refine pAny_next (fuel:=2) [4] (by decide+kernel) (by simp) fun i hi=>?_
   simp only[List.mem_cons,List.not_mem_nil,or_false]at hi
   subst hi
   refine⟨_,rfl,?_⟩
   refine walkap fun t1=>?_
   refine pAny_next (fuel:=1) [7] (by decide+kernel) (by simp) fun i hi=>?_
   simp only[List.mem_cons,List.not_mem_nil,or_false]at hi
   subst hi
   refine⟨_,rfl,?_⟩
   refine walkap fun t2=>?_
   refine pAny_next (fuel:=0) [8] (by decide+kernel) (by simp) fun i hi=>?_
   simp only[List.mem_cons,List.not_mem_nil,or_false]at hi
   subst hi
   refine⟨_,rfl,?_⟩
   refine walkp ?_
   refine pAny_end (by decide+kernel) ?_
   refine walka fun t3=>?_
   refine end1 (.ros ?_)
   rw[hput]⟩
end Go.Proofs
namespace Go.Proofs
open Go Go.Q
attribute [local irreducible] pwp pops PCalls OpN
theorem endTCT {P:Program} {ρ:Env} {L LF:List Res} {X:PV} {t u s T n b T':Nat} {cs:List PV} {x z:PV} [hT:TAgg P T n] (h:ρ u= .raw (.pointer (some ⟨b,0,none⟩))) (hX:Le (.tuple [x,.agg cs,z]) X) (hx:ρ t=x:=by conv=>lhs;whnf) (hz:ρ s=z:=by conv=>lhs;whnf) (hm:Res.box b T' cs∈L:=by repeat(first|exact List.mem_cons_self|apply List.mem_cons_of_mem)) (hn:cs.length=n:=by simp) (hs:LF.Sublist L:=by repeat(first|exact List.Sublist.refl _|apply List.Sublist.cons)):
  Ret P [.tmp t,.cell u T,.tmp s] (fun r L'=>Le r X∧L'= []) LF .ret ρ L:=⟨trivial,_,[],.cons (.tmp t) (.cons (.cell u T h hm hT.out hn) (.cons (.tmp s) .nil)),hs,by subst hx;subst hz;exact hX,rfl⟩
def rAdd (s:List Sto) (p:Pat):List Sto × Dig × Int:=
 if(rId p).2≠0 then([],Dig.zero,(rId p).2)else
 if(getS s (rId p).1).isSome=true then(if p=(getS s (rId p).1).getD Pat.zero then([],Dig.zero,6)else([],Dig.zero,14))else
 if allIn (ids s) (rNeeds p)=false then([],Dig.zero,19)else if rRefsS s p (rId p).1≠0 then([],Dig.zero,rRefsS s p (rId p).1)else
 if 400≤(s.length:Int)then([],Dig.zero,4)else(putS s ⟨(rId p).1,p⟩,(rId p).1,0)
set_option maxHeartbeats 1000000 in
instance Add_ct (s:List Sto) (p:Pat) (t:Tag) [hg:Small (rGreat p=false)] [hs:Small (goodS s)]:FnC Tryz.prog 51 [.slice (s.map eSto) t,.agg (ePat p)] (.tuple [.slice ((rAdd s p).1.map eSto) .ro,.agg (eDig (rAdd s p).2.1),.raw (.int .i64 (rAdd s p).2.2)]):=⟨by
 have i1:Small (s.length≤1000):=⟨by have:=hs.out.1;omega⟩
 refine fn_of Tryz.func51 Tryz.ntmps51 rfl (rs:= [.tmp 4,.cell 5 37,.tmp 6]) rfl rfl fun hb LF=>?_
 refine walkb fun b3=>?_
 refine walkbp fun b5=>?_
 refine walkbp fun b7=>?_
 refine pwp_condN (fun h1=>?_) (fun h1=>?_)
 ·refine walk ?_
  refine endTCT rfl ?_
  rw[rAdd,if_pos h1]
  exact .tuple3 (.ro _ _) (.refl _) (.refl _)
 rw[rAdd,if_neg (by simp[h1])]
 refine walkb fun b9=>?_
 refine pwp_condB (fun h2=>?_) (fun h2=>?_)
 ·rw[if_pos h2]
  refine walk ?_
  refine pwp_condD (fun h3=>?_) (fun h3=>?_)
  ·refine walk ?_
   refine endTCT rfl ?_
   rw[if_pos h3]
   exact .tuple3 (.ro _ _) (.refl _) (.refl _)
  ·refine walk ?_
   refine endTCT rfl ?_
   rw[if_neg h3]
   exact .tuple3 (.ro _ _) (.refl _) (.refl _)
 rw[if_neg (by simp[h2])]
 refine walk ?_
 refine pwp_condB (fun h3=>?_) (fun h3=>?_)
 ·refine walk ?_
  refine endTCT rfl ?_
  rw[if_pos (ntrue h3)]
  exact .tuple3 (.ro _ _) (.refl _) (.refl _)
 rw[if_neg (nfalse h3)]
 refine walk ?_
 refine pwp_condN (fun h4=>?_) (fun h4=>?_)
 ·refine walk ?_
  refine endTCT rfl ?_
  rw[if_pos h4]
  exact .tuple3 (.ro _ _) (.refl _) (.refl _)
 rw[if_neg (fun h=>h h4)]
 refine walk ?_
 refine pwp_condD (fun h5=>?_) (fun h5=>?_)
 ·have:=hs.out.1;omega
 rw[if_neg h5]
 refine walkn ?_
 refine pwp_draw [false,false,false,false,false,false,false,true,false] ?_ ?_
 ·decide+kernel
 refine walkp ?_
 refine endTCT rfl ?_
 exact .refl _⟩
end Go.Proofs
namespace Go.Proofs
open Go Go.Q
theorem firstErr_eq_zero {α:Type} {f:α→Int} {l:List α} (h:firstErr f l=0): ∀ x∈l,f x=0:=by
 induction l with
 |nil=>intro x hx;cases hx
 |cons y l ih=>
  unfold firstErr at h
  split at h
  ·rename_i h0
   intro x hx
   rcases List.mem_cons.1 hx with rfl|hx
   ·exact h0
   ·exact ih h x hx
  ·rename_i h0;exact absurd h h0
structure Valid (s:List Sto):Prop where
 close:closeS s
 id: ∀ x∈s,(rId x.patch).2=0∧(rId x.patch).1=x.id
 asc:Asc (ids s)
 order:s.length≤(rOrder s).length
 refs: ∀ x∈s,rRefsS s x.patch x.id=0
theorem asc_of_steps: ∀ {l:List Dig},(∀ i (h:i+1 < l.length),Dig.lt l[i] l[i+1])→Asc l
 | [],_=> .nil
 | [x],_=>List.pairwise_singleton _ _
 |x::y::l,h=>by
  have ih:Asc (y::l):=asc_of_steps fun i hi=>by have:=h (i+1) (by simpa using hi);simpa using this
  have h0:=h 0 (by simp)
  simp only[List.getElem_cons_zero,List.getElem_cons_succ]at h0
  refine List.pairwise_cons.2 ⟨fun z hz=>?_,ih⟩
  rcases List.mem_cons.1 hz with rfl|hz
  ·exact h0
  ·exact Dig.lt_trans h0 ((List.pairwise_cons.1 ih).1 z hz)
theorem valid_of {s:List Sto} (h:rFine s=true):Valid s:=by
 unfold rFine at h
 simp only[Bool.and_eq_true,Bool.not_eq_true',decide_eq_true_eq]at h
 obtain⟨hg,hc⟩:=h
 have hgood:=goodS_of hg
 have hl:=hgood.1
 unfold rCheckS at hc
 rw[if_neg (by omega)]at hc
 split at hc
 ·rename_i h0;exact absurd hc h0
 rename_i h1
 have h1:firstErr (rChkE s) (List.range s.length)=0:=Classical.not_not.1 h1
 split at hc
 ·omega
 rename_i h2
 split at hc
 ·omega
 rename_i h3
 have hall: ∀ x∈s,allIn (ids s) (rNeeds x.patch)=true:=by
  have:s.all (fun x=>allIn (ids s) (rNeeds x.patch))=true:=by simpa using h2
  exact fun x hx=>List.all_eq_true.1 this x hx
 have hchk: ∀ i (hi:i < s.length),(rId s[i].patch).2=0∧(rId s[i].patch).1=s[i].id∧(∀ h:0 < i,cmpD (s[i - 1]'(by omega)).id s[i].id < 0):=by
  intro i hi
  have h4:=firstErr_eq_zero h1 i (List.mem_range.2 hi)
  have e0:s.getD i Sto.zero=s[i]:=by simp[List.getD,hi]
  unfold rChkE at h4
  rw[e0]at h4
  split at h4
  ·rename_i h5;exact absurd h4 h5
  rename_i h5
  split at h4
  ·omega
  rename_i h6
  split at h4
  ·omega
  rename_i h7
  have h6:(rId s[i].patch).1=s[i].id:=Classical.not_not.1 h6
  refine⟨Classical.not_not.1 h5,h6,fun hp=>?_⟩
  have e1:s.getD (i - 1) Sto.zero=s[i - 1]'(by omega):=by
   have h':i - 1 < s.length:=by omega
   simp[List.getD,h']
  rw[e1,h6]at h7
  have: ¬0≤cmpD (s[i - 1]'(by omega)).id s[i].id:=fun h8=>h7 ⟨by omega,h8⟩
  omega
 refine⟨⟨hgood,fun x hx d hd=>?_⟩,fun x hx=>?_,?_,by omega,fun x hx=>firstErr_eq_zero hc x hx⟩
 ·have:=List.all_eq_true.1 (hall x hx) d hd
  simpa using this
 ·obtain⟨i,hi,rfl⟩:=List.mem_iff_getElem.1 hx
  exact⟨(hchk i hi).1,(hchk i hi).2.1⟩
 ·refine asc_of_steps fun i hi=>?_
  rw[ids_len]at hi
  have:=(hchk (i+1) hi).2.2 (by omega)
  simpa [ids,Dig.lt]using this
def Ordered (s:List Sto) (out:List Dig):Prop:= ∀ k (h:k < out.length),∃ x∈s,x.id=out[k]∧(∀ d∈rNeeds x.patch,d∈out.take k)∧out[k]∉out.take k
theorem pick_ready {s:List Sto} {out:List Dig}: ∀ (n:Nat),n≤s.length→0≤(List.range n).foldl (rBetter s out) (-1)→
  ∃ x∈s,s.getD ((List.range n).foldl (rBetter s out) (-1)).toNat Sto.zero=x∧ ¬x.id∈out∧allIn out (rNeeds x.patch)=true
 |0,_,h=>by simp at h
 |n+1,hn,h=>by
  rw[foldl_range_succ]at h ⊢
  generalize hk:(List.range n).foldl (rBetter s out) (-1)=k at h ⊢
  unfold rBetter at h ⊢
  split at h
  ·rename_i hc
   rw[if_pos hc]
   have e:s.getD n Sto.zero=s[n]:=by simp[List.getD,show n < s.length by omega]
   rw[e]at hc
   exact⟨s[n],List.getElem_mem _,by simpa using e,hc.1⟩
  ·rename_i hc
   rw[if_neg hc]
   have:=pick_ready (s:=s) (out:=out) n (by omega) (by rw[hk];exact h)
   rw[hk]at this;exact this
theorem rOrd_ordered {s:List Sto}: ∀ (n:Nat) (out:List Dig),Ordered s out→Ordered s (rOrd s n out)
 |0,_,h=>h
 |n+1,out,h=>by
  unfold rOrd
  split
  ·exact h
  ·rename_i hp
   refine rOrd_ordered n _ ?_
   obtain⟨x,hx,e,h1,h2⟩:=pick_ready (s:=s) (out:=out) s.length (Nat.le_refl _) (by unfold rPick at hp;omega)
   have e':s.getD (rPick s out).toNat Sto.zero=x:=e
   rw[e']
   intro k hk
   rw[List.length_append,List.length_singleton]at hk
   by_cases hko:k < out.length
   ·obtain⟨y,hy,q1,q2,q3⟩:=h k hko
    refine⟨y,hy,by rw[List.getElem_append_left hko];exact q1,?_,?_⟩
    ·rw[List.take_append_of_le_length (by omega)];exact q2
    ·rw[List.getElem_append_left hko,List.take_append_of_le_length (by omega)];exact q3
   ·have hke:k=out.length:=by omega
    subst hke
    refine⟨x,hx,by simp,?_,?_⟩
    ·intro d hd
     have:=List.all_eq_true.1 h2 d hd
     simpa using this
    ·simpa using h1
theorem Ordered.nodup {s:List Sto} {out:List Dig} (h:Ordered s out):out.Nodup:=by
 refine List.pairwise_iff_getElem.2 fun i j hi hj hij e=>?_
 obtain⟨_,_,_,_,h3⟩:=h j hj
 exact h3 (e ▸ List.mem_take_iff_getElem.2 ⟨i,by omega,rfl⟩)
theorem ids_nodup {s:List Sto} (h:Asc (ids s)):(ids s).Nodup:=h.nodup
theorem sto_unique {s:List Sto} (h:Asc (ids s)) {x y:Sto} (hx:x∈s) (hy:y∈s) (e:x.id=y.id):x=y:=by
 obtain⟨i,hi,rfl⟩:=List.mem_iff_getElem.1 hx
 obtain⟨j,hj,rfl⟩:=List.mem_iff_getElem.1 hy
 have hn:=ids_nodup h
 have hi':i < (ids s).length:=by rw[ids_len];exact hi
 have hj':j < (ids s).length:=by rw[ids_len];exact hj
 have:(ids s)[i]=(ids s)[j]:=by simpa [ids]using e
 have hp:=List.pairwise_iff_getElem.1 hn
 rcases Nat.lt_trichotomy i j with hij|hij|hij
 ·exact absurd this (hp i j hi' hj' hij)
 ·subst hij;rfl
 ·exact absurd this.symm (hp j i hj' hi' hij)
theorem Ordered.sub {s:List Sto} {out:List Dig} (h:Ordered s out): ∀ d∈out,d∈ids s:=fun d hd=>by
 obtain⟨k,hk,rfl⟩:=List.mem_iff_getElem.1 hd
 obtain⟨x,hx,e,_⟩:=h k hk
 exact List.mem_map.2 ⟨x,hx,e⟩
theorem rOrder_ordered (s:List Sto):Ordered s (rOrder s):=rOrd_ordered _ _ (fun k hk=>absurd hk (Nat.not_lt_zero _))
theorem Valid.mem_order {s:List Sto} (v:Valid s) {d:Dig} (hd:d∈ids s):d∈rOrder s:=by
 by_cases h:d∈rOrder s
 ·exact h
 ·have hn:(d::rOrder s).Nodup:=List.nodup_cons.2 ⟨h,(rOrder_ordered s).nodup⟩
  have:=nodup_len hn (m:=ids s) fun y hy=>by
   rcases List.mem_cons.1 hy with rfl|hy
   ·exact hd
   ·exact(rOrder_ordered s).sub y hy
  have h2:=v.order
  rw[ids_len]at this
  simp only[List.length_cons]at this
  omega
theorem idxOf_le_of {l:List Dig} {i:Nat} (h:i < l.length):l.idxOf l[i]≤i:=by
 induction l generalizing i with
 |nil=>simp at h
 |cons x l ih=>
  cases i with
  |zero=>simp
  |succ i=>
   simp only[List.getElem_cons_succ,List.idxOf_cons]
   have:=ih (by simpa using h)
   cases hb:(x==l[i]'(by simpa using h))with
   |true=>simp
   |false=>simp;omega
def rankS (s:List Sto) (d:Dig):Nat:=(rOrder s).idxOf d
theorem Valid.rank {s:List Sto} (v:Valid s) {x:Sto} (hx:x∈s) {d:Dig} (hd:d∈rNeeds x.patch):rankS s d < rankS s x.id:=by
 have hm:=v.mem_order (List.mem_map.2 ⟨x,hx,rfl⟩)
 have hk:(rOrder s).idxOf x.id < (rOrder s).length:=List.idxOf_lt_length_of_mem hm
 obtain⟨y,hy,e,h1,_⟩:=rOrder_ordered s _ hk
 rw[List.getElem_idxOf]at e
 have:=sto_unique v.asc hy hx e
 subst this
 obtain⟨i,hi,rfl⟩:=List.mem_take_iff_getElem.1 (h1 d hd)
 have h2:=idxOf_le_of (l:=rOrder s) (i:=i) (by omega)
 unfold rankS
 omega
theorem Valid.getS {s:List Sto} (v:Valid s) {x:Sto} (hx:x∈s):getS s x.id=some x.patch:=by
 cases hg:Go.Proofs.getS s x.id with
 |none=>
  exfalso
  have: ∀ (l:List Sto),x∈l→Go.Proofs.getS l x.id≠none:=by
   intro l
   induction l with
   |nil=>intro h;cases h
   |cons y l ih=>
    intro h
    unfold Go.Proofs.getS
    split
    ·simp
    ·rename_i hne
     rcases List.mem_cons.1 h with rfl|h
     ·exact absurd rfl hne
     ·exact ih h
  exact this s hx hg
 |some p=>
  obtain⟨y,hy,e,rfl⟩:=getS_mem hg
  rw[sto_unique v.asc hy hx e]
theorem Valid.ndS {s:List Sto} (v:Valid s) {x:Sto} (hx:x∈s):ndS s x.id=rNeeds x.patch:=by
 unfold Go.Proofs.ndS;rw[v.getS hx];rfl
theorem Valid.mem_clo {s:List Sto} (v:Valid s) {p:Dig} (hp:p∈ids s) (d:Dig):d∈cloS s p↔Q.Reach (Go.Proofs.ndS s) [p] d:=by
 have ha:allIn (ids s) [p]=true:=by simp[allIn,hp]
 unfold cloS rClosure
 rw[if_neg (by simp[ha])]
 exact mem_iterC (U:=ids s) (fun x _ d hd=>v.close.nd x d hd) (fun d hd=>by rw[List.mem_singleton.1 hd];exact hp) (Nat.le_of_eq (ids_len s))
end Go.Proofs
namespace Go.Proofs
open Go Go.Q
attribute [local irreducible] pwp pops PCalls OpN PYield
theorem rMade_ids (c:Chg) (first:Int): ∀ j (h:j < (rMade c first).length),((rMade c first)[j]).id=⟨Dig.zero,first+j⟩:=by
 intro j h
 have key:(∃ x:Atm,rMade c first= [x]∧x.id=⟨Dig.zero,first⟩)∨rMade c first=(List.range c.lines.length).map (rLineA c first)++(List.range (c.lines.length+1)).map (rEdgeA c first):=by
  unfold rMade
  repeat' split
  all_goals first|exact .inl ⟨_,rfl,rfl⟩|exact .inr rfl
 rcases key with ⟨x,e,hx⟩|e
 ·have hj:j=0:=by rw[e]at h;simpa using h
  subst hj
  simp only[e,List.getElem_cons_zero,hx]
  simp
 ·have h2:=h
  simp only[e]at h2 ⊢
  rw[List.getElem_append]
  split
  ·simp[rLineA]
  ·rename_i h3
   simp only[List.length_map,List.length_range]at h3
   simp only[List.getElem_map,List.getElem_range,rEdgeA,List.length_map,List.length_range]
   congr 1
   omega
theorem idsOk_made {own:List Atm} (c:Chg) (h:idsOk own):idsOk (own++rMade c own.length):=by
 intro i hi
 rw[List.getElem_append]
 split
 ·exact h i _
 ·rename_i h3
  rw[rMade_ids]
  congr 1
  omega
theorem rFields_kind {c:Chg} (h:rFields c=0):1≤c.kind∧c.kind≤7:=by
 unfold rFields at h
 split at h
 ·omega
 ·omega
theorem rDeps_nz {l:List Dig} (h:rDeps l=0): ∀ d∈l,d≠Dig.zero:=by
 intro d hd e
 unfold rDeps at h
 split at h
 ·omega
 obtain⟨i,hi,rfl⟩:=List.mem_iff_getElem.1 hd
 have h0:=firstErr_eq_zero h i (by simpa using hi)
 rw[rDepE,if_pos (by simp[List.getD,hi,e])]at h0
 omega
def rEx (p:Pat):List Atm × Str × Int:=if(rCheckP p).2≠0 then([],[],(rCheckP p).2)else if 65536 < ((rEnc p).length:Int)then([],[],4)else((rCheckP p).1,rEnc p,0)
theorem rCheckP_ok {p:Pat} (h:rHead p=0):rCheckP p=rChanges p.changes []:=by rw[checkP_head,if_neg (by simp[h])]
theorem rHead_deps {p:Pat} (h:rHead p=0):rDeps p.deps=0:=by
 unfold rHead at h
 split at h
 ·omega
 split at h
 ·omega
 split at h
 ·omega
 split at h
 ·rename_i h4;exact absurd h h4
 ·rename_i h4;simpa using h4
def box6 (b:Nat) (s:Tag × List Atm) (LF:List Res):List Res:= .box b 167 [.slice (s.2.map eAtm) s.1]:: .tok s.1 s.2.length 172::LF
set_option maxHeartbeats 2000000 in
instance examine_ct (p:Pat) [hs:Small (rGreat p=false)]:FnC Tryz.prog 131 [.agg (ePat p)] (.tuple [.slice ((rEx p).1.map eAtm) .ro,.str (rEx p).2.1,.raw (.int .i64 (rEx p).2.2)]):=⟨by
 obtain⟨hg1,hg2,hg3,hg4,hg5⟩:=great_facts hs.out
 refine fn_of Tryz.func131 Tryz.ntmps131 rfl (rs:= [.tmp 2,.tmp 3,.tmp 4]) rfl rfl fun hb LF=>?_
 refine wf ?_
 refine pwp_condN (fun h1=>?_) (fun h1=>?_)
 ·refine wf ?_
  refine end3 ?_
  have e:rCheckP p=([],rHead p):=by rw[checkP_head,if_pos h1]
  have e2:rEx p=([],[],rHead p):=by rw[rEx,e,if_pos h1]
  rw[e2]
  exact .tuple3 (.ros rfl) (.refl _) (.refl _)
 have hH:=rCheckP_ok h1
 refine wfb fun b6=>?_
 refine pwp_tok 172 ?_
 refine pwp_perm (.swap _ _ _) ?_
 refine pwp_loopS (σ:=Nat × Tag × List Atm) (fun k=>k.1≤p.changes.length∧k.2.2.length≤k.1*4001∧idsOk k.2.2∧(∀ c∈p.changes.take k.1,1≤c.kind∧c.kind≤7)∧rCheckP p=rChanges (p.changes.drop k.1) k.2.2) (fun k=>p.changes.length - k.1) (fun k=> [(1,.pt (ePat p) 0),(6,.raw (.pointer (some ⟨b6,0,none⟩))),(20,.slice (p.changes.map eChg) .ro),(21,.raw (.int .i64 p.changes.length)),(22,.raw (.int .i64 k.1))]) (fun k=>box6 b6 k.2 LF) (0,.nil,[]) ⟨by simp,by simp,fun i h=>absurd h (by simp),by simp,hH⟩ ⟨rfl,rfl,rfl,rfl,rfl⟩ (.refl _) ?_
 rintro⟨k,v,own⟩ ⟨hk,hlen,hid,hkd,he⟩
 dsimp only at hk hlen hid hkd he
 rw[show box6 b6 (k,v,own).2 LF= .box b6 167 [.slice (own.map eAtm) v]:: .tok v own.length 172::LF from rfl]
 refine wf ?_
 refine pwp_condD (fun hc=>?_) (fun hc=>?_)
 ·have hlt:k < p.changes.length:=by omega
  rw[rChanges_step hlt]at he
  refine wz fun b8=>?_
  refine pwp_freezeD 8 ?_
  refine wf ?_
  refine pwp_condN (fun h2=>?_) (fun h2=>?_)
  ·refine wf ?_
   rw[if_pos h2]at he
   have e2:rEx p=([],[],rFields p.changes[k]):=by rw[rEx,he,if_pos h2]
   refine end3 ?_
   rw[e2]
   exact .tuple3 (.ros rfl) (.refl _) (.refl _)
  rw[if_neg (by simp[h2])]at he
  have hll:p.changes[k].lines.length≤2000:=rFields_lines h2
  have hkk:1≤p.changes[k].kind∧p.changes[k].kind≤7:=rFields_kind h2
  have hmm:=rMade_len p.changes[k] own.length
  have i1:Small (rFields p.changes[k]=0∧own.length≤100000∧idsOk own):=⟨h2,by omega,hid⟩
  refine wf ?_
  refine pwp_condN (fun h3=>?_) (fun h3=>?_)
  ·refine wf ?_
   rw[if_pos h3]at he
   have e2:rEx p=([],[],rRefs p.changes[k] own):=by rw[rEx,he,if_pos h3]
   refine end3 ?_
   rw[e2]
   exact .tuple3 (.ros rfl) (.refl _) (.refl _)
  rw[if_neg (by simp[h3])]at he
  refine wf ?_
  refine pwp_rangeFunc (made_iter p.changes[k] own.length hkk ⟨hll,by omega,by omega⟩) [41] (σ:=Tag × List Atm) (fun pre s=>s.2=own++pre) (fun _ _=>False) (fun s LF'=>box6 b6 s LF') (v,own) LF ?_ rfl (fun _=>rfl) (by simp) (fun _ _=>rfl) (.refl _) (by simp) ?_ ?_ (fun _ _ h=>h.elim)
  ·exact .refl _
  ·rintro pre x ⟨v1,own1⟩ LF' hpre hI
   dsimp only at hI
   have hpl:=hpre.length_le
   have hol:own1.length≤90000:=by
    rw[hI,List.length_append]
    rw[List.length_append,List.length_singleton]at hpl
    omega
   rw[show box6 b6 (v1,own1) LF'= .box b6 167 [.slice (own1.map eAtm) v1]:: .tok v1 own1.length 172::LF' from rfl]
   refine wz fun b11=>?_
   refine pwp_freezeD 11 ?_
   refine wfa fun v2=>?_
   exact⟨(v2,own1++ [x]),by dsimp only;rw[hI,List.append_assoc],.refl _⟩
  ·rintro⟨v1,own1⟩ hI
   dsimp only at hI
   refine wf ?_
   refine⟨(k+1,v1,own1),⟨by dsimp only;omega,?_,?_,?_,?_⟩,by dsimp only;omega,⟨rfl,rfl,rfl,rfl,rfl⟩,.refl _⟩
   ·dsimp only
    rw[hI,List.length_append];omega
   ·dsimp only
    rw[hI];exact idsOk_made _ hid
   ·dsimp only
    intro c hcm
    rw[List.take_succ_eq_append_getElem hlt]at hcm
    rcases List.mem_append.1 hcm with h|h
    ·exact hkd c h
    ·rw[List.mem_singleton.1 h];exact hkk
   ·dsimp only
    rw[hI];exact he
 have hkk:k=p.changes.length:=by omega
 rw[List.drop_eq_nil_of_le (by omega)]at he
 rw[List.take_of_length_le (by omega)]at hkd
 have he':rCheckP p=(own,0):=he
 have i1:Small (encOkP p):=⟨⟨encOk_of hs.out,rDeps_nz (rHead_deps h1),hkd⟩⟩
 refine wf ?_
 have h0: ¬(rCheckP p).2≠0:=by rw[he'];simp
 refine pwp_condD (fun h=>?_) (fun h=>?_)
 ·refine wf ?_
  have e2:rEx p=([],[],4):=by rw[rEx,if_neg h0,if_pos h]
  refine end3 ?_
  rw[e2]
  exact .tuple3 (.ros rfl) (.refl _) (.refl _)
 ·refine wf ?_
  have e2:rEx p=(own,rEnc p,0):=by rw[rEx,if_neg h0,if_neg h,he']
  refine end3 ?_
  rw[e2]
  exact .tuple3 (.ros rfl) (.refl _) (.refl _)⟩
end Go.Proofs
namespace Go.Proofs
open Go Go.Q
attribute [local irreducible] pwp pops PCalls OpN
theorem rEx_err (p:Pat):(rEx p).2.2=(rEncodeP p).2:=by
 unfold rEx rEncodeP rEncode
 split
 ·rfl
 ·split<;>rfl
theorem rEx_str (p:Pat):(rEx p).2.1=(rEncodeP p).1:=by
 unfold rEx rEncodeP rEncode
 split
 ·rfl
 ·split<;>rfl
instance CheckPP_ct (p:Pat) [hs:Small (rGreat p=false)]:FnC Tryz.prog 107 [.agg (ePat p)] (.raw (.int .i64 (rEncodeP p).2)):=⟨by
 refine fn_of Tryz.func107 Tryz.ntmps107 rfl (rs:= [.tmp 2]) rfl rfl fun hb LF=>?_
 refine wf ?_
 refine end1 (.of_eq ?_)
 rw[←rEx_err]⟩
instance EncodePP_ct (p:Pat) [hs:Small (rGreat p=false)]:FnC Tryz.prog 105 [.agg (ePat p)] (.tuple [.str (rEncodeP p).1,.raw (.int .i64 (rEncodeP p).2)]):=⟨by
 refine fn_of Tryz.func105 Tryz.ntmps105 rfl (rs:= [.tmp 2,.tmp 3]) rfl rfl fun hb LF=>?_
 refine wf ?_
 refine end2 ?_
 rw[←rEx_err,←rEx_str]
 exact .refl _⟩
end Go.Proofs
namespace Go.Q
open Go
class TRw (P:Program) (T:Nat) (E sz:outParam Nat) (by_:outParam Nat):Prop where
 out: ∃ i z,P.underlying T=some (.slice E)∧P.info? E=some i∧i.size=sz∧i.bytes=by_∧i.zero=some z∧z.cells.size=sz∧sz≠0∧sz≤by_
inductive RowG (E sz:Nat):Value→Nat→List Value→List Res→Prop
 |nil (o:Option Addr) (ho: ∀ a,o=some a→a.spot=none):RowG E sz (.slice o 0 0) 0 [] []
 |row {r n cap:Nat} {cur:Array Value} {us:List Value} (hl:n≤cap) (hs:cur.size=cap*sz) (hu:us.length=n*sz) (hc:cur.toList.take (n*sz)=us):RowG E sz (.slice (some ⟨r,0,none⟩) n cap) n us [.raw r (.cells cur E (0,0))]
theorem RowG.len {E sz n:Nat} {v:Value} {us:List Value} {R:List Res} (h:RowG E sz v n us R):us.length=n*sz:=by
 cases h with
 |nil o ho=>simp
 |row hl hs hu hc=>exact hu
theorem RowG.one {E sz n:Nat} {v:Value} {us:List Value} {R:List Res} (h:RowG E sz v n us R):v.oneCell'=true:=by cases h<;>rfl
theorem RowG.slice {E sz n:Nat} {v:Value} {us:List Value} {R:List Res} (h:RowG E sz v n us R): ∃ o c,v= .slice o n c:=by cases h<;>exact⟨_,_,rfl⟩
theorem app_coreH {P:Program} {T T₂ E sz by_ ty:Nat} [hT:TRw P T E sz by_] (hu:P.underlying T₂=some .string∨ ∃ e,P.underlying T₂=some (.slice e)) {w:World} {g:Gh} {LF R:List Res} {v:Value} {n m:Nat} {us:List Value} (u:Value) (vs:List Value)
  (hi:Inv w g (R++LF)) (hv:RowG E sz v n us R) (hl: ∀ w',(Builtin.lenOf u).run P w'= .ok m w') (hvl:vs.length=m*sz) (hone: ∀ x∈vs,x.oneCell'=true)
  (hf: ∀ w',w'.heap=w.heap→(Builtin.firstCells sz m u).run P w'= .ok vs.toArray w') (hb:(n+m)*by_≤140737488355328) (hm:n+m≤140737488355328):
  ∃ v' w' R',(Builtin.append_ #[T,T₂] ty #[v,u]).run P w= .ok v' w'∧RowG E sz v' (n+m) (us++vs) R'∧Inv w' g (R'++LF)∧Step (blocks (R++LF)) w g w' g∧Within w (R++LF) (R'++LF):=by
 obtain⟨i,z,t1,t2,t3,t4,t5,t6,t7,t8⟩:=hT.out
 have hul:=hv.len
 have grown: ∀ cap nc (base:Option Addr),¬(n+m≤cap)→v= .slice base n cap→(∀ w',w'.heap=w.heap→(Builtin.firstCells sz n (.slice base n cap)).run P w'= .ok us.toArray w')→nc=grownCap w (n+m) cap E→
   (Builtin.append_ #[T,T₂] ty #[v,u]).run P w= .ok (.slice (some ⟨w.heap.size,0,none⟩) (n+m) nc) (w.drew.alloc (.cells ((us++vs).toArray++Builtin.zeroCells z.cells (nc - (n+m))) E (0,0))):=by
  rintro cap nc base hn rfl hfl rfl
  have hgrow:cap < n+m:=by omega
  have h63': ¬(9223372036854775807 < ((n:Int)+(m:Int))):=by omega
  have h48': ¬(281474976710656 < Builtin.nextslicecap (n+m) cap*i.bytes):=by
   rw[t4]
   have:Builtin.nextslicecap (n+m) cap*by_≤2*140737488355328:=by
    calc Builtin.nextslicecap (n+m) cap*by_≤(2*(n+m))*by_:=Nat.mul_le_mul_right _ (nextslicecap_le hgrow)
     _=2*((n+m)*by_):=by rw[Nat.mul_assoc]
     _≤2*140737488355328:=Nat.mul_le_mul_left _ hb
   omega
  have f1:=hfl w.drew rfl
  have f2:=hf w.drew rfl
  rcases hu with hu|⟨e,hu⟩<;>
  ·simp[Builtin.append_,run_underlying t1,run_underlying hu,sizeOf,typeInfo,zeroValue,t2,t3,t5,hl,hn,h63',h48',Question.forced,f1,f2,newRow,grownCap]
   congr 2
   apply Array.ext'
   simp[List.append_assoc]
 have res: ∀ nc,n+m≤nc→ ∃ R',RowG E sz (.slice (some ⟨w.heap.size,0,none⟩) (n+m) nc) (n+m) (us++vs) R'∧Inv (w.drew.alloc (.cells ((us++vs).toArray++Builtin.zeroCells z.cells (nc - (n+m))) E (0,0))) g (R'++LF)∧
   Step (blocks (R++LF)) w g (w.drew.alloc (.cells ((us++vs).toArray++Builtin.zeroCells z.cells (nc - (n+m))) E (0,0))) g∧Within w (R++LF) (R'++LF):=fun nc hnc=>by
  obtain⟨k1,k2,k3⟩:=grown_row hi (.cells ((us++vs).toArray++Builtin.zeroCells z.cells (nc - (n+m))) E (0,0))
  have hlen:(us++vs).length=(n+m)*sz:=by rw[List.length_append,hul,hvl,Nat.add_mul]
  refine⟨[.raw w.heap.size (.cells ((us++vs).toArray++Builtin.zeroCells z.cells (nc - (n+m))) E (0,0))],.row hnc ?_ hlen ?_,k1,k2,k3⟩
  ·rw[Array.size_append,size_zeroCells,t6,List.size_toArray,hlen,←Nat.add_mul]
   congr 1;omega
  ·simp only[Array.toList_append]
   exact List.take_left' hlen
 cases hv with
 |nil o ho=>
  by_cases hs:m=0
  ·subst hs
   have hv0:vs= []:=List.eq_nil_of_length_eq_zero (by simpa using hvl)
   subst hv0
   refine⟨.slice o 0 0,w,[],?_,.nil o ho,hi,.refl _ _ _,.refl _ _⟩
   have f2:=hf w rfl
   rcases hu with hu|⟨e,hu⟩<;>(simp[Builtin.append_,run_underlying t1,run_underlying hu,sizeOf,typeInfo,t2,t3,hl,f2];cases o<;>simp[storeCells])
  ·have hr:=grown 0 _ o (by omega) rfl (fun w' _=>by
    cases o with
    |none=>rfl
    |some a=>show(loadCells a (0*sz)).run P w'=_;rw[Nat.zero_mul];rfl) rfl
   obtain⟨R',k1,k2,k3,k4⟩:=res _ (grownCap_ge w (0+m) 0 E)
   exact⟨_,_,R',hr,k1,k2,k3,k4⟩
 |row hlc hs hu' hc=>
  rename_i r cap cur
  obtain⟨h1,h2,h3,hn,hiL⟩:=hi.rawHead
  by_cases hroom:n+m≤cap
  ·have hbk':w.heap[r]? =some (.cells cur.toList.toArray E (0,0)):=by simpa using h1
   have hfit:n*sz+m*sz≤cap*sz:=by rw[←Nat.add_mul];exact Nat.mul_le_mul_right _ hroom
   obtain⟨w',hrun,hb',hos,htp,hout,hsz',hkk⟩:=storeCells_run (P:=P) vs w cur.toList (n*sz) 0 hbk' (by simp only[Array.length_toList,hs,hvl,Nat.add_zero];exact hfit) hone
   refine⟨.slice (some ⟨r,0,none⟩) (n+m) cap,w',[.raw r (.cells (cur.toList.take (n*sz+0)++vs++cur.toList.drop (n*sz+0+vs.length)).toArray E (0,0))],?_,.row hroom ?_ ?_ ?_,hi.turnRaw hb' hkk,⟨hos,htp,hout,Nat.le_of_eq hsz'.symm,fun k _ hk=>hkk k (fun e=>hk (by simp[blocks,Res.block,e])),.refl g,fun _ _ _=>⟨fun _=>rfl,rfl⟩⟩,fun b hb _=>by simpa [blocks,Res.block]using hb⟩
   ·have f2:=hf w rfl
    rcases hu with hu|⟨e,hu⟩<;>simp[Builtin.append_,run_underlying t1,run_underlying hu,sizeOf,typeInfo,t2,t3,hl,hroom,f2,add_plain,hrun]
   ·have h9:n*sz≤cap*sz:=Nat.mul_le_mul_right _ hlc
    simp only[List.size_toArray,List.length_append,List.length_take,List.length_drop,Array.length_toList,hs,hvl,Nat.add_zero,Nat.min_eq_left h9];omega
   ·rw[List.length_append,hul,hvl,Nat.add_mul]
   ·rw[Nat.add_zero,hc]
    exact List.take_left' (by rw[List.length_append,hul,hvl,Nat.add_mul])
  ·have hr:=grown cap _ (some ⟨r,0,none⟩) hroom rfl (fun w' hw'=>by
    show(loadCells _ (n*sz)).run P w'=_
    rw[←hul]
    refine loadCells_run fun j hj=>?_
    have hj3:j < n*sz:=by omega
    have hj2:j < cur.toList.length:=by
     rw[Array.length_toList,hs]
     exact Nat.lt_of_lt_of_le hj3 (Nat.mul_le_mul_right _ hlc)
    simp only[World.cell?,hw',h1,Option.isSome_none,Bool.false_eq_true,if_false,Nat.zero_add]
    have:us[j]=cur.toList[j]:=by
     have:=List.getElem_of_eq hc.symm hj
     rw[this,List.getElem_take]
    rw[this]
    simp[Array.getElem?_eq_getElem (show j < cur.size by simpa using hj2)]) rfl
   obtain⟨R',k1,k2,k3,k4⟩:=res _ (grownCap_ge w (n+m) cap E)
   exact⟨_,_,R',hr,k1,k2,k3,k4⟩
theorem app_coreG {P:Program} {T T₂ E sz by_ ty:Nat} [hT:TRw P T E sz by_] (hu:P.underlying T₂=some .string∨ ∃ e,P.underlying T₂=some (.slice e)) {w:World} {g:Gh} {LF R:List Res} {v:Value} {n m:Nat} {us:List Value} (u:Value) (vs:List Value)
  (hi:Inv w g (R++LF)) (hv:RowG E sz v n us R) (hl: ∀ w',(Builtin.lenOf u).run P w'= .ok m w') (hvl:vs.length=m*sz) (hone: ∀ x∈vs,x.oneCell'=true)
  (hf: ∀ w',(∀ b o x,g.H b o=some x→w'.cell? ⟨b,o,none⟩=some x)→(Builtin.firstCells sz m u).run P w'= .ok vs.toArray w') (hb:(n+m)*by_≤140737488355328) (hm:n+m≤140737488355328):
  ∃ v' w' R',(Builtin.append_ #[T,T₂] ty #[v,u]).run P w= .ok v' w'∧RowG E sz v' (n+m) (us++vs) R'∧Inv w' g (R'++LF)∧Step (blocks (R++LF)) w g w' g∧Within w (R++LF) (R'++LF):=
 app_coreH hu u vs hi hv hl hvl hone (fun w' e=>hf w' fun b o x h=>by
  have:=hi.sat b o x h
  simp only[World.cell?,e]at this ⊢
  exact this) hb hm
theorem raws_inv {g:Gh}: ∀ {us vs:List Value},VRl g us (vs.map PV.raw)→us=vs
 | [],[],_=>rfl
 | [],_::_,h=>by have:=h.len;simp at this
 |_::_,[],h=>by have:=h.len;simp at this
 |u::us,v::vs,h=>by
  have h':=VRl.uncons (xs:=vs.map PV.raw) h
  rw[h'.1.raw_inv,raws_inv h'.2]
class RawE {α:Type} (f:α→List PV) (vf:outParam (α→List Value)):Prop where
 out: ∀ a,f a=(vf a).map PV.raw
 one: ∀ a,∀ x∈vf a,x.oneCell'=true
theorem flat_raws {α:Type} {f:α→List PV} {vf:α→List Value} [h:RawE f vf] (l:List α):(l.map f).flatten=(l.flatMap vf).map PV.raw:=by
 induction l with
 |nil=>rfl
 |cons x l ih=>rw[List.map_cons,List.flatten_cons,ih,h.out,List.flatMap_cons,List.map_append]
theorem len_raws {α:Type} {f:α→List PV} {vf:α→List Value} {sz:Nat} [h:RawE f vf] [hf:Len f sz] (l:List α):(l.flatMap vf).length=l.length*sz:=by
 have:=flatten_len (xs:=l.map f) (sz:=sz) (fun e he=>by obtain⟨a,_,rfl⟩:=List.mem_map.1 he;exact hf.out a)
 rw[flat_raws l]at this
 simpa using this
def RowL {α:Type} (vf:α→List Value) (E sz:Nat) (v:Value) (l:List α) (R:List Res):Prop:=RowG E sz v l.length (l.flatMap vf) R
section
variable {P:Program} {N:Nat} {all:Array Oper} {K:Env→List Res→Prop} {fl:List Bool} {os:List Oper} {ρ:Env} {L:List Res} {d:Nat} {ty:TypeId} {pos:String} {af:Array Edge}
theorem s_appRow {T T₂ E E₂ sz by_:Nat} {α:Type} {f:α→List PV} {vf:α→List Value} [hT:TRw P T E sz by_] [h2:TSl P T₂ E₂] [hf:Len f sz] [hr:RawE f vf] {x y:Operand} {v:Value} {l m:List α} {t:Tag} {R LF:List Res} (F:List Res→List Res)
  (hx:ρ.ev x= .raw v) (hy:ρ.ev y= .slice (m.map f) t) (hv:RowL vf E sz v l R) (hp:L.Perm (R++LF)) (hq: ∀ R',(R'++LF).Perm (F R')) (hb:(l.length+m.length)*by_≤140737488355328) (hm:l.length+m.length≤140737488355328)
  (k: ∀ v' R',RowL vf E sz v' (l++m) R'→pops P N all K fl.tail os (upd ρ d (.raw v')) (F R')) (hd:Nat.blt d N=true:=by rfl) (hfl:fl.headD true=true:=by rfl):
  pops P N all K fl (⟨some d,.call { callee:= .builtin .append,args:= #[x,y],argTypes:= #[T,T₂] },ty,pos,af,none⟩::os) ρ L:=
 pops_n rfl (dlt hd) hfl (OpN.perm hp fun a w g ha hi=>by
  have h1:=evRaw ha (x:=x) (by simp[Op.operands,Call.operands]) hx
  have h3:=ha y (by simp[Op.operands,Call.operands])
  rw[hy]at h3
  obtain⟨base,cap,e,_,_,hnone,_,_,us,hus,hcell⟩:=h3.slice_cells (sz:=sz) (fun e he=>by obtain⟨a,_,rfl⟩:=List.mem_map.1 he;exact hf.out a)
  rw[flat_raws m]at hus
  have hus':=raws_inv hus
  subst hus'
  rw[List.length_map]at e
  have hvl:(m.flatMap vf).length=m.length*sz:=len_raws (f:=f) m
  obtain⟨v',w',R',q1,q2,q3,q4,q5⟩:=app_coreG (P:=P) (T:=T) (T₂:=T₂) (ty:=ty) (.inr ⟨_,h2.out⟩) (.slice base m.length cap) (m.flatMap vf) hi hv (fun _=>rfl) hvl (fun x hx=>by obtain⟨a,_,ha⟩:=List.mem_flatMap.1 hx;exact hr.one a x ha) (fun w' hs'=>by
   cases base with
   |none=>
    have h0:=(hnone rfl).1
    have:m= []:=by simpa using h0
    subst this;rfl
   |some ad=>
    obtain⟨b,o,sp⟩:=ad
    obtain⟨hs,hH⟩:=hcell _ rfl
    show(loadCells _ (m.length*sz)).run P w'=_
    rw[←hvl]
    exact loadCells_of (hs.imp_left fun h=>by
     have:m= []:=by simpa using h.1
     subst this;rfl) fun j hj=>hs' _ _ _ (hH j hj)) hb hm
  have he:execOp a.eval ⟨some d,.call { callee:= .builtin .append,args:= #[x,y],argTypes:= #[T,T₂] },ty,pos,af,none⟩=(do pure (.value (←Builtin.append_ #[T,T₂] ty (#[x,y].map a.eval)))):=rfl
  have hrun:(execOp a.eval ⟨some d,.call { callee:= .builtin .append,args:= #[x,y],argTypes:= #[T,T₂] },ty,pos,af,none⟩).run P w= .ok (.value v') w':=by
   rw[he];simp[h1,e,q1]
  refine Oper.wq_of_run hrun ?_
  exact⟨v',.raw v',g,F R',rfl,.raw _,q3.perm (hq R'),q4,fun b hb hlt=>q5 b ((blocks_perm (hq R')).symm.subset hb) hlt,k v' R' (by unfold RowL;rw[List.length_append,List.flatMap_append];exact q2)⟩)
theorem s_eqNil {T T' E:Nat} [hT:TSl P T E] {x:Operand} {xs:List (List PV)} {t:Tag} (hx:ρ.ev x= .slice xs t) (k: ∀ b:Bool,(b=true→xs= [])→pops P N all K fl.tail os (upd ρ d (.raw (.bool b))) L) (hd:Nat.blt d N=true:=by rfl) (hfl:fl.headD true=true:=by rfl):
  pops P N all K fl (⟨some d,.binOp .eql T x (.const (.slice none 0 0)) T',ty,pos,af,none⟩::os) ρ L:=
 pops_n rfl (dlt hd) hfl (fun a w g ha hi=>by
  have h1:=ha x (by simp[Op.operands])
  rw[hx]at h1
  have hs: ∃ o n c,a.eval x= .slice o n c∧(o=none→xs= []):=by
   generalize a.eval x=v at h1
   cases h1 with
   |nilN o ho=>exact⟨_,_,_,rfl,fun _=>rfl⟩
   |nilR=>exact⟨_,_,_,rfl,fun _=>rfl⟩
   |slice sz f hl hc hm hs hH hv ht hn=>exact⟨_,_,_,rfl,fun e=>by cases e⟩
  obtain⟨o,n,c,e,ho⟩:=hs
  have hrun:(execOp a.eval ⟨some d,.binOp .eql T x (.const (.slice none 0 0)) T',ty,pos,af,none⟩).run P w= .ok (.value (.bool o.isNone)) w:=by
   have h: ∀ d:Nat,(Op.equalIn (d+1) T (.slice o n c) (.slice none 0 0)).run P w= .ok o.isNone w:=fun d=>by
    cases o<;>simp[Op.equalIn,run_underlying hT.out]
   have hc:a.eval (.const (.slice none 0 0))= .slice none 0 0:=rfl
   simp only[execOp,e,hc]
   simp[eqGuard,binOp,Op.equal,Op.maxDepth,h 9999]
  refine Oper.wq_of_run hrun ?_
  exact⟨_,.raw (.bool o.isNone),g,L,rfl,.raw _,hi,.refl _ _ _,.refl _ _,k _ (fun h=>ho (by simpa using h))⟩)
theorem s_bsRow {α:Type} {vf:α→List Value} {T E sz by_:Nat} [hE:TRw P T E sz by_] (k: ∀ v,RowL vf E sz v [] []→pops P N all K fl.tail os (upd ρ d (.raw v)) L) (hd:Nat.blt d N=true:=by rfl) (hfl:fl.headD true=true:=by rfl):pops P N all K fl (⟨some d,.buildSlice T 0 #[],ty,pos,af,none⟩::os) ρ L:=
 pops_n rfl (dlt hd) hfl (by
  intro a w g ha hi
  obtain⟨i,z,t1,t2,t3,t4,t5,t6,t7,t8⟩:=hE.out
  obtain⟨j1,j2,j3⟩:=hi.lay [] E
  have hr:(execOp a.eval ⟨some d,.buildSlice T 0 #[],ty,pos,af,none⟩).run P w= .ok (.value (.slice (some ⟨w.heap.size,0,none⟩) 0 0)) { w with heap:=w.heap.push (.cells [].toArray E (0,0)) }:=by
   show(do pure (Next.value (←Instr.buildSlice T 0 ((#[]:Array (Nat × Operand)).map fun(p:Nat × Operand)=>(p.1,a.eval p.2)))):Sem Next).run P w=_
   have hzv:(zeroValue E).run P w= .ok z w:=by simp[zeroValue,typeInfo,t2,t5]
   simp only[Instr.buildSlice,Sem.run_bind,run_underlying t1,Result.andThen_ok,sizeOf,typeInfo,run_program,t2,Sem.run_pure,t3]
   rw[if_neg (by simp)]
   split
   ·simp[Instr.fill,newRow];congr 2;apply Array.eq_empty_of_size_eq_zero;simp
   ·simp[hzv,Instr.fill,newRow];congr 2;apply Array.eq_empty_of_size_eq_zero;simp
  refine Oper.wq_of_run hr ?_
  exact⟨_,.raw _,_,L,rfl,.raw _,j1,j2,.refl _ _,k _ (.nil _ (fun a e=>by cases e;rfl))⟩)
end
end Go.Q
namespace Go.Proofs
open Go Go.Q
attribute [local irreducible] pwp pops PCalls OpN
def vDig (d:Dig):List Value:=bcs d.bs
instance :RawE eDig vDig:=⟨fun d=>by simp[eDig,vDig,bcs,eU8];intro a _;rfl,fun d x hx=>by
 obtain⟨b,_,rfl⟩:=List.mem_map.1 hx;rfl⟩
instance :TRw Tryz.prog 25 37 32 32:=⟨by
 have h2:(Tryz.prog.info? 37).map (fun i=>(i.size,i.bytes,i.zero.isSome,(i.zero.getD undef).cells.size))=some (32,32,true,32):=by kernel_rfl
 obtain⟨i,hi,e⟩:=Option.map_eq_some_iff.1 h2
 simp only[Prod.mk.injEq]at e
 obtain⟨e1,e2,e3,e4⟩:=e
 obtain⟨z,hz⟩:=Option.isSome_iff_exists.1 e3
 rw[hz]at e4
 exact⟨i,z,by kernel_rfl,hi,e1,e2,hz,e4,by decide,by decide⟩⟩
abbrev DRow (v:Value) (l:List Dig) (R:List Res):Prop:=RowL vDig 37 32 v l R
theorem cloneD_fn (l:List Dig) (t:Tag) (hl:l.length≤1000000):PCalls Tryz.prog 75 [.slice (l.map eDig) t] [] (fun r L'=> ∃ v,r= .raw v∧DRow v l L'):=by
 refine pcalls_bd Tryz.func75 rfl Tryz.ntmps75 (rs:= [.tmp 2]) rfl rfl fun hb LF=>?_
 rw[List.nil_append]
 refine wf ?_
 refine s_eqNil rfl fun b hnil=>?_
 refine wf ?_
 refine pwp_condB (fun h=>?_) (fun h=>?_)
 ·have h0:l= []:=by simpa using hnil h
  subst h0
  refine pwp_seq ?_
  refine pwp_region (by kernel_rfl) ?_
  refine s_assign ?_
  refine pops_nil ?_
  refine wf ?_
  exact⟨trivial,_,[],.cons (.tmp 2) .nil,.refl _,_,rfl,.nil none (by simp)⟩
 refine pwp_skip ?_
 refine pwp_seq ?_
 refine pwp_region (by kernel_rfl) ?_
 refine s_bsRow (vf:=vDig) fun v0 hv0=>?_
 refine wf ?_
 refine s_appRow (f:=eDig) (R:= []) (LF:=LF) (fun R'=>R'++LF) rfl rfl hv0 (.refl _) (fun R'=> .refl _) (by simp only[List.length_nil];omega) (by simp only[List.length_nil];omega) fun v R' hv=>?_
 refine wf ?_
 refine wf ?_
 rw[List.nil_append]at hv
 exact⟨trivial,_,R',.cons (.tmp 2) .nil,.refl _,v,rfl,hv⟩
end Go.Proofs
namespace Go.Q
open Go
section
variable {α:Type} {vf:α→List Value} {sz:Nat} (hl: ∀ a,(vf a).length=sz)
include hl
theorem row_at: ∀ (l:List α) (k:Nat) (h:k < l.length) (rest:List Value),((l.flatMap vf++rest).drop (k*sz)).take sz=vf l[k]
 |x::l,0,h,rest=>by
  rw[Nat.zero_mul,List.drop_zero,List.flatMap_cons,List.append_assoc]
  exact List.take_left' (hl x)
 |x::l,k+1,h,rest=>by
  rw[List.flatMap_cons,List.append_assoc,show(k+1)*sz=(vf x).length+k*sz by rw[hl,Nat.add_mul];omega,List.drop_append]
  simp only[List.getElem_cons_succ]
  rw[List.drop_eq_nil_of_le (by omega),List.nil_append,show(vf x).length+k*sz - (vf x).length=k*sz by omega]
  exact row_at l k (by simpa using h) rest
theorem flat_set: ∀ (l:List α) (k:Nat) (_:k < l.length) (d:α) (rest:List Value),(l.flatMap vf++rest).take (k*sz)++vf d++(l.flatMap vf++rest).drop (k*sz+sz)=(l.set k d).flatMap vf++rest
 |x::l,0,h,d,rest=>by
  rw[Nat.zero_mul,List.take_zero,List.nil_append,Nat.zero_add,List.flatMap_cons,List.append_assoc,List.drop_left' (hl x),List.set_cons_zero,List.flatMap_cons,List.append_assoc]
 |x::l,k+1,h,d,rest=>by
  have ih:=flat_set l k (by simpa using h) d rest
  have e:(k+1)*sz=(vf x).length+k*sz:=by rw[hl,Nat.add_mul];omega
  rw[e,Nat.add_assoc,List.flatMap_cons,List.append_assoc (vf x),List.take_length_add_append,List.drop_length_add_append,List.set_cons_succ,List.flatMap_cons,List.append_assoc (vf x),List.append_assoc (vf x),ih,List.append_assoc]
end
theorem RowL.inv {α:Type} {vf:α→List Value} {sz E n c:Nat} {o:Option Addr} {R:List Res} {l:List α} (hv:RowL vf E sz (.slice o n c) l R) (h:l≠ []):
  n=l.length∧ ∃ r cur rest,o=some ⟨r,0,none⟩∧R= [.raw r (.cells cur E (0,0))]∧cur.toList=l.flatMap vf++rest∧cur.size=c*sz∧l.length≤c:=by
 unfold RowL at hv
 generalize hn:l.length=m at hv
 generalize hus:l.flatMap vf=us at hv
 cases hv with
 |nil o ho=>exact absurd (List.eq_nil_of_length_eq_zero hn) h
 |row hl hs hu hc=>
  rename_i r cur
  refine⟨rfl,r,cur,cur.toList.drop (n*sz),rfl,rfl,?_,hs,by omega⟩
  rw[←hc,List.take_append_drop]
theorem RowL.mk {α:Type} {vf:α→List Value} {sz E c r:Nat} {cur:Array Value} {l:List α} {rest:List Value} (hl: ∀ a,(vf a).length=sz) (h1:cur.toList=l.flatMap vf++rest) (h2:cur.size=c*sz) (h3:l.length≤c):RowL vf E sz (.slice (some ⟨r,0,none⟩) l.length c) l [.raw r (.cells cur E (0,0))]:=by
 have h4:(l.flatMap vf).length=l.length*sz:=by
  clear h1 h3
  induction l with
  |nil=>simp
  |cons x l ih=>rw[List.flatMap_cons,List.length_append,hl,ih,List.length_cons,Nat.add_mul];omega
 exact .row h3 h2 h4 (by rw[h1];exact List.take_left' h4)
theorem RowL.freeze {α:Type} {f:α→List PV} {vf:α→List Value} {sz E:Nat} [hr:RawE f vf] [hf:Len f sz] {w:World} {g:Gh} {R L':List Res} {v:Value} {l:List α} (hi:Inv w g (R++L')) (hv:RowL vf E sz v l R) (hm:l.length≤maxN∧l.length*sz≤maxN):
  ∃ g',Inv w g' L'∧Step (blocks (R++L')) w g w g'∧Within w (R++L') L'∧VR g' v (.slice (l.map f) .ro):=by
 have hlen:(l.flatMap vf).length=l.length*sz:=len_raws (f:=f) l
 unfold RowL at hv
 generalize hus:l.flatMap vf=us at hv
 generalize hn:l.length=n at hv
 cases hv with
 |nil o ho=>
  have h0:l= []:=List.eq_nil_of_length_eq_zero hn
  subst h0
  exact⟨g,hi,.refl _ _ _,.refl _ _,(VR.nilN o ho).ro⟩
 |row hl hs hu hc=>
  rename_i r cap cur
  obtain⟨k1,k2,k3,k4,k5⟩:=hi.rawHead
  have hle:=Gh.le_lay (g:=g) (b:=r) (from_:=0) (us:=us) (fun o _=>k2 o)
  have hcs:us.length≤cur.size:=by rw[hu,hs];exact Nat.mul_le_mul_right _ hl
  have hcell: ∀ j (hj:j < us.length),w.cell? ⟨r,j,none⟩=some us[j]:=fun j hj=>by
   have hj2:j < cur.size:=by omega
   simp only[World.cell?,k1,Option.isSome_none,Bool.false_eq_true,if_false]
   rw[Array.getElem?_eq_getElem hj2]
   have:=List.getElem_of_eq hc (i:=j) (by rw[hc];exact hj)
   rw[←this,List.getElem_take]
   simp
  refine⟨g.lay r 0 us,⟨fun b' o v hv=>?_,fun b' z hz=>hi.satM b' z hz,fun r' hr'=>?_,k5.nodup,hi.glob.mono hle⟩,⟨rfl,rfl,⟨rfl,Nat.le_refl _⟩,Nat.le_refl _,fun _ _ _=>rfl,hle,fun k _ hn=>⟨fun o=>Gh.lay_out (fun h=>hn (by rw[h.1];simp[blocks,Res.block])),rfl⟩⟩,fun b hb _=>by simp only[blocks,List.cons_append,List.nil_append,List.filterMap_cons,Res.block];exact List.mem_cons_of_mem _ hb,?_⟩
  ·by_cases hin:b'=r∧0≤o∧o < 0+us.length
   ·obtain⟨rfl,_,h6⟩:=hin
    have hj:o < us.length:=by omega
    have:=Gh.lay_in (g:=g) (b:=b') (from_:=0) hj
    rw[Nat.zero_add,hv]at this
    cases this
    exact hcell o hj
   ·rw[Gh.lay_out hin]at hv;exact hi.sat b' o v hv
  ·exact Res.holds_kept hle (k5.res r' hr') fun b' hb'=>⟨rfl,fun o=>Gh.lay_out (fun h=>k4 (List.mem_filterMap.2 ⟨r',hr',by rw[hb',h.1]⟩)),rfl⟩
  ·subst hn
   have huv:VRl (g.lay r 0 us) us (l.map f).flatten:=by
    rw[flat_raws l,hus]
    exact⟨by simp,fun i h1 h2=>by simp;exact .raw _⟩
   have:=VR.of_cells (g:=g.lay r 0 us) (xs:=l.map f) (t:= .ro) (sz:=sz) (b:=r) (off:=0) (cap:=cap) (fun e he=>by obtain⟨a,_,rfl⟩:=List.mem_map.1 he;exact hf.out a) (by simpa using hl) (by simpa using hm) (us:=us) huv (fun j hj=>by
    have:=Gh.lay_in (g:=g) (b:=r) (from_:=0) hj
    rw[Nat.zero_add]at this ⊢
    exact this) (fun b' cap' e=>by cases e) (by simp)
   simpa using this
section
variable {P:Program} {N:Nat} {all:Array Oper} {K:Env→List Res→Prop} {fl:List Bool} {os:List Oper} {ρ:Env} {L:List Res} {d:Nat} {ty:TypeId} {pos:String} {af:Array Edge}
theorem s_ixRow {T:TypeId} {E sz by_:Nat} [hT:TSl P T E] [hE:TSz P E sz by_] {x y:Operand} {r off n c k:Nat} {kk:IntKind} (hx:ρ.ev x= .raw (.slice (some ⟨r,off,none⟩) n c)) (hy:ρ.ev y= .raw (.int kk (k:Int))) (hk:k < n)
  (kk':pops P N all K fl.tail os (upd ρ d (.raw (.pointer (some ⟨r,off+k*sz,none⟩)))) L) (hd:Nat.blt d N=true:=by rfl):
  pops P N all K fl (⟨some d,.indexAddr T x y,ty,pos,af,none⟩::os) ρ L:=
 step_q hd (qop_of_run fun a w g ha hi=>by
  have h1:=evRaw ha (x:=x) (by simp[Op.operands]) hx
  have h2:=evRaw ha (x:=y) (by simp[Op.operands]) hy
  refine⟨.pointer (some ⟨r,off+k*sz,none⟩),?_,.raw _⟩
  simp only[execOp,Instr.indexAt,h2,h1,asIntOf,Sem.run_bind,Sem.run_pure,Result.andThen_ok,run_und hT.out]
  simp only[Bool.and_false,Bool.false_eq_true,if_false]
  rw[if_pos ⟨by omega,by omega⟩]
  simp[TSz.run hE,add_plain]) kk'
theorem s_ldRow {α:Type} {f:α→List PV} {vf:α→List Value} {T sz:Nat} [hT:TAgg P T sz] [hr:RawE f vf] {x:Operand} {r off E:Nat} {p:Nat × Nat} {cur:Array Value} {a0:α} (hx:ρ.ev x= .raw (.pointer (some ⟨r,off,none⟩))) (hm:Res.raw r (.cells cur E p)∈L) (hv:(cur.toList.drop off).take sz=vf a0) (hle:off+sz≤cur.size)
  (k:pops P N all K fl.tail os (upd ρ d (.agg (f a0))) L) (hd:Nat.blt d N=true:=by rfl):pops P N all K fl (⟨some d,.load T x,ty,pos,af,none⟩::os) ρ L:=
 step_q hd (qop_of_run fun a w g ha hi=>by
  have h1:=evRaw ha (x:=x) (by simp[Op.operands]) hx
  obtain⟨hb,_,_⟩:=hi.res _ hm
  have hlen:(vf a0).length=sz:=by rw[←hv];simp;omega
  refine⟨.agg (vf a0).toArray,?_,?_⟩
  ·have:=loadVar_agg hT.out (w:=w) (b:=r) (o:=off) (vs:=vf a0) hlen (fun j hj=>by
    have hj2:off+j < cur.size:=by omega
    simp only[World.cell?,hb,Option.isSome_none,Bool.false_eq_true,if_false]
    rw[Array.getElem?_eq_getElem hj2]
    have:=List.getElem_of_eq hv (i:=j) (by rw[hv];exact hj)
    rw[←this]
    simp)
   simp only[execOp,Instr.loadAt,h1,Instr.sureAddr,Sem.run_bind,Sem.run_pure,Result.andThen_ok,this]
  ·rw[hr.out]
   have:VRl g (vf a0) ((vf a0).map PV.raw):=⟨by simp,fun i h1 h2=>by simp;exact .raw _⟩
   exact this.agg) k
theorem s_stRow {α:Type} {f:α→List PV} {vf:α→List Value} {T sz by_:Nat} [hT:TSz P T sz by_] [hr:RawE f vf] {x y:Operand} {r off E:Nat} {cur:Array Value} {a0:α} {L':List Res} (F:Res→List Res) (hx:ρ.ev x= .raw (.pointer (some ⟨r,off,none⟩))) (hy:ρ.ev y= .agg (f a0)) (hlen:(vf a0).length=sz) (hle:off+sz≤cur.size)
  (hp:L.Perm (.raw r (.cells cur E (0,0))::L')) (hq: ∀ c,(c::L').Perm (F c))
  (k:pops P N all K fl.tail os ρ (F (.raw r (.cells (cur.toList.take off++vf a0++cur.toList.drop (off+sz)).toArray E (0,0))))) (hfl:fl.headD true=true:=by rfl):pops P N all K fl (⟨none,.store T x y,ty,pos,af,none⟩::os) ρ L:=
 pops_n rfl (fun _ e=>by cases e) hfl (OpN.perm hp fun a w g ha hi=>by
  have h1:=evRaw ha (x:=x) (by simp[Op.operands]) hx
  have h2:=ha y (by simp[Op.operands])
  rw[hy]at h2
  obtain⟨us,e,hus⟩:=h2.agg_inv
  rw[hr.out]at hus
  have hus':=raws_inv hus
  subst hus'
  obtain⟨k1,k2,k3,k4,k5⟩:=hi.rawHead
  obtain⟨w',hrun,hb',hos,htp,hout,hsz,hk⟩:=storeCells_run (P:=P) (vf a0) w cur.toList off 0 (by simpa using k1) (by simpa [hlen]using hle) (hr.one a0)
  have hrn:(execOp a.eval ⟨none,.store T x y,ty,pos,af,none⟩).run P w= .ok .skip w':=by
   simp only[execOp,Instr.storeAt,h1,Instr.sureAddr,Sem.run_bind,Sem.run_pure,Result.andThen_ok,storeVar,TSz.run hT,e,Value.cells,List.size_toArray]
   rw[if_neg (by rw[hlen];simp)]
   simp[hrun]
  rw[Nat.add_zero,hlen]at hb'
  refine Oper.wq_of_run hrn ?_
  exact⟨undef,.raw undef,g,_,rfl,.raw _,(hi.turnRaw hb' hk).perm (hq _),⟨hos,htp,hout,Nat.le_of_eq hsz.symm,fun b _ hn=>hk b (fun e=>hn (by simp[blocks,Res.block,e])),.refl g,fun _ _ _=>⟨fun _=>rfl,rfl⟩⟩,
   fun b hb _=>by
    have:=(blocks_perm (hq _)).symm.subset hb
    simpa [blocks,Res.block]using this,k⟩)
theorem pwp_freezeRow {α:Type} {f:α→List PV} {vf:α→List Value} {sz E:Nat} [hr:RawE f vf] [hf:Len f sz] {R L':List Res} {v:Value} {l:List α} {c:Code} {Q:PPost} (i:Nat) (hv:RowL vf E sz v l R) (hm:l.length≤maxN∧l.length*sz≤maxN) (hp:L.Perm (R++L')) (hi:ρ i= .raw v) (k:pwp P N c Q (upd ρ i (.slice (l.map f) .ro)) L'):pwp P N c Q ρ L:=
 pwp_ghost (fun base a w g ha hI=>by
  obtain⟨g',h1,h2,h3,h4⟩:=RowL.freeze (f:=f) (hI.perm hp) hv hm
  refine⟨g',⟨ha.size,ha.defers.mono h2.le,fun j=>?_⟩,h1,h2.grow (fun b hb=>(blocks_perm hp).symm.subset hb),fun b hb hlt=>(blocks_perm hp).symm.subset (h3 b hb hlt)⟩
  have hj:=(ha.slot j).mono h2.le
  by_cases e:j=i
  ·subst e
   rw[hi]at hj
   show VR g' _ (upd ρ j _ j)
   rw[upd_self,hj.raw_inv];exact h4
  ·show VR g' _ (upd ρ i _ j)
   rw[upd_ne _ _ e];exact hj) k
theorem s_cutRow {T E sz by_:Nat} [hT:TSl P T E] [hE:TSz P E sz by_] {x:Operand} {lo hi:Option Operand} {r off n c:Nat} (i j:Nat) (hx:ρ.ev x= .raw (.slice (some ⟨r,off,none⟩) n c)) (hij:i≤j) (hj:j≤n) (hc:i < c) (hnc:n≤c)
  (hlo: ∀ o,lo=some o→ ∃ k,ρ.ev o= .raw (.int k i)) (hlo':lo=none→i=0) (hhi: ∀ o,hi=some o→ ∃ k,ρ.ev o= .raw (.int k j)) (hhi':hi=none→j=n)
  (k:pops P N all K fl.tail os (upd ρ d (.raw (.slice (some ⟨r,off+i*sz,none⟩) (j - i) (c - i)))) L) (hd:Nat.blt d N=true:=by rfl):
  pops P N all K fl (⟨some d,.slice T x lo hi none,ty,pos,af,none⟩::os) ρ L:=
 step_q hd (qop_of_run fun a w g ha hI=>by
  have e1:=evRaw ha (x:=x) (by simp[Op.operands]) hx
  have hbl: ∀ o,lo=some o→ ∃ k,a.eval o= .int k i:=fun o e=>by
   obtain⟨k,hk⟩:=hlo o e
   exact⟨k,evRaw ha (by simp[Op.operands,e]) hk⟩
  have hbh: ∀ o,hi=some o→ ∃ k,a.eval o= .int k j:=fun o e=>by
   obtain⟨k,hk⟩:=hhi o e
   exact⟨k,evRaw ha (by simp[Op.operands,e]) hk⟩
  have hbounds:(Instr.sliceBounds true n c (lo.map a.eval) (hi.map a.eval) none).run P w= .ok (i,j,c) w:=by
   unfold Instr.sliceBounds
   cases lo with
   |none=>
    have:=hlo' rfl;subst this
    cases hi with
    |none=>have:=hhi' rfl;subst this;simp
    |some o=>
     obtain⟨k,hk⟩:=hbh o rfl
     simp[hk,Instr.sliceBound,asIntOf]
     omega
   |some o=>
    obtain⟨k,hk⟩:=hbl o rfl
    cases hi with
    |none=>
     have:=hhi' rfl;subst this
     simp[hk,Instr.sliceBound,asIntOf]
     omega
    |some o'=>
     obtain⟨k',hk'⟩:=hbh o' rfl
     simp[hk,hk',Instr.sliceBound,asIntOf]
     rw[if_pos (by omega)]
     simp
     omega
  refine⟨.slice (some ⟨r,off+i*sz,none⟩) (j - i) (c - i),?_,.raw _⟩
  show(do pure (Next.value (←Instr.sliceAt T (a.eval x) (lo.map a.eval) (hi.map a.eval) none)):Sem Next).run P w=_
  simp only[Instr.sliceAt,Sem.run_bind,run_underlying hT.out,Result.andThen_ok,Instr.slice,e1,hbounds,TSz.run hE,Sem.run_pure]
  rw[if_neg (by omega)]
  simp[add_plain]) k
theorem s_clearRow {T E sz by_:Nat} [hT:TRw P T E sz by_] (hz: ∀ i z,P.info? E=some i→i.zero=some z→ ∀ x∈z.cells,x.oneCell'=true) {x:Operand} {r off n c:Nat} {cur:Array Value} {L':List Res} (F:Res→List Res) (hx:ρ.ev x= .raw (.slice (some ⟨r,off,none⟩) n c)) (hn:0 < n) (hle:off+n*sz≤cur.size)
  (hp:L.Perm (.raw r (.cells cur E (0,0))::L')) (hq: ∀ c,(c::L').Perm (F c))
  (k: ∀ zs:List Value,zs.length=n*sz→pops P N all K fl.tail os ρ (F (.raw r (.cells (cur.toList.take off++zs++cur.toList.drop (off+n*sz)).toArray E (0,0))))) (hfl:fl.headD true=true:=by rfl):
  pops P N all K fl (⟨none,.call { callee:= .builtin .clear,args:= #[x],argTypes:= #[T] },ty,pos,af,none⟩::os) ρ L:=
 pops_n rfl (fun _ e=>by cases e) hfl (OpN.perm hp fun a w g ha hi=>by
  have h1:=evRaw ha (x:=x) (by simp[Op.operands,Call.operands]) hx
  obtain⟨i,z,t1,t2,t3,t4,t5,t6,t7,t8⟩:=hT.out
  obtain⟨k1,k2,k3,k4,k5⟩:=hi.rawHead
  have hzl:(Builtin.zeroCells z.cells n).toList.length=n*sz:=by rw[Array.length_toList,size_zeroCells,t6]
  have hz1: ∀ x∈(Builtin.zeroCells z.cells n).toList,x.oneCell'=true:=fun x hx=>by
   simp only[Builtin.zeroCells,Array.toList_map,List.mem_map]at hx
   obtain⟨j,_,rfl⟩:=hx
   have hj:j % z.cells.size < z.cells.size:=Nat.mod_lt _ (by rw[t6];omega)
   rw[getElem!_pos z.cells _ hj]
   exact hz i z t2 t5 _ (Array.getElem_mem hj)
  obtain⟨w',hrun,hb',hos,htp,hout,hsz,hk⟩:=storeCells_run (P:=P) (Builtin.zeroCells z.cells n).toList w cur.toList off 0 (by simpa using k1) (by rw[hzl];simpa using hle) hz1
  have he:execOp a.eval ⟨none,.call { callee:= .builtin .clear,args:= #[x],argTypes:= #[T] },ty,pos,af,none⟩=(do pure (.value (←Builtin.clear_ #[T] ty (#[x].map a.eval)))):=rfl
  have hr:(execOp a.eval ⟨none,.call { callee:= .builtin .clear,args:= #[x],argTypes:= #[T] },ty,pos,af,none⟩).run P w= .ok (.value (.tuple #[])) w':=by
   rw[he]
   obtain⟨m,rfl⟩: ∃ m,n=m+1:=⟨n - 1,by omega⟩
   simp[Builtin.clear_,h1,run_underlying t1,zeroValue,typeInfo,t2,t5,hrun]
  rw[Nat.add_zero,hzl]at hb'
  refine Oper.wq_of_run hr ?_
  exact⟨_,.raw _,g,_,rfl,.raw _,(hi.turnRaw hb' hk).perm (hq _),⟨hos,htp,hout,Nat.le_of_eq hsz.symm,fun b _ hn=>hk b (fun e=>hn (by simp[blocks,Res.block,e])),.refl g,fun _ _ _=>⟨fun _=>rfl,rfl⟩⟩,
   fun b hb _=>by
    have:=(blocks_perm (hq _)).symm.subset hb
    simpa [blocks,Res.block]using this,k _ hzl⟩)
end
end Go.Q
namespace Go.Proofs
open Go Go.Q
attribute [local irreducible] pwp pops PCalls OpN
def dStep (acc:List Dig) (x:Dig):List Dig:=if acc.getLast? =some x then acc else acc++ [x]
def ded (l:List Dig):List Dig:=l.foldl dStep []
theorem ded_snoc (l:List Dig) (x:Dig):ded (l++ [x])=if(ded l).getLast? =some x then ded l else ded l++ [x]:=by rw[ded,List.foldl_append];rfl
theorem ded_last (l:List Dig):(ded l).getLast? =l.getLast?:=by
 rcases List.eq_nil_or_concat l with rfl|⟨m,x,rfl⟩
 ·rfl
 ·rw[List.concat_eq_append,ded_snoc]
  split
  ·rename_i h;rw[h];simp
  ·simp
theorem ded_take {l:List Dig} {j:Nat} (h0:0 < j) (h:j < l.length):ded (l.take (j+1))=if l[j]=l[j - 1]then ded (l.take j)else ded (l.take j)++ [l[j]]:=by
 rw[List.take_succ_eq_append_getElem h,ded_snoc,ded_last]
 have:(l.take j).getLast? =some l[j - 1]:=by
  rw[List.getLast?_eq_getElem?,List.length_take,Nat.min_eq_left (by omega),List.getElem?_take,if_pos (by omega)]
  simp
 rw[this]
 by_cases e:l[j]=l[j - 1]
 ·rw[if_pos (by rw[e]),if_pos e]
 ·rw[if_neg (fun h=>e (by injection h with h;exact h.symm)),if_neg e]
theorem vDig_len (d:Dig):(vDig d).length=32:=by
 have:(eDig d).length=32:=by simp
 rw[(inferInstance:RawE eDig vDig).out]at this
 simpa using this
theorem zero37: ∀ i z,Tryz.prog.info? 37=some i→i.zero=some z→ ∀ x∈z.cells,x.oneCell'=true:=by
 have h:(Tryz.prog.info? 37).map (fun i=>(i.zero.getD undef).cells.all (·.oneCell'))=some true:=by kernel_rfl
 intro i z hi hz x hx
 rw[hi]at h
 simp only[Option.map_some,hz,Option.getD_some,Option.some.injEq,Array.all_eq_true_iff_forall_mem]at h
 exact h x hx
theorem take_rows (l:List Dig) (k:Nat) (h:k≤l.length) (rest:List Value):(l.flatMap vDig++rest).take (k*32)=(l.take k).flatMap vDig:=by
 have e:(l.flatMap vDig++rest)=(l.take k).flatMap vDig++((l.drop k).flatMap vDig++rest):=by
  rw[←List.append_assoc,←List.flatMap_append,List.take_append_drop]
 rw[e]
 refine List.take_left' ?_
 rw[len_raws (f:=eDig) (sz:=32),List.length_take,Nat.min_eq_left h]
set_option maxHeartbeats 2000000 in
theorem compact_fn (l:List Dig) (v:Value) (R:List Res) (hv:DRow v l R) (hl:l.length≤1000000):PCalls Tryz.prog 111 [.raw v] R (fun r L'=>r= .slice ((ded l).map eDig) .ro∧L'= []):=by
 refine pcalls_bd Tryz.func111 rfl Tryz.ntmps111 (rs:= [.tmp 2]) rfl rfl fun hb LF=>?_
 have hmx: ∀ m:List Dig,m.length≤l.length→m.length≤maxN∧m.length*32≤maxN:=fun m h=>by
  have:maxN=140737488355328:=rfl
  omega
 obtain⟨o,c,rfl⟩:=hv.slice
 refine wf ?_
 refine s_lenR rfl ?_
 refine wf ?_
 refine pwp_condD (fun h1=>?_) (fun h1=>?_)
 ·refine pwp_seq ?_
  refine pwp_region (by kernel_rfl) ?_
  refine s_moveN (by(conv=>lhs;whnf);done) ?_
  refine s_assign ?_
  refine pops_nil ?_
  have e:ded l=l:=by
   match l,h1 with
   | [],_=>rfl
   | [x],_=>rfl
   |_::_::_,h=>simp at h;omega
  refine pwp_freezeRow (f:=eDig) 2 hv (hmx l (Nat.le_refl _)) (.refl _) rfl ?_
  refine wf ?_
  exact⟨trivial,_,[],.cons (.tmp 2) .nil,.refl _,by rw[e];exact⟨rfl,rfl⟩⟩
 have hne:l≠ []:=fun e=>by subst e;exact h1 (by simp)
 obtain⟨_,r,cur,rest,rfl,rfl,hcur,hsz,hlc⟩:=hv.inv hne
 refine wf ?_
 refine pwp_loopS (σ:=Nat) (fun k=>1≤k∧k≤l.length∧ded (l.take k)=l.take k) (fun k=>l.length - k) (fun k=> [(0,.raw (.slice (some ⟨r,0,none⟩) l.length c)),(3,.raw (.int .i64 (k:Int)))]) (fun _=> [.raw r (.cells cur 37 (0,0))]++LF) 1 ⟨by omega,by omega,?_⟩ ⟨rfl,rfl⟩ (.refl _) ?_
 ·match l,h1 with
  | [],_=>rfl
  |x::_,_=>rfl
 rintro k ⟨hk1,hk,he⟩
 refine wf ?_
 refine s_lenR rfl ?_
 refine wf ?_
 refine pwp_condD (fun hc=>?_) (fun hc=>?_)
 ·have hlt:k < l.length:=by omega
  refine wn ?_
  refine pwp_drawN 10 ?_ ?_
  ·decide+kernel
  refine wf ?_
  refine s_ixRow (k:=k) rfl rfl hlt ?_
  refine s_ldRow (f:=eDig) (a0:=l[k]) rfl List.mem_cons_self (by rw[hcur,Nat.zero_add];exact row_at vDig_len l k hlt rest) (by omega) ?_
  refine wf ?_
  refine s_ixRow (k:=k - 1) rfl (by show PV.raw (Value.int .i64 ((k:Int) - 1))=PV.raw (Value.int .i64 ((k - 1:Nat):Int));congr 2;omega) (by omega) ?_
  refine s_ldRow (f:=eDig) (a0:=l[k - 1]) rfl List.mem_cons_self (by rw[hcur,Nat.zero_add];exact row_at vDig_len l (k - 1) (by omega) rest) (by omega) ?_
  refine wf ?_
  have hd:=ded_take (l:=l) (j:=k) (by omega) hlt
  refine pwp_condD (fun h2=>?_) (fun h2=>?_)
  ·rw[if_pos h2]at hd
   refine pwp_seq ?_
   refine pwp_region (by kernel_rfl) ?_
   refine s_moveN (by(conv=>lhs;whnf);done) ?_
   refine s_moveN (by(conv=>lhs;whnf);done) ?_
   refine s_cutRow k l.length rfl (by omega) (Nat.le_refl _) (by omega) hlc (fun o e=>by cases e;exact⟨_,rfl⟩) (by simp) (by simp) (fun _=>rfl) ?_
   refine wf ?_
   refine pwp_loopS (σ:=Nat × Nat × List Dig × Array Value) (fun j=>1≤j.1∧k+j.1≤l.length∧1≤j.2.1∧j.2.1+1≤k+j.1∧j.2.2.1.length=l.length∧j.2.2.1.take j.2.1=ded (l.take (k+j.1))∧(∀ i,k+j.1≤i+1→j.2.2.1[i]? =l[i]?)∧j.2.2.2.toList=j.2.2.1.flatMap vDig++rest∧j.2.2.2.size=c*32) (fun j=>l.length - k - j.1) (fun j=> [(0,.raw (.slice (some ⟨r,0,none⟩) l.length c)),(3,.raw (.int .i64 (j.2.1:Int))),(4,.raw (.slice (some ⟨r,0+k*32,none⟩) (l.length - k) (c - k))),(5,.raw (.int .i64 (j.1:Int)))]) (fun j=> [.raw r (.cells j.2.2.2 37 (0,0))]++LF) (1,k,l,cur) ⟨by omega,by dsimp only;omega,by dsimp only;omega,by dsimp only;omega,rfl,by dsimp only;rw[hd,he],fun _ _=>rfl,hcur,hsz⟩ ⟨rfl,rfl,rfl,rfl⟩ (.refl _) ?_
   rintro⟨k2,kk,l1,cur1⟩ ⟨i1,i2,i3,i4,i5,i6,i7,i8,i9⟩
   dsimp only at i1 i2 i3 i4 i5 i6 i7 i8 i9 ⊢
   refine wf ?_
   refine s_lenR rfl ?_
   refine wf ?_
   refine pwp_condD (fun hc2=>?_) (fun hc2=>?_)
   ·have hlt2:k+k2 < l.length:=by omega
    have g1:l1[k+k2]'(by omega)=l[k+k2]:=by
     have:=i7 (k+k2) (by omega)
     rw[List.getElem?_eq_getElem (by omega),List.getElem?_eq_getElem hlt2]at this
     exact Option.some.inj this
    have g2:l1[k+(k2 - 1)]'(by omega)=l[k+k2 - 1]:=by
     have:=i7 (k+(k2 - 1)) (by omega)
     rw[List.getElem?_eq_getElem (by omega),List.getElem?_eq_getElem (by omega)]at this
     have e:=Option.some.inj this
     rw[e]
     congr 1
     omega
    have hd2:=ded_take (l:=l) (j:=k+k2) (by omega) hlt2
    refine wn ?_
    refine pwp_drawN 10 ?_ ?_
    ·decide+kernel
    refine wf ?_
    refine s_ixRow (k:=k2) rfl rfl (by omega) ?_
    refine s_ldRow (f:=eDig) (a0:=l[k+k2]) rfl List.mem_cons_self (by rw[i8,show 0+k*32+k2*32=(k+k2)*32 by omega,row_at vDig_len l1 (k+k2) (by omega) rest,g1]) (by omega) ?_
    refine wf ?_
    refine s_ixRow (k:=k2 - 1) rfl (by show PV.raw (Value.int .i64 ((k2:Int) - 1))=PV.raw (Value.int .i64 ((k2 - 1:Nat):Int));congr 2;omega) (by omega) ?_
    refine s_ldRow (f:=eDig) (a0:=l[k+k2 - 1]) rfl List.mem_cons_self (by rw[i8,show 0+k*32+(k2 - 1)*32=(k+(k2 - 1))*32 by omega,row_at vDig_len l1 (k+(k2 - 1)) (by omega) rest,g2]) (by omega) ?_
    refine wf ?_
    refine pwp_condN (fun h3=>?_) (fun h3=>?_)
    ·rw[if_neg h3]at hd2
     refine wf ?_
     refine s_ixRow (k:=k2) rfl rfl (by omega) ?_
     refine s_ldRow (f:=eDig) (a0:=l[k+k2]) rfl List.mem_cons_self (by rw[i8,show 0+k*32+k2*32=(k+k2)*32 by omega,row_at vDig_len l1 (k+k2) (by omega) rest,g1]) (by omega) ?_
     refine wf ?_
     refine s_ixRow (k:=kk) rfl rfl (by omega) ?_
     refine s_stRow (f:=eDig) (a0:=l[k+k2]) (E:=37) (cur:=cur1) (L':=LF) (fun x=> [x]++LF) rfl rfl (vDig_len _) (by omega) (.refl _) (fun _=> .refl _) ?_
     refine wf ?_
     refine wf ?_
     have hset:(l1.set kk l[k+k2]).take (kk+1)=l1.take kk++ [l[k+k2]]:=by
      rw[List.take_succ_eq_append_getElem (by simp;omega)]
      congr 1
      ·rw[List.take_set_of_le (by omega)]
      ·simp
     have hcl:(cur1.toList.take (0+kk*32)++vDig l[k+k2]++cur1.toList.drop (0+kk*32+32))=(l1.set kk l[k+k2]).flatMap vDig++rest:=by
      rw[i8,Nat.zero_add];exact flat_set vDig_len l1 kk (by omega) _ rest
     refine⟨(k2+1,kk+1,l1.set kk l[k+k2],(cur1.toList.take (0+kk*32)++vDig l[k+k2]++cur1.toList.drop (0+kk*32+32)).toArray),⟨by dsimp only;omega,by dsimp only;omega,by dsimp only;omega,by dsimp only;omega,by dsimp only;rw[List.length_set];exact i5,by dsimp only;rw[hset,i6,←Nat.add_assoc,hd2],fun i hi=>?_,hcl,?_⟩,by dsimp only;omega,⟨rfl,rfl,rfl,rfl⟩,.refl _⟩
     ·dsimp only at hi ⊢
      rw[List.getElem?_set_ne (by omega)]
      exact i7 i (by omega)
     ·dsimp only
      have hv32:=vDig_len l[k+k2]
      simp only[List.size_toArray,List.length_append,List.length_take,List.length_drop,Array.length_toList,hv32]
      omega
    ·rw[if_pos h3]at hd2
     refine wf ?_
     refine⟨(k2+1,kk,l1,cur1),⟨by dsimp only;omega,by dsimp only;omega,i3,by dsimp only;omega,i5,by dsimp only;rw[i6,←Nat.add_assoc,hd2],fun i hi=>i7 i (by dsimp only at hi;omega),i8,i9⟩,by dsimp only;omega,⟨rfl,rfl,rfl,rfl⟩,.refl _⟩
   have hkk:k+k2=l.length:=by omega
   rw[hkk,List.take_of_length_le (Nat.le_refl _)]at i6
   refine wf ?_
   refine s_cutRow kk l.length rfl (by omega) (Nat.le_refl _) (by omega) hlc (fun o e=>by cases e;exact⟨_,rfl⟩) (by simp) (by simp) (fun _=>rfl) ?_
   refine s_clearRow (E:=37) (cur:=cur1) (L':=LF) zero37 (fun x=> [x]++LF) rfl (by omega) (by omega) (.refl _) (fun _=> .refl _) fun zs hzs=>?_
   refine pops_nil ?_
   refine pwp_seq ?_
   refine pwp_region (by kernel_rfl) ?_
   refine s_moveN (by(conv=>lhs;whnf);done) ?_
   refine s_moveN (by(conv=>lhs;whnf);done) ?_
   refine s_cutRow 0 kk rfl (by omega) (by omega) (by omega) hlc (by simp) (fun _=>rfl) (fun o e=>by cases e;exact⟨_,rfl⟩) (by simp) ?_
   refine s_assign ?_
   refine pops_nil ?_
   have hlk:(l1.take kk).length=kk:=by rw[List.length_take,Nat.min_eq_left (by omega)]
   have hrow:RowL vDig 37 32 (.slice (some ⟨r,0,none⟩) (l1.take kk).length c) (l1.take kk) [.raw r (.cells (cur1.toList.take (0+kk*32)++zs++cur1.toList.drop (0+kk*32+(l.length - kk)*32)).toArray 37 (0,0))]:=by
    refine RowL.mk (rest:=zs++cur1.toList.drop (0+kk*32+(l.length - kk)*32)) vDig_len ?_ ?_ (by rw[hlk];omega)
    ·simp only[List.append_assoc]
     rw[Nat.zero_add,i8,take_rows l1 kk (by omega)]
    ·simp only[List.size_toArray,List.length_append,List.length_take,List.length_drop,Array.length_toList,hzs]
     omega
   refine pwp_freezeRow (f:=eDig) 2 hrow (hmx _ (by rw[hlk];omega)) (.refl _) (by
    show PV.raw (Value.slice (some ⟨r,0+0*32,none⟩) (kk - 0) (c - 0))=_
    rw[hlk];simp) ?_
   refine wf ?_
   exact⟨trivial,_,[],.cons (.tmp 2) .nil,.refl _,by rw[←i6];exact⟨rfl,rfl⟩⟩
  ·rw[if_neg h2]at hd
   refine wf ?_
   refine⟨k+1,⟨by omega,by omega,?_⟩,by dsimp only;omega,⟨rfl,rfl⟩,.refl _⟩
   rw[hd,he,←List.take_succ_eq_append_getElem hlt]
 have hkk:k=l.length:=by omega
 rw[List.take_of_length_le (by omega)]at he
 refine pwp_exit ?_
 refine pwp_seq ?_
 refine pwp_region (by kernel_rfl) ?_
 refine s_moveN (by(conv=>lhs;whnf);done) ?_
 refine s_assign ?_
 refine pops_nil ?_
 refine pwp_freezeRow (f:=eDig) 2 hv (hmx l (Nat.le_refl _)) (.refl _) rfl ?_
 refine wf ?_
 exact⟨trivial,_,[],.cons (.tmp 2) .nil,.refl _,by rw[he];exact⟨rfl,rfl⟩⟩
end Go.Proofs
namespace Go.Q
open Go Go.Proofs Go.Sort
theorem flatMap_at {α:Type} {k:Nat} (hk0:0 < k) {enc:α→List Value} (hk: ∀ x,(enc x).length=k): ∀ (l:List α) (t:Nat),(l.flatMap enc)[t]? =(l[t / k]?).bind fun x=>(enc x)[t % k]?
 | [],t=>by simp
 |x::l,t=>by
  rw[List.flatMap_cons]
  by_cases h:t < k
  ·rw[List.getElem?_append_left (by rw[hk];exact h),Nat.div_eq_of_lt h,Nat.mod_eq_of_lt h]
   simp
  ·rw[List.getElem?_append_right (by rw[hk];omega),hk,flatMap_at hk0 hk l (t - k)]
   have e1:t / k=(t - k) / k+1:=by
    rw[Nat.div_eq_sub_div hk0 (by omega)]
   have e2:t % k=(t - k) % k:=Nat.mod_eq_sub_mod (by omega)
   rw[e1,e2]
   simp
theorem flatK_eq {α:Type} [Inhabited α] {k:Nat} (hk0:0 < k) {enc:α→List Value} (hk: ∀ x,(enc x).length=k) (l:List α):(flatK enc k l.toArray).toList=l.flatMap enc:=by
 refine List.ext_getElem? fun t=>?_
 rw[flatMap_at hk0 hk]
 by_cases h:t < l.length*k
 ·have h1:t / k < l.length:=Nat.div_lt_of_lt_mul (by rw[Nat.mul_comm];exact h)
  have h2:t % k < k:=Nat.mod_lt _ hk0
  have h3:t < (flatK enc k l.toArray).toList.length:=by simpa using h
  rw[List.getElem?_eq_getElem h3,List.getElem?_eq_getElem h1]
  simp only[Option.bind_some]
  rw[List.getElem?_eq_getElem (by rw[hk];exact h2)]
  congr 1
  have:=get_flatK enc k l.toArray t (by simpa using h)
  simp only[Array.getElem_toList]
  rw[getElem!_pos _ t (by simpa using h)]at this
  rw[this]
  simp[h1,getElem!_pos,hk,h2]
 ·rw[List.getElem?_eq_none (by simpa using h)]
  have: ¬t / k < l.length:=fun h'=>h (by
   have:=Nat.lt_mul_of_div_lt h' hk0
   first|exact this|(rw[Nat.mul_comm];exact this))
  rw[List.getElem?_eq_none (by omega)]
  rfl
section
variable {α:Type} [Inhabited α] {enc:α→List Value} {k:Nat} {w:World} {r:Nat} {cur:Array Value} {E:Nat}
theorem sortWorld_row (h:w.heap[r]? =some (.cells cur E (0,0))) (m:Nat) (dk:Array α) (os:Array Obj):(sortWorldK enc k w r 0 m dk os).heap[r]? =some (.cells (putCells id 0 (flatK enc k dk) cur) E (0,0)):=by
 have hlt:=(Array.getElem?_eq_some_iff.1 h).1
 show((w.heap.modify r (onCells (putCells id 0 (flatK enc k dk))))++os)[r]? =_
 rw[Array.getElem?_append_left (by simpa using hlt),Array.getElem?_modify,if_pos rfl,h]
 rfl
theorem sortWorld_other (m:Nat) (dk:Array α) (os:Array Obj): ∀ b,b < w.heap.size→b≠r→(sortWorldK enc k w r 0 m dk os).heap[b]? =w.heap[b]?:=fun b hb hn=>by
 show((w.heap.modify r (onCells (putCells id 0 (flatK enc k dk))))++os)[b]? =_
 rw[Array.getElem?_append_left (by simpa using hb),Array.getElem?_modify,if_neg (Ne.symm hn)]
theorem sortWorld_size (m:Nat) (dk:Array α) (os:Array Obj):w.heap.size≤(sortWorldK enc k w r 0 m dk os).heap.size:=by
 show _≤((w.heap.modify r (onCells (putCells id 0 (flatK enc k dk))))++os).size
 simp
theorem putCells_take (F:Array Value) (h:F.size≤cur.size):(putCells id 0 F cur).toList.take F.size=F.toList:=by
 refine List.ext_getElem (by simp[putCells];omega) fun j h1 h2=>?_
 have hj:j < F.size:=by simpa using h2
 simp[putCells,hj]
end
theorem Inv.laterBut {w w':World} {g:Gh} {L:List Res} {r:Nat} (hi:Inv w g L) (hH: ∀ o,g.H r o=none) (hM:g.M r=none) (hr:r∉blocks L) (hk: ∀ k,k < w.heap.size→k≠r→w'.heap[k]? =w.heap[k]?):Inv w' g L:=by
 refine⟨fun b i v h=>?_,fun b z h=>(hi.satM b z h).congr (hk b (hi.satM b z h).lt (fun e=>by rw[e,hM]at h;cases h)),fun r' hr'=>?_,hi.nodup,hi.glob⟩
 ·have h0:=hi.sat b i v h
  have hb:b < w.heap.size:=by
   rcases Nat.lt_or_ge b w.heap.size with h'|h'
   ·exact h'
   ·simp[World.cell?,Array.getElem?_eq_none h']at h0
  simp only[World.cell?]at h0 ⊢
  rw[hk b hb (fun e=>by rw[e,hH]at h;cases h)];exact h0
 ·exact Res.holds_kept (.refl g) (hi.res r' hr') fun b hb=>⟨hk b (hi.lt (List.mem_filterMap.2 ⟨r',hr',hb⟩)) (fun e=>hr (List.mem_filterMap.2 ⟨r',hr',by rw[hb,e]⟩)),fun _=>rfl,rfl⟩
theorem grown_eq {w w':World} (h1:w'.os=w.os) (h2:w'.tape=w.tape) (h3:w'.output=w.output) (h4:w.drawn≤w'.drawn) (h5:w.heap.size≤w'.heap.size) (hk: ∀ k,k < w.heap.size→w'.heap[k]? =w.heap[k]?): ∃ q os,w'=grow (w.drewN q) os:=by
 refine⟨w'.drawn - w.drawn,w'.heap.extract w.heap.size w'.heap.size,?_⟩
 have hh:w'.heap=w.heap++w'.heap.extract w.heap.size w'.heap.size:=by
  refine Array.ext_getElem? fun i=>?_
  by_cases hi:i < w.heap.size
  ·rw[Array.getElem?_append_left hi,hk i hi]
  ·rw[Array.getElem?_append_right (by omega)]
   by_cases h6:i < w'.heap.size
   ·rw[Array.getElem?_eq_getElem h6,Array.getElem?_eq_getElem (by simp;omega)]
    simp
    congr 1
    omega
   ·rw[Array.getElem?_eq_none (by omega),Array.getElem?_eq_none (by simp;omega)]
 have hd:w'.drawn=w.drawn+(w'.drawn - w.drawn):=by omega
 obtain⟨⟩:=w'
 obtain⟨⟩:=w
 simp only at h1 h2 h3 hh hd
 subst h1 h2 h3
 simp only[grow,World.drewN]
 rw[←hh,←hd]
end Go.Q
namespace Go.Proofs
open Go Go.Q Go.Shelf Go.Sort
attribute [local irreducible] pwp pops OpN
instance :Inhabited Dig:=⟨Dig.zero⟩
theorem swoD:SWO (ltOf cmpD) where
 irrefl x:=by
  unfold ltOf
  exact decide_eq_false (fun h=>Dig.lt_irrefl x h)
 trans x y z h1 h2:=by
  unfold ltOf at*
  exact decide_eq_true (Dig.lt_trans (of_decide_eq_true h1) (of_decide_eq_true h2))
 ntrans x y z h1 h2:=by
  unfold ltOf at*
  refine decide_eq_false fun h=>?_
  have h1:=of_decide_eq_false h1
  have h2:=of_decide_eq_false h2
  rcases Dig.tri x y with h'|h'|h'
  ·exact h1 h'
  ·subst h';exact h2 h
  ·rcases Dig.tri y z with h3|h3|h3
   ·exact h2 h3
   ·subst h3;exact h1 h
   ·exact Dig.lt_irrefl x (Dig.lt_trans h (Dig.lt_trans h3 h'))
def sortD (l:List Dig):List Dig:=l.mergeSort fun x y=>!(ltOf cmpD) y x
theorem cmp_lays {w:World} {g:Gh} {r n E:Nat} {cur:Array Value} (hi:Inv w g []) (h1:w.heap[r]? =some (.cells cur E (0,0))) (h2: ∀ o,g.H r o=none) (h3:g.M r=none):CmpLays Tryz.prog 83 #[] vDig 32 cmpD r 0 n w:=by
 intro m os dk hdk x y
 have hI:Inv (sortWorldK vDig 32 w r 0 m dk os) g []:=hi.laterBut h2 h3 (by simp[blocks]) (fun k hk hn=>sortWorld_other m dk os k hk hn)
 have hv:VRl g [.agg (vDig x).toArray,.agg (vDig y).toArray] [.agg (eDig x),.agg (eDig y)]:=by
  have e: ∀ d:Dig,VR g (.agg (vDig d).toArray) (.agg (eDig d)):=fun d=>by
   rw[(inferInstance:RawE eDig vDig).out]
   have:VRl g (vDig d) ((vDig d).map PV.raw):=⟨by simp,fun i h1 h2=>by simp;exact .raw _⟩
   exact this.agg
  exact .cons (e x) (.cons (e y) (.nil g))
 have:=(pCompare_ct x y).out _ (sortWorldK vDig 32 w r 0 m dk os) g [] hv hI
 refine Calls.mono this ?_
 rintro e w' ⟨v,x',g',L',rfl,k1,k2,k3,k4,rfl,rfl⟩
 refine⟨by rw[k1.raw_inv],?_⟩
 exact grown_eq k3.os k3.tape k3.output.1 k3.output.2 k3.size (fun k hk=>k3.keep k hk (by simp[blocks]))
theorem sort_fn (l:List Dig) (v:Value) (R:List Res) (hv:DRow v l R) (hl:l.length≤1000000):PCalls Tryz.prog 110 [.raw v,.raw (.func (.func 83) #[] #[])] R (fun _ L'=> ∃ v',v'=v∧DRow v' (sortD l) L'):=fun vs w g LF hvs hi=>by
 obtain⟨v1,v2,rfl⟩: ∃ a b,vs= [a,b]:=by
  have:=hvs.len
  match vs,this with
  | [a,b],_=>exact⟨a,b,rfl⟩
 rw[hvs.uncons.1.raw_inv,hvs.uncons.2.uncons.1.raw_inv]
 obtain⟨o,c,rfl⟩:=hv.slice
 by_cases hne:l= []
 ·subst hne
  refine(AnyF.slices_SortFunc_none Tryz.sortD o c _ w).mono ?_
  rintro e w' ⟨rfl,rfl⟩
  exact⟨_,.raw (.tuple #[]),g,R,rfl,.raw _,hi,.refl _ _ _,.refl _ _,_,rfl,by simpa [sortD]using hv⟩
 obtain⟨_,r,cur,rest,rfl,rfl,hcur,hsz,hlc⟩:=hv.inv hne
 obtain⟨k1,k2,k3,k4,k5⟩:=hi.rawHead
 have hlt:r < w.heap.size:=(Array.getElem?_eq_some_iff.1 k1).1
 have hF:(flatK vDig 32 l.toArray).toList=l.flatMap vDig:=flatK_eq (by decide) vDig_len l
 have hH:HoldsK vDig 32 w r 0 l.toArray:=fun j hj=>by
  have hj2:j < l.length*32:=by simpa using hj
  refine⟨?_,by simp[World.frozen?,k1]⟩
  have hj3:j < cur.size:=by omega
  simp only[World.cell?,k1,Option.isSome_none,Bool.false_eq_true,if_false,Nat.zero_add]
  rw[getElem!_pos _ j hj]
  have e1:cur.toList[j]? =(flatK vDig 32 l.toArray).toList[j]?:=by
   rw[hcur,hF,List.getElem?_append_left (by rw[len_raws (f:=eDig) (sz:=32)];exact hj2)]
  rw[Array.getElem?_toList,Array.getElem?_toList,Array.getElem?_eq_getElem hj]at e1
  exact e1
 refine(AnyQ.slices_SortFunc_total Tryz.sortD 32 (fun w=>?_) (fun w=>TSz.run (inferInstance:TSz Tryz.prog 37 32 32) w) vDig vDig_len (fun x v h=>(inferInstance:RawE eDig vDig).one x v h) cmpD swoD 83 #[] r 0 c l.toArray w (fun args w=>(inferInstance:TFun Tryz.prog 83).out args w) (cmp_lays (hi.sub (List.nil_sublist _)) k1 k2 k3) hH hlt (by simp;omega) ?_).mono ?_
 ·have hu:Tryz.prog.underlying 37=some (.array 32 5):=by kernel_rfl
  show(isAgg 37).run Tryz.prog w=_
  simp[isAgg,run_underlying hu]
 ·intro x y h1 h2
  unfold ltOf at h1 h2
  have h1:=of_decide_eq_false h1
  have h2:=of_decide_eq_false h2
  rcases Dig.tri x y with h'|h'|h'
  ·exact absurd h' h1
  ·exact h'
  ·exact absurd h' h2
 ·rintro e w' ⟨rfl,n,os,rfl⟩
  have hlen:(sortD l).length=l.length:=List.length_mergeSort _
  have hFs:(flatK vDig 32 (sortD l).toArray).toList=(sortD l).flatMap vDig:=flatK_eq (by decide) vDig_len (sortD l)
  have hFz:(flatK vDig 32 (sortD l).toArray).size=l.length*32:=by simp[hlen]
  have htk:=putCells_take (cur:=cur) (flatK vDig 32 (sortD l).toArray) (by omega)
  have hrow:RowL vDig 37 32 (.slice (some ⟨r,0,none⟩) (sortD l).length c) (sortD l) [.raw r (.cells (putCells id 0 (flatK vDig 32 (sortD l).toArray) cur) 37 (0,0))]:=by
   refine RowL.mk (rest:=(putCells id 0 (flatK vDig 32 (sortD l).toArray) cur).toList.drop (l.length*32)) vDig_len ?_ (by simp[putCells,hsz]) (by omega)
   rw[←hFs,←htk,hFz,List.take_append_drop]
  rw[hlen]at hrow
  refine⟨_,.raw (.tuple #[]),g,[.raw r (.cells (putCells id 0 (flatK vDig 32 (sortD l).toArray) cur) 37 (0,0))],rfl,.raw _,?_,⟨rfl,rfl,⟨rfl,Nat.le_add_right _ _⟩,sortWorld_size n _ os,fun b hb hn=>sortWorld_other n _ os b hb (fun e=>hn (by rw[e];simp[blocks,Res.block])),.refl g,fun _ _ _=>⟨fun _=>rfl,rfl⟩⟩,fun b hb _=>by simpa [blocks,Res.block]using hb,_,rfl,hrow⟩
  exact(k5.laterBut k2 k3 k4 (fun k hk hn=>sortWorld_other n _ os k hk hn)).addRaw (sortWorld_row k1 n _ os) k2 k3 k4
end Go.Proofs
namespace Go.Proofs
open Go Go.Q
attribute [local irreducible] pwp pops PCalls OpN
def fgn (rs:List Rfc):List Dig:=(rs.filter fun r=>!decide (r.id.patch=Dig.zero)).map (·.id.patch)
theorem fgn_append (a b:List Rfc):fgn (a++b)=fgn a++fgn b:=by simp[fgn]
theorem fgn_take {rs:List Rfc} {j:Nat} (h:j < rs.length):fgn (rs.take (j+1))=fgn (rs.take j)++(if rs[j].id.patch=Dig.zero then []else [rs[j].id.patch]):=by
 rw[List.take_succ_eq_append_getElem h,fgn_append]
 congr 1
 unfold fgn
 by_cases e:rs[j].id.patch=Dig.zero<;>simp[e]
def nList (p:Pat):List Dig:=p.deps++p.changes.flatMap fun c=>fgn (refsP c)
def nP (p:Pat):List Dig:=if(rEncodeP p).2≠0 then []else ded (sortD (nList p))
set_option maxHeartbeats 1000000 in
theorem needsP_fn (p:Pat) [hs:Small (rGreat p=false)]:FnC Tryz.prog 65 [.agg (ePat p)] (.slice ((nP p).map eDig) .ro):=⟨by
 obtain⟨hg1,hg2,hg3,hg4,hg5⟩:=great_facts hs.out
 refine fn_of Tryz.func65 Tryz.ntmps65 rfl (rs:= [.tmp 2]) rfl rfl fun hb LF=>?_
 refine wf ?_
 refine pwp_condN (fun h1=>?_) (fun h1=>?_)
 ·refine wf ?_
  refine end1 (.ros ?_)
  rw[nP,if_pos h1];rfl
 refine wf ?_
 refine s_callR (xs:= [.tmp 12]) [] LF (f:=75) (cs:= []) (le_func _) rfl rfl (.refl _) _ (cloneD_fn p.deps .ro (by omega)) fun r L1 ⟨v0,hr,hv0⟩=>?_
 subst hr
 refine wf ?_
 refine wf ?_
 refine pwp_loopS (σ:=Nat × Value × List Dig × List Res) (fun k=>k.1≤p.changes.length∧k.2.2.1.length≤20+k.1*404∧k.2.2.1=p.deps++(p.changes.take k.1).flatMap (fun c=>fgn (refsP c))∧DRow k.2.1 k.2.2.1 k.2.2.2) (fun k=>p.changes.length - k.1) (fun k=> [(3,.raw k.2.1),(15,.slice (p.changes.map eChg) .ro),(16,.raw (.int .i64 p.changes.length)),(17,.raw (.int .i64 k.1))]) (fun k=>k.2.2.2++LF) (0,v0,p.deps,L1) ⟨by simp,by simpa using hg3,by simp,hv0⟩ ⟨rfl,rfl,rfl,rfl⟩ (.refl _) ?_
 rintro⟨k,v,l,R⟩ ⟨hk,hlen,hl,hv⟩
 dsimp only at hk hlen hl hv
 refine wf ?_
 refine pwp_condD (fun hc=>?_) (fun hc=>?_)
 ·have hlt:k < p.changes.length:=by omega
  have hov:=(hg5 _ (List.getElem_mem hlt)).over
  have i1:Small (p.changes[k].over.length≤400):=⟨by omega⟩
  have hrl:=refsP_len (c:=p.changes[k]) (by omega)
  refine wz fun b5=>?_
  refine pwp_freezeD 5 ?_
  refine wf ?_
  refine pwp_loopS (σ:=Nat × Value × List Dig × List Res) (fun j=>j.1≤(refsP p.changes[k]).length∧j.2.2.1.length≤20+k*404+j.1∧j.2.2.1=l++fgn ((refsP p.changes[k]).take j.1)∧DRow j.2.1 j.2.2.1 j.2.2.2) (fun j=>(refsP p.changes[k]).length - j.1) (fun j=> [(3,.raw j.2.1),(15,.slice (p.changes.map eChg) .ro),(16,.raw (.int .i64 p.changes.length)),(17,.raw (.int .i64 k)),(22,.slice ((refsP p.changes[k]).map eRfc) .ro),(23,.raw (.int .i64 (refsP p.changes[k]).length)),(24,.raw (.int .i64 j.1))]) (fun j=>j.2.2.2++LF) (0,v,l,R) ⟨by simp,by simpa using hlen,by simp[fgn],hv⟩ ⟨rfl,rfl,rfl,rfl,rfl,rfl,rfl⟩ (.refl _) ?_
  rintro⟨j,v1,l1,R1⟩ ⟨hj,hlen1,hl1,hv1⟩
  dsimp only at hj hlen1 hl1 hv1
  refine wf ?_
  refine pwp_condD (fun hd=>?_) (fun hd=>?_)
  ·have hjt:j < (refsP p.changes[k]).length:=by omega
   have ht:=fgn_take hjt
   refine wz fun b7=>?_
   refine pwp_freezeD 7 ?_
   refine wf ?_
   refine pwp_condN (fun h2=>?_) (fun h2=>?_)
   ·rw[if_neg h2]at ht
    refine wf ?_
    refine s_appRow (f:=eDig) (m:= [(refsP p.changes[k])[j].id.patch]) (R:=R1) (LF:=LF) (fun R'=>R'++LF) rfl rfl hv1 (.refl _) (fun R'=> .refl _) (by simp only[List.length_cons,List.length_nil];omega) (by simp only[List.length_cons,List.length_nil];omega) fun v2 R2 hv2=>?_
    refine wf ?_
    refine wf ?_
    refine⟨(j+1,v2,l1++ [(refsP p.changes[k])[j].id.patch],R2),⟨by dsimp only;omega,by simp only[List.length_append,List.length_cons,List.length_nil];omega,?_,hv2⟩,by dsimp only;omega,⟨rfl,rfl,rfl,rfl,rfl,rfl,rfl⟩,.refl _⟩
    dsimp only
    rw[ht,←List.append_assoc,hl1]
   ·rw[if_pos h2,List.append_nil]at ht
    refine wf ?_
    refine⟨(j+1,v1,l1,R1),⟨by dsimp only;omega,by dsimp only;omega,?_,hv1⟩,by dsimp only;omega,⟨rfl,rfl,rfl,rfl,rfl,rfl,rfl⟩,.refl _⟩
    dsimp only
    rw[ht,hl1]
  ·rw[List.take_of_length_le (by omega)]at hl1
   refine wf ?_
   refine⟨(k+1,v1,l1,R1),⟨by dsimp only;omega,by dsimp only;omega,?_,hv1⟩,by dsimp only;omega,⟨rfl,rfl,rfl,rfl⟩,.refl _⟩
   dsimp only
   rw[hl1,hl,List.take_succ_eq_append_getElem hlt,List.flatMap_append,List.append_assoc]
   simp
 rw[List.take_of_length_le (by omega)]at hl
 have hl':l=nList p:=hl
 have hsl:(sortD l).length=l.length:=List.length_mergeSort _
 refine wf ?_
 refine s_callR (xs:= [.tmp 40,.func 83]) R LF (f:=110) (cs:= []) (le_func _) rfl rfl (.refl _) _ (sort_fn l v R hv (by omega)) fun r L2 ⟨v2,e2,hv2⟩=>?_
 subst e2
 refine wf ?_
 refine wf ?_
 refine s_callR (xs:= [.tmp 42]) L2 LF (f:=111) (cs:= []) (le_func _) rfl rfl (.refl _) _ (compact_fn (sortD l) v2 L2 hv2 (by omega)) fun r L3 ⟨hr,hL3⟩=>?_
 subst hr
 subst hL3
 refine wf ?_
 refine wf ?_
 refine end1 (.ros ?_)
 rw[nP,if_neg (by simp[h1]),←hl']⟩
end Go.Proofs
namespace Go.Proofs
open Go Go.Q Go.Sort
theorem sortD_sorted (l:List Dig):(sortD l).Pairwise fun x y=> ¬Dig.lt y x:=by
 have h:=List.pairwise_mergeSort (le:=fun x y=>!(ltOf cmpD) y x) (fun a b c h1 h2=>by
  simp only[Bool.not_eq_true',ltOf,decide_eq_false_iff_not]at h1 h2 ⊢
  intro h3
  have h1: ¬Dig.lt b a:=h1
  have h2: ¬Dig.lt c b:=h2
  have h3:Dig.lt c a:=h3
  rcases Dig.tri a b with h|h|h
  ·exact h2 (Dig.lt_trans h3 h)
  ·subst h;exact h2 h3
  ·exact h1 h) (fun a b=>by
  simp only[Bool.or_eq_true,Bool.not_eq_true',ltOf,decide_eq_false_iff_not]
  by_cases h:Dig.lt b a
  ·exact .inr (Dig.lt_asymm h)
  ·exact .inl h) l
 refine h.imp fun {a b} hab=>?_
 simp only[Bool.not_eq_true',ltOf,decide_eq_false_iff_not]at hab
 exact hab
theorem ded_facts {l:List Dig} (h:l.Pairwise fun x y=> ¬Dig.lt y x): ∀ j,j≤l.length→Asc (ded (l.take j))∧ ∀ d,d∈ded (l.take j)↔d∈l.take j:=by
 intro j
 induction j with
 |zero=>intro _;exact⟨Asc.nil,fun d=>by simp[ded]⟩
 |succ j ih=>
  intro hj
  obtain⟨i1,i2⟩:=ih (by omega)
  have hlt:j < l.length:=by omega
  by_cases h0:j=0
  ·subst h0
   have e:l.take 1= [l[0]]:=by
    rw[List.take_succ_eq_append_getElem hlt];rfl
   rw[e]
   exact⟨List.pairwise_singleton _ _,fun d=>Iff.rfl⟩
  rw[ded_take (by omega) hlt]
  by_cases e:l[j]=l[j - 1]
  ·rw[if_pos e]
   refine⟨i1,fun d=>?_⟩
   rw[i2,List.take_succ_eq_append_getElem hlt]
   simp only[List.mem_append,List.mem_singleton]
   refine⟨.inl,fun h=>h.elim id fun h=>?_⟩
   rw[h,e]
   exact List.mem_take_iff_getElem.2 ⟨j - 1,by omega,rfl⟩
  ·rw[if_neg e]
   refine⟨?_,fun d=>?_⟩
   ·refine List.pairwise_append.2 ⟨i1,List.pairwise_singleton _ _,fun a ha b hb=>?_⟩
    rw[List.mem_singleton.1 hb]
    obtain⟨i,hi,rfl⟩:=List.mem_take_iff_getElem.1 ((i2 a).1 ha)
    have hp:=List.pairwise_iff_getElem.1 h
    have h3: ¬Dig.lt l[j] l[j - 1]:=hp (j - 1) j (by omega) hlt (by omega)
    have h4:Dig.lt l[j - 1] l[j]:=by
     rcases Dig.tri l[j - 1] l[j]with h'|h'|h'
     ·exact h'
     ·exact absurd h'.symm e
     ·exact absurd h' h3
    by_cases h5:i=j - 1
    ·subst h5;exact h4
    ·have h6: ¬Dig.lt l[j - 1] l[i]:=hp i (j - 1) (by omega) (by omega) (by omega)
     rcases Dig.tri l[i] l[j - 1]with h'|h'|h'
     ·exact Dig.lt_trans h' h4
     ·rw[h'];exact h4
     ·exact absurd h' h6
   ·rw[List.take_succ_eq_append_getElem hlt]
    simp only[List.mem_append,i2]
theorem nS_asc (l:List Dig):Asc (ded (sortD l)):=by
 have:=(ded_facts (sortD_sorted l) (sortD l).length (Nat.le_refl _)).1
 rwa [List.take_length]at this
theorem nS_mem (l:List Dig) (d:Dig):d∈ded (sortD l)↔d∈l:=by
 have:=(ded_facts (sortD_sorted l) (sortD l).length (Nat.le_refl _)).2 d
 rw[List.take_length]at this
 rw[this]
 exact List.mem_mergeSort
theorem mem_rForeign {l:List Ident} {d:Dig}:d∈rForeign l↔ ∃ x∈l,x.patch≠Dig.zero∧x.patch=d:=by
 unfold rForeign
 simp only[List.mem_map,List.mem_filter,Bool.not_eq_true',decide_eq_false_iff_not]
 constructor
 ·rintro⟨x,⟨h1,h2⟩,h3⟩;exact⟨x,h1,h2,h3⟩
 ·rintro⟨x,h1,h2,h3⟩;exact⟨x,⟨h1,h2⟩,h3⟩
theorem fgn_eq (rs:List Rfc):fgn rs=rForeign (rs.map Rfc.id):=by
 unfold fgn rForeign
 rw[List.filter_map,List.map_map]
 rfl
theorem unused {c:Chg} (h:rFields c=0):(¬(2≤c.kind∧c.kind≤6)→c.file=Ident.zero)∧(c.kind≠2→c.parent=Ident.zero)∧(¬(c.kind=5∨c.kind=6)→c.after=Ident.zero∧c.before=Ident.zero):=by
 unfold rFields at h
 split at h
 ·omega
 split at h
 ·omega
 rename_i h2
 simp only[Bool.not_eq_false,rEmpty,Bool.and_eq_true,decide_eq_true_eq]at h2
 obtain⟨⟨⟨⟨⟨⟨⟨⟨⟨a1,_⟩,a2⟩,_⟩,_⟩,_⟩,a3⟩,a4⟩,_⟩,_⟩:=h2
 refine⟨fun h=>?_,fun h=>?_,fun h=>⟨?_,?_⟩⟩
 ·have a:(if 2≤c.kind∧c.kind≤6 then Ident.zero else c.file)=Ident.zero:=a1
  rwa [if_neg h]at a
 ·have a:(if c.kind=2 then Ident.zero else c.parent)=Ident.zero:=a2
  rwa [if_neg h]at a
 ·have a:(if c.kind=5∨c.kind=6 then Ident.zero else c.after)=Ident.zero:=a3
  rwa [if_neg h]at a
 ·have a:(if c.kind=5∨c.kind=6 then Ident.zero else c.before)=Ident.zero:=a4
  rwa [if_neg h]at a
theorem refs_mem {c:Chg} (h:rFields c=0) (d:Dig):d∈fgn (refsP c)↔d∈rForeign (rIds c):=by
 obtain⟨u1,u2,u3⟩:=unused h
 have hz:Ident.zero.patch=Dig.zero:=rfl
 rw[fgn_eq,mem_rForeign,mem_rForeign]
 have key: ∀ x:Ident,x.patch≠Dig.zero→(x∈(refsP c).map Rfc.id↔x∈rIds c):=fun x hx=>by
  have hk:=rFields_kind h
  have e4: ∀ l:List Ident,(refs4 c l).map Rfc.id=l:=fun l=>by
   rw[refs4,List.map_map]
   show l.map (fun x=>x)=l
   simp
  unfold refsP rIds
  simp only[List.map_append,e4,List.mem_append,List.mem_cons,List.not_mem_nil,or_false]
  have n1:x=Ident.zero→False:=fun e=>hx (by rw[e];rfl)
  have n2:x=⟨Dig.zero,-1⟩→False:=fun e=>hx (by rw[e])
  rcases kinds hk with k|k|k|k|k|k|k<;>simp only[refs1,refs2,refs3,k]at u1 u2 u3 ⊢ <;>simp<;>grind
 constructor
 ·rintro⟨x,h1,h2,h3⟩;exact⟨x,(key x h2).1 h1,h2,h3⟩
 ·rintro⟨x,h1,h2,h3⟩;exact⟨x,(key x h2).2 h1,h2,h3⟩
theorem rChanges_fields: ∀ (l:List Chg) (own:List Atm),(rChanges l own).2=0→ ∀ c∈l,rFields c=0
 | [],_,_,c,hc=>by cases hc
 |x::l,own,h,c,hc=>by
  rw[rChanges]at h
  split at h
  ·rename_i h1;exact absurd h h1
  rename_i h1
  split at h
  ·rename_i h2;exact absurd h h2
  rcases List.mem_cons.1 hc with rfl|hc
  ·simpa using h1
  ·exact rChanges_fields l _ h c hc
theorem needs_mem: ∀ (cs:List Chg) (m:List Dig) (d:Dig),d∈cs.foldl rNeedsC m↔d∈m∨ ∃ c∈cs,d∈rForeign (rIds c)
 | [],m,d=>by simp
 |c::cs,m,d=>by
  rw[List.foldl_cons,needs_mem cs,rNeedsC,mem_withAll]
  simp only[List.mem_cons,exists_eq_or_imp,or_assoc]
theorem needs_asc: ∀ (cs:List Chg) (m:List Dig),Asc m→Asc (cs.foldl rNeedsC m)
 | [],m,h=>h
 |c::cs,m,h=>needs_asc cs _ (withAll_asc h)
theorem nP_eq (p:Pat):nP p=rNeeds p:=by
 unfold nP rNeeds
 by_cases h:(rEncodeP p).2≠0
 ·rw[if_pos h,if_pos h]
 rw[if_neg h,if_neg h]
 have h0:(rCheckP p).2=0:=by
  by_cases h1:(rCheckP p).2≠0
  ·rw[rEncodeP,if_pos h1]at h;exact absurd h1 h
  ·simpa using h1
 have hF: ∀ c∈p.changes,rFields c=0:=by
  rw[checkP_head]at h0
  split at h0
  ·rename_i h1;exact absurd h0 h1
  ·exact rChanges_fields _ _ h0
 refine Asc.ext (nS_asc _) (needs_asc _ _ (withAll_asc Asc.nil)) fun d=>?_
 rw[nS_mem,needs_mem,mem_withAll,nList]
 simp only[List.mem_append,List.mem_flatMap,List.not_mem_nil,false_or]
 constructor
 ·rintro(h|⟨c,hc,h⟩)
  ·exact .inl h
  ·exact .inr ⟨c,hc,(refs_mem (hF c hc) d).1 h⟩
 ·rintro(h|⟨c,hc,h⟩)
  ·exact .inl h
  ·exact .inr ⟨c,hc,(refs_mem (hF c hc) d).2 h⟩
instance NeedsP_ct (p:Pat) [hs:Small (rGreat p=false)]:FnC Tryz.prog 65 [.agg (ePat p)] (.slice ((rNeeds p).map eDig) .ro):=nP_eq p ▸ needsP_fn p
end Go.Proofs
namespace Go.Proofs
open Go Go.Q
attribute [local irreducible] pwp pops PCalls OpN
def gr (s:List Sto):List (Dig × List Dig):=s.foldl (fun m x=>mSet x.id (rNeeds x.patch) m) []
theorem gr_take {s:List Sto} {k:Nat} (h:k < s.length):gr (s.take (k+1))=mSet s[k].id (rNeeds s[k].patch) (gr (s.take k)):=by
 rw[List.take_succ_eq_append_getElem h,gr,List.foldl_append];rfl
instance graphOf_ct (s:List Sto) (t:Tag) [hs:Small (goodS s)]:FnC Tryz.prog 81 [.slice (s.map eSto) t] (.fmap (eMap kDig (vSl eDig) (gr s))):=⟨by
 have hs:=hs.out
 refine fn_of Tryz.func81 Tryz.ntmps81 rfl (rs:= [.tmp 2]) rfl rfl fun hb LF=>?_
 refine wfm fun b=>?_
 refine pwp_loopS (σ:=Nat) (fun k=>k≤s.length) (fun k=>s.length - k) (fun k=> [(3,.raw (.map (some b))),(7,.slice (s.map eSto) t),(8,.raw (.int .i64 s.length)),(9,.raw (.int .i64 k))]) (fun k=> .map b (eMap kDig (vSl eDig) (gr (s.take k)))::LF) 0 (by simp) ⟨rfl,rfl,rfl,rfl⟩ (.refl _) ?_
 intro k hk
 refine wf ?_
 refine pwp_condD (fun hc=>?_) (fun hc=>?_)
 ·have hlt:k < s.length:=by omega
  have h8:=hs.1
  have:Small (rGreat s[k].patch=false):=⟨hs.2 _ (List.getElem_mem hlt)⟩
  refine wz fun b5=>?_
  refine pwp_freezeD 5 ?_
  refine wn ?_
  refine pwp_drawN 6 ?_ ?_
  ·decide+kernel
  refine wf ?_
  refine⟨k+1,by omega,by dsimp only;omega,⟨rfl,rfl,rfl,rfl⟩,?_⟩
  dsimp only
  rw[gr_take hlt]
  exact .refl _
 ·refine pwp_exit ?_
  rw[List.take_of_length_le (by omega)]
  refine pwp_freezeM [(3,.fmap (eMap kDig (vSl eDig) (gr s)))] (.inr ⟨rfl,rfl⟩) (.refl _) ?_
  refine wf ?_
  exact end1 (.refl _)⟩
end Go.Proofs
