/- PatchsetOrder's contract: it answers true, whatever the set and the identities. -/
import Derived.Test.YtjmpmjmobbofgaaGreatDoorVar
import Derived.Test.YtjmpmjmobbofgaaGreatDoorVao
import Derived.Test.YtjmpmjmobbofgaaGreatDoorVaq
import Derived.Test.YtjmpmjmobbofgaaGreatDoorVap
import Derived.Test.YtjmpmjmobbofgaaGreatDoorVam
set_option linter.unusedSimpArgs false
set_option linter.unusedVariables false
namespace Go.Proofs
open Go Go.Q
attribute [local irreducible] pwp pops pAny PCalls OpN
instance order1_ct (m:List Dig) (u:Tag) (d:Dig):FnC Tryz.prog 22 [.agg (eDig d),.pt [.slice (m.map eDig) u] 0] (.raw (.bool (!decide (d∈m)))):=⟨by
 refine fn_of Tryz.func22 Tryz.ntmps22 rfl (rs:= [.tmp 3]) rfl rfl fun hb LF=>?_
 refine wf ?_
 exact end1 (.refl _)⟩
set_option maxHeartbeats 4000000 in
theorem patchsetOrder_fn (s:List Sto) (t:Tag) (l:List Dig) (u:Tag):FnC Tryz.prog 3 [.slice (s.map eSto) t,.slice (l.map eDig) u] (.raw (.bool true)):=⟨by
 refine fn_of Tryz.func3 Tryz.ntmps3 rfl (rs:= [.tmp 4]) rfl rfl fun hb LF=>?_
 have hll:l.length≤140737488355328:=(hb (.slice (l.map eDig) u) (by simp)).slice_map
 refine wf ?_
 refine pops_cutE [(22,.raw (.bool (decide (rFine s=true→10 < (l.length:Int))))),(0,.slice (s.map eSto) t),(1,.slice (l.map eDig) u)] (LF) ?_ ?_
 ·repeat' (first|(refine pwp_condD (fun h=>?_) (fun h=>?_)<;>refine wf ?_)|(refine pwp_condN (fun h=>?_) (fun h=>?_)<;>refine wf ?_)|(refine pwp_condB (fun h=>?_) (fun h=>?_)<;>refine wf ?_)|(refine pops_if (fun h=>?_) (fun h=>?_)<;>(have h2:=h;(try simp only[decide_eq_true_eq,decide_eq_false_iff_not,Bool.not_eq_true',Bool.not_eq_false']at h2);refine wf ?_)))
  all_goals (refine⟨⟨holdsB (by rfl) ?_,rfl,rfl⟩,.refl _⟩;first|(simp_all;done)|grind)
 refine wf ?_
 refine pwp_condD (fun h=>?_) (fun h=>?_)
 ·refine wf ?_
  exact end1 (.refl _)
 have hf:rFine s=true:=Classical.byContradiction fun h2=>h fun h3=>absurd h3 h2
 have hl10:l.length≤10:=by
  rcases Nat.lt_or_ge 10 l.length with h2|h2
  ·exact absurd (fun _=>by omega) h
  ·exact h2
 have v:=valid_of hf
 have i1:Small (Valid s):=⟨v⟩
 have h40:=v.close.1.1
 have i4:Small (l.length≤400):=⟨by omega⟩
 have i5:Small (s.length≤1000000):=⟨by omega⟩
 have o1:=fun t=>orderP_fn s t v.close.1 v.asc
 have hol:(rOrder s).length=s.length:=v.ranked.order
 have hnd:=order_nodup s
 have hord:=rOrder_ordered s
 generalize hO:rOrder s=O at o1 hol hnd hord
 refine wf ?_
 refine pwp_loopS (σ:=Nat) (fun i=>i≤O.length) (fun i=>O.length - i) (fun i=> [(0,.slice (s.map eSto) t),(1,.slice (l.map eDig) u),(5,.slice (O.map eDig) .ro),(26,.slice (O.map eDig) .ro),(27,.raw (.int .i64 O.length)),(28,.raw (.int .i64 i))]) (fun _=>LF) 0 (by omega) ⟨rfl,rfl,rfl,rfl,rfl,rfl⟩ (.refl _) ?_
 rintro i hi
 refine wf ?_
 refine pwp_condD (fun hc=>?_) (fun hc=>?_)
 ·have hlt:i < O.length:=by omega
  obtain⟨x,hx,ex,hn,hnot⟩:=hord i hlt
  have hg:getS s O[i]=some x.patch:=by rw[←ex];exact getS_in v.asc hx
  have c1:=fun t=>GetP_ct s t O[i]
  rw[hg]at c1
  dsimp only[Option.getD_some,Option.isSome_some]at c1
  have g1:decide (O[i]∈O.take i)=false:=decide_eq_false hnot
  have gp:Small (rBig x.patch=false):=⟨v.close.1.2 x hx⟩
  have hnl:(rNeeds x.patch).length≤1000000:=by
   have:=nodup_len (l:=rNeeds x.patch) (m:=O.take i) (rNeeds_asc _).nodup hn
   rw[List.length_take]at this;omega
  refine wz fun b7=>?_
  refine pwp_freezeD 7 ?_
  refine wz fun b8=>?_
  refine pwp_freezeD 8 ?_
  refine wf ?_
  refine pwp_condD (fun h=>absurd h hnot) (fun _=>?_)
  refine wf ?_
  generalize hN:rNeeds x.patch=needs at hn hnl
  refine pwp_loopS (σ:=Nat) (fun k=>k≤needs.length) (fun k=>needs.length - k) (fun k=> [(0,.slice (s.map eSto) t),(1,.slice (l.map eDig) u),(5,.slice (O.map eDig) .ro),(6,.raw (.int .i64 i)),(26,.slice (O.map eDig) .ro),(27,.raw (.int .i64 O.length)),(28,.raw (.int .i64 i)),(49,.slice (needs.map eDig) .ro),(50,.raw (.int .i64 needs.length)),(51,.raw (.int .i64 k))]) (fun _=>LF) 0 (by omega) ⟨rfl,rfl,rfl,rfl,rfl,rfl,rfl,rfl,rfl,rfl⟩ (.refl _) ?_
  rintro k hk
  refine wf ?_
  refine pwp_condD (fun hc2=>?_) (fun hc2=>?_)
  ·have hlk:k < needs.length:=by omega
   have g2:decide (needs[k]∈O.take i)=true:=decide_eq_true (hn _ (List.getElem_mem hlk))
   refine wz fun b11=>?_
   refine pwp_freezeD 11 ?_
   refine wf ?_
   refine pwp_condN (fun h=>absurd (of_decide_eq_true g2) h) (fun _=>?_)
   refine wf ?_
   exact⟨k+1,by dsimp only;omega,by dsimp only;omega,⟨rfl,rfl,rfl,rfl,rfl,rfl,rfl,rfl,rfl,rfl⟩,.refl _⟩
  ·refine wf ?_
   exact⟨i+1,by dsimp only;omega,by dsimp only;omega,⟨rfl,rfl,rfl,rfl,rfl,rfl⟩,.refl _⟩
 ·refine wf ?_
  refine pwp_condN (fun h=>?_) (fun _=>?_)
  ·omega
  have k1:=fun t u=>ClosureP_ct s l t u
  by_cases hA:allIn (ids s) l=true
  ·obtain⟨L,eL,hL⟩:=v.closed (allIn_iff.1 hA)
   rw[eL]at k1
   dsimp only at k1
   have hkeep:rOrder (keepS s L)=O.filter fun d=>decide (d∈L):=by rw[←hO];exact rOrder_keep v.ranked (hL.needs v)
   have vk:=hL.keep v
   have o2:=fun t=>orderP_fn (keepS s L) t vk.close.1 vk.asc
   rw[hkeep]at o2
   refine wz fun b12=>?_
   refine pwp_freezeD 12 ?_
   refine wf ?_
   refine s_callR (xs:= [.tmp 77]) [] LF (f:=21) (cs:= []) (le_func _) rfl rfl (.refl _) _ (PCalls.toB (ff:=eDig) (cloneD_fn O .ro (by omega))) fun r R1 ⟨v1,e1,hv1⟩=>?_
   subst e1
   refine wf ?_
   refine s_callR (xs:= [.tmp 78,.tmp 79]) R1 LF (f:=20) (cs:= []) (le_func _) rfl rfl (.refl _) _ (deleteD_fn 22 [.pt [.slice (L.map eDig) .ro] 0] (fun d=>!decide (d∈L)) O v1 R1 hv1 (by omega)) fun r R2 ⟨v2,e2,hv2⟩=>?_
   subst e2
   refine wo ?_
   refine pops_nil ?_
   have hml: ∀ m:List Dig,m.length≤1000→(m.map eDig).length≤maxN∧(m.map eDig).length*32≤maxN:=fun m h=>by
    have:maxN=140737488355328:=rfl
    rw[List.length_map];omega
   refine pwp_freezeB 14 hv2 (hml _ (Nat.le_trans (List.length_filter_le _ _) (by omega))) (.refl _) rfl ?_
   have ef:(O.filter fun d=>!!decide (d∈L))=O.filter fun d=>decide (d∈L):=by
    refine List.filter_congr fun d _=>?_
    rw[Bool.not_not]
   rw[ef]
   generalize O.filter (fun d=>decide (d∈L))=part at o2
   have g3:decide (part=part)=true:=decide_eq_true rfl
   refine wf ?_
   exact end1 (.of_eq rfl)
  ·rw[closure_bad hA]at k1
   dsimp only at k1
   refine wz fun b12=>?_
   refine pwp_freezeD 12 ?_
   refine wf ?_
   exact end1 (.refl _)⟩
end Go.Proofs
