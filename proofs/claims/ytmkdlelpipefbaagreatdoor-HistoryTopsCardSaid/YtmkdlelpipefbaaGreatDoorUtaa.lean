/- HistoryTops' contract: it answers true, whatever the set. -/
import Derived.Test.YtmkdlelpipefbaaGreatDoorUas
set_option linter.unusedSimpArgs false
set_option linter.unusedVariables false
namespace Go.Proofs
open Go Go.Q
attribute [local irreducible] pwp pops pAny PCalls OpN
set_option maxHeartbeats 4000000 in
theorem historyTops_fn (s:List Sto) (t:Tag):FnC Tryz.prog 4 [.slice (s.map eSto) t] (.raw (.bool true)):=⟨by
 refine fn_of Tryz.func4 Tryz.ntmps4 rfl (rs:= [.tmp 2]) rfl rfl fun hb LF=>?_
 have cf:=fun t=>Fine_ct s t
 cases hf:rFine s with
 |false=>
  rw[hf]at cf
  refine wf ?_
  exact end1 (.refl _)
 |true=>
 rw[hf]at cf
 have v:=valid_of hf
 have i1:Small (Valid s):=⟨v⟩
 have h40:=v.close.1.1
 have hT:(rTops s).length≤s.length:=by have:=(tops_sub s).length_le;rwa [ids_len]at this
 have c1:=fun t=>topsP_fn s t v (by omega)
 have hot:=fun i (hi:i < (rTops s).length)=>tops_others v hi
 have hil:(ids s).length=s.length:=ids_len s
 have c2:=fun t u=>ClosureP_ct s (rTops s) t u (hl:=⟨by omega⟩)
 rw[tops_clo v]at c2
 dsimp only at c2
 generalize ids s=D at*
 generalize rTops s=T at*
 refine wf ?_
 refine pwp_condN (fun h=>absurd (show(D.length:Int)=(s.length:Int) by omega) h) (fun _=>?_)
 refine wf ?_
 refine pwp_loopS (σ:=Nat) (fun i=>i≤T.length) (fun i=>T.length - i) (fun i=> [(0,.slice (s.map eSto) t),(3,.slice (T.map eDig) .ro),(32,.raw (.int .i64 T.length)),(33,.raw (.int .i64 i))]) (fun _=>LF) 0 (by simp) ⟨rfl,rfl,rfl,rfl⟩ (.refl _) ?_
 rintro i hi
 refine wf ?_
 refine pwp_condD (fun hc=>?_) (fun hc=>?_)
 ·have hlt:i < T.length:=by omega
  obtain⟨L,hL,hn⟩:=hot i hlt
  have c3:=fun t u=>ClosureP_ct s (T.take i++T.drop (i+1)) t u (hl:=⟨by simp only[List.length_append,List.length_take,List.length_drop];omega⟩)
  rw[hL]at c3
  dsimp only at c3
  have c4:=fun t=>Has_ct L T[i] t
  rw[decide_eq_false hn]at c4
  have e1:(i:Int)+1=((i+1:Nat):Int):=by omega
  refine wn ?_
  refine pwp_drawA [4,9,10] (by decide+kernel) ?_
  refine pAny_quiet 0 rfl (by decide+kernel) rfl (fun L'=>q_of_pops (N:=64) rfl rfl (by refine wo ?_;refine pops_nil ?_;exact⟨upd_self _ _ _,rfl⟩)) ?_
  refine pAny_quiet 1 rfl (by decide+kernel) rfl (fun L'=>q_of_pops (N:=64) rfl rfl (by refine wo ?_;refine pops_nil ?_;exact⟨upd_self _ _ _,rfl⟩)) ?_
  refine pAny_quiet 2 rfl (by decide+kernel) rfl (fun L'=>q_of_pops (N:=64) rfl rfl (by refine wo ?_;refine pops_nil ?_;exact⟨upd_self _ _ _,rfl⟩)) ?_
  refine pAny_quiet 3 rfl (by decide+kernel) rfl (fun L'=>q_of_pops (N:=64) rfl rfl (by refine wo ?_;refine pops_nil ?_;exact⟨upd_self _ _ _,rfl⟩)) ?_
  refine pAny_quiet 5 rfl (by decide+kernel) rfl (fun L'=>q_of_pops (N:=64) rfl rfl (by refine wo ?_;refine pops_nil ?_;exact⟨upd_self _ _ _,rfl⟩)) ?_
  refine pAny_quiet 6 rfl (by decide+kernel) rfl (fun L'=>q_of_pops (N:=64) rfl rfl (by refine wo ?_;refine pops_nil ?_;exact⟨upd_self _ _ _,rfl⟩)) ?_
  refine pAny_quiet 7 rfl (by decide+kernel) rfl (fun L'=>q_of_pops (N:=64) rfl rfl (by refine wo ?_;refine pops_nil ?_;exact⟨upd_self _ _ _,rfl⟩)) ?_
  rw[e1]
  refine pAny_quiet 8 rfl (by decide+kernel) rfl (fun L'=>q_of_pops (N:=64) rfl rfl (by refine wo ?_;refine pops_nil ?_;exact⟨upd_self _ _ _,rfl⟩)) ?_
  refine pAny_next (fuel:=2) [4] (by decide+kernel) (by simp) fun i hi=>?_
  simp only[List.mem_cons,List.not_mem_nil,or_false]at hi
  subst hi
  refine⟨_,rfl,?_⟩
  refine s_append0 (f:=eDig) (m:=T.take i) (by rfl) (by rfl) (by simp only[List.length_take];omega) (by simp only[List.length_take];omega) fun t1=>?_
  refine pops_nil ?_
  refine pAny_next (fuel:=1) [9] (by decide+kernel) (by simp) fun i hi=>?_
  simp only[List.mem_cons,List.not_mem_nil,or_false]at hi
  subst hi
  refine⟨_,rfl,?_⟩
  refine s_append (f:=eDig) (l:=T.take i) (m:=T.drop (i+1)) (t:=t1) rfl rfl (by simp only[List.length_take,List.length_drop];omega) (by simp only[List.length_take,List.length_drop];omega) (fun t=> .here) fun t2=>?_
  refine pops_nil ?_
  refine pAny_next (fuel:=0) [10] (by decide+kernel) (by simp) fun i hi=>?_
  simp only[List.mem_cons,List.not_mem_nil,or_false]at hi
  subst hi
  refine⟨_,rfl,?_⟩
  refine wo ?_
  refine pops_nil ?_
  refine pAny_end (by decide+kernel) ?_
  refine wf ?_
  exact⟨i+1,by omega,by dsimp only;omega,⟨rfl,rfl,rfl,rfl⟩,.cons _ (.refl _)⟩
 ·refine wf ?_
  exact end1 (.refl _)⟩
end Go.Proofs
