/- Contracts of the program: why a list is no order; the first patches of an order. -/
import Derived.Test.YtmkdlelpipefbaaGreatDoorUar
import Derived.Test.YtmkdlelpipefbaaGreatDoorUaq
import Derived.Test.YtmkdlelpipefbaaGreatDoorUap
set_option linter.unusedSimpArgs false
set_option linter.unusedVariables false
namespace Go.Proofs
open Go Go.Q
attribute [local irreducible] pwp pops pAny PCalls OpN
theorem map_nil1 {α β γ:Type} (f:α→β) (y:γ):List.map f (([]:List α),y).1= []:=rfl
set_option maxHeartbeats 4000000 in
theorem linP_fn (s:List Sto) (t:Tag) (l:List Dig) (u:Tag) (v:Valid s):FnC Tryz.prog 18 [.slice (s.map eSto) t,.slice (l.map eDig) u] (.raw (.int .i64 (rLin s l))):=⟨by
 have h40:=v.close.1.1
 refine fn_of Tryz.func18 Tryz.ntmps18 rfl (rs:= [.tmp 4]) rfl rfl fun hb LF=>?_
 have hll:l.length≤140737488355328:=(hb (.slice (l.map eDig) u) (by simp)).slice_map
 refine wfm fun m=>?_
 refine pwp_loopS (σ:=Nat × List (Dig × Bool)) (fun z=>z.1≤l.length∧MetOk z.2 (l.take z.1)∧ ∀ j,j < z.1→linE s l j=0) (fun z=>l.length - z.1) (fun z=> [(0,.slice (s.map eSto) t),(5,.raw (.map (some m))),(15,.slice (l.map eDig) u),(16,.raw (.int .i64 l.length)),(17,.raw (.int .i64 z.1))]) (fun z=> .map m (eMap kDig vBool z.2)::LF) (0,[]) ⟨by simp,fun d=>by simp[mGet],fun j h=>absurd h (Nat.not_lt_zero _)⟩ ⟨rfl,rfl,rfl,rfl,rfl⟩ (.refl _) ?_
 rintro⟨i,T⟩ ⟨hi,hT,hz⟩
 dsimp only at hi hT hz ⊢
 refine wf ?_
 refine pwp_condD (fun hc=>?_) (fun hc=>?_)
 ·have hlt:i < l.length:=by omega
  have i1:Small (rBig ((getS s l[i]).getD Pat.zero)=false):=⟨v.close.great _⟩
  have hTi:=hT l[i]
  have hTa:=hT.add l[i]
  rw[←List.take_succ_eq_append_getElem hlt]at hTa
  have hat:=fun hn=>rLin_at (s:=s) hlt hz hn
  have e7:=linE_7 (s:=s) hlt
  have e6:=linE_6 (s:=s) hlt
  have e19:=linE_19 (s:=s) hlt
  have e0:=linE_0 (s:=s) hlt
  have hnl:=nd_len v l[i]
  have hnx:=lin_next (s:=s) (l:=l) hz
  refine wz fun b7=>?_
  refine pwp_freezeD 7 ?_
  refine wz fun b8=>?_
  refine pwp_freezeD 8 ?_
  refine wf ?_
  refine pwp_condB (fun h=>?_) (fun h=>?_)
  ·have h7:=e7 (by simpa using h)
   refine wf ?_
   refine end1 (.of_eq ?_)
   rw[hat (by rw[h7];decide),h7]
  have hs:(getS s l[i]).isSome=true:=by simpa using h
  refine wf ?_
  refine pwp_condB (fun h=>?_) (fun h=>?_)
  ·rw[hTi]at h
   have h6:=e6 hs (of_decide_eq_true h)
   refine wf ?_
   refine end1 (.of_eq ?_)
   rw[hat (by rw[h6];decide),h6]
  rw[hTi]at h
  have hno:=of_decide_eq_false h
  refine wf ?_
  rw[show rNeeds ((getS s l[i]).getD Pat.zero)=ndS s l[i] from rfl]
  replace e0:=e0 hs hno
  replace e19:=e19 hs hno
  generalize ndS s l[i]=nd at e0 e19 hnl ⊢
  refine pwp_loopS (σ:=Nat) (fun j=>j≤nd.length∧ ∀ d∈nd.take j,d∈l.take i) (fun j=>nd.length - j) (fun j=> [(0,.slice (s.map eSto) t),(5,.raw (.map (some m))),(7,.pt (eDig l[i]) 0),(15,.slice (l.map eDig) u),(16,.raw (.int .i64 l.length)),(17,.raw (.int .i64 i)),(33,.slice (nd.map eDig) .ro),(34,.raw (.int .i64 nd.length)),(35,.raw (.int .i64 j))]) (fun _=> .map m (eMap kDig vBool T)::LF) 0 ⟨by simp,by simp⟩ ⟨rfl,rfl,rfl,rfl,rfl,rfl,rfl,rfl,rfl⟩ (.refl _) ?_
  rintro j ⟨hj,hin⟩
  refine wf ?_
  refine pwp_condD (fun hc=>?_) (fun hc=>?_)
  ·have hjl:j < nd.length:=by omega
   have hTj:=hT nd[j]
   refine wz fun b11=>?_
   refine pwp_freezeD 11 ?_
   refine wf ?_
   rw[hTj]
   refine pwp_condB (fun h=>?_) (fun h=>?_)
   ·have hnm:nd[j]∉l.take i:=of_decide_eq_false (by simpa using h)
    have h19:=e19 fun hall=>hnm (hall _ (List.getElem_mem hjl))
    refine wf ?_
    refine end1 (.of_eq ?_)
    rw[hat (by rw[h19];decide),h19]
   ·have hm:nd[j]∈l.take i:=of_decide_eq_true (by simpa using h)
    refine wf ?_
    refine⟨j+1,⟨by omega,fun d hd=>?_⟩,by dsimp only;omega,⟨rfl,rfl,rfl,rfl,rfl,rfl,rfl,rfl,rfl⟩,.refl _⟩
    rw[List.take_succ_eq_append_getElem hjl]at hd
    rcases List.mem_append.1 hd with hd|hd
    ·exact hin d hd
    ·rw[List.mem_singleton.1 hd];exact hm
  ·rw[List.take_of_length_le (by omega)]at hin
   refine wf ?_
   exact⟨(i+1,mSet l[i] true T),⟨by dsimp only;omega,hTa,hnx (e0 hin)⟩,by dsimp only;omega,⟨rfl,rfl,rfl,rfl,rfl⟩,.refl _⟩
 have hii:i=l.length:=by omega
 subst hii
 rw[List.take_length]at hT
 refine wf ?_
 refine pwp_loopS (σ:=Nat) (fun k=>k≤s.length∧ ∀ x∈s.take k,x.id∈l) (fun k=>s.length - k) (fun k=> [(5,.raw (.map (some m))),(47,.slice (s.map eSto) t),(48,.raw (.int .i64 s.length)),(49,.raw (.int .i64 k))]) (fun _=> .map m (eMap kDig vBool T)::LF) 0 ⟨by simp,by simp⟩ ⟨rfl,rfl,rfl,rfl⟩ (.refl _) ?_
 rintro k ⟨hk,hin⟩
 refine wf ?_
 refine pwp_condD (fun hc=>?_) (fun hc=>?_)
 ·have hlt:k < s.length:=by omega
  have hTk:=hT s[k].id
  refine wz fun b13=>?_
  refine pwp_freezeD 13 ?_
  refine wf ?_
  rw[hTk]
  refine pwp_condB (fun h=>?_) (fun h=>?_)
  ·have hnm:s[k].id∉l:=of_decide_eq_false (by simpa using h)
   refine wf ?_
   refine end1 (.of_eq ?_)
   rw[rLin_lacks v.asc hz (List.getElem_mem hlt) hnm]
  ·have hm:s[k].id∈l:=of_decide_eq_true (by simpa using h)
   refine wf ?_
   refine⟨k+1,⟨by omega,fun x hx=>?_⟩,by dsimp only;omega,⟨rfl,rfl,rfl,rfl⟩,.refl _⟩
   rw[List.take_succ_eq_append_getElem hlt]at hx
   rcases List.mem_append.1 hx with hx|hx
   ·exact hin x hx
   ·rw[List.mem_singleton.1 hx];exact hm
 ·rw[List.take_of_length_le (by omega)]at hin
  refine wf ?_
  refine end1 (.of_eq ?_)
  rw[rLin_has v.asc hz hin]⟩
theorem lin_len {s:List Sto} {l:List Dig} (v:Valid s) (h:rLin s l=0):l.length=s.length:=((lin_iff v.asc).1 h).len v.asc
set_option maxHeartbeats 4000000 in
theorem prefixP_fn (s:List Sto) (t:Tag) (l:List Dig) (u:Tag) (n:Int) (v:Valid s):FnC Tryz.prog 19 [.slice (s.map eSto) t,.slice (l.map eDig) u,.raw (.int .i64 n)] (.tuple [.slice ((rPrefix s l n).1.map eSto) .ro,.raw (.int .i64 (rPrefix s l n).2)]):=⟨by
 have h40:=v.close.1.1
 have c1:=fun t u=>linP_fn s t l u v
 have kl:Small (s.length≤1000000):=⟨by omega⟩
 refine fn_of Tryz.func19 Tryz.ntmps19 rfl (rs:= [.tmp 6,.tmp 7]) rfl rfl fun hb LF=>?_
 have hll:l.length≤140737488355328:=(hb (.slice (l.map eDig) u) (by simp)).slice_map
 unfold rPrefix
 by_cases h1:rLin s l≠0
 ·rw[if_pos h1]
  generalize rLin s l=e at c1 h1 ⊢
  refine wf ?_
  refine pwp_condN (fun _=>?_) (fun h=>absurd h h1)
  refine wf ?_
  rw[map_nil1]
  exact end2 (.tuple2 (.ro _ _) (.refl _))
 ·rw[if_neg h1]
  rw[Classical.not_not.1 h1]at c1
  refine wf ?_
  refine pops_if (fun hp=>?_) (fun hp=>?_)
  ·rw[if_pos (.inl (of_decide_eq_true hp))]
   refine wf ?_
   rw[map_nil1]
   exact end2 (.tuple2 (.ro _ _) (.refl _))
  have h2:=of_decide_eq_false hp
  obtain⟨k,rfl⟩: ∃ k:Nat,n=k:=⟨n.toNat,by omega⟩
  refine wf ?_
  refine pwp_condD (fun h=>?_) (fun h=>?_)
  ·rw[if_pos (.inr (by omega))]
   refine wf ?_
   rw[map_nil1]
   exact end2 (.tuple2 (.ro _ _) (.refl _))
  rw[if_neg (by omega),Int.toNat_natCast]
  have hk:k≤l.length:=by omega
  refine wf ?_
  exact end2 (.refl _)⟩
end Go.Proofs
namespace Go.Proofs
open Go Go.Q
attribute [local irreducible] pwp pops pAny PCalls OpN
theorem hszD (m:List Dig): ∀ e∈m.map eDig,e.length=32:=fun e he=>by obtain⟨a,_,rfl⟩:=List.mem_map.1 he;simp
theorem dsub (l:List Dig) (rest:List PV) {i:Nat} (hi:i < l.length):Sub ((l.map eDig).flatten++rest) (0+i*32) 32 (eDig l[i]):=by
 have:=flat_sub (rest:=rest) (hszD l) (i:=i) (by rw[List.length_map];omega)
 rwa [List.getElem_map]at this
theorem dput (l:List Dig) (rest:List PV) {i:Nat} (hi:i < l.length) (d:Dig):Put ((l.map eDig).flatten++rest) (0+i*32) (eDig d) (((l.set i d).map eDig).flatten++rest):=by
 have:=flat_put (rest:=rest) (new:=eDig d) (hszD l) (i:=i) (by rw[List.length_map];omega) (by simp)
 rwa [←List.map_set]at this
theorem swapD_eq {l:List Dig} {i:Nat} (hi:i+1 < l.length):swapD l i=(l.set i l[i+1]).set (i+1) l[i]:=by
 unfold swapD
 rw[getD_get hi,getD_get (show i < l.length by omega)]
theorem drow {r c n:Nat} {l:List Dig} {rest:List PV} (hn:l.length=n) (hc:n≤c) (h:n*32+rest.length=c*32):RowB 25 32 (.slice (some ⟨r,0,none⟩) n c) (l.map eDig) [.box r 25 ((l.map eDig).flatten++rest)]:=by
 refine .row (by simpa using hn) hc (hszD _) ?_
 rw[flatten_len (hszD _),List.length_map,hn];exact h
set_option maxHeartbeats 8000000 in
theorem swapH_fn (s:List Sto) (t:Tag) (l:List Dig) (u:Tag) (i:Int) (v:Valid s):FnC Tryz.prog 24 [.slice (s.map eSto) t,.slice (l.map eDig) u,.raw (.int .i64 i)] (.tuple [.slice ((rSwap s l i).1.map eDig) .ro,.raw (.bool (rSwap s l i).2)]):=⟨by
 have h40:=v.close.1.1
 have iv:Small (Valid s):=⟨v⟩
 have c1:=fun t u=>linP_fn s t l u v
 refine fn_of Tryz.func24 Tryz.ntmps24 rfl (rs:= [.tmp 6,.tmp 7]) rfl rfl fun hb LF=>?_
 have hll:l.length≤140737488355328:=(hb (.slice (l.map eDig) u) (by simp)).slice_map
 unfold rSwap
 by_cases h1:rLin s l≠0
 ·rw[if_pos (.inl h1)]
  generalize rLin s l=e at c1 h1
  have g:(!decide (e=0))=true:=by simpa using h1
  refine wf ?_
  rw[map_nil1]
  exact end2 (.tuple2 (.ro _ _) (.refl _))
 have h1:=Classical.not_not.1 h1
 have hls:=lin_len v h1
 rw[h1]at c1 ⊢
 refine wf ?_
 refine pops_if (fun hp=>?_) (fun hp=>?_)
 ·rw[if_pos (.inr (.inl (of_decide_eq_true hp)))]
  refine wf ?_
  rw[map_nil1]
  exact end2 (.tuple2 (.ro _ _) (.refl _))
 have h2:=of_decide_eq_false hp
 obtain⟨n,rfl⟩: ∃ n:Nat,i=n:=⟨i.toNat,by omega⟩
 refine wf ?_
 refine pops_if (fun hp=>?_) (fun hp=>?_)
 ·have h3:=of_decide_eq_true hp
  rw[if_pos (.inr (.inr (by omega)))]
  refine wf ?_
  rw[map_nil1]
  exact end2 (.tuple2 (.ro _ _) (.refl _))
 have h3:=of_decide_eq_false hp
 have hn:n+1 < l.length:=by omega
 have hn0:n < l.length:=by omega
 have e1:(n:Int)+1=((n+1:Nat):Int):=by omega
 rw[if_neg (by omega),Int.toNat_natCast,getD_get hn0,getD_get hn]
 refine wf ?_
 refine pwp_condD (fun h=>?_) (fun h=>?_)
 ·rw[if_pos h]
  refine wf ?_
  rw[map_nil1]
  exact end2 (.tuple2 (.ro _ _) (.refl _))
 rw[if_neg h]
 refine wf ?_
 refine s_callR (xs:= [.tmp 37]) [] LF (f:=48) (cs:= []) (le_func _) rfl rfl (.refl _) _ (PCalls.toB (ff:=eDig) (cloneD_fn l u (by omega))) fun r L' ⟨w,e,hw⟩=>?_
 subst e
 obtain⟨⟨o,c,rfl⟩,_⟩:=hw.slice
 obtain⟨r,rest,rfl,rfl,_,hlc,_,hcl⟩:=hw.inv (by rw[List.length_map];omega)
 rw[List.length_map]at hlc ⊢
 rw[List.cons_append,List.nil_append]
 rw[flatten_len (hszD _),List.length_map]at hcl
 refine wo ?_
 refine pops_nil ?_
 refine wn ?_
 have s1:=dsub l rest hn0
 have s2:=dsub l rest hn
 have p1:=dput l rest hn0 l[n+1]
 have p2:=dput (l.set n l[n+1]) rest (i:=n+1) (by rw[List.length_set];exact hn) l[n]
 rw[←swapD_eq hn]at p2
 refine pwp_joinG (σ:=Unit) (fun _=>True) (fun _=> [(8,.raw (.slice (some ⟨r,0,none⟩) l.length c))]) (fun _=> .box r 25 (((swapD l n).map eDig).flatten++rest)::LF) ?_ ?_
 ·refine pwp_drawA [9,13,15,17] (by decide+kernel) ?_
  refine pAny_quiet 0 rfl (by decide+kernel) rfl (fun L'=>q_of_pops (N:=56) rfl rfl (by refine wo ?_;refine pops_nil ?_;exact⟨upd_self _ _ _,rfl⟩)) ?_
  refine pAny_quiet 1 rfl (by decide+kernel) rfl (fun L'=>q_of_pops (N:=56) rfl rfl (by refine wo ?_;refine pops_nil ?_;exact⟨upd_self _ _ _,rfl⟩)) ?_
  refine pAny_quiet 2 rfl (by decide+kernel) rfl (fun L'=>q_of_pops (N:=56) rfl rfl (by refine wo ?_;refine pops_nil ?_;exact⟨upd_self _ _ _,rfl⟩)) ?_
  refine pAny_quiet 3 rfl (by decide+kernel) rfl (fun L'=>q_of_pops (N:=56) rfl rfl (by refine wo ?_;refine pops_nil ?_;exact⟨upd_self _ _ _,rfl⟩)) ?_
  refine pAny_quiet 4 rfl (by decide+kernel) rfl (fun L'=>q_of_pops (N:=56) rfl rfl (by refine wo ?_;refine pops_nil ?_;exact⟨upd_self _ _ _,rfl⟩)) ?_
  refine pAny_quiet 5 rfl (by decide+kernel) rfl (fun L'=>q_of_pops (N:=56) rfl rfl (by refine wo ?_;refine pops_nil ?_;exact⟨upd_self _ _ _,rfl⟩)) ?_
  refine pAny_quiet 6 rfl (by decide+kernel) rfl (fun L'=>q_of_pops (N:=56) rfl rfl (by refine wo ?_;refine pops_nil ?_;exact⟨upd_self _ _ _,rfl⟩)) ?_
  refine pAny_quiet 7 rfl (by decide+kernel) rfl (fun L'=>q_of_pops (N:=56) rfl rfl (by refine wo ?_;refine pops_nil ?_;exact⟨upd_self _ _ _,rfl⟩)) ?_
  rw[e1]
  refine pAny_quiet 8 rfl (by decide+kernel) rfl (fun L'=>q_of_pops (N:=56) rfl rfl (by refine s_ixRow (k:=n+1) rfl rfl hn ?_;refine pops_nil ?_;exact⟨upd_self _ _ _,rfl⟩)) ?_
  refine pAny_quiet 10 rfl (by decide+kernel) rfl (fun L'=>q_of_pops (N:=56) rfl rfl (by refine wo ?_;refine pops_nil ?_;exact⟨upd_self _ _ _,rfl⟩)) ?_
  refine pAny_quiet 11 rfl (by decide+kernel) rfl (fun L'=>q_of_pops (N:=56) rfl rfl (by refine wo ?_;refine pops_nil ?_;exact⟨upd_self _ _ _,rfl⟩)) ?_
  refine pAny_quiet 12 rfl (by decide+kernel) rfl (fun L'=>q_of_pops (N:=56) rfl rfl (by refine s_ixRow (k:=n) rfl rfl hn0 ?_;refine pops_nil ?_;exact⟨upd_self _ _ _,rfl⟩)) ?_
  refine pAny_next (fuel:=5) [9,13] (by decide+kernel) (by simp) fun k hk=>?_
  simp only[List.mem_cons,List.not_mem_nil,or_false]at hk
  rcases hk with rfl|rfl
  ·refine⟨_,rfl,?_⟩
   refine s_loadBF rfl List.mem_cons_self (hs:=s2) ?_
   refine pops_nil ?_
   refine pAny_next (fuel:=4) [13] (by decide+kernel) (by simp) fun i hi=>?_
   simp only[List.mem_cons,List.not_mem_nil,or_false]at hi
   subst hi
   refine⟨_,rfl,?_⟩
   refine s_loadBF rfl List.mem_cons_self (hs:=s1) ?_
   refine pops_nil ?_
   refine pAny_quiet 14 rfl (by decide+kernel) rfl (fun L'=>q_of_pops (N:=56) rfl rfl (by refine s_ixRow (k:=n) rfl rfl hn0 ?_;refine pops_nil ?_;exact⟨upd_self _ _ _,rfl⟩)) ?_
   refine pAny_next (fuel:=2) [15] (by decide+kernel) (by simp) fun i hi=>?_
   simp only[List.mem_cons,List.not_mem_nil,or_false]at hi
   subst hi
   refine⟨_,rfl,?_⟩
   refine wo ?_
   refine pops_nil ?_
   refine pAny_quiet 16 rfl (by decide+kernel) rfl (fun L'=>q_of_pops (N:=56) rfl rfl (by refine s_ixRow (k:=n+1) rfl rfl hn ?_;refine pops_nil ?_;exact⟨upd_self _ _ _,rfl⟩)) ?_
   refine pAny_next (fuel:=0) [17] (by decide+kernel) (by simp) fun i hi=>?_
   simp only[List.mem_cons,List.not_mem_nil,or_false]at hi
   subst hi
   refine⟨_,rfl,?_⟩
   refine wo ?_
   refine pops_nil ?_
   refine pAny_end (by decide+kernel) ?_
   exact⟨(),trivial,rfl,.refl _⟩
  ·refine⟨_,rfl,?_⟩
   refine s_loadBF rfl List.mem_cons_self (hs:=s1) ?_
   refine pops_nil ?_
   refine pAny_next (fuel:=4) [9] (by decide+kernel) (by simp) fun i hi=>?_
   simp only[List.mem_cons,List.not_mem_nil,or_false]at hi
   subst hi
   refine⟨_,rfl,?_⟩
   refine s_loadBF rfl List.mem_cons_self (hs:=s2) ?_
   refine pops_nil ?_
   refine pAny_quiet 14 rfl (by decide+kernel) rfl (fun L'=>q_of_pops (N:=56) rfl rfl (by refine s_ixRow (k:=n) rfl rfl hn0 ?_;refine pops_nil ?_;exact⟨upd_self _ _ _,rfl⟩)) ?_
   refine pAny_next (fuel:=2) [15] (by decide+kernel) (by simp) fun i hi=>?_
   simp only[List.mem_cons,List.not_mem_nil,or_false]at hi
   subst hi
   refine⟨_,rfl,?_⟩
   refine wo ?_
   refine pops_nil ?_
   refine pAny_quiet 16 rfl (by decide+kernel) rfl (fun L'=>q_of_pops (N:=56) rfl rfl (by refine s_ixRow (k:=n+1) rfl rfl hn ?_;refine pops_nil ?_;exact⟨upd_self _ _ _,rfl⟩)) ?_
   refine pAny_next (fuel:=0) [17] (by decide+kernel) (by simp) fun i hi=>?_
   simp only[List.mem_cons,List.not_mem_nil,or_false]at hi
   subst hi
   refine⟨_,rfl,?_⟩
   refine wo ?_
   refine pops_nil ?_
   refine pAny_end (by decide+kernel) ?_
   exact⟨(),trivial,rfl,.refl _⟩
 rintro _ _
 have hsl:(swapD l n).length=l.length:=swapD_len l n
 refine pwp_freezeB 8 (drow hsl hlc hcl) ⟨by rw[List.length_map,hsl];unfold maxN;omega,by rw[List.length_map,hsl];unfold maxN;omega⟩ (.refl _) rfl ?_
 refine wf ?_
 exact end2 (.refl _)⟩
set_option maxHeartbeats 16000000 in
theorem moveH_fn (s:List Sto) (t:Tag) (l:List Dig) (u:Tag) (a b:Int) (v:Valid s):FnC Tryz.prog 23 [.slice (s.map eSto) t,.slice (l.map eDig) u,.raw (.int .i64 a),.raw (.int .i64 b)] (.tuple [.slice ((rMove s l a b).1.map eDig) .ro,.raw (.bool (rMove s l a b).2)]):=⟨by
 have h40:=v.close.1.1
 have iv:Small (Valid s):=⟨v⟩
 have c1:=fun t u=>linP_fn s t l u v
 refine fn_of Tryz.func23 Tryz.ntmps23 rfl (rs:= [.tmp 8,.tmp 9]) rfl rfl fun hb LF=>?_
 have hll:l.length≤140737488355328:=(hb (.slice (l.map eDig) u) (by simp)).slice_map
 unfold rMove
 by_cases h1:rLin s l≠0
 ·rw[if_pos (.inl h1)]
  generalize rLin s l=e at c1 h1
  have g:(!decide (e=0))=true:=by simpa using h1
  refine wf ?_
  rw[map_nil1]
  exact end2 (.tuple2 (.ro _ _) (.refl _))
 have h1:=Classical.not_not.1 h1
 have hls:=lin_len v h1
 rw[h1]at c1 ⊢
 refine wf ?_
 refine pops_if (fun hp=>?_) (fun hp=>?_)
 ·rw[if_pos (.inr (.inl (.inl (of_decide_eq_true hp))))]
  refine wf ?_
  rw[map_nil1]
  exact end2 (.tuple2 (.ro _ _) (.refl _))
 have h2:=of_decide_eq_false hp
 obtain⟨n,rfl⟩: ∃ n:Nat,a=n:=⟨a.toNat,by omega⟩
 refine wf ?_
 refine pops_if (fun hp=>?_) (fun hp=>?_)
 ·have h3:=of_decide_eq_true hp
  rw[if_pos (.inr (.inl (.inr (by omega))))]
  refine wf ?_
  rw[map_nil1]
  exact end2 (.tuple2 (.ro _ _) (.refl _))
 have h3:=of_decide_eq_false hp
 have hn:n < l.length:=by omega
 refine wf ?_
 refine pops_if (fun hp=>?_) (fun hp=>?_)
 ·have h4:=of_decide_eq_true hp
  rw[if_pos (.inr (.inr (.inl (by omega))))]
  refine wf ?_
  rw[map_nil1]
  exact end2 (.tuple2 (.ro _ _) (.refl _))
 have h4:=of_decide_eq_false hp
 obtain⟨q,rfl⟩: ∃ q:Nat,b=q:=⟨b.toNat,by omega⟩
 refine wf ?_
 refine pwp_condD (fun h=>?_) (fun h=>?_)
 ·rw[if_pos (.inr (.inr (.inr (by omega))))]
  refine wf ?_
  rw[map_nil1]
  exact end2 (.tuple2 (.ro _ _) (.refl _))
 have hq:q < l.length:=by omega
 rw[if_neg (by omega),Int.toNat_natCast,Int.toNat_natCast]
 refine wf ?_
 refine s_callR (xs:= [.tmp 36]) [] LF (f:=48) (cs:= []) (le_func _) rfl rfl (.refl _) _ (PCalls.toB (ff:=eDig) (cloneD_fn l u (by omega))) fun r L' ⟨w,e,hw⟩=>?_
 subst e
 obtain⟨⟨o,c,rfl⟩,_⟩:=hw.slice
 obtain⟨r,rest,rfl,rfl,_,hlc,_,hcl⟩:=hw.inv (by rw[List.length_map];omega)
 rw[List.length_map]at hlc ⊢
 rw[flatten_len (hszD _),List.length_map]at hcl
 refine wf ?_
 refine pwp_loopS (σ:=Nat × List Dig) (fun z=>mvF s (dst n q) l n q=mvF s (dst z.1 q) z.2 z.1 q∧z.2.length=l.length∧z.1 < l.length) (fun z=>dst z.1 q) (fun z=> [(0,.slice (s.map eSto) t),(2,.raw (.int .i64 z.1)),(3,.raw (.int .i64 q)),(10,.raw (.slice (some ⟨r,0,none⟩) l.length c))]) (fun z=> .box r 25 ((z.2.map eDig).flatten++rest)::LF) (n,l) ⟨rfl,rfl,hn⟩ ⟨rfl,rfl,rfl,rfl⟩ (.refl _) ?_
 rintro⟨k,m⟩ ⟨he,hm,hk⟩
 dsimp only at he hm hk ⊢
 rw[he]
 clear he
 refine wf ?_
 refine pwp_condN (fun h=>?_) (fun h=>?_)
 ·have hkq:k≠q:=fun e=>h (by rw[e])
  obtain⟨i,hi⟩: ∃ i,i=if q < k then k - 1 else k:=⟨_,rfl⟩
  have hi1:i+1 < l.length:=by
   rw[hi];split<;>omega
  have hi0:i < l.length:=by omega
  refine wf ?_
  refine pwp_joinG (σ:=Unit) (fun _=>True) (fun _=> [(0,.slice (s.map eSto) t),(2,.raw (.int .i64 k)),(3,.raw (.int .i64 q)),(10,.raw (.slice (some ⟨r,0,none⟩) l.length c)),(11,.raw (.int .i64 i))]) (fun _=> .box r 25 ((m.map eDig).flatten++rest)::LF) ?_ ?_
  ·refine pwp_condD (fun h=>?_) (fun h=>?_)
   ·have ei:(k:Int) - 1=(i:Int):=by rw[hi,if_pos (by omega)];omega
    refine wf ?_
    rw[ei]
    exact⟨(),trivial,⟨rfl,rfl,rfl,rfl,rfl⟩,.refl _⟩
   ·have ei:i=k:=by rw[hi,if_neg (by omega)]
    rw[ei]
    refine wf ?_
    exact⟨(),trivial,⟨rfl,rfl,rfl,rfl,rfl⟩,.refl _⟩
  rintro _ _
  have hmv:mvF s (dst k q) m k q=if m.getD i Dig.zero∈ndS s (m.getD (i+1) Dig.zero)then none else mvF s (dst (if q < k then k - 1 else k+1) q) (swapD m i) (if q < k then k - 1 else k+1) q:=by
   by_cases hqk:q < k
   ·rw[mv_dn hqk,hi,if_pos hqk,if_pos hqk,show k - 1+1=k by omega]
   ·rw[mv_up (show k < q by omega),hi,if_neg hqk,if_neg hqk]
  have e1:(i:Int)+1=((i+1:Nat):Int):=by omega
  have hm1:i+1 < m.length:=by omega
  have hm0:i < m.length:=by omega
  have s1:=dsub m rest hm0
  have s2:=dsub m rest hm1
  rw[getD_get hm0,getD_get hm1]at hmv
  rw[hmv]
  refine wn ?_
  refine pwp_drawQ (by decide+kernel) ?_
  refine wo ?_
  rw[e1]
  refine s_ixRow (k:=i+1) rfl rfl hi1 ?_
  refine s_loadBF rfl List.mem_cons_self (hs:=s2) ?_
  refine wo ?_
  refine s_ixRow (k:=i) rfl rfl hi0 ?_
  refine s_loadBF rfl List.mem_cons_self (hs:=s1) ?_
  refine wo ?_
  refine pops_nil ?_
  refine wn ?_
  refine pwp_condD (fun h=>?_) (fun h=>?_)
  ·rw[if_pos h]
   refine wf ?_
   rw[map_nil1]
   exact end2 (.tuple2 (.ro _ _) (.refl _))
  rw[if_neg h]
  have p1:=dput m rest hm0 m[i+1]
  have p2:=dput (m.set i m[i+1]) rest (i:=i+1) (by rw[List.length_set];exact hm1) m[i]
  rw[←swapD_eq hm1]at p2
  refine wn ?_
  refine pwp_joinG (σ:=Unit) (fun _=>True) (fun _=> [(0,.slice (s.map eSto) t),(2,.raw (.int .i64 k)),(3,.raw (.int .i64 q)),(10,.raw (.slice (some ⟨r,0,none⟩) l.length c))]) (fun _=> .box r 25 (((swapD m i).map eDig).flatten++rest)::LF) ?_ ?_
  ·refine pwp_drawA [9,13,15,17] (by decide+kernel) ?_
   refine pAny_quiet 0 rfl (by decide+kernel) rfl (fun L'=>q_of_pops (N:=82) rfl rfl (by refine wo ?_;refine pops_nil ?_;exact⟨upd_self _ _ _,rfl⟩)) ?_
   refine pAny_quiet 1 rfl (by decide+kernel) rfl (fun L'=>q_of_pops (N:=82) rfl rfl (by refine wo ?_;refine pops_nil ?_;exact⟨upd_self _ _ _,rfl⟩)) ?_
   refine pAny_quiet 2 rfl (by decide+kernel) rfl (fun L'=>q_of_pops (N:=82) rfl rfl (by refine wo ?_;refine pops_nil ?_;exact⟨upd_self _ _ _,rfl⟩)) ?_
   refine pAny_quiet 3 rfl (by decide+kernel) rfl (fun L'=>q_of_pops (N:=82) rfl rfl (by refine wo ?_;refine pops_nil ?_;exact⟨upd_self _ _ _,rfl⟩)) ?_
   refine pAny_quiet 4 rfl (by decide+kernel) rfl (fun L'=>q_of_pops (N:=82) rfl rfl (by refine wo ?_;refine pops_nil ?_;exact⟨upd_self _ _ _,rfl⟩)) ?_
   refine pAny_quiet 5 rfl (by decide+kernel) rfl (fun L'=>q_of_pops (N:=82) rfl rfl (by refine wo ?_;refine pops_nil ?_;exact⟨upd_self _ _ _,rfl⟩)) ?_
   refine pAny_quiet 6 rfl (by decide+kernel) rfl (fun L'=>q_of_pops (N:=82) rfl rfl (by refine wo ?_;refine pops_nil ?_;exact⟨upd_self _ _ _,rfl⟩)) ?_
   refine pAny_quiet 7 rfl (by decide+kernel) rfl (fun L'=>q_of_pops (N:=82) rfl rfl (by refine wo ?_;refine pops_nil ?_;exact⟨upd_self _ _ _,rfl⟩)) ?_
   rw[e1]
   refine pAny_quiet 8 rfl (by decide+kernel) rfl (fun L'=>q_of_pops (N:=82) rfl rfl (by refine s_ixRow (k:=i+1) rfl rfl hi1 ?_;refine pops_nil ?_;exact⟨upd_self _ _ _,rfl⟩)) ?_
   refine pAny_quiet 10 rfl (by decide+kernel) rfl (fun L'=>q_of_pops (N:=82) rfl rfl (by refine wo ?_;refine pops_nil ?_;exact⟨upd_self _ _ _,rfl⟩)) ?_
   refine pAny_quiet 11 rfl (by decide+kernel) rfl (fun L'=>q_of_pops (N:=82) rfl rfl (by refine wo ?_;refine pops_nil ?_;exact⟨upd_self _ _ _,rfl⟩)) ?_
   refine pAny_quiet 12 rfl (by decide+kernel) rfl (fun L'=>q_of_pops (N:=82) rfl rfl (by refine s_ixRow (k:=i) rfl rfl hi0 ?_;refine pops_nil ?_;exact⟨upd_self _ _ _,rfl⟩)) ?_
   refine pAny_next (fuel:=5) [9,13] (by decide+kernel) (by simp) fun k' hk'=>?_
   simp only[List.mem_cons,List.not_mem_nil,or_false]at hk'
   rcases hk' with rfl|rfl
   ·refine⟨_,rfl,?_⟩
    refine s_loadBF rfl List.mem_cons_self (hs:=s2) ?_
    refine pops_nil ?_
    refine pAny_next (fuel:=4) [13] (by decide+kernel) (by simp) fun i hi=>?_
    simp only[List.mem_cons,List.not_mem_nil,or_false]at hi
    subst hi
    refine⟨_,rfl,?_⟩
    refine s_loadBF rfl List.mem_cons_self (hs:=s1) ?_
    refine pops_nil ?_
    refine pAny_quiet 14 rfl (by decide+kernel) rfl (fun L'=>q_of_pops (N:=82) rfl rfl (by refine s_ixRow (k:=i) rfl rfl hi0 ?_;refine pops_nil ?_;exact⟨upd_self _ _ _,rfl⟩)) ?_
    refine pAny_next (fuel:=2) [15] (by decide+kernel) (by simp) fun i hi=>?_
    simp only[List.mem_cons,List.not_mem_nil,or_false]at hi
    subst hi
    refine⟨_,rfl,?_⟩
    refine wo ?_
    refine pops_nil ?_
    refine pAny_quiet 16 rfl (by decide+kernel) rfl (fun L'=>q_of_pops (N:=82) rfl rfl (by refine s_ixRow (k:=i+1) rfl rfl hi1 ?_;refine pops_nil ?_;exact⟨upd_self _ _ _,rfl⟩)) ?_
    refine pAny_next (fuel:=0) [17] (by decide+kernel) (by simp) fun i hi=>?_
    simp only[List.mem_cons,List.not_mem_nil,or_false]at hi
    subst hi
    refine⟨_,rfl,?_⟩
    refine wo ?_
    refine pops_nil ?_
    refine pAny_end (by decide+kernel) ?_
    exact⟨(),trivial,⟨rfl,rfl,rfl,rfl⟩,.refl _⟩
   ·refine⟨_,rfl,?_⟩
    refine s_loadBF rfl List.mem_cons_self (hs:=s1) ?_
    refine pops_nil ?_
    refine pAny_next (fuel:=4) [9] (by decide+kernel) (by simp) fun i hi=>?_
    simp only[List.mem_cons,List.not_mem_nil,or_false]at hi
    subst hi
    refine⟨_,rfl,?_⟩
    refine s_loadBF rfl List.mem_cons_self (hs:=s2) ?_
    refine pops_nil ?_
    refine pAny_quiet 14 rfl (by decide+kernel) rfl (fun L'=>q_of_pops (N:=82) rfl rfl (by refine s_ixRow (k:=i) rfl rfl hi0 ?_;refine pops_nil ?_;exact⟨upd_self _ _ _,rfl⟩)) ?_
    refine pAny_next (fuel:=2) [15] (by decide+kernel) (by simp) fun i hi=>?_
    simp only[List.mem_cons,List.not_mem_nil,or_false]at hi
    subst hi
    refine⟨_,rfl,?_⟩
    refine wo ?_
    refine pops_nil ?_
    refine pAny_quiet 16 rfl (by decide+kernel) rfl (fun L'=>q_of_pops (N:=82) rfl rfl (by refine s_ixRow (k:=i+1) rfl rfl hi1 ?_;refine pops_nil ?_;exact⟨upd_self _ _ _,rfl⟩)) ?_
    refine pAny_next (fuel:=0) [17] (by decide+kernel) (by simp) fun i hi=>?_
    simp only[List.mem_cons,List.not_mem_nil,or_false]at hi
    subst hi
    refine⟨_,rfl,?_⟩
    refine wo ?_
    refine pops_nil ?_
    refine pAny_end (by decide+kernel) ?_
    exact⟨(),trivial,⟨rfl,rfl,rfl,rfl⟩,.refl _⟩
  rintro _ _
  have hsl:(swapD m i).length=l.length:=by rw[swapD_len];exact hm
  refine wf ?_
  refine pwp_condD (fun h=>?_) (fun h=>?_)
  ·have hqk:q < k:=by omega
   rw[if_pos hqk]
   have ek:(k:Int) - 1=((k - 1:Nat):Int):=by omega
   refine wf ?_
   rw[ek]
   exact⟨(k - 1,swapD m i),⟨rfl,hsl,by dsimp only;omega⟩,by dsimp only;unfold dst;omega,⟨rfl,rfl,rfl,rfl⟩,.refl _⟩
  ·have hqk: ¬q < k:=by omega
   rw[if_neg hqk]
   refine wf ?_
   exact⟨(k+1,swapD m i),⟨rfl,hsl,by dsimp only;omega⟩,by dsimp only;unfold dst;omega,⟨rfl,rfl,rfl,rfl⟩,.refl _⟩
 ·have hkq:k=q:=by omega
  rw[hkq,mv_eq]
  refine pwp_freezeB 10 (drow hm hlc hcl) ⟨by rw[List.length_map,hm];unfold maxN;omega,by rw[List.length_map,hm];unfold maxN;omega⟩ (.refl _) rfl ?_
  refine wf ?_
  exact end2 (.refl _)⟩
end Go.Proofs
namespace Go.Proofs
open Go Go.Q
attribute [local irreducible] pwp pops pAny PCalls OpN
theorem ready_fn (p:Pat) (l:List Dig) (t:Tag) (hp:rBig p=false) (hl:(rNeeds p).length≤40):FnC Tryz.prog 101 [.agg (ePat p),.slice (l.map eDig) t] (.raw (.bool (allIn l (rNeeds p)))):=⟨by
 have i1:Small (rBig p=false):=⟨hp⟩
 refine fn_of Tryz.func101 Tryz.ntmps101 rfl (rs:= [.tmp 4]) rfl rfl fun hb LF=>?_
 refine wf ?_
 generalize rNeeds p=nd at hl ⊢
 refine pwp_loopS (σ:=Nat) (fun k=>k≤nd.length∧ ∀ d∈nd.take k,d∈l) (fun k=>nd.length - k) (fun k=> [(1,.slice (l.map eDig) t),(5,.slice (nd.map eDig) .ro),(6,.raw (.int .i64 k))]) (fun _=>LF) 0 ⟨by simp,by simp⟩ ⟨rfl,rfl,rfl⟩ (.refl _) ?_
 rintro k ⟨hk,hin⟩
 refine wf ?_
 refine pwp_condD (fun hc=>?_) (fun hc=>?_)
 ·have hlt:k < nd.length:=by omega
  refine wf ?_
  refine pwp_condN (fun h=>?_) (fun h=>?_)
  ·have hn:nd[k]∉l:=h
   refine wf ?_
   refine end1 (.of_eq ?_)
   rw[show allIn l nd=false from by
    cases hA:allIn l nd with
    |false=>rfl
    |true=>exact absurd (allIn_iff.1 hA _ (List.getElem_mem hlt)) hn]
  ·have hm:nd[k]∈l:=h
   refine wf ?_
   refine⟨k+1,⟨by omega,fun d hd=>?_⟩,by dsimp only;omega,⟨rfl,rfl,rfl⟩,.refl _⟩
   rw[List.take_succ_eq_append_getElem hlt]at hd
   rcases List.mem_append.1 hd with hd|hd
   ·exact hin d hd
   ·rw[List.mem_singleton.1 hd];exact hm
 ·rw[List.take_of_length_le (by omega)]at hin
  refine wf ?_
  rw[allIn_iff.2 hin]
  exact end1 (.refl _)⟩
set_option maxHeartbeats 4000000 in
theorem linR_fn (s:List Sto) (t:Tag) (l:List Dig) (u:Tag) (v:Valid s):FnC Tryz.prog 60 [.slice (s.map eSto) t,.slice (l.map eDig) u] (.raw (.int .i64 (rLin s l))):=⟨by
 have h40:=v.close.1.1
 refine fn_of Tryz.func60 Tryz.ntmps60 rfl (rs:= [.tmp 4]) rfl rfl fun hb LF=>?_
 have hll:l.length≤140737488355328:=(hb (.slice (l.map eDig) u) (by simp)).slice_map
 refine wf ?_
 refine pwp_loopS (σ:=Nat) (fun i=>i≤l.length∧ ∀ j,j < i→linE s l j=0) (fun i=>l.length - i) (fun i=> [(0,.slice (s.map eSto) t),(1,.slice (l.map eDig) u),(5,.raw (.int .i64 i))]) (fun _=>LF) 0 ⟨by simp,fun j h=>absurd h (Nat.not_lt_zero _)⟩ ⟨rfl,rfl,rfl⟩ (.refl _) ?_
 rintro i ⟨hi,hz⟩
 refine wf ?_
 refine pwp_condD (fun hc=>?_) (fun hc=>?_)
 ·have hlt:i < l.length:=by omega
  have hat:=fun hn=>rLin_at (s:=s) hlt hz hn
  have e7:=linE_7 (s:=s) hlt
  have e6:=linE_6 (s:=s) hlt
  have e19:=linE_19 (s:=s) hlt
  have e0:=linE_0 (s:=s) hlt
  have hnx:=lin_next (s:=s) (l:=l) hz
  have c1:=fun m t=>ready_fn ((getS s l[i]).getD Pat.zero) m t (v.close.great _) (nd_len v l[i])
  refine wz fun b6=>?_
  refine pwp_freezeD 6 ?_
  refine wf ?_
  refine pwp_condB (fun h=>?_) (fun h=>?_)
  ·have h7:=e7 (by simpa using h)
   refine wf ?_
   refine end1 (.of_eq ?_)
   rw[hat (by rw[h7];decide),h7]
  have hs:(getS s l[i]).isSome=true:=by simpa using h
  refine wf ?_
  refine pwp_condD (fun h=>?_) (fun h=>?_)
  ·have h6:=e6 hs h
   refine wf ?_
   refine end1 (.of_eq ?_)
   rw[hat (by rw[h6];decide),h6]
  refine wf ?_
  refine pwp_condB (fun h2=>?_) (fun h2=>?_)
  ·have h19:=e19 hs h fun hall=>by
    have hA:allIn (l.take i) (ndS s l[i])=true:=allIn_iff.2 hall
    have hB:allIn (l.take i) (ndS s l[i])=false:=(by simpa using h2:allIn (l.take i) (rNeeds ((getS s l[i]).getD Pat.zero))=false)
    rw[hA]at hB;cases hB
   refine wf ?_
   refine end1 (.of_eq ?_)
   rw[hat (by rw[h19];decide),h19]
  ·have hB:allIn (l.take i) (ndS s l[i])=true:=(by simpa using h2:allIn (l.take i) (rNeeds ((getS s l[i]).getD Pat.zero))=true)
   have h0:=e0 hs h (allIn_iff.1 hB)
   refine wf ?_
   exact⟨i+1,⟨by omega,hnx h0⟩,by dsimp only;omega,⟨rfl,rfl,rfl⟩,.refl _⟩
 ·have hii:i=l.length:=by omega
  subst hii
  have hr:=rLin_len hz
  refine wf ?_
  refine pwp_condN (fun h=>?_) (fun h=>?_)
  ·rw[if_pos h]at hr
   refine wf ?_
   refine end1 (.of_eq ?_)
   rw[hr]
  ·rw[if_neg (fun hn=>hn h)]at hr
   refine wf ?_
   refine end1 (.of_eq ?_)
   rw[hr]⟩
theorem swap_lin {s:List Sto} {m:List Dig} (v:Valid s) (h:Lin s m) {i:Nat} (hi:i+1 < m.length):rSwap s m i=if m.getD i Dig.zero∈ndS s (m.getD (i+1) Dig.zero)then([],false)else(swapD m i,true):=by
 unfold rSwap
 rw[if_neg (by rw[(lin_iff v.asc).2 h];omega),Int.toNat_natCast]
set_option maxHeartbeats 8000000 in
theorem swapR_fn (s:List Sto) (t:Tag) (l:List Dig) (u:Tag) (i:Int) (v:Valid s):FnC Tryz.prog 27 [.slice (s.map eSto) t,.slice (l.map eDig) u,.raw (.int .i64 i)] (.tuple [.slice ((rSwap s l i).1.map eDig) .ro,.raw (.bool (rSwap s l i).2)]):=⟨by
 have h40:=v.close.1.1
 have c1:=fun t u=>linR_fn s t l u v
 refine fn_of Tryz.func27 Tryz.ntmps27 rfl (rs:= [.tmp 6,.tmp 7]) rfl rfl fun hb LF=>?_
 have hll:l.length≤140737488355328:=(hb (.slice (l.map eDig) u) (by simp)).slice_map
 unfold rSwap
 by_cases h1:rLin s l≠0
 ·rw[if_pos (.inl h1)]
  generalize rLin s l=e at c1 h1
  have g:(!decide (e=0))=true:=by simpa using h1
  refine wf ?_
  rw[map_nil1]
  exact end2 (.tuple2 (.ro _ _) (.refl _))
 have h1:=Classical.not_not.1 h1
 have hls:=lin_len v h1
 rw[h1]at c1 ⊢
 refine wf ?_
 refine pops_if (fun hp=>?_) (fun hp=>?_)
 ·rw[if_pos (.inr (.inl (of_decide_eq_true hp)))]
  refine wf ?_
  rw[map_nil1]
  exact end2 (.tuple2 (.ro _ _) (.refl _))
 have h2:=of_decide_eq_false hp
 obtain⟨n,rfl⟩: ∃ n:Nat,i=n:=⟨i.toNat,by omega⟩
 refine wf ?_
 refine pwp_condD (fun h3=>?_) (fun h3=>?_)
 ·rw[if_pos (.inr (.inr (by omega)))]
  refine wf ?_
  rw[map_nil1]
  exact end2 (.tuple2 (.ro _ _) (.refl _))
 have hn:n+1 < l.length:=by omega
 have hn0:n < l.length:=by omega
 have e1:(n:Int)+1=((n+1:Nat):Int):=by omega
 rw[if_neg (by omega),Int.toNat_natCast,getD_get hn0,getD_get hn]
 have i1:Small (rBig ((getS s l[n+1]).getD Pat.zero)=false):=⟨v.close.great _⟩
 refine wf ?_
 refine wz fun b8=>?_
 refine pwp_freezeD 8 ?_
 refine wf ?_
 rw[show rNeeds ((getS s l[n+1]).getD Pat.zero)=ndS s l[n+1] from rfl]
 refine pwp_condD (fun h=>?_) (fun h=>?_)
 ·rw[if_pos h]
  refine wf ?_
  rw[map_nil1]
  exact end2 (.tuple2 (.ro _ _) (.refl _))
 rw[if_neg h]
 refine pwp_skip ?_
 refine pwp_seq ?_
 refine pwp_region (by kernel_rfl) ?_
 refine s_bsRow (α:=Dig) (vf:=fun _=> []) fun vq hq=>?_
 have hq0:RowB 25 32 vq [] []:=rowB_nil hq
 refine wo ?_
 refine s_appB (f:=eDig) (m:=l) (R:= []) (LF:=LF) (fun R'=>R'++LF) rfl rfl hq0 (.refl _) (fun _=> .refl _) (by simp only[List.length_nil];omega) (by simp only[List.length_nil];omega) fun vr R hw=>?_
 rw[List.nil_append]at hw
 obtain⟨⟨o,c,rfl⟩,_⟩:=hw.slice
 obtain⟨r,rest,rfl,rfl,_,hlc,_,hcl⟩:=hw.inv (by rw[List.length_map];omega)
 rw[List.length_map]at hlc ⊢
 rw[List.cons_append,List.nil_append]
 rw[flatten_len (hszD _),List.length_map]at hcl
 refine wo ?_
 refine pops_nil ?_
 refine wn ?_
 have p1:=dput l rest hn0 l[n+1]
 have p2:=dput (l.set n l[n+1]) rest (i:=n+1) (by rw[List.length_set];exact hn) l[n]
 rw[←swapD_eq hn]at p2
 refine pwp_joinG (σ:=Unit) (fun _=>True) (fun _=> [(10,.raw (.slice (some ⟨r,0,none⟩) l.length c))]) (fun _=> .box r 25 (((swapD l n).map eDig).flatten++rest)::LF) ?_ ?_
 ·refine pwp_drawA [15,17] (by decide+kernel) ?_
  refine pAny_quiet 0 rfl (by decide+kernel) rfl (fun L'=>q_of_pops (N:=63) rfl rfl (by refine wo ?_;refine pops_nil ?_;exact⟨upd_self _ _ _,rfl⟩)) ?_
  refine pAny_quiet 1 rfl (by decide+kernel) rfl (fun L'=>q_of_pops (N:=63) rfl rfl (by refine wo ?_;refine pops_nil ?_;exact⟨upd_self _ _ _,rfl⟩)) ?_
  refine pAny_quiet 2 rfl (by decide+kernel) rfl (fun L'=>q_of_pops (N:=63) rfl rfl (by refine wo ?_;refine pops_nil ?_;exact⟨upd_self _ _ _,rfl⟩)) ?_
  refine pAny_quiet 3 rfl (by decide+kernel) rfl (fun L'=>q_of_pops (N:=63) rfl rfl (by refine wo ?_;refine pops_nil ?_;exact⟨upd_self _ _ _,rfl⟩)) ?_
  refine pAny_quiet 4 rfl (by decide+kernel) rfl (fun L'=>q_of_pops (N:=63) rfl rfl (by refine wo ?_;refine pops_nil ?_;exact⟨upd_self _ _ _,rfl⟩)) ?_
  refine pAny_quiet 5 rfl (by decide+kernel) rfl (fun L'=>q_of_pops (N:=63) rfl rfl (by refine wo ?_;refine pops_nil ?_;exact⟨upd_self _ _ _,rfl⟩)) ?_
  refine pAny_quiet 6 rfl (by decide+kernel) rfl (fun L'=>q_of_pops (N:=63) rfl rfl (by refine wo ?_;refine pops_nil ?_;exact⟨upd_self _ _ _,rfl⟩)) ?_
  refine pAny_quiet 7 rfl (by decide+kernel) rfl (fun L'=>q_of_pops (N:=63) rfl rfl (by refine wo ?_;refine pops_nil ?_;exact⟨upd_self _ _ _,rfl⟩)) ?_
  rw[e1]
  refine pAny_quiet 8 rfl (by decide+kernel) rfl (fun L'=>q_of_pops (N:=63) rfl rfl (by refine wo ?_;refine pops_nil ?_;exact⟨upd_self _ _ _,rfl⟩)) ?_
  refine pAny_quiet 9 rfl (by decide+kernel) rfl (fun L'=>q_of_pops (N:=63) rfl rfl (by refine wo ?_;refine pops_nil ?_;exact⟨upd_self _ _ _,rfl⟩)) ?_
  refine pAny_quiet 10 rfl (by decide+kernel) rfl (fun L'=>q_of_pops (N:=63) rfl rfl (by refine wo ?_;refine pops_nil ?_;exact⟨upd_self _ _ _,rfl⟩)) ?_
  refine pAny_quiet 11 rfl (by decide+kernel) rfl (fun L'=>q_of_pops (N:=63) rfl rfl (by refine wo ?_;refine pops_nil ?_;exact⟨upd_self _ _ _,rfl⟩)) ?_
  refine pAny_quiet 12 rfl (by decide+kernel) rfl (fun L'=>q_of_pops (N:=63) rfl rfl (by refine wo ?_;refine pops_nil ?_;exact⟨upd_self _ _ _,rfl⟩)) ?_
  refine pAny_quiet 13 rfl (by decide+kernel) rfl (fun L'=>q_of_pops (N:=63) rfl rfl (by refine wo ?_;refine pops_nil ?_;exact⟨upd_self _ _ _,rfl⟩)) ?_
  refine pAny_quiet 14 rfl (by decide+kernel) rfl (fun L'=>q_of_pops (N:=63) rfl rfl (by refine s_ixRow (k:=n) rfl rfl hn0 ?_;refine pops_nil ?_;exact⟨upd_self _ _ _,rfl⟩)) ?_
  refine pAny_next (fuel:=2) [15] (by decide+kernel) (by simp) fun i hi=>?_
  simp only[List.mem_cons,List.not_mem_nil,or_false]at hi
  subst hi
  refine⟨_,rfl,?_⟩
  refine wo ?_
  refine pops_nil ?_
  refine pAny_quiet 16 rfl (by decide+kernel) rfl (fun L'=>q_of_pops (N:=63) rfl rfl (by refine s_ixRow (k:=n+1) rfl rfl hn ?_;refine pops_nil ?_;exact⟨upd_self _ _ _,rfl⟩)) ?_
  refine pAny_next (fuel:=0) [17] (by decide+kernel) (by simp) fun i hi=>?_
  simp only[List.mem_cons,List.not_mem_nil,or_false]at hi
  subst hi
  refine⟨_,rfl,?_⟩
  refine wo ?_
  refine pops_nil ?_
  refine pAny_end (by decide+kernel) ?_
  exact⟨(),trivial,rfl,.refl _⟩
 rintro _ _
 have hsl:(swapD l n).length=l.length:=swapD_len l n
 refine pwp_freezeB 10 (drow hsl hlc hcl) ⟨by rw[List.length_map,hsl];unfold maxN;omega,by rw[List.length_map,hsl];unfold maxN;omega⟩ (.refl _) rfl ?_
 refine wf ?_
 exact end2 (.refl _)⟩
set_option maxHeartbeats 8000000 in
theorem moveR_fn (s:List Sto) (t:Tag) (l:List Dig) (u:Tag) (a b:Int) (v:Valid s):FnC Tryz.prog 28 [.slice (s.map eSto) t,.slice (l.map eDig) u,.raw (.int .i64 a),.raw (.int .i64 b)] (.tuple [.slice ((rMove s l a b).1.map eDig) .ro,.raw (.bool (rMove s l a b).2)]):=⟨by
 have h40:=v.close.1.1
 have c1:=fun t u=>linR_fn s t l u v
 refine fn_of Tryz.func28 Tryz.ntmps28 rfl (rs:= [.tmp 8,.tmp 9]) rfl rfl fun hb LF=>?_
 have hll:l.length≤140737488355328:=(hb (.slice (l.map eDig) u) (by simp)).slice_map
 unfold rMove
 by_cases h1:rLin s l≠0
 ·rw[if_pos (.inl h1)]
  generalize rLin s l=e at c1 h1
  have g:(!decide (e=0))=true:=by simpa using h1
  refine wf ?_
  rw[map_nil1]
  exact end2 (.tuple2 (.ro _ _) (.refl _))
 have h1:=Classical.not_not.1 h1
 have hL:=(lin_iff v.asc).1 h1
 rw[h1]at c1 ⊢
 refine wf ?_
 refine pops_if (fun hp=>?_) (fun hp=>?_)
 ·rw[if_pos (.inr (.inl (.inl (of_decide_eq_true hp))))]
  refine wf ?_
  rw[map_nil1]
  exact end2 (.tuple2 (.ro _ _) (.refl _))
 have h2:=of_decide_eq_false hp
 obtain⟨n,rfl⟩: ∃ n:Nat,a=n:=⟨a.toNat,by omega⟩
 refine wf ?_
 refine pops_if (fun hp=>?_) (fun hp=>?_)
 ·have h3:=of_decide_eq_true hp
  rw[if_pos (.inr (.inl (.inr (by omega))))]
  refine wf ?_
  rw[map_nil1]
  exact end2 (.tuple2 (.ro _ _) (.refl _))
 have h3:=of_decide_eq_false hp
 have hn:n < l.length:=by omega
 refine wf ?_
 refine pops_if (fun hp=>?_) (fun hp=>?_)
 ·have h4:=of_decide_eq_true hp
  rw[if_pos (.inr (.inr (.inl (by omega))))]
  refine wf ?_
  rw[map_nil1]
  exact end2 (.tuple2 (.ro _ _) (.refl _))
 have h4:=of_decide_eq_false hp
 obtain⟨q,rfl⟩: ∃ q:Nat,b=q:=⟨b.toNat,by omega⟩
 refine wf ?_
 refine pwp_condD (fun h=>?_) (fun h=>?_)
 ·rw[if_pos (.inr (.inr (.inr (by omega))))]
  refine wf ?_
  rw[map_nil1]
  exact end2 (.tuple2 (.ro _ _) (.refl _))
 have hq:q < l.length:=by omega
 rw[if_neg (by omega),Int.toNat_natCast,Int.toNat_natCast]
 refine wf ?_
 refine pwp_loopS (σ:=Nat × List Dig × Tag) (fun z=>mvF s (dst n q) l n q=mvF s (dst z.1 q) z.2.1 z.1 q∧z.2.1.length=l.length∧z.1 < l.length∧Lin s z.2.1) (fun z=>dst z.1 q) (fun z=> [(0,.slice (s.map eSto) t),(1,.slice (z.2.1.map eDig) z.2.2),(2,.raw (.int .i64 z.1)),(3,.raw (.int .i64 q))]) (fun _=>LF) (n,l,u) ⟨rfl,rfl,hn,hL⟩ ⟨rfl,rfl,rfl,rfl⟩ (.refl _) ?_
 rintro⟨k,m,w⟩ ⟨he,hm,hk,hLm⟩
 dsimp only at he hm hk hLm ⊢
 rw[he]
 clear he
 refine wf ?_
 refine pwp_condN (fun h=>?_) (fun h=>?_)
 ·have hkq:k≠q:=fun e=>h (by rw[e])
  obtain⟨i,hi⟩: ∃ i,i=if q < k then k - 1 else k:=⟨_,rfl⟩
  have hi1:i+1 < m.length:=by
   rw[hi];split<;>omega
  have hi0:i < m.length:=by omega
  refine wf ?_
  refine pwp_joinG (σ:=Unit) (fun _=>True) (fun _=> [(0,.slice (s.map eSto) t),(1,.slice (m.map eDig) w),(2,.raw (.int .i64 k)),(3,.raw (.int .i64 q)),(10,.raw (.int .i64 i))]) (fun _=>LF) ?_ ?_
  ·refine pwp_condD (fun h=>?_) (fun h=>?_)
   ·have ei:(k:Int) - 1=(i:Int):=by rw[hi,if_pos (by omega)];omega
    refine wf ?_
    rw[ei]
    exact⟨(),trivial,⟨rfl,rfl,rfl,rfl,rfl⟩,.refl _⟩
   ·have ei:i=k:=by rw[hi,if_neg (by omega)]
    rw[ei]
    refine wf ?_
    exact⟨(),trivial,⟨rfl,rfl,rfl,rfl,rfl⟩,.refl _⟩
  rintro _ _
  have hmv:mvF s (dst k q) m k q=if m.getD i Dig.zero∈ndS s (m.getD (i+1) Dig.zero)then none else mvF s (dst (if q < k then k - 1 else k+1) q) (swapD m i) (if q < k then k - 1 else k+1) q:=by
   by_cases hqk:q < k
   ·rw[mv_dn hqk,hi,if_pos hqk,if_pos hqk,show k - 1+1=k by omega]
   ·rw[mv_up (show k < q by omega),hi,if_neg hqk,if_neg hqk]
  have c2:=fun t w=>swapR_fn s t m w (i:Int) v
  rw[swap_lin v hLm hi1]at c2
  rw[hmv]
  by_cases hnd:m.getD i Dig.zero∈ndS s (m.getD (i+1) Dig.zero)
  ·rw[if_pos hnd]at c2 ⊢
   dsimp only at c2
   refine wf ?_
   rw[map_nil1]
   exact end2 (.tuple2 (.ro _ _) (.refl _))
  ·rw[if_neg hnd]at c2 ⊢
   dsimp only at c2
   have hLs:=hLm.swap hi1 (by rwa [getD_get hi0,getD_get hi1]at hnd)
   have hsl:(swapD m i).length=l.length:=by rw[swapD_len];exact hm
   generalize swapD m i=m2 at c2 hLs hsl ⊢
   refine wf ?_
   refine pwp_condD (fun h=>?_) (fun h=>?_)
   ·have hqk:q < k:=by omega
    rw[if_pos hqk]
    have ek:(k:Int) - 1=((k - 1:Nat):Int):=by omega
    refine wf ?_
    rw[ek]
    exact⟨(k - 1,m2,.ro),⟨rfl,hsl,by dsimp only;omega,hLs⟩,by dsimp only;unfold dst;omega,⟨rfl,rfl,rfl,rfl⟩,.refl _⟩
   ·have hqk: ¬q < k:=by omega
    rw[if_neg hqk]
    refine wf ?_
    exact⟨(k+1,m2,.ro),⟨rfl,hsl,by dsimp only;omega,hLs⟩,by dsimp only;unfold dst;omega,⟨rfl,rfl,rfl,rfl⟩,.refl _⟩
 ·have hkq:k=q:=by omega
  rw[hkq,mv_eq]
  refine wf ?_
  exact end2 (.tuple2 (.ro _ _) (.refl _))⟩
set_option maxHeartbeats 4000000 in
theorem prefixR_fn (s:List Sto) (t:Tag) (l:List Dig) (u:Tag) (n:Int) (v:Valid s):FnC Tryz.prog 29 [.slice (s.map eSto) t,.slice (l.map eDig) u,.raw (.int .i64 n)] (.tuple [.slice ((rPrefix s l n).1.map eSto) .ro,.raw (.int .i64 (rPrefix s l n).2)]):=⟨by
 have h40:=v.close.1.1
 have c1:=fun t u=>linR_fn s t l u v
 have kl:Small (s.length≤1000000):=⟨by omega⟩
 refine fn_of Tryz.func29 Tryz.ntmps29 rfl (rs:= [.tmp 6,.tmp 7]) rfl rfl fun hb LF=>?_
 have hll:l.length≤140737488355328:=(hb (.slice (l.map eDig) u) (by simp)).slice_map
 unfold rPrefix
 by_cases h1:rLin s l≠0
 ·rw[if_pos h1]
  generalize rLin s l=e at c1 h1 ⊢
  refine wf ?_
  refine pwp_condN (fun _=>?_) (fun h=>absurd h h1)
  refine wf ?_
  rw[map_nil1]
  exact end2 (.tuple2 (.ro _ _) (.refl _))
 ·rw[if_neg h1]
  rw[Classical.not_not.1 h1]at c1
  refine wf ?_
  refine pops_if (fun hp=>?_) (fun hp=>?_)
  ·rw[if_pos (.inl (of_decide_eq_true hp))]
   refine wf ?_
   rw[map_nil1]
   exact end2 (.tuple2 (.ro _ _) (.refl _))
  have h2:=of_decide_eq_false hp
  obtain⟨k,rfl⟩: ∃ k:Nat,n=k:=⟨n.toNat,by omega⟩
  refine wf ?_
  refine pwp_condD (fun h=>?_) (fun h=>?_)
  ·rw[if_pos (.inr (by omega))]
   refine wf ?_
   rw[map_nil1]
   exact end2 (.tuple2 (.ro _ _) (.refl _))
  rw[if_neg (by omega),Int.toNat_natCast]
  have hk:k≤l.length:=by omega
  refine wf ?_
  exact end2 (.refl _)⟩
end Go.Proofs
namespace Go.Proofs
open Go Go.Q
attribute [local irreducible] pwp pops pAny PCalls OpN
theorem depD_le (s:List Sto) (d:Dig):depD s d≤(rOrder s).length:=by
 unfold depD
 cases h:mGet d (dMap s (rOrder s))with
 |none=>simp
 |some w=>
  have:=dMap_le h
  show w.toNat≤_
  omega
def dpL (s:List Sto) (O:List Dig) (i:Nat):List Int:=(O.take i).map fun d=>((depD s d:Nat):Int)
theorem dpL_len {s:List Sto} {O:List Dig} {i:Nat} (h:i≤O.length):(dpL s O i).length=i:=by simp[dpL];omega
theorem dpL_get {s:List Sto} {O:List Dig} {i k:Nat} (h:k < (dpL s O i).length) (hk:k < O.length):(dpL s O i)[k]=((depD s O[k]:Nat):Int):=by simp[dpL]
theorem dpL_succ {s:List Sto} {O:List Dig} {i:Nat} (h:i < O.length):dpL s O (i+1)=dpL s O i++ [((depD s O[i]:Nat):Int)]:=by
 unfold dpL
 rw[List.take_succ_eq_append_getElem h,List.map_append];rfl
set_option maxHeartbeats 4000000 in
theorem depthR_fn (s:List Sto) (t:Tag) (d:Dig) (v:Valid s):FnC Tryz.prog 13 [.slice (s.map eSto) t,.agg (eDig d)] (.tuple [.raw (.int .i64 (rDepth s d).1),.raw (.int .i64 (rDepth s d).2)]):=⟨by
 have i2:Small (goodS s):=⟨v.close.1⟩
 have hol:=(order_lin v).len v.asc
 have h40:=v.close.1.1
 have hle:=fun d=>depD_le s d
 have hin:=fun(i:Nat) (hi:i < (rOrder s).length)=>rDepth_in v ((order_lin v).mem (rOrder s)[i] |>.1 (List.getElem_mem hi))
 have hout:=fun(h:d∉rOrder s)=>rDepth_out v (d:=d) fun h2=>h (((order_lin v).mem d).2 h2)
 have hall:=fun(i:Nat) (hi:i < (rOrder s).length)=>dpK_all v hi
 have o1:=fun t=>Order_ct s t
 generalize rOrder s=O at o1 hol hin hout hall hle
 refine fn_of Tryz.func13 Tryz.ntmps13 rfl (rs:= [.tmp 4,.tmp 5]) rfl rfl fun hb LF=>?_
 refine wf ?_
 refine pwp_tok 1 ?_
 refine pwp_loopS (σ:=Nat × Tag) (fun z=>z.1≤O.length∧d∉O.take z.1) (fun z=>O.length - z.1) (fun z=> [(0,.slice (s.map eSto) t),(3,.pt (eDig d) 0),(6,.slice (O.map eDig) .ro),(7,.slice ((dpL s O z.1).map eI) z.2),(8,.raw (.int .i64 z.1))]) (fun z=> .tok z.2 (dpL s O z.1).length 1::LF) (0,.nil) ⟨by simp,by simp⟩ ⟨rfl,rfl,rfl,rfl,rfl⟩ (.refl _) ?_
 rintro⟨i,w⟩ ⟨hi,hn⟩
 dsimp only at hi hn ⊢
 have hdl:=dpL_len (s:=s) hi
 refine wf ?_
 refine pwp_condD (fun hc=>?_) (fun hc=>?_)
 ·have hlt:i < O.length:=by omega
  have i1:Small (rBig ((getS s O[i]).getD Pat.zero)=false):=⟨v.close.great _⟩
  have hsucc:=dpL_succ (s:=s) hlt
  have hai:=hall i hlt
  have hnl:=nd_len v O[i]
  refine wz fun b9=>?_
  refine pwp_freezeD 9 ?_
  refine wf ?_
  rw[show rNeeds ((getS s O[i]).getD Pat.zero)=ndS s O[i] from rfl]
  have hkk:=fun k (hk:k < O.length)=>dpK_succ s O i k
  rw[getD_get hlt]at hkk
  have hk0:dpK s O i 0=1:=rfl
  have hkle: ∀ k,k≤i→dpK s O i k≤41:=fun k=>by
   induction k with
   |zero=>intro _;rw[hk0];omega
   |succ k ih=>
    intro h
    rw[hkk k (by omega)]
    have h1:=ih (by omega)
    have h2:=hle (O.getD k Dig.zero)
    split<;>omega
  generalize ndS s O[i]=nd at hnl hkk ⊢
  refine pwp_loopS (σ:=Nat) (fun k=>k≤i) (fun k=>i - k) (fun k=> [(0,.slice (s.map eSto) t),(3,.pt (eDig d) 0),(6,.slice (O.map eDig) .ro),(7,.slice ((dpL s O i).map eI) w),(8,.raw (.int .i64 i)),(11,.slice (nd.map eDig) .ro),(12,.raw (.int .i64 (dpK s O i k:Nat))),(13,.raw (.int .i64 k))]) (fun _=> .tok w (dpL s O i).length 1::LF) 0 (by simp) ⟨rfl,rfl,rfl,rfl,rfl,rfl,rfl,rfl⟩ (.refl _) ?_
  rintro k hk
  refine wf ?_
  refine pwp_condD (fun hc=>?_) (fun hc=>?_)
  ·have hki:k < i:=by omega
   have hkO:k < O.length:=by omega
   have hs:=hkk k hkO
   rw[getD_get hkO]at hs
   have hb1:=hkle k (by omega)
   have hb2:=hle O[k]
   have hg:k < (dpL s O i).length:=by omega
   have eg:=dpL_get hg hkO
   refine wf ?_
   refine pwp_condD (fun h=>?_) (fun h=>?_)
   ·rw[if_pos h]at hs
    have e:max ((dpK s O i k:Nat):Int) ((dpL s O i)[k]+1)=((dpK s O i (k+1):Nat):Int):=by rw[hs,eg];omega
    have hbb:(dpL s O i)[k]≤40∧0≤(dpL s O i)[k]:=by rw[eg];omega
    refine wf ?_
    rw[e]
    exact⟨k+1,by omega,by dsimp only;omega,⟨rfl,rfl,rfl,rfl,rfl,rfl,rfl,rfl⟩,.refl _⟩
   ·rw[if_neg h]at hs
    refine wf ?_
    rw[←hs]
    exact⟨k+1,by omega,by dsimp only;omega,⟨rfl,rfl,rfl,rfl,rfl,rfl,rfl,rfl⟩,.refl _⟩
  ·have hki:k=i:=by omega
   rw[hki,hai]
   rw[hki]at hk
   refine wfa fun w2=>?_
   have e2:(dpL s O i).map eI++ [eI ((depD s O[i]:Nat):Int)]=(dpL s O (i+1)).map eI:=by rw[hsucc,List.map_append];rfl
   refine pwp_condD (fun h=>?_) (fun h=>?_)
   ·have hr:=hin i hlt
    rw[h]at hr
    rw[hr,h]
    refine wf ?_
    exact end2 (.refl _)
   ·refine wf ?_
    refine⟨(i+1,w2),⟨by dsimp only;omega,?_⟩,by dsimp only;omega,⟨rfl,rfl,rfl,?_,rfl⟩,?_⟩
    ·rw[List.take_succ_eq_append_getElem hlt]
     intro hm
     rcases List.mem_append.1 hm with hm|hm
     ·exact hn hm
     ·exact h (List.mem_singleton.1 hm).symm
    ·dsimp only;rw[hsucc];rfl
    ·dsimp only;rw[hsucc];exact .refl _
 ·rw[List.take_of_length_le (by omega)]at hn
  have hr:=hout hn
  rw[hr]
  refine wf ?_
  exact end2 (.refl _)⟩
theorem named_fn (w:Str) (n:Int) (ds:List Dig):FnC Tryz.prog 34 [.str w,.raw (.int .i64 n),.slice (ds.map eDig) .ro] (.agg (ePat ⟨w,[],n,ds,[awF]⟩)):=⟨by
 refine fn_of Tryz.func34 Tryz.ntmps34 rfl (rs:= [.cell 6 44]) rfl rfl fun hb LF=>?_
 refine wf ?_
 refine s_alloc fun b6=>?_
 refine wf ?_
 exact endC rfl (.refl _)⟩
set_option maxHeartbeats 4000000 in
instance awake30_ct:FnC Tryz.prog 11 [] (.raw (.bool true)):=⟨by
 have v0:Valid []:=valid_of awFine0
 have v1:Valid hw1S:=valid_of hwFine1
 have v2:Valid hw2S:=valid_of hwFine2
 have v3:Valid hw3S:=valid_of hwFine3
 have i0:Small (Valid []):=⟨v0⟩
 have i1:Small (Valid hw1S):=⟨v1⟩
 have i2:Small (Valid hw2S):=⟨v2⟩
 have g0:Small (rBig hwA=false):=⟨big_of hwGreat.1⟩
 have g1:Small (rBig hwB=false):=⟨big_of hwGreat.2.1⟩
 have g2:Small (rBig hwC=false):=⟨big_of hwGreat.2.2⟩
 have n0:=named_fn [97] 5 []
 have n1:=named_fn [98] 3 []
 have n2:=named_fn [99] 4 [hw0]
 change FnC _ _ _ (.agg (ePat hwA))at n0
 change FnC _ _ _ (.agg (ePat hwB))at n1
 change FnC _ _ _ (.agg (ePat hwC))at n2
 have a0:=AddP_ct [] hwA .nil
 have a1:=fun t=>AddP_ct hw1S hwB t
 have a2:=fun t=>AddP_ct hw2S hwC t
 rw[hwAdd0]at a0
 rw[hwAdd1]at a1
 rw[hwAdd2]at a2
 dsimp only at a0 a1 a2
 have dp:=fun t=>depthP_fn hw3S t hw2 v3
 rw[hwDepth]at dp
 have tp:=fun t=>topsP_fn hw3S t v3 (by decide)
 rw[hwTops]at tp
 have lg:=fun t=>logP_fn hw3S t v3 (by decide)
 rw[hwLog]at lg
 dsimp only at dp tp lg
 have sm:=fun t u=>SameD_ct [hw1,hw0,hw2] [hw1,hw0,hw2] t u
 rw[decide_eq_true (rfl: [hw1,hw0,hw2]= [hw1,hw0,hw2])]at sm
 have h1:=fun t=>Has_ct [hw2,hw1] hw1 t
 have h2:=fun t=>Has_ct [hw2,hw1] hw2 t
 rw[decide_eq_true (show hw1∈ [hw2,hw1] by simp)]at h1
 rw[decide_eq_true (show hw2∈ [hw2,hw1] by simp)]at h2
 refine fn_of Tryz.func11 Tryz.ntmps11 rfl (rs:= [.tmp 0]) rfl rfl fun hb LF=>?_
 refine wf ?_
 refine s_callR (xs:= [.const (Value.string ⟨#[97]⟩),.const (.int .i64 5),.const (Value.slice none 0 0)]) [] LF (f:=34) (cs:= []) (le_func _) rfl rfl (.refl _) _ (PCalls.args (bs:= [.str [97],.raw (.int .i64 5),.slice (([]:List Dig).map eDig) .ro]) rfl (fun i g1 g2=>by
   match i,g1,g2 with
   |0,_,_=>exact Norm.out (x:= .raw (.string ⟨[97].toArray⟩)) (y:= .str [97])
   |1,_,_=>exact .of_eq rfl
   |2,_,_=>exact Le.nilr
   |m+3,g1,_=>exact absurd g1 (by simp)) n0.out) fun r L' ⟨e1,e2⟩=>?_
 subst e1;rw[e2,List.nil_append]
 refine wo ?_
 refine s_callR (xs:= [.const (Value.slice none 0 0),.tmp 12]) [] LF (f:=33) (cs:= []) (le_func _) rfl rfl (.refl _) _ (PCalls.args (bs:= [.slice (([]:List Sto).map eSto) .nil,.agg (ePat hwA)]) rfl (fun i g1 g2=>by
   match i,g1,g2 with
   |0,_,_=>exact le_nilS _ rfl
   |1,_,_=>exact .of_eq rfl
   |m+2,g1,_=>exact absurd g1 (by simp)) a0.out) fun r L' ⟨e1,e2⟩=>?_
 subst e1;rw[e2,List.nil_append]
 refine wf ?_
 refine s_alloc fun b2=>?_
 refine wo ?_
 refine pops_nil ?_
 refine pwp_freezeD 2 ?_
 refine pwp_env [(1,.slice (hw1S.map eSto) .ro),(2,.pt (eDig hw0) 0),(3,.raw (.int .i64 0))] ⟨rfl,rfl,rfl⟩ (.refl _) ?_
 refine wf ?_
 refine s_callR (xs:= [.const (Value.string ⟨#[98]⟩),.const (.int .i64 3),.const (Value.slice none 0 0)]) [] LF (f:=34) (cs:= []) (le_func _) rfl rfl (.refl _) _ (PCalls.args (bs:= [.str [98],.raw (.int .i64 3),.slice (([]:List Dig).map eDig) .ro]) rfl (fun i g1 g2=>by
   match i,g1,g2 with
   |0,_,_=>exact Norm.out (x:= .raw (.string ⟨[98].toArray⟩)) (y:= .str [98])
   |1,_,_=>exact .of_eq rfl
   |2,_,_=>exact Le.nilr
   |m+3,g1,_=>exact absurd g1 (by simp)) n1.out) fun r L' ⟨e1,e2⟩=>?_
 subst e1;rw[e2,List.nil_append]
 refine wf ?_
 refine s_alloc fun b4=>?_
 refine wo ?_
 refine pops_nil ?_
 refine pwp_freezeD 4 ?_
 refine pwp_env [(1,.slice (hw2S.map eSto) .ro),(2,.pt (eDig hw0) 0),(3,.raw (.int .i64 0)),(4,.pt (eDig hw1) 0),(5,.raw (.int .i64 0))] ⟨rfl,rfl,rfl,rfl,rfl⟩ (.refl _) ?_
 refine wf ?_
 refine s_alloc fun b6=>?_
 refine wo ?_
 refine pops_nil ?_
 refine pwp_freezeD 6 ?_
 refine pwp_env [(1,.slice (hw3S.map eSto) .ro),(2,.pt (eDig hw0) 0),(3,.raw (.int .i64 0)),(4,.pt (eDig hw1) 0),(5,.raw (.int .i64 0)),(6,.pt (eDig hw2) 0),(7,.raw (.int .i64 0))] ⟨rfl,rfl,rfl,rfl,rfl,rfl,rfl⟩ (.refl _) ?_
 refine wf ?_
 exact end1 (.refl _)⟩
theorem prefix_lin {s:List Sto} {l:List Dig} (v:Valid s) (h:Lin s l) {k:Nat} (hk:k≤l.length):rPrefix s l (k:Int)=(keepS s (l.take k),0):=by
 unfold rPrefix
 rw[if_neg (by rw[(lin_iff v.asc).2 h];simp),if_neg (by omega),Int.toNat_natCast]
theorem move_lin {s:List Sto} {l m:List Dig} (v:Valid s) (h:Lin s l) {a b:Nat} (ha:a < l.length) (hb:b < l.length) (hm:mvF s (dst a b) l a b=some m):rMove s l (a:Int) (b:Int)=(m,true):=by
 unfold rMove
 rw[if_neg (by rw[(lin_iff v.asc).2 h];omega),Int.toNat_natCast,Int.toNat_natCast,hm]
set_option maxHeartbeats 4000000 in
theorem historyMoves_fn (s:List Sto) (t:Tag) (l:List Dig) (u:Tag) (a b:Int):FnC Tryz.prog 9 [.slice (s.map eSto) t,.slice (l.map eDig) u,.raw (.int .i64 a),.raw (.int .i64 b)] (.raw (.bool true)):=⟨by
 refine fn_of Tryz.func9 Tryz.ntmps9 rfl (rs:= [.tmp 8]) rfl rfl fun hb LF=>?_
 have hll:l.length≤140737488355328:=(hb (.slice (l.map eDig) u) (by simp)).slice_map
 refine wf ?_
 refine pops_cutE [(28,.raw (.bool (decide (rFine s=true→12 < (l.length:Int))))),(0,.slice (s.map eSto) t),(1,.slice (l.map eDig) u),(2,.raw (.int .i64 a)),(3,.raw (.int .i64 b))] (LF) ?_ ?_
 ·repeat' (first|(refine pwp_condD (fun h=>?_) (fun h=>?_)<;>refine wf ?_)|(refine pwp_condN (fun h=>?_) (fun h=>?_)<;>refine wf ?_)|(refine pwp_condB (fun h=>?_) (fun h=>?_)<;>refine wf ?_)|(refine pops_if (fun h=>?_) (fun h=>?_)<;>(have h2:=h;(try simp only[decide_eq_true_eq,decide_eq_false_iff_not,Bool.not_eq_true',Bool.not_eq_false']at h2);refine wf ?_)))
  all_goals (refine⟨⟨holdsB (by rfl) ?_,rfl,rfl,rfl,rfl⟩,.refl _⟩;first|(simp_all;done)|grind)
 refine wf ?_
 refine pwp_condD (fun h=>?_) (fun h=>?_)
 ·refine wf ?_
  exact end1 (.refl _)
 have hf:rFine s=true:=Classical.byContradiction fun h2=>h fun h3=>absurd h3 h2
 have v:=valid_of hf
 have c1:=fun t u=>swapH_fn s t l u a v
 have c2:=fun t u=>swapR_fn s t l u a v
 have c3:=fun t u=>moveH_fn s t l u a b v
 have c4:=fun t u=>moveR_fn s t l u a b v
 have c5:=fun t u=>prefixP_fn s t l u b v
 have c6:=fun t u=>prefixR_fn s t l u b v
 generalize rSwap s l a=x at c1 c2
 generalize rMove s l a b=y at c3 c4
 generalize rPrefix s l b=z at c5 c6
 obtain⟨x1,x2⟩:=x
 obtain⟨y1,y2⟩:=y
 obtain⟨z1,z2⟩:=z
 dsimp only at c1 c2 c3 c4 c5 c6
 have g1:decide (x1=x1)=true:=decide_eq_true rfl
 have g2:decide (x2=x2)=true:=decide_eq_true rfl
 have g3:decide (y1=y1)=true:=decide_eq_true rfl
 have g4:decide (y2=y2)=true:=decide_eq_true rfl
 have g5:decide (z1=z1)=true:=decide_eq_true rfl
 have g6:decide (z2=z2)=true:=decide_eq_true rfl
 refine wf ?_
 exact end1 (.refl _)⟩
end Go.Proofs
