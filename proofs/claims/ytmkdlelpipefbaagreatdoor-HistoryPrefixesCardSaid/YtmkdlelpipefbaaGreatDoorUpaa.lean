/- HistoryPrefixes', HistorySwaps' and HistoryConnected's contracts: they answer true, whatever the set, the lists and the number. -/
import Derived.Test.YtmkdlelpipefbaaGreatDoorUas
set_option linter.unusedSimpArgs false
set_option linter.unusedVariables false
namespace Go.Proofs
open Go Go.Q
attribute [local irreducible] pwp pops pAny PCalls OpN
theorem swapD_ne {s:List Sto} {l:List Dig} (h:Lin s l) {i:Nat} (hi:i+1 < l.length):swapD l i≠l:=fun e=>by
 have h1:=swapD_get hi (k:=i) (by omega)
 rw[if_neg (by omega),if_pos rfl]at h1
 have h2:(swapD l i)[i]'(by rw[swapD_len];omega)=l[i]:=by congr 1
 exact(List.pairwise_iff_getElem.1 h.nodup) i (i+1) (by omega) hi (by omega) (h2.symm.trans h1)
set_option maxHeartbeats 4000000 in
theorem historyPrefixes_fn (s:List Sto) (t:Tag) (l:List Dig) (u:Tag) (n:UInt8):FnC Tryz.prog 8 [.slice (s.map eSto) t,.slice (l.map eDig) u,eU8 n] (.raw (.bool true)):=⟨by
 refine fn_of Tryz.func8 Tryz.ntmps8 rfl (rs:= [.tmp 6]) rfl rfl fun hb LF=>?_
 have hll:l.length≤140737488355328:=(hb (.slice (l.map eDig) u) (by simp)).slice_map
 have cf:=fun t=>Fine_ct s t
 cases hf:rFine s with
 |false=>
  rw[hf]at cf
  refine wf ?_
  exact end1 (.refl _)
 |true=>
 rw[hf]at cf
 have v:=valid_of hf
 have h40:=v.close.1.1
 have c1:=fun t u=>linP_fn s t l u v
 by_cases h12:12 < (l.length:Int)
 ·have g:decide (12 < (l.length:Int))=true:=decide_eq_true h12
  refine wf ?_
  exact end1 (.refl _)
 have g:decide (12 < (l.length:Int))=false:=decide_eq_false h12
 by_cases h1:rLin s l≠0
 ·generalize rLin s l=e at c1 h1
  refine wf ?_
  refine pwp_condN (fun _=>?_) (fun h=>absurd h h1)
  refine wf ?_
  exact end1 (.refl _)
 have h1:=Classical.not_not.1 h1
 rw[h1]at c1
 have hL:=(lin_iff v.asc).1 h1
 have hls:=hL.len v.asc
 obtain⟨k,hkd⟩: ∃ k,k=n.toNat % (l.length+1):=⟨_,rfl⟩
 have hk:k < l.length+1:=by rw[hkd];exact Nat.mod_lt _ (by omega)
 have e1:(l.length:Int)+1=((l.length+1:Nat):Int):=by omega
 have vp:=hL.prefix_valid v k
 have hpl:=hL.prefix_len v.asc (n:=k) (by omega)
 have c2:=fun t u=>prefixP_fn s t l u (k:Int) v
 rw[prefix_lin v hL (by omega)]at c2
 dsimp only at c2
 have hs1:Small (goodS (keepS s (l.take k))):=⟨vp.close.1⟩
 have c3:=fun t=>CheckPS_ct (keepS s (l.take k)) t
 rw[check_of_valid vp]at c3
 generalize keepS s (l.take k)=p at*
 have g3:decide ((p.length:Int)=(k:Int))=true:=decide_eq_true (by omega)
 refine wf ?_
 refine s_convI (k₀:= .u8) (n:=(n.toNat:Int)) rfl (IntWalk.i64_in _ (by have:=n.toNat_lt;omega)) ?_
 refine wf ?_
 rw[e1]
 refine s_rem (m:=n.toNat) (n:=l.length+1) rfl rfl (by omega) ?_
 rw[←hkd]
 refine wf ?_
 exact end1 (.refl _)⟩
set_option maxHeartbeats 4000000 in
theorem historySwaps_fn (s:List Sto) (t:Tag) (l:List Dig) (u:Tag) (n:UInt8):FnC Tryz.prog 7 [.slice (s.map eSto) t,.slice (l.map eDig) u,eU8 n] (.raw (.bool true)):=⟨by
 refine fn_of Tryz.func7 Tryz.ntmps7 rfl (rs:= [.tmp 6]) rfl rfl fun hb LF=>?_
 have hll:l.length≤140737488355328:=(hb (.slice (l.map eDig) u) (by simp)).slice_map
 have cf:=fun t=>Fine_ct s t
 cases hf:rFine s with
 |false=>
  rw[hf]at cf
  refine wf ?_
  exact end1 (.refl _)
 |true=>
 rw[hf]at cf
 have v:=valid_of hf
 have i1:Small (Valid s):=⟨v⟩
 have h40:=v.close.1.1
 have c1:=fun t u=>linP_fn s t l u v
 by_cases h12:12 < (l.length:Int)
 ·have g:decide (12 < (l.length:Int))=true:=decide_eq_true h12
  refine wf ?_
  exact end1 (.refl _)
 have g:decide (12 < (l.length:Int))=false:=decide_eq_false h12
 by_cases h1:rLin s l≠0
 ·generalize rLin s l=e at c1 h1
  have g2:(!decide (e=0))=true:=by simpa using h1
  refine wf ?_
  exact end1 (.refl _)
 have h1:=Classical.not_not.1 h1
 rw[h1]at c1
 by_cases h22:(l.length:Int) < 2
 ·refine wf ?_
  refine pwp_condD (fun _=>?_) (fun h=>absurd h22 h)
  refine wf ?_
  exact end1 (.refl _)
 have hL:=(lin_iff v.asc).1 h1
 have hls:=hL.len v.asc
 obtain⟨i,hid⟩: ∃ i,i=n.toNat % (l.length - 1):=⟨_,rfl⟩
 have hi:i < l.length - 1:=by rw[hid];exact Nat.mod_lt _ (by omega)
 have e1:(l.length:Int) - 1=((l.length - 1:Nat):Int):=by omega
 have e2:(i:Int)+1=((i+1:Nat):Int):=by omega
 have hi1:i+1 < l.length:=by omega
 have hi0:i < l.length:=by omega
 have c2:=fun t u=>swapH_fn s t l u (i:Int) v
 rw[swap_lin v hL hi1]at c2
 refine wf ?_
 refine pwp_condD (fun h=>absurd h h22) (fun _=>?_)
 refine wf ?_
 refine s_convI (k₀:= .u8) (n:=(n.toNat:Int)) rfl (IntWalk.i64_in _ (by have:=n.toNat_lt;omega)) ?_
 refine wf ?_
 rw[e1]
 refine s_rem (m:=n.toNat) (n:=l.length - 1) rfl rfl (by omega) ?_
 rw[←hid]
 by_cases hnd:l.getD i Dig.zero∈ndS s (l.getD (i+1) Dig.zero)
 ·rw[if_pos hnd]at c2
  dsimp only at c2
  rw[getD_get hi0,getD_get hi1]at hnd
  have kn:=fun t=>KnowsP_ct s l[i+1] l[i] t
  rw[need_knows v ((hL.mem _).1 (List.getElem_mem hi1)) hnd]at kn
  refine wf ?_
  exact end1 (.refl _)
 ·rw[if_neg hnd]at c2
  dsimp only at c2
  rw[getD_get hi0,getD_get hi1]at hnd
  have hLs:=hL.swap hi1 hnd
  have hsl:(swapD l i).length=l.length:=swapD_len l i
  have hfr:=hL.swap_free hi1
  have hne:=swapD_ne hL hi1
  have c3:=fun t u=>swapH_fn s t (swapD l i) u (i:Int) v
  rw[swap_lin v hLs (by omega),swapD_back hi1,getD_get (by omega),getD_get (by omega),if_neg hfr]at c3
  dsimp only at c3
  have c4:=fun t u=>linP_fn s t (swapD l i) u v
  rw[(lin_iff v.asc).2 hLs]at c4
  clear hfr
  generalize swapD l i=m at*
  have g3:decide (l=l)=true:=decide_eq_true rfl
  have g4:(!decide (m=l))=true:=by rw[decide_eq_false hne];rfl
  refine wf ?_
  exact end1 (.refl _)⟩
set_option maxHeartbeats 8000000 in
theorem historyConnected_fn (s:List Sto) (t:Tag) (a:List Dig) (u:Tag) (b:List Dig) (w:Tag):FnC Tryz.prog 6 [.slice (s.map eSto) t,.slice (a.map eDig) u,.slice (b.map eDig) w] (.raw (.bool true)):=⟨by
 refine fn_of Tryz.func6 Tryz.ntmps6 rfl (rs:= [.tmp 6]) rfl rfl fun hb LF=>?_
 have hla:a.length≤140737488355328:=(hb (.slice (a.map eDig) u) (by simp)).slice_map
 have hlb:b.length≤140737488355328:=(hb (.slice (b.map eDig) w) (by simp)).slice_map
 have cf:=fun t=>Fine_ct s t
 cases hf:rFine s with
 |false=>
  rw[hf]at cf
  refine wf ?_
  exact end1 (.refl _)
 |true=>
 rw[hf]at cf
 have v:=valid_of hf
 have h40:=v.close.1.1
 have c1:=fun t u=>linP_fn s t a u v
 have c2:=fun t u=>linP_fn s t b u v
 by_cases h12:12 < (a.length:Int)
 ·have g:decide (12 < (a.length:Int))=true:=decide_eq_true h12
  refine wf ?_
  exact end1 (.refl _)
 have g:decide (12 < (a.length:Int))=false:=decide_eq_false h12
 by_cases h13:12 < (b.length:Int)
 ·have g:decide (12 < (b.length:Int))=true:=decide_eq_true h13
  refine wf ?_
  exact end1 (.refl _)
 have g1:decide (12 < (b.length:Int))=false:=decide_eq_false h13
 by_cases h1:rLin s a≠0
 ·generalize rLin s a=e at c1 h1
  have g2:(!decide (e=0))=true:=by simpa using h1
  refine wf ?_
  exact end1 (.refl _)
 have h1:=Classical.not_not.1 h1
 rw[h1]at c1
 by_cases h2:rLin s b≠0
 ·generalize rLin s b=e at c2 h2
  refine wf ?_
  refine pwp_condN (fun _=>?_) (fun h=>absurd h h2)
  refine wf ?_
  exact end1 (.refl _)
 have h2:=Classical.not_not.1 h2
 rw[h2]at c2
 have hA:=(lin_iff v.asc).1 h1
 have hB:=(lin_iff v.asc).1 h2
 have hal:=hA.len v.asc
 have hbl:=hB.len v.asc
 refine wf ?_
 refine pwp_loopS (σ:=Nat × List Dig × Tag) (fun z=>z.1≤b.length∧Lin s z.2.1∧z.2.1.take z.1=b.take z.1∧z.2.1.length=b.length) (fun z=>b.length - z.1) (fun z=> [(0,.slice (s.map eSto) t),(1,.slice (z.2.1.map eDig) z.2.2),(2,.slice (b.map eDig) w),(38,.raw (.int .i64 b.length)),(39,.raw (.int .i64 z.1))]) (fun _=>LF) (0,a,u) ⟨by simp,hA,by simp,by dsimp only;omega⟩ ⟨rfl,rfl,rfl,rfl,rfl⟩ (.refl _) ?_
 clear c1 c2 h1 hA hal g hla h12
 rintro⟨i,m,y⟩ ⟨hi,hM,htk,hml⟩
 dsimp only at hi hM htk hml ⊢
 refine wf ?_
 refine pwp_condD (fun hc=>?_) (fun hc=>?_)
 ·have hib:i < b.length:=by omega
  obtain⟨K,hiK,hbef,hKm,hKe,m2,hmv,hM2,hm2l,hm2t⟩:=connect_step hM hB hib htk hml
  refine wf ?_
  refine pwp_loopS (σ:=Nat) (fun k=>i≤k∧k≤K) (fun k=>K - k) (fun k=> [(0,.slice (s.map eSto) t),(1,.slice (m.map eDig) y),(2,.slice (b.map eDig) w),(7,.raw (.int .i64 i)),(8,.raw (.int .i64 k)),(38,.raw (.int .i64 b.length)),(39,.raw (.int .i64 i))]) (fun _=>LF) i ⟨by omega,hiK⟩ ⟨rfl,rfl,rfl,rfl,rfl,rfl,rfl⟩ (.refl _) ?_
  rintro k ⟨hk1,hk2⟩
  have hkm:k < m.length:=by omega
  have g:decide ((k:Int) < (m.length:Int))=true:=decide_eq_true (by omega)
  refine wf ?_
  refine pwp_condN (fun h=>?_) (fun h=>?_)
  ·have hlt:k < K:=by
    refine Nat.lt_of_le_of_ne hk2 fun e=>?_
    subst e
    exact h hKe
   refine wf ?_
   exact⟨k+1,⟨by omega,by omega⟩,by dsimp only;omega,⟨rfl,rfl,rfl,rfl,rfl,rfl,rfl⟩,.refl _⟩
  ·have h':m[k]=b[i]:=h
   have hkK:k=K:=by
    refine Classical.byContradiction fun e=>?_
    exact hbef k hk1 hkm (by omega) h'
   subst hkK
   have c3:=fun t u=>moveH_fn s t m u (k:Int) (i:Int) v
   rw[move_lin v hM hkm (by omega) hmv]at c3
   dsimp only at c3
   refine wf ?_
   refine pwp_condN (fun h=>absurd (show(m2.length:Int)=(m.length:Int) by omega) h) (fun _=>?_)
   refine wf ?_
   exact⟨(i+1,m2,.ro),⟨by dsimp only;omega,hM2,hm2t,by dsimp only;omega⟩,by dsimp only;omega,⟨rfl,rfl,rfl,rfl,rfl⟩,.refl _⟩
 ·have hii:i=b.length:=by omega
  have hmb:m=b:=by
   rw[hii,←hml,List.take_length,hml,List.take_length]at htk
   exact htk
  subst hmb
  have g2:decide (m=m)=true:=decide_eq_true rfl
  refine wf ?_
  exact end1 (.refl _)⟩
end Go.Proofs
