/- Contracts of the program: what can be reached: the closure that collects. -/
import Derived.Test.YtddlffkdpocmhaaGreatDoorUal
import Derived.Maps.RangeRun
set_option linter.unusedSimpArgs false
set_option linter.unusedVariables false
namespace Go.Proofs
open Go Go.Q
attribute [local irreducible] pwp pops PCalls OpN
def addO (out l:List Dig):List Dig:=l.foldl (fun o d=>if d∈o then o else o++ [d]) out
theorem addO_take {out l:List Dig} {k:Nat} (h:k < l.length):addO out (l.take (k+1))=if l[k]∈addO out (l.take k)then addO out (l.take k)else addO out (l.take k)++ [l[k]]:=by
 rw[List.take_succ_eq_append_getElem h,addO,List.foldl_append];rfl
theorem addO_len (out:List Dig): ∀ l:List Dig,(addO out l).length≤out.length+l.length:=by
 intro l
 induction l generalizing out with
 |nil=>simp[addO]
 |cons x l ih=>
  have:=ih (if x∈out then out else out++ [x])
  rw[addO,List.foldl_cons]
  refine Nat.le_trans this ?_
  split<;>simp<;>omega
def MetOk (met:List (Dig × Bool)) (out:List Dig):Prop:= ∀ d,(mGet d met).getD false=decide (d∈out)
theorem MetOk.add {met:List (Dig × Bool)} {out:List Dig} (h:MetOk met out) (d:Dig):MetOk (mSet d true met) (out++ [d]):=fun x=>by
 rw[mGet_mSet]
 by_cases e:x=d
 ·subst e;simp
 ·rw[if_neg e,h x];simp[e]
def Coll (b6 m b7:Nat) (out:List Dig) (L:List Res):Prop:= ∃ met v R,MetOk met out∧DRow v out R∧L= .box b6 130 [.raw (.map (some m))]:: .map m (eMap kDig vBool met):: .box b7 25 [.raw v]::R
theorem perm_three {a b c:Res} {L LF:List Res}:(a::b::c::(L++LF)).Perm (L++(a::b::c::LF)):=((List.perm_middle (l₁:=L)).trans (.cons a ((List.perm_middle (l₁:=L)).trans (.cons b List.perm_middle)))).symm
def allG (G:List (Dig × List Dig)) (l:List Dig):Bool:=l.all fun d=>(mGet d G).isSome
set_option maxHeartbeats 400000 in
theorem coll_fn (G:List (Dig × List Dig)) (l:List Dig) (t:Tag) (b6 m b7:Nat) (out:List Dig) (L:List Res) (hL:Coll b6 m b7 out L) (hb:out.length+l.length≤1000):
  PCalls Tryz.prog 115 [.slice (l.map eDig) t,.pt [.fmap (eMap kDig (vSl eDig) G)] 0,.raw (.pointer (some ⟨b6,0,none⟩)),.raw (.pointer (some ⟨b7,0,none⟩))] L (fun r L'=>r= .raw (.bool (allG G l))∧ ∃ out',Coll b6 m b7 out' L'∧(allG G l=true→out'=addO out l)):=by
 refine pcalls_bd Tryz.func115 rfl Tryz.ntmps115 (rs:= [.tmp 5]) rfl rfl fun hbd LF=>?_
 refine wf ?_
 refine pwp_loopS (σ:=Nat × List Res) (fun k=>k.1≤l.length∧(∀ i (h:i < l.length),i < k.1→(mGet l[i] G).isSome=true)∧Coll b6 m b7 (addO out (l.take k.1)) k.2) (fun k=>l.length - k.1) (fun k=> [(1,.pt [.fmap (eMap kDig (vSl eDig) G)] 0),(2,.raw (.pointer (some ⟨b6,0,none⟩))),(3,.raw (.pointer (some ⟨b7,0,none⟩))),(10,.slice (l.map eDig) t),(11,.raw (.int .i64 l.length)),(12,.raw (.int .i64 k.1))]) (fun k=>k.2++LF) (0,L) ⟨by simp,by simp,hL⟩ ⟨rfl,rfl,rfl,rfl,rfl,rfl⟩ (.refl _) ?_
 rintro⟨k,L1⟩ ⟨hk,hall,met,v,R,hm,hv,rfl⟩
 dsimp only at hk hall hm hv ⊢
 refine wf ?_
 refine pwp_condD (fun hc=>?_) (fun hc=>?_)
 ·have hlt:k < l.length:=by omega
  refine wz fun b=>?_
  refine pwp_freezeD 7 ?_
  refine wf ?_
  refine pwp_condB (fun h=>?_) (fun h=>?_)
  ·have h0:(mGet l[k] G).isSome=false:=by simpa using h
   have hA:allG G l=false:=by
    unfold allG
    exact List.all_eq_false.2 ⟨l[k],List.getElem_mem hlt,by simp[h0]⟩
   refine wf ?_
   exact⟨trivial,_,_,.cons (.tmp 5) .nil,.refl _,by rw[hA];exact rfl,_,⟨met,v,R,hm,hv,rfl⟩,fun h=>by rw[hA]at h;cases h⟩
  have hi:(mGet l[k] G).isSome=true:=by simpa using h
  have hall': ∀ i (h:i < l.length),i < k+1→(mGet l[i] G).isSome=true:=fun i hi' hik=>by
   rcases Nat.lt_or_ge i k with h'|h'
   ·exact hall i hi' h'
   ·have e:i=k:=by omega
    subst e;exact hi
  refine wf ?_
  have hml:=hm l[k]
  have ht:=addO_take (out:=out) hlt
  refine pwp_condB (fun h=>?_) (fun h=>?_)
  ·have hno:l[k]∉addO out (l.take k):=by
    rw[hml]at h;simpa using h
   rw[if_neg hno]at ht
   have hol:=addO_len out (l.take k)
   rw[List.length_take]at hol
   refine wf ?_
   refine s_mapUpd (κ:=Dig) (ek:=kDig) (ev:=vBool) (k0:=l[k]) (x0:=true) (L':= .box b6 130 [.raw (.map (some m))]:: .box b7 25 [.raw v]::(R++LF)) rfl (.swap _ _ _) (.refl _) (.refl _) ?_
   refine pops_nil ?_
   refine pwp_perm (.swap _ _ _) ?_
   refine wf ?_
   refine s_appRow (f:=eDig) (m:= [l[k]]) (R:=R) (LF:= .box b6 130 [.raw (.map (some m))]:: .map m (eMap kDig vBool (mSet l[k] true met)):: .box b7 25 [.raw v]::LF) (fun R'=> .box b6 130 [.raw (.map (some m))]:: .map m (eMap kDig vBool (mSet l[k] true met)):: .box b7 25 [.raw v]::(R'++LF)) rfl rfl hv perm_three (fun R'=>perm_three.symm) (by simp only[List.length_cons,List.length_nil];omega) (by simp only[List.length_cons,List.length_nil];omega) fun v2 R2 hv2=>?_
   refine wf ?_
   refine s_storeV [.raw v2] rfl rfl hv2.one rfl (by simp) ?_
   refine wf ?_
   refine wf ?_
   refine⟨(k+1,_),⟨by dsimp only;omega,hall',mSet l[k] true met,v2,R2,?_,?_,rfl⟩,by dsimp only;omega,⟨rfl,rfl,rfl,rfl,rfl,rfl⟩,.refl _⟩
   ·dsimp only;rw[ht];exact hm.add _
   ·dsimp only;rw[ht];exact hv2
  ·have hyes:l[k]∈addO out (l.take k):=by
    rw[hml]at h;simpa using h
   rw[if_pos hyes]at ht
   refine wf ?_
   exact⟨(k+1,_),⟨by dsimp only;omega,hall',met,v,R,by dsimp only;rw[ht];exact hm,by dsimp only;rw[ht];exact hv,rfl⟩,by dsimp only;omega,⟨rfl,rfl,rfl,rfl,rfl,rfl⟩,.refl _⟩
 ·have hA:allG G l=true:=by
   unfold allG
   refine List.all_eq_true.2 fun d hd=>?_
   obtain⟨i,hi,rfl⟩:=List.mem_iff_getElem.1 hd
   exact hall i hi (by omega)
  refine wf ?_
  rw[List.take_of_length_le (by omega)]at hm hv
  exact⟨trivial,_,_,.cons (.tmp 5) .nil,.refl _,by rw[hA];exact rfl,_,⟨met,v,R,hm,hv,rfl⟩,fun _=>rfl⟩
end Go.Proofs
namespace Go.Proofs
open Go Go.Q
def ndG (G:List (Dig × List Dig)) (d:Dig):List Dig:=(mGet d G).getD []
theorem addO_cons (out:List Dig) (x:Dig) (l:List Dig):addO out (x::l)=addO (if x∈out then out else out++ [x]) l:=rfl
theorem mem_addO: ∀ {l out:List Dig} {d:Dig},d∈addO out l↔d∈out∨d∈l
 | [],out,d=>by simp[addO]
 |x::l,out,d=>by
  rw[addO_cons,mem_addO]
  split
  ·rename_i h
   constructor
   ·rintro(h1|h1)
    ·exact .inl h1
    ·exact .inr (List.mem_cons_of_mem _ h1)
   ·rintro(h1|h1)
    ·exact .inl h1
    ·rcases List.mem_cons.1 h1 with rfl|h1
     ·exact .inl h
     ·exact .inr h1
  ·simp[or_assoc]
theorem addO_nodup: ∀ {l out:List Dig},out.Nodup→(addO out l).Nodup
 | [],_,h=>h
 |x::l,out,h=>by
  rw[addO_cons]
  refine addO_nodup ?_
  split
  ·exact h
  ·rename_i hx
   refine List.pairwise_append.2 ⟨h,List.pairwise_singleton _ _,fun a ha b hb=>?_⟩
   rw[List.mem_singleton.1 hb]
   rintro rfl
   exact hx ha
theorem addO_prefix: ∀ {l out:List Dig},out <+:addO out l
 | [],_=>List.prefix_refl _
 |x::l,out=>by
  rw[addO_cons]
  refine List.IsPrefix.trans ?_ addO_prefix
  split
  ·exact List.prefix_refl _
  ·exact List.prefix_append _ _
structure ClI (nd:Dig→List Dig) (l out:List Dig) (i:Nat):Prop where
 nodup:out.Nodup
 sub: ∀ d∈l,d∈out
 reach: ∀ d∈out,Q.Reach nd l d
 done: ∀ j (h:j < out.length),j < i→ ∀ d∈nd out[j],d∈out
theorem ClI.start (nd:Dig→List Dig) (l:List Dig):ClI nd l (addO [] l) 0:=
 ⟨addO_nodup .nil,fun d hd=>mem_addO.2 (.inr hd),fun d hd=> .base ((mem_addO.1 hd).elim (fun h=>absurd h (by simp)) id),fun _ _ h=>absurd h (by omega)⟩
theorem ClI.step {nd:Dig→List Dig} {l out:List Dig} {i:Nat} (h:ClI nd l out i) (hi:i < out.length):ClI nd l (addO out (nd out[i])) (i+1):=by
 refine⟨addO_nodup h.nodup,fun d hd=>mem_addO.2 (.inl (h.sub d hd)),fun d hd=>?_,fun j hj hji d hd=>?_⟩
 ·rcases mem_addO.1 hd with h1|h1
  ·exact h.reach d h1
  ·exact .step (h.reach _ (List.getElem_mem hi)) h1
 ·have hjo:j < out.length:=by omega
  have e:(addO out (nd out[i]))[j]=out[j]:=(addO_prefix.getElem hjo).symm
  rw[e]at hd
  by_cases hj2:j < i
  ·exact mem_addO.2 (.inl (h.done j hjo hj2 d hd))
  ·have hje:j=i:=by omega
   subst hje
   exact mem_addO.2 (.inr hd)
theorem ClI.fin {nd:Dig→List Dig} {l out:List Dig} {i:Nat} (h:ClI nd l out i) (hi:out.length≤i) (d:Dig):d∈out↔Q.Reach nd l d:=by
 refine⟨h.reach d,fun hr=>?_⟩
 induction hr with
 |base hd=>exact h.sub _ hd
 |step _ hd ih=>
  obtain⟨j,hj,rfl⟩:=List.mem_iff_getElem.1 ih
  exact h.done j hj (by omega) _ hd
theorem ClI.len {nd:Dig→List Dig} {l out U:List Dig} {i:Nat} (h:ClI nd l out i) (hU: ∀ x∈U,∀ d∈nd x,d∈U) (hl: ∀ d∈l,d∈U):out.length≤U.length:=
 nodup_len h.nodup fun d hd=>(h.reach d hd).in_ hU hl
theorem sortD_asc {l:List Dig} (h:l.Nodup):Asc (sortD l):=by
 have h2:(sortD l).Nodup:=(List.mergeSort_perm l _).nodup_iff.2 h
 refine List.pairwise_iff_getElem.2 fun i j hi hj hij=>?_
 have a:=List.pairwise_iff_getElem.1 (sortD_sorted l) i j hi hj hij
 have b:=List.pairwise_iff_getElem.1 h2 i j hi hj hij
 rcases Dig.tri (sortD l)[i] (sortD l)[j]with h'|h'|h'
 ·exact h'
 ·exact absurd h' b
 ·exact absurd h' a
theorem sortD_mem {l:List Dig} {d:Dig}:d∈sortD l↔d∈l:=List.mem_mergeSort
theorem gr_is: ∀ (s:List Sto) (m:List (Dig × List Dig)) (d:Dig),(mGet d (s.foldl (fun m x=>mSet x.id (rNeeds x.patch) m) m)).isSome=(decide (d∈ids s)||(mGet d m).isSome)
 | [],m,d=>by simp[ids]
 |x::s,m,d=>by
  rw[List.foldl_cons,gr_is s,mGet_mSet]
  by_cases e:d=x.id<;>simp[ids,e]
theorem gr_val: ∀ (s:List Sto) (m:List (Dig × List Dig)) (d:Dig) (r:List Dig),mGet d (s.foldl (fun m x=>mSet x.id (rNeeds x.patch) m) m)=some r→(∃ x∈s,x.id=d∧r=rNeeds x.patch)∨mGet d m=some r
 | [],m,d,r,h=> .inr h
 |x::s,m,d,r,h=>by
  rw[List.foldl_cons]at h
  rcases gr_val s _ d r h with ⟨y,hy,h1,h2⟩|h1
  ·exact .inl ⟨y,List.mem_cons_of_mem _ hy,h1,h2⟩
  ·rw[mGet_mSet]at h1
   split at h1
   ·rename_i e
    exact .inl ⟨x,List.mem_cons_self,e.symm,(Option.some.inj h1).symm⟩
   ·exact .inr h1
theorem gr_some (s:List Sto) (d:Dig):(mGet d (gr s)).isSome=decide (d∈ids s):=by
 rw[gr,gr_is];simp[mGet]
theorem Valid.ndG {s:List Sto} (v:Valid s):Go.Proofs.ndG (gr s)=Go.Proofs.ndS s:=by
 funext d
 have h1:=gr_some s d
 unfold Go.Proofs.ndG
 cases hg:mGet d (gr s)with
 |none=>
  rw[hg]at h1
  have hd: ¬d∈ids s:=by simpa using h1
  have hn:Go.Proofs.getS s d=none:=by
   cases hs:Go.Proofs.getS s d with
   |none=>rfl
   |some p=>
    obtain⟨x,hx,e,_⟩:=getS_mem hs
    exact absurd (List.mem_map.2 ⟨x,hx,e⟩) hd
  rw[Go.Proofs.ndS,hn,Option.getD_none,Option.getD_none,needs_zero]
 |some r=>
  rcases gr_val s [] d r hg with ⟨x,hx,e,rfl⟩|h2
  ·subst e
   rw[v.ndS hx];rfl
  ·simp[mGet]at h2
end Go.Proofs
namespace Go.Proofs
open Go Go.Q
attribute [local irreducible] pwp pops PCalls OpN
def clG (G:List (Dig × List Dig)) (U l:List Dig):List Dig × Bool:=if allG G l=false then([],false)else(iterC (ndG G) U.length (withAll [] l),true)
structure GrOk (G:List (Dig × List Dig)) (U:List Dig):Prop where
 is: ∀ d,(mGet d G).isSome=decide (d∈U)
 len:U.length≤100
 cl: ∀ x∈U,∀ d∈ndG G x,d∈U
 nd: ∀ x,(ndG G x).length≤400
theorem GrOk.all {G:List (Dig × List Dig)} {U l:List Dig} (h:GrOk G U):allG G l=true↔ ∀ d∈l,d∈U:=by
 unfold allG
 rw[List.all_eq_true]
 exact⟨fun k d hd=>by have:=k d hd;rw[h.is]at this;exact of_decide_eq_true this,fun k d hd=>by rw[h.is];exact decide_eq_true (k d hd)⟩
theorem zeroRow:ZeroE Tryz.prog 25 [.raw (.slice none 0 0)]:=zero1 (v:= .slice none 0 0) (by kernel_rfl) rfl fun _=> .raw _
set_option maxHeartbeats 1000000 in
theorem reached_fn (G:List (Dig × List Dig)) (U:List Dig) (hG:GrOk G U) (l:List Dig) (t:Tag) (hl:l.length≤400):FnC Tryz.prog 82 [.fmap (eMap kDig (vSl eDig) G),.slice (l.map eDig) t] (.tuple [.slice ((clG G U l).1.map eDig) .ro,.raw (.bool (clG G U l).2)]):=⟨by
 refine fn_of Tryz.func82 Tryz.ntmps82 rfl (rs:= [.tmp 4,.tmp 5]) rfl rfl fun hb LF=>?_
 refine wf ?_
 refine j_makeMap fun m=>?_
 refine s_alloc fun b6=>?_
 refine wf ?_
 refine s_alloc (hZ:=zeroRow) fun b7=>?_
 refine wf ?_
 refine s_callR (xs:= [.tmp 13]) [.box b6 130 [.raw (.map (some m))],.map m (eMap kDig vBool []),.box b7 25 [.raw (.slice none 0 0)]] LF (f:=115) (cs:= [.pt [.fmap (eMap kDig (vSl eDig) G)] 0,.raw (.pointer (some ⟨b6,0,none⟩)),.raw (.pointer (some ⟨b7,0,none⟩))]) (.refl _) rfl rfl (List.perm_middle (l₁:= [_,_])).symm _ (coll_fn G l t b6 m b7 [] _ ⟨[],.slice none 0 0,[],fun d=>by simp[mGet],.nil none (by simp),rfl⟩ (by simp;omega)) fun r L1 ⟨hr,out0,hC,ho⟩=>?_
 subst hr
 refine wf ?_
 refine pwp_condB (fun h=>?_) (fun h=>?_)
 ·have h0:allG G l=false:=by simpa using h
  refine wf ?_
  refine end2 (hs:=List.sublist_append_right _ _) ?_
  rw[clG,if_pos h0]
  exact .tuple2 (.ro _ _) (.refl _)
 have h1:allG G l=true:=by simpa using h
 have hlU:=hG.all.1 h1
 rw[clG,if_neg (by simp[h1])]
 have ho:=ho h1
 subst ho
 refine wf ?_
 refine pwp_loopS (σ:=Nat × List Dig × List Res) (fun k=>k.1≤k.2.1.length∧ClI (ndG G) l k.2.1 k.1∧Coll b6 m b7 k.2.1 k.2.2) (fun k=>U.length - k.1) (fun k=> [(2,.pt [.fmap (eMap kDig (vSl eDig) G)] 0),(7,.raw (.pointer (some ⟨b7,0,none⟩))),(8,.clo 115 [.pt [.fmap (eMap kDig (vSl eDig) G)] 0,.raw (.pointer (some ⟨b6,0,none⟩)),.raw (.pointer (some ⟨b7,0,none⟩))]),(9,.raw (.int .i64 k.1))]) (fun k=>k.2.2++LF) (0,addO [] l,L1) ⟨by simp,ClI.start _ _,hC⟩ ⟨rfl,rfl,rfl,rfl⟩ (.refl _) ?_
 rintro⟨k,out,L2⟩ ⟨hk,hI,met,v,R,hm,hv,rfl⟩
 dsimp only at hk hI hm hv ⊢
 have hol:=hI.len hG.cl hlU
 have hUl:=hG.len
 obtain⟨o,c,rfl⟩:=hv.slice
 refine wf ?_
 refine s_lenR rfl ?_
 refine wf ?_
 refine pwp_condD (fun hc=>?_) (fun hc=>?_)
 ·have hlt:k < out.length:=by omega
  have hne:out≠ []:=fun e=>by subst e;simp at hlt
  obtain⟨_,r,cur,rest,rfl,rfl,hcur,hsz,hlc⟩:=hv.inv hne
  refine wn ?_
  refine pwp_drawN 7 ?_ ?_
  ·decide+kernel
  refine wf ?_
  refine s_ixRow (k:=k) rfl rfl hlt ?_
  refine s_ldRow (f:=eDig) (a0:=out[k]) rfl (List.mem_append_left _ (List.mem_cons_of_mem _ (List.mem_cons_of_mem _ (List.mem_cons_of_mem _ List.mem_cons_self)))) (by rw[hcur,Nat.zero_add];exact row_at vDig_len out k hlt rest) (by omega) ?_
  refine wf ?_
  have hin:out[k]∈U:=(hI.reach _ (List.getElem_mem hlt)).in_ hG.cl hlU
  have hA:allG G (ndG G out[k])=true:=hG.all.2 (hG.cl _ hin)
  have hnd:=hG.nd out[k]
  refine s_callR (xs:= [.tmp 28]) (.box b6 130 [.raw (.map (some m))]:: .map m (eMap kDig vBool met):: .box b7 25 [.raw (.slice (some ⟨r,0,none⟩) out.length c)]:: [.raw r (.cells cur 37 (0,0))]) LF (f:=115) (cs:= [.pt [.fmap (eMap kDig (vSl eDig) G)] 0,.raw (.pointer (some ⟨b6,0,none⟩)),.raw (.pointer (some ⟨b7,0,none⟩))]) (.refl _) rfl rfl (.refl _) _ (coll_fn G (ndG G out[k]) .ro b6 m b7 out _ ⟨met,_,_,hm,hv,rfl⟩ (by omega)) fun r L3 ⟨hr,out1,hC1,ho1⟩=>?_
  have ho1:=ho1 hA
  subst ho1
  refine wf ?_
  refine wf ?_
  have hpl:=(addO_prefix (out:=out) (l:=ndG G out[k])).length_le
  exact⟨(k+1,addO out (ndG G out[k]),L3),⟨by dsimp only;omega,hI.step hlt,hC1⟩,by dsimp only;omega,⟨rfl,rfl,rfl,rfl⟩,.refl _⟩
 have hfin:=hI.fin (by omega)
 have hmx:(sortD out).length≤maxN∧(sortD out).length*32≤maxN:=by
  have:maxN=140737488355328:=rfl
  have h2:(sortD out).length=out.length:=List.length_mergeSort _
  omega
 refine wf ?_
 refine s_callR (xs:= [.tmp 30,.func 83]) R (.box b6 130 [.raw (.map (some m))]:: .map m (eMap kDig vBool met):: .box b7 25 [.raw (.slice o out.length c)]::LF) (f:=110) (cs:= []) (le_func _) rfl rfl perm_three _ (sort_fn out _ R hv (by omega)) fun r L3 ⟨v2,e2,hv2⟩=>?_
 subst e2
 refine pops_nil ?_
 refine pwp_perm perm_three.symm ?_
 refine pwp_seq ?_
 refine pwp_region (by kernel_rfl) ?_
 refine wo ?_
 refine pops_nil ?_
 refine pwp_freezeRow (f:=eDig) 4 hv2 hmx perm_three rfl ?_
 refine wf ?_
 refine end2 ?_
 have e:sortD out=iterC (ndG G) U.length (withAll [] l):=by
  refine Asc.ext (sortD_asc hI.nodup) (iterC_asc (withAll_asc .nil)) fun d=>?_
  rw[sortD_mem,hfin]
  exact(mem_iterC hG.cl hlU (Nat.le_refl _)).symm
 rw[e]
 exact .refl _⟩
theorem rNeeds_asc (p:Pat):Asc (rNeeds p):=by
 unfold rNeeds
 split
 ·exact .nil
 ·exact needs_asc _ _ (withAll_asc .nil)
theorem ndS_asc (s:List Sto) (d:Dig):Asc (ndS s d):=rNeeds_asc _
theorem Valid.grOk {s:List Sto} (v:Valid s):GrOk (gr s) (ids s):=by
 have h8:=v.close.1.1
 refine⟨gr_some s,by rw[ids_len];omega,fun x _ d hd=>?_,fun x=>?_⟩
 ·rw[v.ndG]at hd
  exact v.close.nd x d hd
 ·rw[v.ndG]
  have:=v.close.small (ndS_asc s x) (v.close.nd x)
  omega
theorem Valid.clG {s:List Sto} (v:Valid s) (l:List Dig):(Go.Proofs.clG (gr s) (ids s) l).1=(rClosure s l).1∧(rClosure s l).2=if(Go.Proofs.clG (gr s) (ids s) l).2=false then 7 else 0:=by
 have h1:allG (gr s) l=allIn (ids s) l:=by
  unfold allG allIn
  congr 1
  funext d
  exact gr_some s d
 unfold Go.Proofs.clG rClosure
 rw[h1,v.ndG,ids_len]
 split<;>simp
instance ClosureP_ct (s:List Sto) (l:List Dig) (t u:Tag) [hs:Small (Valid s)] [hl:Small (l.length≤400)]:FnC Tryz.prog 39 [.slice (s.map eSto) t,.slice (l.map eDig) u] (.tuple [.slice ((rClosure s l).1.map eDig) .ro,.raw (.int .i64 (rClosure s l).2)]):=⟨by
 have v:=hs.out
 have i1:Small (goodS s):=⟨v.close.1⟩
 have i2:=fun t=>reached_fn (gr s) (ids s) v.grOk l t hl.out
 refine fn_of Tryz.func39 Tryz.ntmps39 rfl (rs:= [.tmp 4,.tmp 5]) rfl rfl fun hb LF=>?_
 obtain⟨e1,e2⟩:=v.clG l
 refine wf ?_
 refine pwp_condB (fun h=>?_) (fun h=>?_)
 ·have h0:(clG (gr s) (ids s) l).2=false:=by simpa using h
  rw[if_pos h0]at e2
  have e3:(rClosure s l).1= []:=by
   unfold rClosure at e2 ⊢
   split
   ·rfl
   ·rename_i h3
    rw[if_neg h3]at e2
    simp at e2
  refine wf ?_
  refine end2 ?_
  rw[e2,e3]
  exact .tuple2 (.ro _ _) (.refl _)
 ·have h0:(clG (gr s) (ids s) l).2=true:=by simpa using h
  rw[h0]at e2
  simp at e2
  refine wf ?_
  refine end2 ?_
  rw[e2,←e1]
  exact .refl _⟩
end Go.Proofs
namespace Go.Q
open Go
structure ResLe (b:Nat) (kvs:List (PV × PV)) (r r':Res):Prop where
 block:r'.block=r.block
 holds: ∀ w g,VR g (.map (some b)) (.fmap kvs)→r.holds w g→r'.holds w g
section
variable {P:Program} {N:Nat} {ρ:Env} {L:List Res} {Q:PPost} {c:Code}
end
end Go.Q
namespace Go.Proofs
open Go Go.Q
attribute [local irreducible] pwp pops PCalls OpN
def cm (l:List Dig):List (Dig × Bool):=l.foldl (fun m x=>mSet x true m) []
def cM (s l:List Sto):List (Dig × List (Dig × Bool)):=l.foldl (fun m x=>mSet x.id (cm (cloS s x.id)) m) []
def eSea (s:List Sto):List PV:= [.slice (s.map eSto) .ro]++ [.fmap (eMap kDig (vMap kDig vBool) (cM s s))]
@[simp] theorem len_eSea (s:List Sto):(eSea s).length=2:=rfl
instance put2_0 {a b c:PV}:Put [a,b] 0 [c] [c,b]:=put_here (a:= [a]) (b:= [b]) (new:= [c]) rfl
instance put2_1 {a b c:PV}:Put [a,b] 1 [c] [a,c]:=put_skip (a:= [a]) (n:=1) (off:=0) rfl (put_last (a:= [b]) (new:= [c]) rfl)
instance {b:Option Nat}:CellsC (.raw (.map b)) [.raw (.map b)]:=⟨.one (Flat.out)⟩
end Go.Proofs
namespace Go.Proofs
open Go Go.Q
theorem Reach.trans' {nd:Dig→List Dig} {l:List Dig} {x d:Dig} (h1:Q.Reach nd l x) (h2:Q.Reach nd [x] d):Q.Reach nd l d:=by
 induction h2 with
 |base h=>rw[List.mem_singleton.1 h];exact h1
 |step _ h ih=>exact .step ih h
structure Turned (nd:Dig→List Dig) (U:List Dig) (T:List (Dig × List Dig)):Prop where
 is: ∀ d,(mGet d T).isSome=decide (d∈U)
 mem: ∀ x y,y∈ndG T x↔y∈U∧x∈nd y
 len: ∀ x,(ndG T x).length≤400
theorem Turned.ok {nd:Dig→List Dig} {U:List Dig} {T:List (Dig × List Dig)} (h:Turned nd U T) (hU:U.length≤100):GrOk T U:=
 ⟨h.is,hU,fun x _ d hd=>((h.mem x d).1 hd).1,h.len⟩
theorem Turned.reach {nd:Dig→List Dig} {U:List Dig} {T:List (Dig × List Dig)} (h:Turned nd U T) (hcl: ∀ x∈U,∀ d∈nd x,d∈U) {l:List Dig} (hl: ∀ d∈l,d∈U) (d:Dig):Q.Reach (ndG T) l d↔d∈U∧ ∃ q∈l,Q.Reach nd [d] q:=by
 constructor
 ·intro hr
  induction hr with
  |base hd=>exact⟨hl _ hd,_,hd,.base (by simp)⟩
  |step _ hd ih=>
   obtain⟨_,q,hq,hr⟩:=ih
   obtain⟨hu,hn⟩:=(h.mem _ _).1 hd
   exact⟨hu,q,hq,Reach.trans' (.step (.base (by simp)) hn) hr⟩
 ·rintro⟨hd,q,hq,hr⟩
  have key: ∀ q,Q.Reach nd [d] q→Q.Reach (ndG T) [q] d:=fun q hr=>by
   induction hr with
   |base h'=>rw[List.mem_singleton.1 h'];exact .base (by simp)
   |step hx hn ih=>
    have hxU:=hx.in_ hcl (ids:= [d]) (fun y hy=>by rw[List.mem_singleton.1 hy];exact hd)
    exact Reach.trans' (.step (.base (by simp)) ((h.mem _ _).2 ⟨hxU,hn⟩)) ih
  exact Reach.trans' (.base hq) (key q hr)
def useS (s:List Sto) (l out:List Dig) (x:Sto):List Dig:=l.foldl (fun out k=>if k∈cloS s x.id then withD out x.id else out) out
def usesS (s:List Sto) (l:List Dig) (t:List Sto):List Dig:=t.foldl (useS s l) []
def rUsers (s:List Sto) (l:List Dig):List Dig × Int:=if allIn (ids s) l=false then([],7)else(usesS s l s,0)
theorem useS_asc {s:List Sto} {x:Sto}: ∀ {l out:List Dig},Asc out→Asc (useS s l out x)
 | [],_,h=>h
 |k::l,out,h=>by
  unfold useS
  rw[List.foldl_cons]
  refine useS_asc (l:=l) ?_
  split
  ·exact withD_asc h
  ·exact h
theorem mem_useS {s:List Sto} {x:Sto}: ∀ {l out:List Dig} {d:Dig},d∈useS s l out x↔d∈out∨(d=x.id∧ ∃ k∈l,k∈cloS s x.id)
 | [],out,d=>by simp[useS]
 |k::l,out,d=>by
  have e:useS s (k::l) out x=useS s l (if k∈cloS s x.id then withD out x.id else out) x:=rfl
  rw[e,mem_useS]
  by_cases h:k∈cloS s x.id
  ·rw[if_pos h,mem_withD]
   constructor
   ·rintro((h1|h1)|⟨h1,k',h2,h3⟩)
    ·exact .inr ⟨h1,k,by simp,h⟩
    ·exact .inl h1
    ·exact .inr ⟨h1,k',List.mem_cons_of_mem _ h2,h3⟩
   ·rintro(h1|⟨h1,_⟩)
    ·exact .inl (.inr h1)
    ·exact .inl (.inl h1)
  ·rw[if_neg h]
   constructor
   ·rintro(h1|⟨h1,k',h2,h3⟩)
    ·exact .inl h1
    ·exact .inr ⟨h1,k',List.mem_cons_of_mem _ h2,h3⟩
   ·rintro(h1|⟨h1,k',h2,h3⟩)
    ·exact .inl h1
    ·rcases List.mem_cons.1 h2 with rfl|h2
     ·exact absurd h3 h
     ·exact .inr ⟨h1,k',h2,h3⟩
theorem foldUse_asc {s:List Sto} {l:List Dig}: ∀ {t:List Sto} {out:List Dig},Asc out→Asc (t.foldl (useS s l) out)
 | [],_,h=>h
 |x::t,out,h=>foldUse_asc (t:=t) (useS_asc h)
theorem mem_foldUse {s:List Sto} {l:List Dig}: ∀ {t:List Sto} {out:List Dig} {d:Dig},d∈t.foldl (useS s l) out↔d∈out∨ ∃ x∈t,d=x.id∧ ∃ k∈l,k∈cloS s x.id
 | [],out,d=>by simp
 |x::t,out,d=>by
  rw[List.foldl_cons,mem_foldUse,mem_useS]
  constructor
  ·rintro((h|h)|⟨y,hy,h⟩)
   ·exact .inl h
   ·exact .inr ⟨x,by simp,h⟩
   ·exact .inr ⟨y,List.mem_cons_of_mem _ hy,h⟩
  ·rintro(h|⟨y,hy,h⟩)
   ·exact .inl (.inl h)
   ·rcases List.mem_cons.1 hy with rfl|hy
    ·exact .inl (.inr h)
    ·exact .inr ⟨y,hy,h⟩
theorem usesS_asc {s:List Sto} {l:List Dig}:Asc (usesS s l s):=foldUse_asc .nil
theorem mem_uses {s:List Sto} {l:List Dig} {d:Dig}:d∈usesS s l s↔d∈ids s∧ ∃ k∈l,k∈cloS s d:=by
 unfold usesS
 rw[mem_foldUse]
 constructor
 ·rintro(h|⟨x,hx,rfl,h⟩)
  ·cases h
  ·exact⟨List.mem_map.2 ⟨x,hx,rfl⟩,h⟩
 ·rintro⟨h,h2⟩
  obtain⟨x,hx,rfl⟩:=List.mem_map.1 h
  exact .inr ⟨x,hx,rfl,h2⟩
theorem Valid.turned {s:List Sto} (v:Valid s) {T:List (Dig × List Dig)} (h:Turned (Go.Proofs.ndS s) (ids s) T) (l:List Dig):(Go.Proofs.clG T (ids s) l).1=(rUsers s l).1∧(rUsers s l).2=if(Go.Proofs.clG T (ids s) l).2=false then 7 else 0:=by
 have h1:allG T l=allIn (ids s) l:=by
  unfold allG allIn
  congr 1
  funext d
  exact h.is d
 unfold Go.Proofs.clG rUsers
 rw[h1]
 by_cases hl:allIn (ids s) l=false
 ·rw[if_pos hl,if_pos hl];simp
 rw[if_neg hl,if_neg hl]
 refine⟨?_,by simp⟩
 have hlU: ∀ d∈l,d∈ids s:=fun d hd=>by
  have hl:allIn (ids s) l=true:=by simpa using hl
  simpa using List.all_eq_true.1 hl d hd
 have hT: ∀ x∈ids s,∀ d∈Go.Proofs.ndG T x,d∈ids s:=fun x _ d hd=>((h.mem x d).1 hd).1
 refine Asc.ext (iterC_asc (withAll_asc .nil)) usesS_asc fun d=>?_
 rw[mem_iterC hT hlU (Nat.le_refl _),h.reach (fun x _ d hd=>v.close.nd x d hd) hlU,mem_uses]
 constructor
 ·rintro⟨hd,q,hq,hr⟩
  exact⟨hd,q,hq,(v.mem_clo hd q).2 hr⟩
 ·rintro⟨hd,q,hq,hr⟩
  exact⟨hd,q,hq,(v.mem_clo hd q).1 hr⟩
def rKnows (s:List Sto) (p q:Dig):Bool:=decide ((rClosure s [p]).2=0)&&(decide (q∈ids s)&&decide (q∈(rClosure s [p]).1))
theorem Valid.knows {s:List Sto} (v:Valid s) (p q:Dig):rKnows s p q=(decide ((rClosure s [p]).2=0)&&decide (q∈(rClosure s [p]).1)):=by
 unfold rKnows
 by_cases h:(rClosure s [p]).2=0
 ·by_cases hq:q∈(rClosure s [p]).1
  ·have hp:p∈ids s:=by
    unfold rClosure at h
    by_cases h1:allIn (ids s) [p]=false
    ·rw[if_pos h1]at h;exact absurd h (by decide)
    ·simpa [allIn]using h1
   have e:(rClosure s [p]).1=cloS s p:=rfl
   rw[e]at hq ⊢
   have hin:q∈ids s:=by
    have h:=(v.mem_clo hp q).1 hq
    exact h.in_ (fun x _ d hd=>v.close.nd x d hd) (ids:= [p]) (fun y hy=>by rw[List.mem_singleton.1 hy];exact hp)
   simp[h,hq,hin]
  ·simp[hq]
 ·simp[h]
end Go.Proofs
namespace Go.Q
open Go
theorem Inv.drew {w:World} {g:Gh} {L:List Res} (hi:Inv w g L):Inv w.drew g L∧Step (blocks L) w g w.drew g:=
 ⟨⟨hi.sat,fun b z hz=>(hi.satM b z hz).congr rfl,fun r hr=>by have:=hi.res r hr;cases r<;>first|exact this|(rename_i t _ _;cases t<;>exact this),hi.nodup,hi.glob⟩,
  ⟨rfl,rfl,⟨rfl,Nat.le_succ _⟩,Nat.le_refl _,fun _ _ _=>rfl,.refl g,fun _ _ _=>⟨fun _=>rfl,rfl⟩⟩⟩
section
variable {P:Program} {N:Nat} {all:Array Oper} {K:Env→List Res→Prop} {fl:List Bool} {os:List Oper} {ρ:Env} {L:List Res} {Q:PPost} {c:Code} {d:Nat} {ty:TypeId} {pos:String} {af:Array Edge} {T KT ET:Nat}
theorem s_range {x:Operand} {kvs:List (PV × PV)} (hx:ρ.ev x= .fmap kvs) [hT:TMap P T KT ET]
  (k: ∀ b,pops P N all K fl.tail os (upd ρ d (.raw (.pointer (some ⟨b,0,none⟩)))) (.iter b kvs []::L)) (hd:Nat.blt d N=true:=by rfl) (hf:fl.headD true=true:=by rfl):
  pops P N all K fl (⟨some d,.range T x,ty,pos,af,none⟩::os) ρ L:=
 pops_n rfl (dlt hd) hf (fun a w g ha hi=>by
  have h1:=ha x (by simp[Op.operands])
  rw[hx]at h1
  have key: ∃ m es c,a.eval x= .map m∧(m=none→c=0)∧(∀ b,m=some b→w.heap[b]? =some (.map es c))∧Ranged g m es c∧Entries g es kvs∧Stamped es c:=by
   generalize a.eval x=v at h1
   cases h1 with
   |fmap hM hl hk hv=>obtain⟨hc,hs⟩:=hi.satM _ _ hM;exact⟨_,_,_,rfl,(fun e=>by cases e),(fun b e=>by cases e;exact hc),.inr ⟨_,rfl,hM⟩,⟨hl,hk,hv⟩,hs⟩
   |nilM=>exact⟨none,#[],0,rfl,fun _=>rfl,(fun b e=>by cases e),.inl ⟨rfl,rfl,rfl⟩,⟨rfl,by simp,by simp⟩,⟨by simp,by simp⟩⟩
  obtain⟨m,es,cl,e1,e0,e2,hR,hE,hS⟩:=key
  obtain⟨i1,s1⟩:=hi.allocO (.mapIter m cl #[] cl)
  have hr:(Instr.range T (a.eval x)).run P w= .ok (.pointer (some ⟨w.heap.size,0,none⟩)) (w.alloc (.mapIter m cl #[] cl)):=by
   rw[e1]
   cases m with
   |none=>rw[e0 rfl];exact run_range_nilMap w T KT ET hT.out
   |some b=>exact run_range_map w T KT ET b es cl hT.out (e2 b rfl)
  have hr':(execOp a.eval ⟨some d,.range T x,ty,pos,af,none⟩).run P w= .ok (.value (.pointer (some ⟨w.heap.size,0,none⟩))) (w.alloc (.mapIter m cl #[] cl)):=by
   simp only[execOp,hr,Sem.run_bind,Result.andThen_ok,Sem.run_pure]
  refine Oper.wq_of_run hr' ?_
  obtain⟨f1,f2⟩:=hi.fresh (b:=w.heap.size) (Nat.le_refl _)
  refine⟨_,_,g,_,rfl,.raw _,⟨i1.sat,i1.satM,fun r hr=>?_,?_,i1.glob⟩,s1,?_,k _⟩
  ·rcases List.mem_cons.1 hr with rfl|hr
   ·exact⟨m,es,cl,by show(w.heap.push _)[w.heap.size]? =_;simp,hR,hE,f1,f2,hS,by simp⟩
   ·exact i1.res r hr
  ·simp only[blocks,List.filterMap_cons,Res.block]
   exact List.nodup_cons.2 ⟨fun h=>by have:=hi.lt h;omega,hi.nodup⟩
  ·intro b' hb' hlt
   simp only[blocks,List.filterMap_cons,Res.block]at hb'
   rcases List.mem_cons.1 hb' with rfl|hb'
   ·omega
   ·exact hb')
theorem born_getD {es:Array MapEntry} {i:Nat} (h:i < es.size):(es.toList.map (·.born)).getD i 0=es[i].born:=by simp[List.getD,h]
theorem Stamped.inj {es:Array MapEntry} {c i j:Nat} (hS:Stamped es c) (hi:i < es.size) (hj:j < es.size) (e:es[i].born=es[j].born):i=j:=by
 have hp:=List.pairwise_iff_getElem.1 hS.nd
 have hi':i < (es.toList.map (·.born)).length:=by simpa using hi
 have hj':j < (es.toList.map (·.born)).length:=by simpa using hj
 have e':(es.toList.map (·.born))[i]=(es.toList.map (·.born))[j]:=by simpa using e
 rcases Nat.lt_trichotomy i j with h|h|h
 ·exact absurd e' (hp i j hi' hj' h)
 ·exact h
 ·exact absurd e'.symm (hp j i hj' hi' h)
theorem s_next {x:Operand} {b:Nat} {kvs:List (PV × PV)} {done:List Nat} {L':List Res} (hx:ρ.ev x= .raw (.pointer (some ⟨b,0,none⟩))) (hp:L.Perm (.iter b kvs done::L'))
  (k1:(∀ i,i < kvs.length→i∈done)→pops P N all K fl.tail os (upd ρ d (.tuple [.raw (.bool false)])) (.iter b kvs done::L'))
  (k2: ∀ i (h:i < kvs.length),i∉done→pops P N all K fl.tail os (upd ρ d (.tuple [.raw (.bool true),kvs[i].1,kvs[i].2])) (.iter b kvs (done++ [i])::L')) (hd:Nat.blt d N=true:=by rfl) (hf:fl.headD true=true:=by rfl):
  pops P N all K fl (⟨some d,.next x false,ty,pos,af,none⟩::os) ρ L:=
 pops_n rfl (dlt hd) hf (OpN.perm hp fun a w g ha hi=>by
  have h1:=evRaw ha (x:=x) (by simp[Op.operands]) hx
  obtain⟨m,es,cl,hb,hR,hE,hH,hM,hS,hD⟩:=hi.res _ List.mem_cons_self
  have hlen:=hE.len
  rcases hR with ⟨rfl,rfl,rfl⟩|⟨bm,rfl,hbm⟩
  ·have hr:(execOp a.eval ⟨some d,.next x false,ty,pos,af,none⟩).run P w= .ok (.value (.tuple #[.bool false])) w:=by
    simp only[execOp,h1,Instr.next,getObj,Sem.run_bind,Sem.run,hb,Result.andThen]
    rfl
   refine Oper.wq_of_run hr ?_
   exact⟨_,_,g,_,rfl,VRl.tuple (.cons (.raw _) (.nil g)),hi,.refl _ _ _,.refl _ _,k1 fun i hi'=>absurd hi' (by simp at hlen;omega)⟩
  ·obtain⟨hc,_⟩:=hi.satM _ _ hbm
   rcases run_next_at (P:=P) w ty b bm cl cl _ es cl hb hc hS.lt (Nat.le_refl _)with ⟨h0,hr⟩|⟨e,he,w1,hw,hr⟩
   ·have hr':(execOp a.eval ⟨some d,.next x false,ty,pos,af,none⟩).run P w= .ok (.value (.tuple #[.bool false])) w:=by
     simp only[execOp,h1,hr,Sem.run_bind,Result.andThen_ok,Sem.run_pure]
    refine Oper.wq_of_run hr' ?_
    refine⟨_,_,g,_,rfl,VRl.tuple (.cons (.raw _) (.nil g)),hi,.refl _ _ _,.refl _ _,k1 fun i hi'=>?_⟩
    have hi2:i < es.size:=by omega
    have hs:=all_seen es _ h0 es[i] (by simp)
    have hm:es[i].born∈done.map fun i=>(es.toList.map (·.born)).getD i 0:=by simpa using hs
    obtain⟨j,hj,e⟩:=List.mem_map.1 hm
    rw[born_getD (hD j hj)]at e
    rw[←hS.inj (hD j hj) hi2 e];exact hj
   ·obtain⟨hm,hns⟩:=mem_left he
    obtain⟨i,hi1,rfl⟩:=List.mem_iff_getElem.1 hm
    have hi2:i < es.size:=by simpa using hi1
    have hi3:i < kvs.length:=by omega
    rw[Array.getElem_toList]at hns hr
    have hnd:i∉done:=fun hid=>by
     have:es[i].born∈done.map fun i=>(es.toList.map (·.born)).getD i 0:=List.mem_map.2 ⟨i,hid,born_getD hi2⟩
     have h2:((done.map fun i=>(es.toList.map (·.born)).getD i 0).toArray).contains es[i].born=true:=by simpa using this
     rw[hns]at h2;cases h2
    have hr':(execOp a.eval ⟨some d,.next x false,ty,pos,af,none⟩).run P w= .ok (.value (.tuple #[.bool true,es[i].key,es[i].val])) (Go.ChangeMaps.setBlock w1 b (.mapIter (some bm) cl (((done.map fun i=>(es.toList.map (·.born)).getD i 0).toArray).push es[i].born) cl)):=by
     simp only[execOp,h1,hr,Sem.run_bind,Result.andThen_ok,Sem.run_pure]
    refine Oper.wq_of_run hr' ?_
    have hi1:Inv w1 g (.iter b kvs done::L')∧Step (blocks (.iter b kvs done::L')) w g w1 g:=by
     rcases hw with rfl|rfl
     ·exact⟨hi,.refl _ _ _⟩
     ·exact hi.drew
    obtain⟨hi1,hs1⟩:=hi1
    have hndp:=hi1.nodup
    simp only[blocks,List.filterMap_cons,Res.block]at hndp
    have hlt:b < w1.heap.size:=hi1.lt (by simp[blocks,Res.block])
    have i2:=(hi1.sub (List.sublist_cons_self _ _)).put (.mapIter (some bm) cl (((done.map fun i=>(es.toList.map (·.born)).getD i 0).toArray).push es[i].born) cl) hH hM (List.nodup_cons.1 hndp).1
    refine⟨_,.tuple [.raw (.bool true),kvs[i].1,kvs[i].2],g,.iter b kvs (done++ [i])::L',rfl,VRl.tuple (.cons (.raw _) (.cons (hE.key i hi2 hi3) (.cons (hE.val i hi2 hi3) (.nil g)))),⟨i2.sat,i2.satM,fun r hr=>?_,hi.nodup,hi.glob⟩,hs1.trans (.refl _ _) (.put _ (by simp[blocks,Res.block])),fun b' hb' _=>hb',k2 i hi3 hnd⟩
    rcases List.mem_cons.1 hr with rfl|hr
    ·refine⟨some bm,es,cl,?_,.inr ⟨bm,rfl,hbm⟩,hE,hH,hM,hS,fun j hj=>?_⟩
     ·rw[show Go.ChangeMaps.setBlock w1 b _=w1.putObj b _ from rfl,World.putObj_heap_same hlt]
      congr 2
      simp[hi2]
     ·rcases List.mem_append.1 hj with hj|hj
      ·exact hD j hj
      ·rw[List.mem_singleton.1 hj];exact hi2
    ·exact i2.res r hr)
theorem s_entry {x:Operand} {b i:Nat} {kvs:List (PV × PV)} {done:List Nat} (hx:ρ.ev x= .raw (.pointer (some ⟨b,0,none⟩))) (hm:Res.iter b kvs (done++ [i])∈L) (h:i < kvs.length)
  (k:pops P N all K fl.tail os (upd ρ d (.tuple [kvs[i].1,kvs[i].2])) L) (hd:Nat.blt d N=true:=by rfl):pops P N all K fl (⟨some d,.entry x,ty,pos,af,none⟩::os) ρ L:=
 step_q hd (qop_of_run fun a w g ha hi=>by
  have h1:=evRaw ha (x:=x) (by simp[Op.operands]) hx
  obtain⟨m,es,cl,hb,hR,hE,hH,hM,hS,hD⟩:=hi.res _ hm
  have hi2:i < es.size:=hD i (by simp)
  rcases hR with ⟨rfl,rfl,rfl⟩|⟨bm,rfl,hbm⟩
  ·simp at hi2
  ·obtain⟨hc,_⟩:=hi.satM _ _ hbm
   have e1:((done++ [i]).map fun i=>(es.toList.map (·.born)).getD i 0).toArray=((done.map fun i=>(es.toList.map (·.born)).getD i 0).toArray).push es[i].born:=by simp[hi2]
   rw[e1]at hb
   have hr:=run_entry_at (P:=P) w b bm cl _ es cl es[i] hb hc (by simp) hS.nd
   refine⟨_,?_,VRl.tuple (.cons (hE.key i hi2 h) (.cons (hE.val i hi2 h) (.nil g)))⟩
   simp only[execOp,h1,hr,Sem.run_bind,Result.andThen_ok,Sem.run_pure]) k
end
end Go.Q
namespace Go.Q
open Go
theorem kIdx_append_none {κ:Type} [DecidableEq κ] {k:κ}: ∀ {l:List κ},kIdx k l=none→kIdx k (l++ [k])=some l.length
 | [],_=>by simp[kIdx]
 |a::l,h=>by
  simp only[kIdx]at h
  by_cases e:k=a
  ·simp[e]at h
  ·simp only[e,if_false,Option.map_eq_none_iff]at h
   simp[kIdx,e,kIdx_append_none h]
theorem mSet_mSet {κ α:Type} [DecidableEq κ] (k:κ) (x y:α): ∀ l:List (κ × α),mSet k x (mSet k y l)=mSet k x l
 | []=>by simp[mSet]
 |(a,z)::l=>by
  by_cases e:k=a
  ·subst e;simp[mSet]
  ·simp[mSet,e,mSet_mSet k x y l]
structure OpenAt {κ α:Type} [DecidableEq κ] (es:Array MapEntry) (cl:Nat) (l:List (κ × α)) (k0:κ) (i:Nat) (n:Int):Prop where
 st:Stamped es cl
 idx:kIdx k0 (l.map (·.1))=some i
 len:es.size=l.length
 born: ∀ h:i < es.size,(es[i].born:Int)=n
def kvsKnow (es:Array MapEntry) (kvs:List (PV × PV)):Res:= .know (es.toList.map (·.key)++es.toList.map (·.val)) (kvs.map (·.1)++kvs.map (·.2))
theorem Entries.know {g:Gh} {es:Array MapEntry} {kvs:List (PV × PV)} (h:Entries g es kvs):VRl g (es.toList.map (·.key)++es.toList.map (·.val)) (kvs.map (·.1)++kvs.map (·.2)):=by
 have hl:=h.len
 refine VRl.append ⟨by simp[hl],fun i h1 h2=>?_⟩ ⟨by simp[hl],fun i h1 h2=>?_⟩
 ·simpa using h.key i (by simpa using h1) (by simpa using h2)
 ·simpa using h.val i (by simpa using h1) (by simpa using h2)
theorem Entries.of_know {g:Gh} {es:Array MapEntry} {kvs:List (PV × PV)} (hl:es.size=kvs.length) (h:VRl g (es.toList.map (·.key)++es.toList.map (·.val)) (kvs.map (·.1)++kvs.map (·.2))):Entries g es kvs:=by
 refine⟨hl,fun i h1 h2=>?_,fun i h1 h2=>?_⟩
 ·have:=h.at_ i (by simp;omega) (by simp;omega)
  rw[List.getElem_append_left (by simpa using h1),List.getElem_append_left (by simpa using h2)]at this
  simpa using this
 ·have:=h.at_ (es.size+i) (by simp;omega) (by simp;omega)
  rw[List.getElem_append_right (by simp),List.getElem_append_right (by simp;omega)]at this
  simpa [hl]using this
section
variable {P:Program} {N:Nat} {all:Array Oper} {K:Env→List Res→Prop} {fl:List Bool} {os:List Oper} {ρ:Env} {L:List Res} {d:Nat} {ty:TypeId} {pos:String} {af:Array Edge}
variable {κ α:Type} [DecidableEq κ] {ek:κ→PV} {ev:α→PV} {T KT ET:Nat}
theorem s_mapEntry [hT:TMap P T KT ET] [hK:TKey P KT ek] {a0:α} [hz:ZV P ET ev a0] {x y:Operand} {b:Nat} {l:List (κ × α)} {k0:κ} {L':List Res} (hx:ρ.ev x= .raw (.map (some b))) (hp:L.Perm (.map b (eMap ek ev l)::L')) (hk:Le (ρ.ev y) (ek k0))
  (k: ∀ es cl i n,OpenAt es cl (mSet k0 ((mGet k0 l).getD a0) l) k0 i n→pops P N all K fl.tail os (upd ρ d (.tuple [ev ((mGet k0 l).getD a0),.raw (.int .i64 n)])) (.raw b (.map es cl)::kvsKnow es (eMap ek ev (mSet k0 ((mGet k0 l).getD a0) l))::L')) (hd:Nat.blt d N=true:=by rfl) (hfl:fl.headD true=true:=by rfl):
  pops P N all K fl (⟨some d,.mapEntry T x y,ty,pos,af,none⟩::os) ρ L:=
 pops_n rfl (dlt hd) hfl (OpN.perm hp fun a w g ha hi=>by
  have h1:=evRaw ha (x:=x) (by simp[Op.operands]) hx
  have h2:=hk g _ (ha y (by simp[Op.operands]))
  obtain⟨es,cl,hb,hE,hH,hM,hS⟩:=hi.res _ (List.mem_cons_self)
  have hl:es.size=l.length:=by simpa [eMap]using hE.len
  have hf:=hK.out.find g (a.eval y) k0 es.toList (l.map (·.1)) w h2 (by simpa using hl) (fun i h h'=>by
   have:=hE.key i (by simpa using h) (by simpa [eMap]using h')
   simpa [eMap]using this)
  have hlt:b < w.heap.size:=(Array.getElem?_eq_some_iff.1 hb).1
  have hnd:=hi.nodup
  simp only[blocks,List.filterMap_cons,Res.block]at hnd
  have hrest:Inv w g L':=hi.sub (List.sublist_cons_self _ _)
  have fin: ∀ (es':Array MapEntry) (cl' i:Nat) (n:Int) (u:Value),Entries g es' (eMap ek ev (mSet k0 ((mGet k0 l).getD a0) l))→OpenAt es' cl' (mSet k0 ((mGet k0 l).getD a0) l) k0 i n→VR g u (ev ((mGet k0 l).getD a0))→(Instr.mapEntry T (a.eval x) (a.eval y)).run P w= .ok (.tuple #[u,goInt n]) (w.putObj b (.map es' cl'))→
    Oper.wq P ⟨some d,.mapEntry T x y,ty,pos,af,none⟩ a w (fun a' w'=> ∃ v x g' L'',a'=a.put (some d) v∧VR g' v x∧Inv w' g' L''∧Step (blocks (.map b (eMap ek ev l)::L')) w g w' g'∧Within w (.map b (eMap ek ev l)::L') L''∧pops P N all K fl.tail os (upd ρ d x) L''):=fun es' cl' i n u hE' hO hu hr=>by
   have hr':(execOp a.eval ⟨some d,.mapEntry T x y,ty,pos,af,none⟩).run P w= .ok (.value (.tuple #[u,goInt n])) (w.putObj b (.map es' cl')):=by
    simp only[execOp,hr,Sem.run_bind,Result.andThen_ok,Sem.run_pure]
   refine Oper.wq_of_run hr' ?_
   have i2:=hrest.put (.map es' cl') hH hM (List.nodup_cons.1 hnd).1
   refine⟨_,.tuple [ev ((mGet k0 l).getD a0),.raw (.int .i64 n)],g,.raw b (.map es' cl')::kvsKnow es' (eMap ek ev (mSet k0 ((mGet k0 l).getD a0) l))::L',rfl,VRl.tuple (.cons hu (.cons (.raw _) (.nil g))),⟨i2.sat,i2.satM,fun r hr=>?_,?_,hi.glob⟩,.put _ (by simp[blocks,Res.block]),fun b' hb' _=>?_,k es' cl' i n hO⟩
   ·rcases List.mem_cons.1 hr with rfl|hr
    ·exact⟨World.putObj_heap_same hlt,hH,hM⟩
    ·rcases List.mem_cons.1 hr with rfl|hr
     ·exact hE'.know
     ·exact i2.res r hr
   ·simpa only[blocks,List.filterMap_cons,Res.block,kvsKnow]using hnd
   ·simpa only[blocks,List.filterMap_cons,Res.block,kvsKnow]using hb'
  cases hi':kIdx k0 (l.map (·.1))with
  |none=>
   rw[hi']at hf
   obtain⟨i0,z,z1,z2,z3⟩:=hz.out
   have e0:(mGet k0 l).getD a0=a0:=by rw[mGet_none k0 hi'];rfl
   rw[e0]at fin
   rw[mSet_keys_new k0 a0 hi']at fin
   refine fin (es.push { key:=a.eval y,val:=z,born:=cl }) (cl+1) l.length cl z ?_ ⟨hS.push rfl,?_,by simp[hl],fun h=>?_⟩ (z3 g) ?_
   ·rw[eMap,List.map_append]
    refine⟨by simp[hl],fun i j1 j2=>?_,fun i j1 j2=>?_⟩
    ·by_cases hi2:i < es.size
     ·rw[Array.getElem_push_lt hi2,List.getElem_append_left (by simp;omega)]
      exact hE.key i hi2 (by simp[eMap];omega)
     ·have e:i=es.size:=by simp at j1;omega
      subst e
      rw[List.getElem_append_right (by simp[hl])]
      rw[Array.getElem_push_eq];simpa [hl]using h2
    ·by_cases hi2:i < es.size
     ·rw[Array.getElem_push_lt hi2,List.getElem_append_left (by simp;omega)]
      exact hE.val i hi2 (by simp[eMap];omega)
     ·have e:i=es.size:=by simp at j1;omega
      subst e
      rw[List.getElem_append_right (by simp[hl])]
      rw[Array.getElem_push_eq];simpa [hl]using z3 g
   ·rw[List.map_append]
    have:=kIdx_append_none hi'
    simpa using this
   ·simp[←hl]
   ·unfold Instr.mapEntry
    simp only[Sem.run_bind,run_underlying hT.out,Result.andThen_ok,h1,MapKept.run_getObj_map hb,hK.out.check false g _ k0 w h2,hf,Option.bind_none,zeroValue,typeInfo,run_program,z1,z2,Sem.run_pure,MapKept.run_setObj_map _ hb]
    rfl
  |some i=>
   rw[hi']at hf
   obtain⟨y0,e1,e2,e3⟩:=mSet_keys_old k0 ((mGet k0 l).getD a0) hi'
   have hli:i < l.length:=(List.getElem?_eq_some_iff.1 e1).1
   have hli':i < es.size:=by omega
   have hy0:l[i]=(k0,y0):=(List.getElem?_eq_some_iff.1 e1).2
   have e0:(mGet k0 l).getD a0=y0:=by rw[e3];rfl
   rw[e0]at e2 fin
   have e4:l.set i (k0,y0)=l:=by rw[←hy0];exact List.set_getElem_self hli
   rw[e4]at e2
   rw[e2]at fin
   have hkey:VR g es[i].key (ek k0):=by
    have:=hE.key i hli' (by simp[eMap];exact hli)
    simpa [eMap,hy0]using this
   have hval:VR g es[i].val (ev y0):=by
    have:=hE.val i hli' (by simp[eMap];exact hli)
    simpa [eMap,hy0]using this
   have hsame:=hK.out.same g _ _ k0 hkey h2
   refine fin (es.modify i fun e=>{ e with key:=a.eval y }) cl i es[i].born es[i].val ?_ ⟨hS.modify fun _=>rfl,hi',by simpa using hl,fun h=>by simp[Array.getElem_modify]⟩ hval ?_
   ·refine⟨by simp[eMap,hl],fun j j1 j2=>?_,fun j j1 j2=>?_⟩
    ·simp only[Array.size_modify]at j1
     rw[Array.getElem_modify (by simpa using j1)]
     by_cases hj:i=j
     ·subst hj
      simp[eMap,hy0];exact h2
     ·simp only[hj,if_false]
      exact hE.key j j1 j2
    ·simp only[Array.size_modify]at j1
     rw[Array.getElem_modify (by simpa using j1)]
     by_cases hj:i=j
     ·subst hj
      simp[eMap,hy0];exact hval
     ·simp only[hj,if_false]
      exact hE.val j j1 j2
   ·have hf2:(Instr.findKey KT (a.eval y) es.toList).run P w= .ok (some (i,es[i].val)) w:=by rw[hf];simp[hli']
    have hst:(Instr.keyThatStays es[i].key (a.eval y)).run P w= .ok (a.eval y) w:=by unfold Instr.keyThatStays;rw[if_pos hsame];rfl
    unfold Instr.mapEntry
    simp only[Sem.run_bind,run_underlying hT.out,Result.andThen_ok,h1,MapKept.run_getObj_map hb,hK.out.check false g _ k0 w h2,hf2,Array.getElem?_eq_getElem hli',Option.map_some,Option.getD_some,hst,MapKept.run_setObj_map _ hb]
    rfl)
theorem s_entryStore {es:Array MapEntry} {cl i:Nat} {n:Int} {x y z:Operand} {b:Nat} {l:List (κ × α)} {k0:κ} {x0:α} {L':List Res} (hO:OpenAt es cl l k0 i n) (hx:ρ.ev x= .raw (.map (some b))) (hy:ρ.ev y= .raw (.int .i64 n)) (hz:Le (ρ.ev z) (ev x0)) (hp:L.Perm (.raw b (.map es cl)::kvsKnow es (eMap ek ev l)::L'))
  (k:pops P N all K fl.tail os ρ (.map b (eMap ek ev (mSet k0 x0 l))::L')) (hfl:fl.headD true=true:=by rfl):pops P N all K fl (⟨none,.entryStore T x y z,ty,pos,af,none⟩::os) ρ L:=
 pops_n rfl (fun _ e=>by cases e) hfl (OpN.perm hp fun a w g ha hi=>by
  have h1:=evRaw ha (x:=x) (by simp[Op.operands]) hx
  have h2:=evRaw ha (x:=y) (by simp[Op.operands]) hy
  have h3:=hz g _ (ha z (by simp[Op.operands]))
  obtain⟨hb,hH,hM⟩:=hi.res _ (List.mem_cons_self)
  have hkn:=hi.res _ (List.mem_cons_of_mem _ List.mem_cons_self)
  have hE:Entries g es (eMap ek ev l):= .of_know (by simpa [eMap]using hO.len) hkn
  obtain⟨y0,e1,e2,_⟩:=mSet_keys_old k0 x0 hO.idx
  have hli:i < l.length:=(List.getElem?_eq_some_iff.1 e1).1
  have hli':i < es.size:=by have:=hO.len;omega
  have hy0:l[i]=(k0,y0):=(List.getElem?_eq_some_iff.1 e1).2
  have hlt:b < w.heap.size:=(Array.getElem?_eq_some_iff.1 hb).1
  have hbn:=hO.born hli'
  have hnd:=hi.nodup
  simp only[blocks,List.filterMap_cons,Res.block,kvsKnow]at hnd
  have hrest:Inv w g L':=hi.sub ((List.sublist_cons_self _ _).trans (List.sublist_cons_self _ _))
  have hfi:es.findIdx? (fun e=>(e.born:Int)==n)=some i:=by
   rw[Array.findIdx?_eq_some_iff_getElem]
   refine⟨hli',by simpa using hbn,fun j hj=>?_⟩
   have hj':j < es.size:=by omega
   intro h
   have:(es[j].born:Int)=n:=by simpa using h
   have:=hO.st.inj hj' hli' (by omega)
   omega
  have hr:(Instr.entryStore T (a.eval x) (a.eval y) (a.eval z)).run P w= .ok () (w.putObj b (.map (es.modify i fun e=>{ e with val:=a.eval z }) cl)):=by
   unfold Instr.entryStore
   simp only[Sem.run_bind,h1,h2,MapKept.run_getObj_map hb,asInt,asIntOf,Sem.run_pure,Result.andThen_ok,hfi,MapKept.run_setObj_map _ hb]
   rfl
  have hr':(execOp a.eval ⟨none,.entryStore T x y z,ty,pos,af,none⟩).run P w= .ok .skip (w.putObj b (.map (es.modify i fun e=>{ e with val:=a.eval z }) cl)):=by
   simp only[execOp,hr,Sem.run_bind,Result.andThen_ok,Sem.run_pure]
  refine Oper.wq_of_run hr' ?_
  have i2:=hrest.put (.map (es.modify i fun e=>{ e with val:=a.eval z }) cl) hH hM (List.nodup_cons.1 hnd).1
  refine⟨undef,.raw undef,g,.map b (eMap ek ev (mSet k0 x0 l))::L',rfl,.raw _,⟨i2.sat,i2.satM,fun r hr=>?_,?_,hi.glob⟩,.put _ (by simp[blocks,Res.block]),fun b' hb' _=>?_,k⟩
  ·rcases List.mem_cons.1 hr with rfl|hr
   ·refine⟨_,cl,World.putObj_heap_same hlt,?_,hH,hM,hO.st.modify fun _=>rfl⟩
    rw[e2]
    refine⟨by simp[eMap,hO.len],fun j j1 j2=>?_,fun j j1 j2=>?_⟩
    ·simp only[Array.size_modify]at j1
     have j3:j < l.length:=by have:=hO.len;omega
     rw[Array.getElem_modify (by simpa using j1)]
     have:=hE.key j j1 (by simp[eMap];exact j3)
     by_cases hj:i=j
     ·subst hj
      simpa [eMap,hy0]using this
     ·simp only[hj,if_false]
      simpa [eMap,List.getElem_set_ne hj]using this
    ·simp only[Array.size_modify]at j1
     have j3:j < l.length:=by have:=hO.len;omega
     rw[Array.getElem_modify (by simpa using j1)]
     by_cases hj:i=j
     ·subst hj
      simp[eMap];exact h3
     ·simp only[hj,if_false]
      have:=hE.val j j1 (by simp[eMap];exact j3)
      simpa [eMap,List.getElem_set_ne hj]using this
   ·exact i2.res r hr
  ·simpa only[blocks,List.filterMap_cons,Res.block]using hnd
  ·simpa only[blocks,List.filterMap_cons,Res.block,kvsKnow]using hb')
end
end Go.Q
namespace Go.Proofs
open Go Go.Q
attribute [local irreducible] pwp pops PCalls OpN
def vTg (x:List Dig × Tag):PV:= .slice (x.1.map eDig) x.2
instance zv_tg:ZV Tryz.prog 25 vTg ([],.nil):=zvof (v:= .slice none 0 0) (by kernel_rfl) fun _=> .nilN none (by simp)
def tokE (x:List Dig × Tag):Res:= .tok x.2 x.1.length 32
def toks (m:List (Dig × (List Dig × Tag))):List Res:=m.map fun e=>tokE e.2
def Split (k:Dig) (m:List (Dig × (List Dig × Tag))) (R:List Res):Prop:=(mGet k m=none∧R=toks m)∨ ∃ v,mGet k m=some v∧(toks m).Perm (tokE v::R)
theorem toks_split (k:Dig): ∀ m:List (Dig × (List Dig × Tag)),∃ R,Split k m R∧ ∀ v,(toks (mSet k v m)).Perm (tokE v::R)
 | []=>⟨[],.inl ⟨rfl,rfl⟩,fun v=> .refl _⟩
 |(a,y)::l=>by
  by_cases e:k=a
  ·exact⟨toks l,.inr ⟨y,by simp[mGet,e],.refl _⟩,fun v=>by simp[mSet,e,toks]⟩
  ·obtain⟨R,h1,h2⟩:=toks_split k l
   refine⟨tokE y::R,?_,fun v=>?_⟩
   ·rcases h1 with ⟨h,rfl⟩|⟨v,h,hp⟩
    ·exact .inl ⟨by simp[mGet,e,h],rfl⟩
    ·exact .inr ⟨v,by simp[mGet,e,h],(List.Perm.cons (tokE y) hp).trans (.swap _ _ _)⟩
   ·have e2:mSet k v ((a,y)::l)=(a,y)::mSet k v l:=by simp[mSet,e]
    rw[e2]
    exact(List.Perm.cons (tokE y) (h2 v)).trans (.swap _ _ _)
theorem pwp_toks {P:Program} {N:Nat} {c:Code} {Q:PPost} {ρ:Env} {A LF R:List Res} {m:List (Dig × (List Dig × Tag))} {k:Dig} (h:Split k m R) (hk:pwp P N c Q ρ (A++tokE ((mGet k m).getD ([],.nil))::(R++LF))):pwp P N c Q ρ (A++(toks m++LF)):=by
 rcases h with ⟨h,rfl⟩|⟨v,h,hp⟩
 ·rw[h]at hk
  refine pwp_tok 32 ?_
  exact pwp_perm List.perm_middle.symm hk
 ·rw[h]at hk
  exact pwp_perm (List.Perm.append_left A (hp.append_right LF)) hk
def ndT (m:List (Dig × (List Dig × Tag))) (d:Dig):List Dig:=((mGet d m).getD ([],.nil)).1
def gK (G:List (Dig × List Dig)) (i:Nat):Dig:=(G.getD i (Dig.zero,[])).1
def gV (G:List (Dig × List Dig)) (i:Nat):List Dig:=(G.getD i (Dig.zero,[])).2
def lstT (G:List (Dig × List Dig)) (done:List Nat) (d:Dig):List Dig:=(done.filter fun i=>decide (d∈gV G i)).map (gK G)
structure TInv (G:List (Dig × List Dig)) (done:List Nat) (y:Dig) (part ex:List Dig) (m:List (Dig × (List Dig × Tag))):Prop where
 val: ∀ d,ndT m d=lstT G done d++(if d∈part then [y]else [])
 is: ∀ d,(mGet d m).isSome=true↔(∃ i∈done,d=gK G i∨d∈gV G i)∨d∈ex
theorem TInv.start (G:List (Dig × List Dig)) (y:Dig):TInv G [] y [] [] []:=⟨fun d=>by simp[ndT,mGet,lstT],fun d=>by simp[mGet]⟩
theorem ndT_set (m:List (Dig × (List Dig × Tag))) (k d:Dig) (v:List Dig × Tag):ndT (mSet k v m) d=if d=k then v.1 else ndT m d:=by
 unfold ndT
 rw[mGet_mSet]
 by_cases h:d=k
 ·rw[if_pos h,if_pos h];rfl
 ·rw[if_neg h,if_neg h]
theorem TInv.own {G:List (Dig × List Dig)} {done:List Nat} {z y:Dig} {m:List (Dig × (List Dig × Tag))} (h:TInv G done z [] [] m) (t:Tag):TInv G done y [] [y] (mSet y (ndT m y++ [],t) m):=by
 refine⟨fun d=>?_,fun d=>?_⟩
 ·rw[ndT_set]
  have:=h.val d
  by_cases e:d=y
  ·subst e;simpa using this
  ·rw[if_neg e];simpa using this
 ·rw[mGet_mSet]
  by_cases e:d=y
  ·subst e;simp
  ·rw[if_neg e,h.is d];simp[e]
theorem TInv.step {G:List (Dig × List Dig)} {done:List Nat} {y x:Dig} {part:List Dig} {m:List (Dig × (List Dig × Tag))} (h:TInv G done y part (y::part) m) (hx:x∉part) (t:Tag):TInv G done y (part++ [x]) (y::(part++ [x])) (mSet x (ndT m x++ [y],t) m):=by
 refine⟨fun d=>?_,fun d=>?_⟩
 ·rw[ndT_set]
  have:=h.val d
  by_cases e:d=x
  ·subst e
   rw[if_neg hx]at this
   rw[if_pos rfl,this,if_pos (by simp)];simp
  ·rw[if_neg e,this]
   by_cases e2:d∈part<;>simp[e,e2]
 ·rw[mGet_mSet]
  by_cases e:d=x
  ·subst e;simp
  ·rw[if_neg e,h.is d];simp[e]
theorem TInv.next {G:List (Dig × List Dig)} {done:List Nat} {z:Dig} {i:Nat} {m:List (Dig × (List Dig × Tag))} (h:TInv G done (gK G i) (gV G i) (gK G i::gV G i) m):TInv G (done++ [i]) z [] [] m:=by
 refine⟨fun d=>?_,fun d=>?_⟩
 ·rw[h.val d]
  unfold lstT
  by_cases e:d∈gV G i<;>simp[e]
 ·rw[h.is d]
  constructor
  ·rintro(⟨j,hj,h2⟩|h2)
   ·exact .inl ⟨j,by simp[hj],h2⟩
   ·exact .inl ⟨i,by simp,by simpa using h2⟩
  ·rintro(⟨j,hj,h2⟩|h2)
   ·rcases List.mem_append.1 hj with hj|hj
    ·exact .inl ⟨j,hj,h2⟩
    ·rw[List.mem_singleton.1 hj]at h2
     exact .inr (by simpa using h2)
   ·cases h2
theorem TInv.len {G:List (Dig × List Dig)} {done:List Nat} {y:Dig} {part ex:List Dig} {m:List (Dig × (List Dig × Tag))} (h:TInv G done y part ex m) (d:Dig):(ndT m d).length≤done.length+1:=by
 rw[h.val d]
 have:(lstT G done d).length≤done.length:=by unfold lstT;rw[List.length_map];exact List.length_filter_le _ _
 rw[List.length_append]
 split<;>simp<;>omega
theorem done_len {done:List Nat} {n:Nat} (h1:done.Nodup) (h2: ∀ i∈done,i < n):done.length≤n:=by
 have:=nodup_len h1 (m:=List.range n) fun i hi=>List.mem_range.2 (h2 i hi)
 simpa using this
theorem le_tg (m:List (Dig × (List Dig × Tag))):Le (.fmap (eMap kDig vTg m)) (.fmap (eMap kDig (vSl eDig) (m.map fun e=>(e.1,e.2.1)))):=fun g v h=>by
 generalize hk:eMap kDig vTg m=kvs at h
 cases h with
 |fmap hM hl hk2 hv=>
  subst hk
  refine .fmap hM (by simpa [eMap]using hl) (fun i h1 h2=>?_) (fun i h1 h2=>?_)
  ·have:=hk2 i h1 (by simpa [eMap]using h2)
   simpa [eMap]using this
  ·have:=hv i h1 (by simpa [eMap]using h2)
   simp only[eMap,List.getElem_map]at this ⊢
   exact this.ro
 |nilM=>
  have:m= []:=by simpa [eMap]using hk
  subst this
  exact .nilM
theorem mGet_map (m:List (Dig × (List Dig × Tag))) (d:Dig):mGet d (m.map fun e=>(e.1,e.2.1))=(mGet d m).map (·.1):=by
 induction m with
 |nil=>rfl
 |cons x m ih=>
  obtain⟨a,y⟩:=x
  simp only[List.map_cons,mGet,ih]
  split<;>rfl
theorem ndG_map (m:List (Dig × (List Dig × Tag))) (d:Dig):ndG (m.map fun e=>(e.1,e.2.1)) d=ndT m d:=by
 unfold ndG ndT
 rw[mGet_map]
 cases mGet d m<;>rfl
set_option maxHeartbeats 2000000 in
theorem turned_fn (G:List (Dig × List Dig)) (hl:G.length≤1000) (hnd: ∀ i,(gV G i).Nodup) (hvl: ∀ i,(gV G i).length≤1000):
  PCalls Tryz.prog 101 [.fmap (eMap kDig (vSl eDig) G)] [] (fun r L'=>(∃ m done,r= .fmap (eMap kDig vTg m)∧done.Nodup∧(∀ i,i∈done↔i < G.length)∧TInv G done Dig.zero [] [] m)∧L'= []):=by
 refine pcalls_bd Tryz.func101 rfl Tryz.ntmps101 (rs:= [.tmp 2]) rfl rfl fun hb LF=>?_
 rw[List.nil_append]
 refine wf ?_
 refine j_makeMap fun m=>?_
 refine wf ?_
 refine s_range (kvs:=eMap kDig (vSl eDig) G) rfl fun b=>?_
 refine wf ?_
 refine pwp_loopS (σ:=List Nat × List (Dig × (List Dig × Tag))) (fun k=>k.1.Nodup∧(∀ i∈k.1,i < G.length)∧TInv G k.1 Dig.zero [] [] k.2) (fun k=>G.length - k.1.length) (fun k=> [(3,.raw (.map (some m))),(10,.raw (.pointer (some ⟨b,0,none⟩)))]) (fun k=> .iter b (eMap kDig (vSl eDig) G) k.1:: .map m (eMap kDig vTg k.2)::(toks k.2++LF)) ([],[]) ⟨.nil,by simp,.start _ _⟩ ⟨rfl,rfl⟩ (.refl _) ?_
 rintro⟨done,T⟩ ⟨hdn,hdl,hT⟩
 dsimp only at hdn hdl hT ⊢
 have hkl:(eMap kDig (vSl eDig) G).length=G.length:=by simp[eMap]
 refine wf ?_
 refine s_next rfl (.refl _) (fun hall=>?_) (fun i hi hni=>?_)
 ·refine wo ?_
  refine pops_nil ?_
  refine pwp_seq ?_
  refine pwp_cond (t:=false) rfl (fun h=>by cases h) (fun _=>?_)
  refine pwp_exit ?_
  refine pwp_freezeM [(3,.fmap (eMap kDig vTg T))] (.inr ⟨rfl,rfl⟩) (.swap _ _ _) ?_
  refine wf ?_
  refine⟨trivial,_,[],.cons (.tmp 2) .nil,?_,⟨T,done,rfl,hdn,fun i=>⟨hdl i,fun h=>hall i (by rw[hkl];exact h)⟩,hT⟩,rfl⟩
  exact .cons _ (List.sublist_append_right _ _)
 have hi2:i < G.length:=by rw[←hkl];exact hi
 have hgd:G.getD i (Dig.zero,[])=G[i]:=by simp[List.getD,hi2]
 have hgk:gK G i=G[i].1:=by unfold gK;rw[hgd]
 have hgv:gV G i=G[i].2:=by unfold gV;rw[hgd]
 have e1:(eMap kDig (vSl eDig) G)[i].1= .agg (eDig (gK G i)):=by rw[hgk];simp[eMap,kDig]
 have e2:(eMap kDig (vSl eDig) G)[i].2= .slice ((gV G i).map eDig) .ro:=by rw[hgv];simp[eMap,vSl]
 have hdl2:=done_len hdn hdl
 rw[e1,e2]
 refine wf ?_
 refine s_entry rfl List.mem_cons_self hi ?_
 rw[e1,e2]
 refine wf ?_
 refine s_alloc fun b4=>?_
 refine wo ?_
 refine pops_nil ?_
 refine pwp_freezeD 4 ?_
 have hok: ∀ z,(ndT T z).length≤1001:=fun z=>by have:=hT.len z;omega
 obtain⟨R,hR1,hR2⟩:=toks_split (gK G i) T
 refine pwp_toks (A:= [.iter b (eMap kDig (vSl eDig) G) (done++ [i]),.map m (eMap kDig vTg T)]) hR1 ?_
 have hl0:=hok (gK G i)
 have hown:=fun t=>hT.own (y:=gK G i) t
 unfold ndT at hl0 hown
 generalize hv0:(mGet (gK G i) T).getD ([],Tag.nil)=v0 at hl0 hown ⊢
 obtain⟨l0,t0⟩:=v0
 dsimp only at hl0 hown
 refine wf ?_
 refine s_mapEntry (ek:=kDig) (ev:=vTg) (k0:=gK G i) (l:=T) (L':= .iter b (eMap kDig (vSl eDig) G) (done++ [i]):: .tok t0 l0.length 32::(R++LF)) rfl (.swap _ _ _) (.refl _) fun es cl ix n hO=>?_
 rw[hv0]at hO ⊢
 refine wf ?_
 refine s_append (f:=eDig) (l:=l0) (m:= []) (t:=t0) (L':=fun t'=> .raw m (.map es cl)::kvsKnow es (eMap kDig vTg (mSet (gK G i) (l0,t0) T)):: .iter b (eMap kDig (vSl eDig) G) (done++ [i]):: .tok t' (l0++ []).length 32::(R++LF)) rfl rfl (by simp only[List.length_nil];omega) (by simp only[List.length_nil];omega) (fun t'=> .there (.there (.there .here))) fun t'=>?_
 refine wf ?_
 refine s_entryStore (ek:=kDig) (ev:=vTg) (x0:=(l0++ [],t')) (L':= .iter b (eMap kDig (vSl eDig) G) (done++ [i]):: .tok t' (l0++ []).length 32::(R++LF)) hO rfl rfl (.refl _) (.refl _) ?_
 rw[mSet_mSet]
 refine pops_nil ?_
 have hT1:=hown t'
 have hp1:=hR2 (l0++ [],t')
 generalize mSet (gK G i) (l0++ [],t') T=T1 at hT1 hp1 ⊢
 refine pwp_perm (L':= .iter b (eMap kDig (vSl eDig) G) (done++ [i]):: .map m (eMap kDig vTg T1)::(toks T1++LF)) ((List.Perm.swap _ _ _).trans (.cons _ (.cons _ ((hp1.append_right LF).symm)))) ?_
 clear hp1 hown hl0 hv0 hR1 hR2 hO
 have hni2:=hnd i
 have hvli:=hvl i
 have hnx:=fun m=>TInv.next (G:=G) (done:=done) (z:=Dig.zero) (i:=i) (m:=m)
 generalize gK G i=y at hT1 hnx ⊢
 generalize gV G i=nv at hni2 hvli hnx ⊢
 refine wf ?_
 refine pwp_loopS (σ:=Nat × List (Dig × (List Dig × Tag))) (fun j=>j.1≤nv.length∧TInv G done y (nv.take j.1) (y::nv.take j.1) j.2) (fun j=>nv.length - j.1) (fun j=> [(3,.raw (.map (some m))),(4,.pt (eDig y) 0),(10,.raw (.pointer (some ⟨b,0,none⟩))),(23,.slice (nv.map eDig) .ro),(24,.raw (.int .i64 nv.length)),(25,.raw (.int .i64 j.1))]) (fun j=> .iter b (eMap kDig (vSl eDig) G) (done++ [i]):: .map m (eMap kDig vTg j.2)::(toks j.2++LF)) (0,T1) ⟨by simp,hT1⟩ ⟨rfl,rfl,rfl,rfl,rfl,rfl⟩ (.refl _) ?_
 clear hT1
 rintro⟨j,T2⟩ ⟨hj,hT2⟩
 dsimp only at hj hT2 ⊢
 refine wf ?_
 refine pwp_condD (fun hc=>?_) (fun hc=>?_)
 ·have hlt:j < nv.length:=by omega
  have hnj:nv[j]∉nv.take j:=fun h=>by
   obtain⟨q,hq,e⟩:=List.mem_iff_getElem.1 h
   rw[List.length_take]at hq
   rw[List.getElem_take]at e
   have:=(List.pairwise_iff_getElem.1 hni2) q j (by omega) hlt (by omega)
   exact this e
  have hl0:(ndT T2 nv[j]).length≤1001:=by have:=hT2.len nv[j];omega
  have hown:=fun t=>hT2.step hnj t
  rw[←List.take_succ_eq_append_getElem hlt]at hown
  obtain⟨R,hR1,hR2⟩:=toks_split nv[j] T2
  refine wf ?_
  refine s_alloc fun b7=>?_
  refine wo ?_
  refine pops_nil ?_
  refine pwp_freezeD 7 ?_
  refine pwp_toks (A:= [.iter b (eMap kDig (vSl eDig) G) (done++ [i]),.map m (eMap kDig vTg T2)]) hR1 ?_
  unfold ndT at hl0 hown
  generalize hv0:(mGet nv[j] T2).getD ([],Tag.nil)=v0 at hl0 hown ⊢
  obtain⟨l0,t0⟩:=v0
  dsimp only at hl0 hown
  refine wf ?_
  refine s_mapEntry (ek:=kDig) (ev:=vTg) (k0:=nv[j]) (l:=T2) (L':= .iter b (eMap kDig (vSl eDig) G) (done++ [i]):: .tok t0 l0.length 32::(R++LF)) rfl (.swap _ _ _) (.refl _) fun es cl ix n hO=>?_
  rw[hv0]at hO ⊢
  refine wf ?_
  refine s_append (f:=eDig) (l:=l0) (m:= [y]) (t:=t0) (L':=fun t'=> .raw m (.map es cl)::kvsKnow es (eMap kDig vTg (mSet nv[j] (l0,t0) T2)):: .iter b (eMap kDig (vSl eDig) G) (done++ [i]):: .tok t' (l0++ [y]).length 32::(R++LF)) rfl rfl (by simp only[List.length_cons,List.length_nil];omega) (by simp only[List.length_cons,List.length_nil];omega) (fun t'=> .there (.there (.there .here))) fun t'=>?_
  refine wf ?_
  refine s_entryStore (ek:=kDig) (ev:=vTg) (x0:=(l0++ [y],t')) (L':= .iter b (eMap kDig (vSl eDig) G) (done++ [i]):: .tok t' (l0++ [y]).length 32::(R++LF)) hO rfl rfl (.refl _) (.refl _) ?_
  rw[mSet_mSet]
  refine pops_nil ?_
  have hT3:=hown t'
  have hp3:=hR2 (l0++ [y],t')
  generalize mSet nv[j] (l0++ [y],t') T2=T3 at hT3 hp3 ⊢
  refine pwp_perm (L':= .iter b (eMap kDig (vSl eDig) G) (done++ [i]):: .map m (eMap kDig vTg T3)::(toks T3++LF)) ((List.Perm.swap _ _ _).trans (.cons _ (.cons _ ((hp3.append_right LF).symm)))) ?_
  refine wf ?_
  exact⟨(j+1,T3),⟨by dsimp only;omega,hT3⟩,by dsimp only;omega,⟨rfl,rfl,rfl,rfl,rfl,rfl⟩,.refl _⟩
 ·rw[List.take_of_length_le (by omega)]at hT2
  refine wf ?_
  refine⟨(done++ [i],T2),⟨List.nodup_append.2 ⟨hdn,by simp,fun a ha c hc=>?_⟩,fun q hq=>?_,hnx _ hT2⟩,?_,⟨rfl,rfl⟩,.refl _⟩
  ·rw[List.mem_singleton.1 hc];rintro rfl;exact hni ha
  ·rcases List.mem_append.1 hq with hq|hq
   ·exact hdl q hq
   ·rw[List.mem_singleton.1 hq];exact hi2
  ·dsimp only
   have h3:(done++ [i]).length≤G.length:=done_len (List.nodup_append.2 ⟨hdn,by simp,fun a ha c hc=>by rw[List.mem_singleton.1 hc];rintro rfl;exact hni ha⟩) fun q hq=>by
    rcases List.mem_append.1 hq with hq|hq
    ·exact hdl q hq
    ·rw[List.mem_singleton.1 hq];exact hi2
   rw[List.length_append,List.length_singleton]at h3 ⊢
   omega
end Go.Proofs
namespace Go.Proofs
open Go Go.Q
attribute [local irreducible] pwp pops PCalls OpN
end Go.Proofs
namespace Go.Proofs
open Go Go.Q
attribute [local irreducible] pwp pops PCalls OpN PYield
end Go.Proofs
