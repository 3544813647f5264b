/- HistoryDepth's contract: it answers true, whatever the set and the identity. -/
import Derived.Test.YtmkdlelpipefbaaGreatDoorUas
set_option linter.unusedSimpArgs false
set_option linter.unusedVariables false
namespace Go.Q
open Go
section
variable {P:Program} {N:Nat} {all:Array Oper} {K:Env→List Res→Prop} {fl:List Bool} {os:List Oper} {ρ:Env} {L:List Res} {d:Nat} {ty:TypeId} {pos:String} {af:Array Edge}
theorem s_lenMap {T KT ET:Nat} [hT:TMap P T KT ET] {x:Operand} {b:Nat} {kvs:List (PV × PV)} (hx:ρ.ev x= .raw (.map (some b))) (hm:Res.map b kvs∈L) (k:pops P N all K fl.tail os (upd ρ d (.raw (.int .i64 (kvs.length:Int)))) L) (hd:Nat.blt d N=true:=by rfl):
  pops P N all K fl (⟨some d,.call { callee:= .builtin .len,args:= #[x],argTypes:= #[T] },ty,pos,af,none⟩::os) ρ L:=
 step_q hd (qop_of_run fun a' w g ha hi=>⟨.int .i64 (kvs.length:Int),by
  have h1:=evRaw ha (x:=x) (by simp[Op.operands,Call.operands]) hx
  obtain⟨es,c,hb,hE,_⟩:=hi.res _ hm
  have he:execOp a'.eval ⟨some d,.call { callee:= .builtin .len,args:= #[x],argTypes:= #[T] },ty,pos,af,none⟩=(do pure (.value (←Builtin.len_ #[T] ty (#[x].map a'.eval)))):=rfl
  rw[he,←hE.len]
  simp[Builtin.len_,h1,run_und hT.out,goInt,MapKept.run_getObj_map hb],.raw _⟩) k
end
end Go.Q
namespace Go.Proofs
open Go Go.Q
attribute [local irreducible] pwp pops pAny PCalls OpN
instance tmap_IB:TMap Tryz.prog 34 3 4:=⟨by kernel_rfl⟩
instance mform_IB:MapForm Tryz.prog 34 kInt vBool:=⟨trivial⟩
theorem clo_one3 {s:List Sto} (v:Valid s) {q:Dig} (hq:q∈ids s): ∃ L,rClosure s [q]=(L,0)∧(∀ x,x∈L↔Q.Reach (ndS s) [q] x)∧L.length≤s.length:=by
 have hl: ∀ x∈ [q],x∈ids s:=fun x hx=>by rw[List.mem_singleton.1 hx];exact hq
 have h:allIn (ids s) [q]=true:=List.all_eq_true.2 fun d hd=>decide_eq_true (hl d hd)
 have hcl: ∀ x∈ids s,∀ d∈Go.Proofs.ndS s x,d∈ids s:=fun x _ d hd=>v.close.nd x d hd
 have hm: ∀ d,d∈iterC (Go.Proofs.ndS s) s.length (withAll [] [q])↔Q.Reach (Go.Proofs.ndS s) [q] d:=fun d=>mem_iterC hcl hl (by rw[ids_len];exact Nat.le_refl _)
 refine⟨iterC (Go.Proofs.ndS s) s.length (withAll [] [q]),by rw[rClosure,if_neg (by simp[h])],hm,?_⟩
 have hn:=(iterC_asc (nd:=Go.Proofs.ndS s) (n:=s.length) (withAll_asc (m:= [q]) .nil)).nodup
 have:=nodup_len hn fun d hd=>((hm d).1 hd).in_ hcl hl
 rwa [ids_len]at this
set_option maxHeartbeats 4000000 in
theorem historyDepth_fn (s:List Sto) (t:Tag) (d:Dig):FnC Tryz.prog 3 [.slice (s.map eSto) t,.agg (eDig d)] (.raw (.bool true)):=⟨by
 refine fn_of Tryz.func3 Tryz.ntmps3 rfl (rs:= [.tmp 4]) rfl rfl fun hb LF=>?_
 have cf:=fun t=>Fine_ct s t
 cases hf:rFine s with
 |false=>
  rw[hf]at cf
  refine wf ?_
  exact end1 (.refl _)
 |true=>
 rw[hf]at cf
 have v:=valid_of hf
 have i1:Small (Valid s):=⟨v⟩
 have h40:=v.close.1.1
 have c1:=fun t=>depthP_fn s t d v
 have c2:=fun t=>depthR_fn s t d v
 have c3:=fun t u=>ClosureP_ct s [d] t u (hl:=⟨by simp⟩)
 by_cases hd:d∈ids s
 ·obtain⟨L,hL,hm,hLl⟩:=clo_one3 v hd
  have hlen:=fun(m:List (Int × Bool)) (h:MetD s L m)=>h.len v hd hm
  have hdep: ∀ x∈L,(x=d∨depD s x < depD s d)∧1≤depD s x∧ ∀ t,FnC Tryz.prog 12 [.slice (s.map eSto) t,.agg (eDig x)] (.tuple [.raw (.int .i64 ((depD s x:Nat):Int)),.raw (.int .i64 0)]):=fun x hx=>by
   have hr:=(hm x).1 hx
   have hxi:x∈ids s:=hr.in_ (fun x _ d hd=>v.close.nd x d hd) (ids:= [d]) fun y hy=>by rw[List.mem_singleton.1 hy];exact hd
   refine⟨depD_reach v hd hr,depD_pos v hxi,fun t=>?_⟩
   have:=depthP_fn s t x v
   rw[rDepth_in v hxi]at this
   exact this
  have hdl:=depD_le s d
  rw[(order_lin v).len v.asc]at hdl
  rw[rDepth_in v hd]at c1 c2
  rw[hL]at c3
  dsimp only at c1 c2 c3
  have hms:=fun k (hk:k < L.length) (m:List (Int × Bool)) (h:MetD s (L.take k) m)=>h.snoc L[k]
  have hm0:=MetD.start s
  have g1:(!decide (((depD s d:Nat):Int)=((depD s d:Nat):Int)))=false:=by simp
  refine wfm fun m=>?_
  refine pwp_loopS (σ:=Nat × List (Int × Bool)) (fun z=>z.1≤L.length∧MetD s (L.take z.1) z.2) (fun z=>L.length - z.1) (fun z=> [(0,.slice (s.map eSto) t),(3,.pt (eDig d) 0),(5,.raw (.int .i64 (depD s d:Nat))),(11,.raw (.map (some m))),(55,.slice (L.map eDig) .ro),(56,.raw (.int .i64 L.length)),(57,.raw (.int .i64 z.1))]) (fun z=> .map m (eMap kInt vBool z.2)::LF) (0,[]) ⟨by simp,by simpa using hm0⟩ ⟨rfl,rfl,rfl,rfl,rfl,rfl,rfl⟩ (.refl _) ?_
  rintro⟨k,M⟩ ⟨hk,hM⟩
  dsimp only at hk hM ⊢
  refine wf ?_
  refine pwp_condD (fun hc=>?_) (fun hc=>?_)
  ·have hlt:k < L.length:=by omega
   obtain⟨hx1,hx2,cx⟩:=hdep L[k] (List.getElem_mem hlt)
   have hM2:=hms k hlt M hM
   rw[←List.take_succ_eq_append_getElem hlt]at hM2
   refine wz fun b13=>?_
   refine pwp_freezeD 13 ?_
   generalize L[k]=x at hx1 hx2 cx hM2 ⊢
   have g4:decide (((depD s x:Nat):Int) < 1)=false:=decide_eq_false (by omega)
   refine wf ?_
   refine pops_cutE [(82,.raw (.bool (false))),(0,.slice (s.map eSto) t),(3,.pt (eDig d) 0),(5,.raw (.int .i64 (depD s d:Nat))),(11,.raw (.map (some m))),(14,.raw (.int .i64 (depD s x:Nat))),(55,.slice (L.map eDig) .ro),(56,.raw (.int .i64 L.length)),(57,.raw (.int .i64 k))] (.map m (eMap kInt vBool M)::LF) ?_ ?_
   ·repeat' (first|(refine pwp_condD (fun h=>?_) (fun h=>?_)<;>refine wf ?_)|(refine pwp_condN (fun h=>?_) (fun h=>?_)<;>refine wf ?_)|(refine pwp_condB (fun h=>?_) (fun h=>?_)<;>refine wf ?_)|(refine pops_if (fun h=>?_) (fun h=>?_)<;>(have h2:=h;(try simp only[decide_eq_true_eq,decide_eq_false_iff_not,Bool.not_eq_true',Bool.not_eq_false']at h2);refine wf ?_)))
    all_goals (refine⟨⟨holdsB (by rfl) ?_,rfl,rfl,rfl,rfl,rfl,rfl,rfl,rfl⟩,.refl _⟩;first|(simp_all;done)|(simp_all;omega)|grind)
   refine wf ?_
   exact⟨(k+1,mSet ((depD s x:Nat):Int) true M),⟨by dsimp only;omega,hM2⟩,by dsimp only;omega,⟨rfl,rfl,rfl,rfl,rfl,rfl,rfl⟩,.refl _⟩
  ·rw[List.take_of_length_le (by omega)]at hM
   have hml:=hlen M hM
   have eml:(eMap kInt vBool M).length=depD s d:=by rw[←hml];simp[eMap]
   refine wf ?_
   refine s_lenMap rfl List.mem_cons_self ?_
   rw[eml]
   have g5:decide (((depD s d:Nat):Int)=((depD s d:Nat):Int))=true:=decide_eq_true rfl
   refine wf ?_
   exact end1 (.refl _)
 ·rw[closure_bad (fun h=>hd (allIn_iff.1 h d (by simp)))]at c3
  rw[rDepth_out v hd]at c1 c2
  dsimp only at c1 c2 c3
  refine wf ?_
  exact end1 (.refl _)⟩
end Go.Proofs
