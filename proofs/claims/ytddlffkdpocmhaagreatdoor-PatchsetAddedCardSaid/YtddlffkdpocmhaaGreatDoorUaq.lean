/- Contracts of the program: whether the references of a patch fit; whether a set is valid. -/
import Derived.Test.YtddlffkdpocmhaaGreatDoorUap
import Derived.Test.YtddlffkdpocmhaaGreatDoorUan
import Derived.Test.YtddlffkdpocmhaaGreatDoorUao
import Derived.Test.YtddlffkdpocmhaaGreatDoorUam
import Derived.Test.YtddlffkdpocmhaaGreatDoorUae
import Derived.Test.YtddlffkdpocmhaaGreatDoorRows
import Derived.LaidMore
import Derived.Stop.Joined
import Derived.Test.YtddlffkdpocmhaaGreatDoorCards
import Derived.Test.YtddlffkdpocmhaaGreatDoorTie
set_option linter.unusedSimpArgs false
set_option linter.unusedVariables false
namespace Go.Proofs
open Go Go.Q
attribute [local irreducible] pwp pops PCalls OpN
theorem refsS_len (id:Dig) (c:Chg):(refsS id c).length≤c.over.length+4:=by
 have r1:=rs1_len c
 have r2:=rs2_len c (rs1 c)
 have r3:=rs3_len (fileS id c) c (rs2 c (rs1 c))
 have r4:=foldR_len' (over1R (fileS id c) c) c.over (rs3 (fileS id c) c (rs2 c (rs1 c)))
 unfold refsS rs4
 omega
set_option maxHeartbeats 2000000 in
theorem unfitR_fn (s:List Sto) (hg:goodS s) (m:Nat) (known:List (Dig × List Atm)) (hk0:KnownOk s known) (x:Sto) (hx:rGreat x.patch=false):PCalls Tryz.prog 86 [.pt (eRsv s m) 0,.agg (eSto x)] (knownR m known) (fun r L'=>r= .raw (.int .i64 (unfitP s x.patch x.id))∧ ∃ known',L'=knownR m known'∧KnownOk s known'):=by
 have hgf:=(great_facts hx).2.2.2.2
 have hcl:=(great_facts hx).2.2.2.1
 refine pcalls_bd Tryz.func86 rfl Tryz.ntmps86 (rs:= [.tmp 4]) rfl rfl fun hb LF=>?_
 rw[show knownR m known++LF= .map m (eMap kDig (vSl eAtm) known)::LF from rfl]
 refine wf ?_
 refine pwp_loopS (σ:=Nat × List (Dig × List Atm)) (fun k=>k.1≤x.patch.changes.length∧KnownOk s k.2∧ ∀ i (h:i < x.patch.changes.length),i < k.1→chgSE s x.id x.patch.changes[i]=0) (fun k=>x.patch.changes.length - k.1) (fun k=> [(0,.pt (eRsv s m) 0),(3,.pt (eSto x) 0),(13,.slice (x.patch.changes.map eChg) .ro),(14,.raw (.int .i64 x.patch.changes.length)),(15,.raw (.int .i64 k.1))]) (fun k=> .map m (eMap kDig (vSl eAtm) k.2)::LF) (0,known) ⟨by simp,hk0,by simp⟩ ⟨rfl,rfl,rfl,rfl,rfl⟩ (.refl _) ?_
 rintro⟨k,kn⟩ ⟨hk,hkn,he⟩
 dsimp only at hk hkn he ⊢
 refine wf ?_
 refine pwp_condD (fun hc=>?_) (fun hc=>?_)
 ·have hlt:k < x.patch.changes.length:=by omega
  have hat:=firstErr_at (f:=chgSE s x.id) hlt he
  have hsu:=fun h=>upto_succ0 (f:=chgSE s x.id) he hlt h
  have hcg:=hgf _ (List.getElem_mem hlt)
  refine wz fun b6=>?_
  generalize x.patch.changes[k]=c at hat hsu hcg ⊢
  have i1:Small (c.over.length≤400):=⟨by have:=hcg.over;omega⟩
  have hrl:(refsS x.id c).length≤400:=by have:=refsS_len x.id c;have:=hcg.over;omega
  refine pwp_freezeD 6 ?_
  refine wf ?_
  refine pwp_loopS (σ:=Nat × List (Dig × List Atm)) (fun j=>j.1≤(refsS x.id c).length∧KnownOk s j.2∧ ∀ i (h:i < (refsS x.id c).length),i < j.1→refSE s c (fileS x.id c) (refsS x.id c)[i]=0) (fun j=>(refsS x.id c).length - j.1) (fun j=> [(0,.pt (eRsv s m) 0),(3,.pt (eSto x) 0),(13,.slice (x.patch.changes.map eChg) .ro),(14,.raw (.int .i64 x.patch.changes.length)),(15,.raw (.int .i64 k)),(22,.slice ((refsS x.id c).map eRfc) .ro),(23,.raw (.int .i64 (refsS x.id c).length)),(24,.raw (.int .i64 j.1))]) (fun j=> .map m (eMap kDig (vSl eAtm) j.2)::LF) (0,kn) ⟨by simp,hkn,by simp⟩ ⟨rfl,rfl,rfl,rfl,rfl,rfl,rfl,rfl⟩ (.refl _) ?_
  rintro⟨j,kn2⟩ ⟨hj,hkn2,hje⟩
  dsimp only at hj hkn2 hje ⊢
  refine wf ?_
  refine pwp_condD (fun hc2=>?_) (fun hc2=>?_)
  ·have hlt2:j < (refsS x.id c).length:=by omega
   have hat2:=firstErr_at (f:=refSE s c (fileS x.id c)) hlt2 hje
   have hsu2:=fun h=>upto_succ0 (f:=refSE s c (fileS x.id c)) hje hlt2 h
   have hfit:=fitsS_mem x.id c _ (List.getElem_mem hlt2)
   refine wz fun b8=>?_
   generalize (refsS x.id c)[j]=r at hat2 hsu2 hfit ⊢
   refine pwp_freezeD 8 ?_
   have i2:TFun Tryz.prog r.f:=hfit.fn
   have i3: ∀ a:Atm,FnC Tryz.prog r.f (.agg (eAtm a)::r.cs) (.raw (.bool (predS c (fileS x.id c) r a))):=fun a=>⟨hfit.out a⟩
   have er:refSE s c (fileS x.id c) r=if(atomPS s r.id).isSome=false then 7 else if predS c (fileS x.id c) r ((atomPS s r.id).getD Atm.zero)=false then 8 else 0:=rfl
   refine wf ?_
   refine s_callR (xs:= [.tmp 29,.tmp 31]) (knownR m kn2) LF (f:=119) (cs:= []) (le_func _) rfl rfl (.refl _) _ (atomR_fn s hg m kn2 hkn2 r.id) fun u L' ⟨e1,kn3,e2,hkn3⟩=>?_
   subst e1;rw[e2]
   rw[show knownR m kn3++LF= .map m (eMap kDig (vSl eAtm) kn3)::LF from rfl]
   refine wf ?_
   refine s_alloc fun b9=>?_
   refine wo ?_
   refine pops_nil ?_
   refine pwp_freezeD 9 ?_
   refine wf ?_
   refine pwp_condB (fun h=>?_) (fun h=>?_)
   ·refine wf ?_
    have h:(atomPS s r.id).isSome=false:=ntrue h
    rw[if_pos h]at er
    refine⟨trivial,_,knownR m kn3,.cons (.tmp 4) .nil,.refl _,?_,kn3,rfl,hkn3⟩
    have e3:=hat2 (by rw[er];decide)
    have e4:chgSE s x.id c=7:=by rw[chgSE,e3,er]
    rw[unfitP,hat (by rw[e4];decide),e4];rfl
   have h:(atomPS s r.id).isSome=true:=nnot h
   rw[if_neg (by simp[h])]at er
   refine wf ?_
   refine pwp_condB (fun h2=>?_) (fun h2=>?_)
   ·refine wf ?_
    have h2:predS c (fileS x.id c) r ((atomPS s r.id).getD Atm.zero)=false:=ntrue h2
    rw[if_pos h2]at er
    refine⟨trivial,_,knownR m kn3,.cons (.tmp 4) .nil,.refl _,?_,kn3,rfl,hkn3⟩
    have e3:=hat2 (by rw[er];decide)
    have e4:chgSE s x.id c=8:=by rw[chgSE,e3,er]
    rw[unfitP,hat (by rw[e4];decide),e4];rfl
   ·have h2:predS c (fileS x.id c) r ((atomPS s r.id).getD Atm.zero)=true:=nnot h2
    rw[if_neg (by simp[h2])]at er
    refine wf ?_
    exact⟨(j+1,kn3),⟨by dsimp only;omega,hkn3,hsu2 er⟩,by dsimp only;omega,⟨rfl,rfl,rfl,rfl,rfl,rfl,rfl,rfl⟩,.refl _⟩
  ·have e0:chgSE s x.id c=0:=firstErr_zero fun i h=>hje i h (by omega)
   refine wf ?_
   exact⟨(k+1,kn2),⟨by dsimp only;omega,hkn2,hsu e0⟩,by dsimp only;omega,⟨rfl,rfl,rfl,rfl,rfl⟩,.refl _⟩
 ·refine wf ?_
  refine⟨trivial,_,knownR m kn,.cons (.tmp 4) .nil,.refl _,?_,kn,rfl,hkn⟩
  rw[unfitP,firstErr_zero fun i h=>he i h (by omega)];rfl
theorem asc_of_chk {s:List Sto} (h:firstErr (rChkE s) (List.range s.length)=0):Asc (ids s):=by
 refine asc_of_steps fun i hi=>?_
 have hi:i+1 < s.length:=by simpa [ids]using hi
 have h4:=firstErr_eq_zero h (i+1) (List.mem_range.2 hi)
 have e0:s.getD (i+1) Sto.zero=s[i+1]:=by simp[List.getD,hi]
 have e1:s.getD (i+1 - 1) Sto.zero=s[i]:=by
  have:i < s.length:=by omega
  simp[List.getD,this]
 unfold rChkE at h4
 rw[e0,e1]at h4
 by_cases h5:(rId s[i+1].patch).2≠0
 ·rw[if_pos h5]at h4;exact absurd h4 h5
 rw[if_neg h5]at h4
 by_cases h6:(rId s[i+1].patch).1≠s[i+1].id
 ·rw[if_pos h6]at h4;exact absurd h4 (by decide)
 rw[if_neg h6]at h4
 have h6:(rId s[i+1].patch).1=s[i+1].id:=Classical.not_not.1 h6
 rw[h6]at h4
 by_cases h7:0 < ((i+1:Nat):Int)∧0≤cmpD s[i].id s[i+1].id
 ·rw[if_pos h7]at h4;exact absurd h4 (by decide)
 ·simp only[ids,List.getElem_map]
  show cmpD s[i].id s[i+1].id < 0
  omega
theorem id_of_chk {s:List Sto} (h:firstErr (rChkE s) (List.range s.length)=0) {x:Sto} (hx:x∈s):(rId x.patch).2=0:=by
 obtain⟨i,hi,rfl⟩:=List.mem_iff_getElem.1 hx
 have h4:=firstErr_eq_zero h i (List.mem_range.2 hi)
 have e0:s.getD i Sto.zero=s[i]:=by simp[List.getD,hi]
 unfold rChkE at h4
 rw[e0]at h4
 by_cases h5:(rId s[i].patch).2≠0
 ·rw[if_pos h5]at h4;exact absurd h4 h5
 ·exact Classical.not_not.1 h5
theorem rOrd_len (s:List Sto): ∀ n out,(rOrd s n out).length≤out.length+n
 |0,out=>by rw[rOrd];omega
 |n+1,out=>by
  rw[rOrd]
  split
  ·omega
  ·have:=rOrd_len s n (out++ [(s.getD (rPick s out).toNat Sto.zero).id])
   rw[List.length_append,List.length_singleton]at this
   omega
theorem rOrder_len (s:List Sto):(rOrder s).length≤s.length:=by
 have:=rOrd_len s s.length []
 rw[List.length_nil,Nat.zero_add]at this
 exact this
set_option maxHeartbeats 2000000 in
instance CheckPS_ct (s:List Sto) (t:Tag) [hs:Small (goodS s)]:FnC Tryz.prog 40 [.slice (s.map eSto) t] (.raw (.int .i64 (rCheckS s))):=⟨by
 have hg:=hs.out
 obtain⟨hl8,hgr⟩:=hg
 refine fn_of Tryz.func40 Tryz.ntmps40 rfl (rs:= [.tmp 2]) rfl rfl fun hb LF=>?_
 refine wf ?_
 refine pwp_condD (fun h1=>?_) (fun h1=>?_)
 ·omega
 rw[rCheckS,if_neg h1]
 refine wf ?_
 refine pwp_loopS (σ:=Nat) (fun k=>k≤s.length∧ ∀ i (h:i < (List.range s.length).length),i < k→rChkE s (List.range s.length)[i]=0) (fun k=>s.length - k) (fun k=> [(0,.slice (s.map eSto) t),(16,.slice (s.map eSto) t),(17,.raw (.int .i64 s.length)),(18,.raw (.int .i64 k))]) (fun _=>LF) 0 ⟨by simp,by simp⟩ ⟨rfl,rfl,rfl,rfl⟩ (.refl _) ?_
 rintro k ⟨hk,he⟩
 refine wf ?_
 refine pwp_condD (fun hc=>?_) (fun hc=>?_)
 ·have hlt:k < s.length:=by omega
  have hltr:k < (List.range s.length).length:=by simpa using hlt
  have ek:(List.range s.length)[k]=k:=by simp
  have e0:s.getD k Sto.zero=s[k]:=by simp[List.getD,hlt]
  have i1:Small (rGreat s[k].patch=false):=⟨hgr _ (List.getElem_mem hlt)⟩
  refine wf ?_
  refine s_alloc fun b4=>?_
  refine wo ?_
  refine pops_nil ?_
  refine pwp_freezeD 4 ?_
  refine wf ?_
  refine s_alloc fun b5=>?_
  refine wo ?_
  refine pops_nil ?_
  refine pwp_freezeD 5 ?_
  refine wf ?_
  refine pwp_condN (fun h2=>?_) (fun h2=>?_)
  ·refine wf ?_
   refine end1 (.of_eq ?_)
   have e:rChkE s (List.range s.length)[k]=(rId s[k].patch).2:=by rw[ek,rChkE,e0,if_pos h2]
   have f:=firstErr_at hltr he (by rw[e];exact h2)
   rw[if_pos (by rw[f,e];exact h2),f,e]
  refine wf ?_
  refine pwp_condN (fun h3=>?_) (fun h3=>?_)
  ·refine wf ?_
   refine end1 (.of_eq ?_)
   have e:rChkE s (List.range s.length)[k]=13:=by rw[ek,rChkE,e0,if_neg (by simp[h2]),if_pos h3]
   have f:=firstErr_at hltr he (by rw[e];decide)
   rw[if_pos (by rw[f,e];decide),f,e]
  refine wf ?_
  refine pops_if (fun hp=>?_) (fun hp=>?_)
  ·have hp':0 < (k:Int):=of_decide_eq_true hp
   refine wf ?_
   have e1:s.getD (k - 1) Sto.zero=s[((k:Int) - 1).toNat]:=by
    have:((k:Int) - 1).toNat=k - 1:=by omega
    simp only[this]
    have h':k - 1 < s.length:=by omega
    simp[List.getD,h']
   refine pwp_condD (fun h4=>?_) (fun h4=>?_)
   ·refine wf ?_
    refine end1 (.of_eq ?_)
    have e:rChkE s (List.range s.length)[k]=9:=by rw[ek,rChkE,e0,e1,if_neg (by simp[h2]),if_neg (by simp[h3]),if_pos ⟨hp',h4⟩]
    have f:=firstErr_at hltr he (by rw[e];decide)
    rw[if_pos (by rw[f,e];decide),f,e]
   ·refine wf ?_
    have e:rChkE s (List.range s.length)[k]=0:=by rw[ek,rChkE,e0,e1,if_neg (by simp[h2]),if_neg (by simp[h3]),if_neg (fun h=>h4 h.2)]
    exact⟨k+1,⟨by omega,upto_succ0 he hltr e⟩,by dsimp only;omega,⟨rfl,rfl,rfl,rfl⟩,.refl _⟩
  ·have hp': ¬0 < (k:Int):=of_decide_eq_false hp
   refine wf ?_
   have e:rChkE s (List.range s.length)[k]=0:=by rw[ek,rChkE,e0,if_neg (by simp[h2]),if_neg (by simp[h3]),if_neg (fun h=>hp' h.1)]
   exact⟨k+1,⟨by omega,upto_succ0 he hltr e⟩,by dsimp only;omega,⟨rfl,rfl,rfl,rfl⟩,.refl _⟩
 have hA:firstErr (rChkE s) (List.range s.length)=0:=firstErr_zero fun i h=>he i h (by simp at h;omega)
 have hasc:=asc_of_chk hA
 have hid:=fun x (hx:x∈s)=>id_of_chk hA hx
 rw[if_neg (by simp[hA])]
 clear he hA hk hc
 refine wf ?_
 refine pwp_loopS (σ:=Nat) (fun k=>k≤s.length∧ ∀ i (h:i < s.length),i < k→allIn (ids s) (rNeeds s[i].patch)=true) (fun k=>s.length - k) (fun k=> [(0,.slice (s.map eSto) t),(53,.slice (s.map eSto) t),(54,.raw (.int .i64 s.length)),(55,.raw (.int .i64 k))]) (fun _=>LF) 0 ⟨by simp,by simp⟩ ⟨rfl,rfl,rfl,rfl⟩ (.refl _) ?_
 rintro k ⟨hk,he⟩
 refine wf ?_
 refine pwp_condD (fun hc=>?_) (fun hc=>?_)
 ·have hlt:k < s.length:=by omega
  have i1:=fun t=>lacks_fn s t s[k].patch hasc (by omega) (hgr _ (List.getElem_mem hlt))
  refine wf ?_
  refine s_alloc fun b8=>?_
  refine wo ?_
  refine pops_nil ?_
  refine pwp_freezeD 8 ?_
  refine wf ?_
  refine pwp_condB (fun h=>?_) (fun h=>?_)
  ·refine wf ?_
   refine end1 (.of_eq ?_)
   have hx:allIn (ids s) (rNeeds s[k].patch)=false:=ntrue h
   have hy:s.all (fun x=>allIn (ids s) (rNeeds x.patch))=false:=all_false_of hlt hx
   rw[if_pos hy]
  ·refine wf ?_
   have hx:allIn (ids s) (rNeeds s[k].patch)=true:=nnot h
   have hy: ∀ i (h:i < s.length),i < k+1→allIn (ids s) (rNeeds s[i].patch)=true:=fun i hi hik=>by
    rcases Nat.lt_or_ge i k with h'|h'
    ·exact he i hi h'
    ·have e:i=k:=by omega
     subst e;exact hx
   exact⟨k+1,⟨by omega,hy⟩,by dsimp only;omega,⟨rfl,rfl,rfl,rfl⟩,.refl _⟩
 have hB:s.all (fun x=>allIn (ids s) (rNeeds x.patch))=true:=all_true_of fun i h=>he i h (by omega)
 rw[if_neg (by simp[hB])]
 clear he hB hk hc
 have i3:=fun t=>orderP_fn s t hs.out hasc
 have hol:=rOrder_len s
 refine wf ?_
 refine pwp_condN (fun h=>?_) (fun h=>?_)
 ·refine wf ?_
  refine end1 (.of_eq ?_)
  rw[if_pos (by omega)]
 rw[if_neg (by omega)]
 refine wf ?_
 refine s_callR (xs:= [.tmp 70]) [] LF (f:=85) (cs:= []) (le_func _) rfl rfl (.refl _) _ (newResolver_fn s t) fun r L' ⟨m,e1,e2⟩=>?_
 subst e1;rw[e2]
 rw[show knownR m []++LF= .map m (eMap kDig (vSl eAtm) [])::LF from rfl]
 refine wf ?_
 refine wf ?_
 refine pwp_loopS (σ:=Nat × List (Dig × List Atm)) (fun k=>k.1≤s.length∧KnownOk s k.2∧ ∀ i (h:i < s.length),i < k.1→rRefsS s s[i].patch s[i].id=0) (fun k=>s.length - k.1) (fun k=> [(9,.pt (eRsv s m) 0),(72,.slice (s.map eSto) t),(73,.raw (.int .i64 s.length)),(74,.raw (.int .i64 k.1))]) (fun k=> .map m (eMap kDig (vSl eAtm) k.2)::LF) (0,[]) ⟨by simp,fun d l h=>by simp[mGet]at h,by simp⟩ ⟨rfl,rfl,rfl,rfl⟩ (.refl _) ?_
 rintro⟨k,kn⟩ ⟨hk,hkn,he⟩
 dsimp only at hk hkn he ⊢
 refine wf ?_
 refine pwp_condD (fun hc=>?_) (fun hc=>?_)
 ·have hlt:k < s.length:=by omega
  have hq:=unfit_eq s s[k].id (hid _ (List.getElem_mem hlt))
  refine wf ?_
  refine s_alloc fun b11=>?_
  refine wo ?_
  refine pops_nil ?_
  refine pwp_freezeD 11 ?_
  refine wf ?_
  refine s_callR (xs:= [.tmp 78,.tmp 79]) (knownR m kn) LF (f:=86) (cs:= []) (le_func _) rfl rfl (.refl _) _ (unfitR_fn s hs.out m kn hkn s[k] (hgr _ (List.getElem_mem hlt))) fun u L' ⟨e1,kn3,e2,hkn3⟩=>?_
  subst e1;rw[e2]
  rw[show knownR m kn3++LF= .map m (eMap kDig (vSl eAtm) kn3)::LF from rfl,hq]
  refine wf ?_
  refine wf ?_
  refine pwp_condN (fun h2=>?_) (fun h2=>?_)
  ·refine wf ?_
   refine end1 (.of_eq ?_)
   rw[firstErr_at (f:=fun(x:Sto)=>rRefsS s x.patch x.id) hlt he h2]
  ·refine wf ?_
   exact⟨(k+1,kn3),⟨by dsimp only;omega,hkn3,upto_succ0 (f:=fun(x:Sto)=>rRefsS s x.patch x.id) he hlt h2⟩,by dsimp only;omega,⟨rfl,rfl,rfl,rfl⟩,.refl _⟩
 ·refine wf ?_
  refine end1 (.of_eq ?_)
  rw[firstErr_zero (f:=fun(x:Sto)=>rRefsS s x.patch x.id) fun i h=>he i h (by omega)]⟩
end Go.Proofs
namespace Go.Proofs
open Go Go.Q
attribute [local irreducible] pwp pops pAny PCalls OpN
theorem rId_ok {p:Pat} (h:(rId p).2=0):(rCheckP p).2=0∧(rEncodeP p).1=rEnc p:=by
 have h1: ¬(rEncodeP p).2≠0:=fun h'=>by rw[rId,if_pos h']at h;exact h' h
 unfold rEncodeP at h1 ⊢
 by_cases h2:(rCheckP p).2≠0
 ·rw[if_pos h2]at h1;exact absurd h2 h1
 rw[if_neg h2]at h1 ⊢
 refine⟨Classical.not_not.1 h2,?_⟩
 unfold rEncode at h1 ⊢
 by_cases h3:65536 < ((rEnc p).length:Int)
 ·rw[if_pos h3]at h1;exact absurd (by decide) h1
 ·rw[if_neg h3]
theorem encode_eq {p q:Pat} (gp:rGreat p=false) (gq:rGreat q=false) (hp:(rId p).2=0) (hq:(rId q).2=0):decide ((rEncodeP q).1=(rEncodeP p).1)=decide (p=q):=by
 obtain⟨c1,e1⟩:=rId_ok hp
 obtain⟨c2,e2⟩:=rId_ok hq
 rw[e1,e2,decide_eq_decide]
 exact⟨fun h=>rEnc_inj (encOk_of gp) (encOk_of gq) c1 c2 h.symm,fun h=>by rw[h]⟩
instance equalP_ct (a b:Pat) [ha:Small (rGreat a=false)] [hb:Small (rGreat b=false)]:FnC Tryz.prog 96 [.agg (ePat a),.agg (ePat b)] (.raw (.bool (decide ((rEncodeP a).1=(rEncodeP b).1)))):=⟨by
 refine fn_of Tryz.func96 Tryz.ntmps96 rfl (rs:= [.tmp 4]) rfl rfl fun hb LF=>?_
 refine wf ?_
 exact end1 (.refl _)⟩
theorem putS_pos (s:List Sto) (x:Sto):putS s x=s.take (posD s x.id)++x::s.drop (posD s x.id):=by
 have e:(fun(y:Sto)=>!decide (cmpD y.id x.id < 0))=fun y=>decide (0≤cmpD y.id x.id):=by
  funext y
  by_cases h:cmpD y.id x.id < 0
  ·rw[decide_eq_true h,decide_eq_false (by omega)];rfl
  ·rw[decide_eq_false h,decide_eq_true (by omega)];rfl
 unfold putS posD
 rw[List.takeWhile_eq_take_findIdx_not,List.dropWhile_eq_drop_findIdx_not,e]
theorem posD_le (s:List Sto) (d:Dig):posD s d≤s.length:=List.findIdx_le_length
theorem posD_in {s:List Sto} (ha:Asc (ids s)) {d:Dig} (h:d∈ids s): ∃ hlt:posD s d < s.length,s[posD s d].id=d∧getS s d=some s[posD s d].patch:=by
 obtain⟨x,hx,rfl⟩:=List.mem_map.1 h
 obtain⟨i,hi,rfl⟩:=List.mem_iff_getElem.1 hx
 have e:posD s s[i].id=i:=posD_of (Nat.le_of_lt hi) (fun k hk hki=>by
  have:=List.pairwise_iff_getElem.1 ha k i (by simpa [ids]using hk) (by simpa [ids]using hi) hki
  simp only[ids,List.getElem_map]at this
  exact this) (fun k hk hik=>by
  rcases Nat.lt_or_ge i k with h'|h'
  ·have:=List.pairwise_iff_getElem.1 ha i k (by simpa [ids]using hi) (by simpa [ids]using hk) h'
   simp only[ids,List.getElem_map]at this
   rcases Int.lt_or_le (cmpD s[k].id s[i].id) 0 with h2|h2
   ·exact absurd h2 (Dig.lt_asymm this)
   ·exact h2
  ·have e2:k=i:=by omega
   subst e2
   rcases Int.lt_or_le (cmpD s[k].id s[k].id) 0 with h2|h2
   ·exact absurd h2 (Dig.lt_irrefl _)
   ·exact h2)
 refine⟨by rw[e];exact hi,?_⟩
 simp only[e]
 exact⟨trivial,getS_in ha hx⟩
def errA (s:List Sto) (p:Pat):Int:=if(getS s (rId p).1).isSome=true then(if p=(getS s (rId p).1).getD Pat.zero then 6 else 14)else if allIn (ids s) (rNeeds p)=false then 19 else rRefsS s p (rId p).1
theorem rAdd_err {s:List Sto} {p:Pat} (h0:(rId p).2=0) (hl:s.length < 400):rAdd s p=if errA s p≠0 then([],Dig.zero,errA s p)else(putS s ⟨(rId p).1,p⟩,(rId p).1,0):=by
 unfold rAdd errA
 rw[if_neg (by simp[h0])]
 by_cases h1:(getS s (rId p).1).isSome=true
 ·rw[if_pos h1,if_pos h1]
  by_cases h2:p=(getS s (rId p).1).getD Pat.zero
  ·rw[if_pos h2,if_pos h2];rfl
  ·rw[if_neg h2,if_neg h2];rfl
 rw[if_neg h1,if_neg h1]
 by_cases h3:allIn (ids s) (rNeeds p)=false
 ·rw[if_pos h3,if_pos h3];rfl
 rw[if_neg h3,if_neg h3]
 by_cases h4:rRefsS s p (rId p).1≠0
 ·rw[if_pos h4,if_pos h4]
 ·rw[if_neg h4,if_neg h4,if_neg (by omega)]
theorem perm_ab {a b:Res} {R LF:List Res}:(R++a::b::LF).Perm (b::a::(R++LF)):=(List.perm_middle.trans (.cons a List.perm_middle)).trans (.swap _ _ _)
theorem perm_ba {a b:Res} {R LF:List Res}:(b::a::(R++LF)).Perm (R++(b::a::LF)):=(List.perm_middle.trans (.cons b List.perm_middle)).symm
set_option maxHeartbeats 4000000 in
instance AddP_ct (s:List Sto) (p:Pat) (t:Tag) [hs:Small (Valid s)] [hg:Small (rGreat p=false)]:FnC Tryz.prog 50 [.slice (s.map eSto) t,.agg (ePat p)] (.tuple [.slice ((rAdd s p).1.map eSto) .ro,.agg (eDig (rAdd s p).2.1),.raw (.int .i64 (rAdd s p).2.2)]):=⟨by
 have v:=hs.out
 have hgd:=v.close.1
 have hlen:=hgd.1
 have hgp:=hg.out
 have i2:=fun t=>searchP_fn s t (rId p).1 v.asc (by omega)
 have i3:=fun t=>lacks_fn s t p v.asc (by omega) hgp
 have hpl:=posD_le s (rId p).1
 refine fn_of Tryz.func50 Tryz.ntmps50 rfl (rs:= [.tmp 4,.cell 5 37,.tmp 6]) rfl rfl fun hb LF=>?_
 refine wf ?_
 refine s_alloc fun b5=>?_
 refine wf ?_
 refine s_alloc fun b7=>?_
 refine wo ?_
 refine pops_nil ?_
 refine pwp_freezeD 7 ?_
 refine wf ?_
 refine pwp_condN (fun h1=>?_) (fun h1=>?_)
 ·refine wf ?_
  refine endTCT rfl ?_
  rw[rAdd,if_pos h1]
  exact .tuple3 (.ro _ _) (.refl _) (.refl _)
 rw[rAdd_err h1 (by omega)]
 refine wf ?_
 refine pops_cutE [(32,.raw (.bool (decide ((rId p).1∈ids s∧ ¬p=(getS s (rId p).1).getD Pat.zero)))),(0,.slice (s.map eSto) t),(3,.pt (ePat p) 0),(5,.raw (.pointer (some ⟨b5,0,none⟩))),(7,.pt (eDig (rId p).1) 0),(9,.raw (.int .i64 (posD s (rId p).1:Nat))),(10,.raw (.bool (decide ((rId p).1∈ids s))))] (.box b5 37 (eDig Dig.zero)::LF) ?_ ?_
 ·refine pops_if (fun hp=>?_) (fun hp=>?_)
  ·have hd:=of_decide_eq_true hp
   obtain⟨hlt,hid,hget⟩:=posD_in v.asc hd
   have hq0:s[posD s (rId p).1]∈s:=List.getElem_mem hlt
   have i4:Small (rGreat s[posD s (rId p).1].patch=false):=⟨hgd.2 _ hq0⟩
   have heq:=encode_eq hgp (hgd.2 _ hq0) h1 (v.id _ hq0).1
   refine wf ?_
   refine⟨⟨holdsB (by rfl) ?_,rfl,rfl,rfl,rfl,rfl,rfl⟩,.refl _⟩
   rw[heq,hget,Option.getD_some]
   generalize s[posD s (rId p).1].patch=q
   by_cases h2:p=q
   ·rw[decide_eq_true h2,decide_eq_false (fun h=>h.2 h2)];rfl
   ·rw[decide_eq_false h2,decide_eq_true ⟨hd,h2⟩];rfl
  ·have hd:=of_decide_eq_false hp
   refine wf ?_
   refine⟨⟨holdsB (by rfl) ?_,rfl,rfl,rfl,rfl,rfl,rfl⟩,.refl _⟩
   simp[hd]
 have hsome:=getS_isSome v.asc (rId p).1
 refine wf ?_
 refine pwp_joinG (σ:=Unit) (fun _=>True) (fun _=> [(0,.slice (s.map eSto) t),(3,.pt (ePat p) 0),(5,.raw (.pointer (some ⟨b5,0,none⟩))),(7,.pt (eDig (rId p).1) 0),(8,.raw (.int .i64 (errA s p))),(9,.raw (.int .i64 (posD s (rId p).1:Nat)))]) (fun _=> .box b5 37 (eDig Dig.zero)::LF) ?_ ?_
 ·refine pwp_condD (fun h=>?_) (fun h=>?_)
  ·have eA:errA s p=14:=by
    unfold errA;rw[hsome,if_pos (decide_eq_true h.1),if_neg h.2]
   refine wf ?_
   exact⟨(),trivial,⟨rfl,rfl,rfl,rfl,by rw[eA];rfl,rfl⟩,.refl _⟩
  refine wf ?_
  refine pwp_condD (fun h2=>?_) (fun h2=>?_)
  ·have eA:errA s p=6:=by
    unfold errA;rw[hsome,if_pos (decide_eq_true h2),if_pos (Classical.byContradiction fun h3=>h ⟨h2,h3⟩)]
   refine wf ?_
   exact⟨(),trivial,⟨rfl,rfl,rfl,rfl,by rw[eA];rfl,rfl⟩,.refl _⟩
  have hns: ¬(getS s (rId p).1).isSome=true:=by rw[hsome];simpa using h2
  refine wf ?_
  refine pwp_condB (fun h3=>?_) (fun h3=>?_)
  ·have eA:errA s p=19:=by
    unfold errA;rw[if_neg hns,if_pos (ntrue h3)]
   refine wf ?_
   exact⟨(),trivial,⟨rfl,rfl,rfl,rfl,by rw[eA];rfl,rfl⟩,.refl _⟩
  have eA:errA s p=rRefsS s p (rId p).1:=by
   unfold errA;rw[if_neg hns,if_neg (nfalse h3)]
  refine wn ?_
  refine pwp_drawA [1,5] (by decide+kernel) ?_
  refine pAny_quiet 0 rfl (by decide+kernel) rfl (fun L'=>q_of_pops (N:=70) rfl rfl (by refine wo ?_;refine pops_nil ?_;exact⟨upd_self _ _ _,rfl⟩)) ?_
  refine pAny_quiet 2 rfl (by decide+kernel) rfl (fun L'=>q_of_pops (N:=70) rfl rfl (by refine wo ?_;refine pops_nil ?_;exact⟨upd_self _ _ _,rfl⟩)) ?_
  refine pAny_quiet 3 rfl (by decide+kernel) rfl (fun L'=>q_of_pops (N:=70) rfl rfl (by refine wo ?_;refine pops_nil ?_;exact⟨upd_self _ _ _,rfl⟩)) ?_
  refine pAny_quiet 4 rfl (by decide+kernel) rfl (fun L'=>q_of_pops (N:=70) rfl rfl (by refine wo ?_;refine pops_nil ?_;exact⟨upd_self _ _ _,rfl⟩)) ?_
  refine pAny_next (fuel:=2) [1] (by decide+kernel) (by simp) fun i hi=>?_
  simp only[List.mem_cons,List.not_mem_nil,or_false]at hi
  subst hi
  refine⟨_,rfl,?_⟩
  refine s_callR (xs:= [.tmp 26]) [] (.box b5 37 (eDig Dig.zero)::LF) (f:=85) (cs:= []) (le_func _) rfl rfl (.refl _) _ (newResolver_fn s t) fun r L' ⟨m,e1,e2⟩=>?_
  subst e1;rw[e2]
  refine pops_nil ?_
  refine pAny_next (fuel:=1) [5] (by decide+kernel) (by simp) fun i hi=>?_
  simp only[List.mem_cons,List.not_mem_nil,or_false]at hi
  subst hi
  refine⟨_,rfl,?_⟩
  refine s_callR (xs:= [.tmp 27,.tmp 30]) (knownR m []) (.box b5 37 (eDig Dig.zero)::LF) (f:=86) (cs:= []) (le_func _) rfl rfl (.refl _) _ (unfitR_fn s hgd m [] (fun d l h=>by simp[mGet]at h) ⟨(rId p).1,p⟩ hgp) fun u L' ⟨e1,kn3,e2,hkn3⟩=>?_
  subst e1;rw[e2]
  refine pops_nil ?_
  refine pAny_next (fuel:=0) [6] (by decide+kernel) (by simp) fun i hi=>?_
  simp only[List.mem_cons,List.not_mem_nil,or_false]at hi
  subst hi
  refine⟨_,rfl,?_⟩
  refine wo ?_
  refine pops_nil ?_
  refine pAny_end (by decide+kernel) ?_
  rw[show unfitP s (⟨(rId p).1,p⟩:Sto).patch (⟨(rId p).1,p⟩:Sto).id=errA s p from(unfit_eq s (rId p).1 h1).trans eA.symm]
  exact⟨(),trivial,⟨rfl,rfl,rfl,rfl,rfl,rfl⟩,.cons _ (.refl _)⟩
 intro _ _
 refine wf ?_
 refine pops_cutE [(56,.raw (.bool (decide (errA s p=0∧400≤(s.length:Int))))),(0,.slice (s.map eSto) t),(3,.pt (ePat p) 0),(5,.raw (.pointer (some ⟨b5,0,none⟩))),(7,.pt (eDig (rId p).1) 0),(8,.raw (.int .i64 (errA s p))),(9,.raw (.int .i64 (posD s (rId p).1:Nat)))] (.box b5 37 (eDig Dig.zero)::LF) ?_ ?_
 ·repeat' (first|(refine pwp_condD (fun h=>?_) (fun h=>?_)<;>refine wf ?_)|(refine pwp_condN (fun h=>?_) (fun h=>?_)<;>refine wf ?_)|(refine pwp_condB (fun h=>?_) (fun h=>?_)<;>refine wf ?_)|(refine pops_if (fun h=>?_) (fun h=>?_)<;>(have h2:=h;(try simp only[decide_eq_true_eq,decide_eq_false_iff_not,Bool.not_eq_true',Bool.not_eq_false']at h2);refine wf ?_)))
  all_goals (refine⟨⟨holdsB (by rfl) ?_,rfl,rfl,rfl,rfl,rfl,rfl⟩,.refl _⟩;first|(simp_all;done)|grind)
 refine wf ?_
 refine pwp_condD (fun h=>?_) (fun _=>?_)
 ·omega
 refine wf ?_
 refine pwp_condN (fun h=>?_) (fun h=>?_)
 ·refine wf ?_
  refine endTCT rfl ?_
  rw[if_pos h]
  exact .tuple3 (.ro _ _) (.refl _) (.refl _)
 rw[if_neg (fun h'=>h' h)]
 refine wn ?_
 refine pwp_drawA [1,6,7,10] (by decide+kernel) ?_
 refine pAny_quiet 0 rfl (by decide+kernel) rfl (fun L'=>q_of_pops (N:=70) rfl rfl (by refine wo ?_;refine pops_nil ?_;exact⟨upd_self _ _ _,rfl⟩)) ?_
 refine pAny_quiet 2 rfl (by decide+kernel) rfl (fun L'=>q_of_pops (N:=70) rfl rfl (by refine wo ?_;refine pops_nil ?_;exact⟨upd_self _ _ _,rfl⟩)) ?_
 refine pAny_quiet 3 rfl (by decide+kernel) rfl (fun L'=>q_of_pops (N:=70) rfl rfl (by refine wo ?_;refine pops_nil ?_;exact⟨upd_self _ _ _,rfl⟩)) ?_
 refine pAny_quiet 4 rfl (by decide+kernel) rfl (fun L'=>q_of_pops (N:=70) rfl rfl (by refine wo ?_;refine pops_nil ?_;exact⟨upd_self _ _ _,rfl⟩)) ?_
 refine pAny_quiet 5 rfl (by decide+kernel) rfl (fun L'=>q_of_pops (N:=70) rfl rfl (by refine wo ?_;refine pops_nil ?_;exact⟨upd_self _ _ _,rfl⟩)) ?_
 refine pAny_quiet 8 rfl (by decide+kernel) rfl (fun L'=>q_of_pops (N:=70) rfl rfl (by refine wo ?_;refine pops_nil ?_;exact⟨upd_self _ _ _,rfl⟩)) ?_
 refine pAny_next (fuel:=5) [1,6] (by decide+kernel) (by simp) fun i hi=>?_
 simp only[List.mem_cons,List.not_mem_nil,or_false]at hi
 rcases hi with rfl|rfl
 ·refine⟨_,rfl,?_⟩
  refine s_callR (xs:= [.tmp 61]) [] (.box b5 37 (eDig Dig.zero)::LF) (f:=98) (cs:= []) (le_func _) rfl rfl (.refl _) _ (cloneS_fn s t (by omega)) fun r R0 ⟨v0,e1,hv0⟩=>?_
  subst e1
  refine pops_nil ?_
  refine pAny_next (fuel:=4) [6] (by decide+kernel) (by simp) fun i hi=>?_
  simp only[List.mem_cons,List.not_mem_nil,or_false]at hi
  subst hi
  refine⟨_,rfl,?_⟩
  refine s_build1B (cs:=eSto (⟨(rId p).1,p⟩:Sto)) (.agg _) (by simp) (by decide) fun b=>?_
  refine pops_nil ?_
  refine pAny_next (fuel:=3) [7] (by decide+kernel) (by simp) fun i hi=>?_
  simp only[List.mem_cons,List.not_mem_nil,or_false]at hi
  subst hi
  refine⟨_,rfl,?_⟩
  refine s_callR (xs:= [.tmp 62,.tmp 63,.tmp 67]) (R0++ [Res.box b 59 (eSto (⟨(rId p).1,p⟩:Sto))]) (.box b5 37 (eDig Dig.zero)::LF) (f:=97) (cs:= []) (le_func _) rfl rfl (by rw[List.append_assoc];exact List.perm_middle.symm) _ (insertS_fn v0 s R0 hv0 (posD s (rId p).1) hpl (by omega) b (⟨(rId p).1,p⟩:Sto)) fun r L' ⟨v2,R2,e1,hv2,e2⟩=>?_
  subst e1;rw[e2]
  refine pops_nil ?_
  refine pAny_next (fuel:=2) [9] (by decide+kernel) (by simp) fun i hi=>?_
  simp only[List.mem_cons,List.not_mem_nil,or_false]at hi
  subst hi
  refine⟨_,rfl,?_⟩
  refine wo ?_
  refine pops_nil ?_
  refine pAny_next (fuel:=1) [10] (by decide+kernel) (by simp) fun i hi=>?_
  simp only[List.mem_cons,List.not_mem_nil,or_false]at hi
  subst hi
  refine⟨_,rfl,?_⟩
  refine pops_perm (L':= .box b5 37 (eDig Dig.zero):: .box b 59 (eSto (⟨(rId p).1,p⟩:Sto))::(R2++LF)) (by rw[List.append_assoc];exact perm_ab) rfl ?_ (fun h=>h)
  refine wo ?_
  refine pops_nil ?_
  refine pAny_next (fuel:=0) [11] (by decide+kernel) (by simp) fun i hi=>?_
  simp only[List.mem_cons,List.not_mem_nil,or_false]at hi
  subst hi
  refine⟨_,rfl,?_⟩
  refine wo ?_
  refine pops_nil ?_
  refine pAny_end (by decide+kernel) ?_
  have hxl:((s.take (posD s (rId p).1)++(⟨(rId p).1,p⟩:Sto)::s.drop (posD s (rId p).1)).map eSto).length≤41:=by
   simp only[List.length_map,List.length_append,List.length_take,List.length_cons,List.length_drop];omega
  refine pwp_freezeB 4 hv2 ⟨by unfold maxN;omega,by unfold maxN;omega⟩ perm_ba rfl ?_
  refine wf ?_
  refine endTCT rfl ?_
  rw[putS_pos]
  exact .refl _
 ·refine⟨_,rfl,?_⟩
  refine s_build1B (cs:=eSto (⟨(rId p).1,p⟩:Sto)) (.agg _) (by simp) (by decide) fun b=>?_
  refine pops_nil ?_
  refine pAny_next (fuel:=4) [1] (by decide+kernel) (by simp) fun i hi=>?_
  simp only[List.mem_cons,List.not_mem_nil,or_false]at hi
  subst hi
  refine⟨_,rfl,?_⟩
  refine s_callR (xs:= [.tmp 61]) [] (.box b 59 (eSto (⟨(rId p).1,p⟩:Sto)):: .box b5 37 (eDig Dig.zero)::LF) (f:=98) (cs:= []) (le_func _) rfl rfl (.refl _) _ (cloneS_fn s t (by omega)) fun r R0 ⟨v0,e1,hv0⟩=>?_
  subst e1
  refine pops_nil ?_
  refine pAny_next (fuel:=3) [7] (by decide+kernel) (by simp) fun i hi=>?_
  simp only[List.mem_cons,List.not_mem_nil,or_false]at hi
  subst hi
  refine⟨_,rfl,?_⟩
  refine s_callR (xs:= [.tmp 62,.tmp 63,.tmp 67]) (R0++ [Res.box b 59 (eSto (⟨(rId p).1,p⟩:Sto))]) (.box b5 37 (eDig Dig.zero)::LF) (f:=97) (cs:= []) (le_func _) rfl rfl (by rw[List.append_assoc];exact .refl _) _ (insertS_fn v0 s R0 hv0 (posD s (rId p).1) hpl (by omega) b (⟨(rId p).1,p⟩:Sto)) fun r L' ⟨v2,R2,e1,hv2,e2⟩=>?_
  subst e1;rw[e2]
  refine pops_nil ?_
  refine pAny_next (fuel:=2) [9] (by decide+kernel) (by simp) fun i hi=>?_
  simp only[List.mem_cons,List.not_mem_nil,or_false]at hi
  subst hi
  refine⟨_,rfl,?_⟩
  refine wo ?_
  refine pops_nil ?_
  refine pAny_next (fuel:=1) [10] (by decide+kernel) (by simp) fun i hi=>?_
  simp only[List.mem_cons,List.not_mem_nil,or_false]at hi
  subst hi
  refine⟨_,rfl,?_⟩
  refine pops_perm (L':= .box b5 37 (eDig Dig.zero):: .box b 59 (eSto (⟨(rId p).1,p⟩:Sto))::(R2++LF)) (by rw[List.append_assoc];exact perm_ab) rfl ?_ (fun h=>h)
  refine wo ?_
  refine pops_nil ?_
  refine pAny_next (fuel:=0) [11] (by decide+kernel) (by simp) fun i hi=>?_
  simp only[List.mem_cons,List.not_mem_nil,or_false]at hi
  subst hi
  refine⟨_,rfl,?_⟩
  refine wo ?_
  refine pops_nil ?_
  refine pAny_end (by decide+kernel) ?_
  have hxl:((s.take (posD s (rId p).1)++(⟨(rId p).1,p⟩:Sto)::s.drop (posD s (rId p).1)).map eSto).length≤41:=by
   simp only[List.length_map,List.length_append,List.length_take,List.length_cons,List.length_drop];omega
  refine pwp_freezeB 4 hv2 ⟨by unfold maxN;omega,by unfold maxN;omega⟩ perm_ba rfl ?_
  refine wf ?_
  refine endTCT rfl ?_
  rw[putS_pos]
  exact .refl _⟩
end Go.Proofs
namespace Go.Proofs
open Go Go.Q
def aw0:Dig:=⟨[209,215,128,53,238,251,106,196,245,2,206,112,154,168,198,4,66,36,85,131,114,133,77,50,25,101,179,105,218,149,57,133],rfl⟩
def aw1:Dig:=⟨[234,79,61,16,149,93,210,77,109,138,121,50,140,158,64,68,63,99,235,247,105,210,173,16,203,104,162,205,29,130,230,63],rfl⟩
def aw2:Dig:=⟨[74,226,31,219,114,2,101,1,252,138,12,111,103,175,102,211,8,175,186,83,231,92,101,199,238,238,231,140,175,139,225,84],rfl⟩
def awF:Chg:={ Chg.zero with kind:=1,type:=1 }
def awI:Chg:={ Chg.zero with kind:=5,file:=⟨aw0,0⟩,after:=⟨aw0,0⟩,before:=⟨aw0,0⟩,lines:= [[120]] }
def awA:Pat:=⟨[97,110,110],[],0,[],[awF]⟩
def awB:Pat:=⟨[97,110,110],[],0,[],[awI]⟩
def awC:Pat:=⟨[98,111,98],[],0,[],[awF]⟩
def aw1S:List Sto:= [⟨aw0,awA⟩]
def aw2S:List Sto:= [⟨aw0,awA⟩,⟨aw1,awB⟩]
def aw3S:List Sto:= [⟨aw2,awC⟩,⟨aw0,awA⟩,⟨aw1,awB⟩]
theorem awAdd0:rAdd [] awA=(aw1S,aw0,0):=by decide+kernel
theorem awAdd1:rAdd aw1S awB=(aw2S,aw1,0):=by decide+kernel
theorem awAdd2:rAdd aw2S awC=(aw3S,aw2,0):=by decide+kernel
theorem awGreat:rGreat awA=false∧rGreat awB=false∧rGreat awC=false:=by decide+kernel
theorem awFine0:rFine []=true:=by decide+kernel
theorem awFine1:rFine aw1S=true:=by decide+kernel
theorem awFine2:rFine aw2S=true:=by decide+kernel
theorem awFine3:rFine aw3S=true:=by decide+kernel
theorem awClo:rClosure aw3S [aw1]=([aw0,aw1],0):=by decide+kernel
theorem awUse:rUsers aw3S [aw0]=([aw0,aw1],0):=by decide+kernel
theorem awKnow1:rKnows aw3S aw1 aw0=true:=by decide+kernel
theorem awKnow2:rKnows aw3S aw2 aw0=false:=by decide+kernel
theorem awKeep:keepS aw3S [aw1,aw2]= [⟨aw2,awC⟩,⟨aw1,awB⟩]:=by decide+kernel
theorem awGood:rGreatS [⟨aw2,awC⟩,⟨aw1,awB⟩]=false:=by decide+kernel
theorem awCheck:rCheckS [⟨aw2,awC⟩,⟨aw1,awB⟩]=19:=by decide+kernel
end Go.Proofs
namespace Go.Proofs
open Go Go.Q
attribute [local irreducible] pwp pops pAny PCalls OpN
theorem le_nilS (xs:List (List PV)) (h:xs= []):Le (.raw (.slice none 0 0)) (.slice xs .nil):=fun g v hv=>by
 subst h;rw[hv.raw_inv];exact .nilN none (by simp)
set_option maxHeartbeats 4000000 in
instance awake17_ct:FnC Tryz.prog 43 [] (.raw (.bool true)):=⟨by
 have v0:Valid []:=valid_of awFine0
 have v1:Valid aw1S:=valid_of awFine1
 have v2:Valid aw2S:=valid_of awFine2
 have v3:Valid aw3S:=valid_of awFine3
 have i0:Small (Valid []):=⟨v0⟩
 have i1:Small (Valid aw1S):=⟨v1⟩
 have i2:Small (Valid aw2S):=⟨v2⟩
 have i3:Small (Valid aw3S):=⟨v3⟩
 have g0:Small (rGreat awA=false):=⟨awGreat.1⟩
 have g1:Small (rGreat awB=false):=⟨awGreat.2.1⟩
 have g2:Small (rGreat awC=false):=⟨awGreat.2.2⟩
 have a0:=AddP_ct [] awA .nil
 have a1:=fun t=>AddP_ct aw1S awB t
 have a2:=fun t=>AddP_ct aw2S awC t
 rw[awAdd0]at a0
 rw[awAdd1]at a1
 rw[awAdd2]at a2
 dsimp only at a0 a1 a2
 have k1:=fun t=>KnowsP_ct aw3S aw1 aw0 t
 have k2:=fun t=>KnowsP_ct aw3S aw2 aw0 t
 rw[awKnow1]at k1
 rw[awKnow2]at k2
 have kc:=fun t u=>ClosureP_ct aw3S [aw1] t u (hl:=⟨by simp⟩)
 rw[awClo]at kc
 have ku:=fun t u=>UsersP_ct aw3S [aw0] t u (hl:=⟨by simp⟩)
 rw[awUse]at ku
 have kl:Small (aw3S.length≤1000000):=⟨by decide⟩
 have kk:=fun t u=>KeepP_ct aw3S [aw1,aw2] t u
 rw[awKeep]at kk
 have gg:Small (goodS [⟨aw2,awC⟩,⟨aw1,awB⟩]):=⟨goodS_of awGood⟩
 have kx:=fun t=>CheckPS_ct [⟨aw2,awC⟩,⟨aw1,awB⟩] t
 rw[awCheck]at kx
 dsimp only at kc ku
 refine fn_of Tryz.func43 Tryz.ntmps43 rfl (rs:= [.tmp 0]) rfl rfl fun hb LF=>?_
 repeat(refine pwp_seq ?_)
 refine pwp_region (by kernel_rfl) ?_
 refine wo ?_
 refine pops_nil ?_
 repeat(refine pwp_seq ?_)
 refine pwp_region (by kernel_rfl) ?_
 refine wo ?_
 refine pops_nil ?_
 refine pwp_env [(1,.slice ([awF].map eChg) .ro)] rfl (.refl _) ?_
 refine wf ?_
 refine s_callR (xs:= [.const (Value.slice none 0 0),.tmp 18]) [] LF (f:=50) (cs:= []) (le_func _) rfl rfl (.refl _) _ (PCalls.args (bs:= [.slice (([]:List Sto).map eSto) .nil,.agg (ePat awA)]) rfl (fun i g1 g2=>by
   match i,g1,g2 with
   |0,_,_=>exact le_nilS _ rfl
   |1,_,_=>exact .of_eq rfl
   |m+2,g1,_=>exact absurd g1 (by simp)) a0.out) fun r L' ⟨e1,e2⟩=>?_
 subst e1;rw[e2,List.nil_append]
 refine wf ?_
 refine s_alloc fun b3=>?_
 refine wo ?_
 refine pops_nil ?_
 refine pwp_freezeD 3 ?_
 refine wf ?_
 refine s_alloc fun b5=>?_
 refine wo ?_
 refine pops_nil ?_
 refine pwp_freezeD 5 ?_
 refine pwp_env [(1,.slice ([awF].map eChg) .ro),(2,.slice (aw1S.map eSto) .ro),(3,.pt (eDig aw0) 0),(4,.raw (.int .i64 0)),(5,.pt (eIdent ⟨aw0,0⟩) 0)] ⟨rfl,rfl,rfl,rfl,rfl⟩ (.refl _) ?_
 refine wf ?_
 refine s_callR (xs:= [.tmp 26,.tmp 33]) [] LF (f:=50) (cs:= []) (le_func _) rfl rfl (.refl _) _ (PCalls.args (bs:= [.slice ((aw1S:List Sto).map eSto) .ro,.agg (ePat awB)]) rfl (fun i g1 g2=>by
   match i,g1,g2 with
   |0,_,_=>exact .of_eq rfl
   |1,_,_=>exact .of_eq rfl
   |m+2,g1,_=>exact absurd g1 (by simp)) (a1 .ro).out) fun r L' ⟨e1,e2⟩=>?_
 subst e1;rw[e2,List.nil_append]
 refine wf ?_
 refine s_alloc fun b6=>?_
 refine wo ?_
 refine pops_nil ?_
 refine pwp_freezeD 6 ?_
 refine pwp_env [(1,.slice ([awF].map eChg) .ro),(2,.slice (aw2S.map eSto) .ro),(3,.pt (eDig aw0) 0),(4,.raw (.int .i64 0)),(6,.pt (eDig aw1) 0),(7,.raw (.int .i64 0))] ⟨rfl,rfl,rfl,rfl,rfl,rfl⟩ (.refl _) ?_
 refine wf ?_
 refine s_callR (xs:= [.tmp 39,.tmp 41]) [] LF (f:=50) (cs:= []) (le_func _) rfl rfl (.refl _) _ (PCalls.args (bs:= [.slice ((aw2S:List Sto).map eSto) .ro,.agg (ePat awC)]) rfl (fun i g1 g2=>by
   match i,g1,g2 with
   |0,_,_=>exact .of_eq rfl
   |1,_,_=>exact .of_eq rfl
   |m+2,g1,_=>exact absurd g1 (by simp)) (a2 .ro).out) fun r L' ⟨e1,e2⟩=>?_
 subst e1;rw[e2,List.nil_append]
 refine wf ?_
 refine s_alloc fun b8=>?_
 refine wo ?_
 refine pops_nil ?_
 refine pwp_freezeD 8 ?_
 refine pwp_env [(2,.slice (aw3S.map eSto) .ro),(3,.pt (eDig aw0) 0),(4,.raw (.int .i64 0)),(6,.pt (eDig aw1) 0),(7,.raw (.int .i64 0)),(8,.pt (eDig aw2) 0),(9,.raw (.int .i64 0))] ⟨rfl,rfl,rfl,rfl,rfl,rfl,rfl⟩ (.refl _) ?_
 refine wf ?_
 refine end1 (.of_eq ?_)
 rfl⟩
end Go.Proofs
namespace Go.Proofs
open Go Go.Q
attribute [local irreducible] pwp pops PCalls OpN
end Go.Proofs
namespace Go.Proofs
open Go Go.Q
theorem ble {a b:Nat} (h:Nat.ble a b=true):a≤b:=Nat.le_of_ble_eq_true h
theorem o_int:Opens Tryz.prog 3 (fun xs=> ∃ n,(Lit.int .i64 n).wf=true∧xs= [.raw (.int .i64 n)]):=opens_int (by kernel_rfl)
theorem o_str:Opens Tryz.prog 9 (fun xs=> ∃ s,xs=eS s):=opens_str (by kernel_rfl)
theorem o_dig:Opens Tryz.prog 37 (fun xs=> ∃ d,xs=eDig d):=opens_dig (e:=5) (by kernel_rfl) (by kernel_rfl) (by kernel_rfl) (by kernel_rfl)
theorem o_id:Opens Tryz.prog 115 (fun xs=> ∃ x,xs=eIdent x):=
 Opens.to (opens_struct (n:=33) (r:= [(37,0),(3,32)]) (by kernel_rfl) (by kernel_rfl) (.cons 32 (by kernel_rfl) o_dig (.cons 1 (by kernel_rfl) o_int (.nil _))))
  fun xs ⟨_,.cons ⟨d,e0⟩ (.cons ⟨n,_,e1⟩ .nil),e⟩=>⟨⟨d,n⟩,by subst e0 e1 e;simp[eIdent]⟩
theorem o_strs:Opens Tryz.prog 116 (fun xs=> ∃ l:List Str,xs= [.slice (l.map eS) .ro]):=Opens.list o_str (fun _=>rfl) (by kernel_rfl) (by kernel_rfl) rfl (by decide) (ble (by kernel_rfl))
theorem o_ids:Opens Tryz.prog 117 (fun xs=> ∃ l:List Ident,xs= [.slice (l.map eIdent) .ro]):=Opens.list (sz:=33) o_id (fun _=>by simp) (by kernel_rfl) (by kernel_rfl) rfl (by decide) (ble (by kernel_rfl))
theorem o_digs:Opens Tryz.prog 25 (fun xs=> ∃ l:List Dig,xs= [.slice (l.map eDig) .ro]):=Opens.list (sz:=32) o_dig (fun _=>by simp) (by kernel_rfl) (by kernel_rfl) rfl (by decide) (ble (by kernel_rfl))
theorem o_chg:Opens Tryz.prog 119 (fun xs=> ∃ c,xs=eChg c):=
 Opens.to (opens_struct (n:=139) (r:= [(3,0),(115,1),(3,34),(115,35),(9,68),(3,69),(9,70),(115,71),(115,104),(116,137),(117,138)]) (by kernel_rfl) (by kernel_rfl)
  (.cons 1 (by kernel_rfl) o_int (.cons 33 (by kernel_rfl) o_id (.cons 1 (by kernel_rfl) o_int (.cons 33 (by kernel_rfl) o_id (.cons 1 (by kernel_rfl) o_str (.cons 1 (by kernel_rfl) o_int (.cons 1 (by kernel_rfl) o_str (.cons 33 (by kernel_rfl) o_id (.cons 33 (by kernel_rfl) o_id (.cons 1 (by kernel_rfl) o_strs (.cons 1 (by kernel_rfl) o_ids (.nil _)))))))))))))
  fun xs ⟨yss,h,e⟩=>by
   rcases h with _|⟨⟨a0,_,e0⟩,h⟩
   rcases h with _|⟨⟨a1,e1⟩,h⟩
   rcases h with _|⟨⟨a2,_,e2⟩,h⟩
   rcases h with _|⟨⟨a3,e3⟩,h⟩
   rcases h with _|⟨⟨a4,e4⟩,h⟩
   rcases h with _|⟨⟨a5,_,e5⟩,h⟩
   rcases h with _|⟨⟨a6,e6⟩,h⟩
   rcases h with _|⟨⟨a7,e7⟩,h⟩
   rcases h with _|⟨⟨a8,e8⟩,h⟩
   rcases h with _|⟨⟨a9,e9⟩,h⟩
   rcases h with _|⟨⟨a10,e10⟩,h⟩
   cases h
   exact⟨⟨a0,a1,a2,a3,a4,a5,a6,a7,a8,a9,a10⟩,by subst e0 e1 e2 e3 e4 e5 e6 e7 e8 e9 e10 e;simp[eChg,eS]⟩
theorem o_chgs:Opens Tryz.prog 55 (fun xs=> ∃ l:List Chg,xs= [.slice (l.map eChg) .ro]):=Opens.list (sz:=139) o_chg (fun _=>by simp) (by kernel_rfl) (by kernel_rfl) rfl (by decide) (ble (by kernel_rfl))
theorem o_pat:Opens Tryz.prog 57 (fun xs=> ∃ c,xs=ePat c):=
 Opens.to (opens_struct (n:=5) (r:= [(9,0),(9,1),(3,2),(25,3),(55,4)]) (by kernel_rfl) (by kernel_rfl)
  (.cons 1 (by kernel_rfl) o_str (.cons 1 (by kernel_rfl) o_str (.cons 1 (by kernel_rfl) o_int (.cons 1 (by kernel_rfl) o_digs (.cons 1 (by kernel_rfl) o_chgs (.nil _)))))))
  fun xs ⟨_,.cons ⟨a0,e0⟩ (.cons ⟨a1,e1⟩ (.cons ⟨a2,_,e2⟩ (.cons ⟨a3,e3⟩ (.cons ⟨a4,e4⟩ .nil)))),e⟩=>⟨⟨a0,a1,a2,a3,a4⟩,by subst e0 e1 e2 e3 e4 e;simp[ePat,eS]⟩
theorem o_sto:Opens Tryz.prog 59 (fun xs=> ∃ c,xs=eSto c):=
 Opens.to (opens_struct (n:=37) (r:= [(37,0),(57,32)]) (by kernel_rfl) (by kernel_rfl) (.cons 32 (by kernel_rfl) o_dig (.cons 5 (by kernel_rfl) o_pat (.nil _))))
  fun xs ⟨_,.cons ⟨a0,e0⟩ (.cons ⟨a1,e1⟩ .nil),e⟩=>⟨⟨a0,a1⟩,by subst e0 e1 e;simp[eSto]⟩
theorem o_set:Opens Tryz.prog 23 (fun xs=> ∃ l:List Sto,xs= [.slice (l.map eSto) .ro]):=Opens.list (sz:=37) o_sto (fun _=>by simp) (by kernel_rfl) (by kernel_rfl) rfl (by decide) (ble (by kernel_rfl))
set_option maxRecDepth 20000 in
theorem arg_slice {t e:Nat} {W:World} {base:Nat} {v:Value} {g:Gh} {x:PV} (ht:Tryz.prog.underlying t=some (.slice e)) (hv:Value.okWide Tryz.prog W .any base t v) (h:VRl g v.cells.toList [x]):VR g v x:=by
 have:v.cells= #[v]:=by
  unfold Value.okWide at hv
  rw[ht]at hv
  simp only[Cell.okWide,ht]at hv
  cases v<;>simp[Cell.ok,ht]at hv<;>rfl
 rw[this]at h
 exact h.uncons.1
set_option maxRecDepth 20000 in
theorem glob_of_laid {W:World} (h:laidMetH Tryz.prog [("math/bits.deBruijn32tab",YtddlffkdpocmhaaGreatDoor.Rows.laid_math_bits_deBruijn32tab),("math/bits.deBruijn64tab",YtddlffkdpocmhaaGreatDoor.Rows.laid_math_bits_deBruijn64tab),("internal/strconv.uint64pow10",YtddlffkdpocmhaaGreatDoor.Rows.laid_internal_strconv_uint64pow10)] W):
  ∃ T p,W.heap[globAt]? =some (.cells pow10Tab.toArray T p):=by
 rw[MakeChecks.laidMetH_plain _ _ _ (by kernel_rfl)]at h
 obtain⟨ps,⟨_,_,_,_,_,_,_,_,_,_,⟨_,_,_,_,_,_,_,_,_,_,⟨g2,t2,cs2,f2,p2,q2,hg2,ht2,hv2,hd2,_,_⟩,_⟩,_⟩,_,_⟩:=h
 have e1:Tryz.prog.globalNamed "internal/strconv.uint64pow10" =some globAt:=by kernel_rfl
 obtain rfl:=Option.some.inj (e1.symm.trans hg2)
 have e2:(Tryz.prog.globals[globAt]?).map (·.type)=some 302:=by kernel_rfl
 obtain rfl:=Option.some.inj (e2.symm.trans ht2)
 obtain⟨xs,m,rfl,hx,k1,k2,k3⟩:=DataW.trod_array (n:=20) (e:=198) (by kernel_rfl) hd2
 have hce:Tryz.prog.cellsOf 198=1:=by kernel_rfl
 have hct:Tryz.prog.cellsOf 302=20:=by kernel_rfl
 have hlaid:(YtddlffkdpocmhaaGreatDoor.Rows.laid_internal_strconv_uint64pow10:DataW Unit)= .agg ((List.range 20).map fun i=> .lit (.int .u64 (10 ^ i))):=rfl
 rw[hct]at k1
 have hxs:xs.map (·.1)=(List.range 20).map fun i=> .lit (.int .u64 (10 ^ i)):=by
  have h1:=(Prod.mk.inj hx).1
  rw[hlaid]at h1
  exact(DataW.agg.inj h1).symm
 have key:cs2.toList=pow10Tab:=by
  refine List.ext_getElem (by rw[k1];rfl) fun i h1 h2=>?_
  have hi:i < 20:=by omega
  have h3:=k3 i hi
  have hix:i < xs.length:=by omega
  rw[List.getElem?_eq_getElem hix,hce,Nat.mul_one]at h3
  obtain⟨n,f1,f2,_⟩:=DataW.trod_int (k:= .u64) (by kernel_rfl) h3
  have f3:(cs2.toList.drop i).take 1= [cs2.toList[i]]:=by
   rw[List.drop_eq_getElem_cons h1];rfl
  rw[f3]at f1
  simp only[List.cons.injEq,and_true]at f1
  have f4:(xs.map (·.1))[i]'(by simpa using hix)= .lit (.int .u64 n):=by simp[f2]
  have f5:(xs.map (·.1))[i]'(by simpa using hix)= .lit (.int .u64 (10 ^ i)):=by
   have:=List.getElem_of_eq hxs (i:=i) (by simpa using hix)
   rw[this];simp
  rw[f4]at f5
  have f6:=(Lit.int.inj (DataW.lit.inj f5)).2
  rw[f1,f6]
  simp[pow10Tab]
 simp only[World.var?,hg2,Option.bind_some]at hv2
 split at hv2
 ·rename_i cs T p hh
  cases hv2
  refine⟨T,p,?_⟩
  rw[hh,←key]
 ·cases hv2
end Go.Proofs
namespace Go.Proofs
open Go Go.Q
def laid3:List (String × DataW Unit):= [("math/bits.deBruijn32tab",YtddlffkdpocmhaaGreatDoor.Rows.laid_math_bits_deBruijn32tab),("math/bits.deBruijn64tab",YtddlffkdpocmhaaGreatDoor.Rows.laid_math_bits_deBruijn64tab),("internal/strconv.uint64pow10",YtddlffkdpocmhaaGreatDoor.Rows.laid_internal_strconv_uint64pow10)]
theorem own:ownKnob Tryz.prog.godebug=none:=by kernel_rfl
theorem door_met (os:Os) (args:Array Value):laidMetH Tryz.prog laid3 ((World.doorLaid Tryz.prog 400 os).forCall (fun _ _=>0) ⟨#[],args,[]⟩).memory:=
 laidMetH_of_parts3 (fuel:=8) (laidMet_of_run' 8 (by kernel_rfl) (by kernel_rfl)) (by kernel_rfl) (by kernel_rfl)
theorem door_shaped (os:Os) (args:Array Value):((World.doorLaid Tryz.prog 400 os).forCall (fun _ _=>0) ⟨#[],args,[]⟩).Shaped Tryz.checked.prog:=World.shaped_of_RefB (by kernel_rfl) (by kernel_rfl)
end Go.Proofs
namespace Go.Proofs
open Go Go.Q Go.ChangeShapes Go.WideShapes Go.ChangeAt Go.WideMaps Go.WideElems Go.RowKit
theorem trueOk {W':World} {f:Func} (hr:f.resultTypes= #[4]) {H:Type} {enc:TypeId × Value→H} (b:Nat) (sp:Nat→Bool) (hd:Bool):DataW.TrodAll enc Tryz.prog W' b sp hd f.resultTypes.toList ((Value.bool true).resultList f.resultTypes.size) [.lit (.bool true)] []:=by
 rw[hr]
 exact trodAll_mk1 (shut_bool (by kernel_rfl) _)
set_option maxRecDepth 20000 in
theorem arg_agg {t:Nat} {W:World} {base:Nat} {v:Value} {g:Gh} {cs:List PV} (ht:(match Tryz.prog.underlying t with|some (.struct _)|some (.array _ _)=>true|_=>false)=true) (hv:Value.okWide Tryz.prog W .any base t v) (h:VRl g v.cells.toList cs):VR g v (.agg cs):=by
 unfold Value.okWide at hv
 split at hv
 ·obtain⟨vs,rfl,_⟩:=hv
  have:VR g (.agg vs.toList.toArray) (.agg cs):=VRl.agg h
  simpa using this
 ·obtain⟨vs,rfl,_⟩:=hv
  have:VR g (.agg vs.toList.toArray) (.agg cs):=VRl.agg h
  simpa using this
 ·rename_i h1 h2
  split at ht
  ·rename_i fs hu;exact absurd hu (h1 fs)
  ·rename_i n e hu;exact absurd hu (h2 n e)
  ·cases ht
end Go.Proofs
namespace Go.Proofs
open Go Go.Q
attribute [local irreducible] pwp pops PCalls OpN
set_option maxHeartbeats 1000000 in
theorem patchsetCheck_fn (s:List Sto) (t:Tag) (d:Dig):FnC Tryz.prog 9 [.slice (s.map eSto) t,.agg (eDig d)] (.raw (.bool true)):=⟨by
 refine fn_of Tryz.func9 Tryz.ntmps9 rfl (rs:= [.tmp 4]) rfl rfl fun hb LF=>?_
 refine wf ?_
 refine pwp_condB (fun h=>?_) (fun h=>?_)
 ·refine wf ?_
  exact end1 (.refl _)
 have hg:goodS s:=goodS_of h
 have i1:Small (goodS s):=⟨hg⟩
 have g1:decide (rCheckS s=rCheckS s)=true:=decide_eq_true rfl
 have g2:decide ((getS s d).isSome=(getS s d).isSome)=true:=decide_eq_true rfl
 have g3:decide ((getS s d).getD Pat.zero=(getS s d).getD Pat.zero)=true:=decide_eq_true rfl
 refine wf ?_
 refine s_alloc fun b5=>?_
 refine wo ?_
 refine pops_nil ?_
 refine pwp_freezeD 5 ?_
 refine wf ?_
 refine s_alloc fun b7=>?_
 refine wo ?_
 refine pops_nil ?_
 refine pwp_freezeD 7 ?_
 refine wf ?_
 exact end1 (.refl _)⟩
end Go.Proofs
namespace Go.Proofs
open Go Go.Q
attribute [local irreducible] pwp pops PCalls OpN
set_option maxHeartbeats 1000000 in
theorem patchsetAdd_fn (s:List Sto) (t:Tag) (p:Pat):FnC Tryz.prog 10 [.slice (s.map eSto) t,.agg (ePat p)] (.raw (.bool true)):=⟨by
 refine fn_of Tryz.func10 Tryz.ntmps10 rfl (rs:= [.tmp 4]) rfl rfl fun hb LF=>?_
 refine wf ?_
 refine pops_cutE [(17,.raw (.bool (decide (rFine s=true→rGreat p=true)))),(0,.slice (s.map eSto) t),(3,.pt (ePat p) 0)] (LF) ?_ ?_
 ·repeat' (first|(refine pwp_condD (fun h=>?_) (fun h=>?_)<;>refine wf ?_)|(refine pwp_condN (fun h=>?_) (fun h=>?_)<;>refine wf ?_)|(refine pwp_condB (fun h=>?_) (fun h=>?_)<;>refine wf ?_)|(refine pops_if (fun h=>?_) (fun h=>?_)<;>(have h2:=h;(try simp only[decide_eq_true_eq,decide_eq_false_iff_not,Bool.not_eq_true',Bool.not_eq_false']at h2);refine wf ?_)))
  all_goals (refine⟨⟨holdsB (by rfl) ?_,rfl,rfl⟩,.refl _⟩;first|(simp_all;done)|grind)
 refine wf ?_
 refine pwp_condD (fun h=>?_) (fun h=>?_)
 ·refine wf ?_
  exact end1 (.refl _)
 have hf:rFine s=true:=Classical.byContradiction fun h2=>h fun h3=>absurd h3 h2
 have hp:rGreat p=false:=by
  cases hp:rGreat p with
  |false=>rfl
  |true=>exact absurd (fun _=>hp) h
 have v:=valid_of hf
 have i1:Small (Valid s):=⟨v⟩
 have i2:Small (goodS s):=⟨v.close.1⟩
 have i3:Small (rGreat p=false):=⟨hp⟩
 generalize hA:rAdd s p=A
 have a1:=fun t=>AddP_ct s p t
 have a2:=fun t=>Add_ct s p t
 rw[hA]at a1 a2
 have g1:decide (A.1=A.1)=true:=decide_eq_true rfl
 have g2:decide (A.2.1=A.2.1)=true:=decide_eq_true rfl
 have g3:decide (A.2.2=A.2.2)=true:=decide_eq_true rfl
 refine wf ?_
 refine s_alloc fun b6=>?_
 refine wo ?_
 refine pops_nil ?_
 refine pwp_freezeD 6 ?_
 refine wf ?_
 refine s_alloc fun b9=>?_
 refine wo ?_
 refine pops_nil ?_
 refine pwp_freezeD 9 ?_
 refine wf ?_
 exact end1 (.refl _)⟩
end Go.Proofs
namespace Go.Q
open Go
section
variable {P:Program} {N:Nat} {all:Array Oper} {K:Env→List Res→Prop} {fl:List Bool} {os:List Oper} {ρ:Env} {L:List Res} {d:Nat} {ty:TypeId} {pos:String} {af:Array Edge}
theorem s_ixArr {T n E sz by_:Nat} [hT:TArr P T n E] [hE:TSz P E sz by_] {x y:Operand} {cs r:List PV} {kk:IntKind} (i:Nat) (hx:ρ.ev x= .pt cs 0) (hy:ρ.ev y= .raw (.int kk (i:Int))) (hi:i < n) (hr:(cs.drop (i*sz)).take r.length=r∧i*sz+r.length≤cs.length)
  (k:pops P N all K fl.tail os (upd ρ d (.pt r 0)) L) (hd:Nat.blt d N=true:=by rfl):pops P N all K fl (⟨some d,.indexAddr T x y,ty,pos,af,none⟩::os) ρ L:=
 step_q hd (qop_of_run fun a w g ha hI=>by
  have h1:=ha x (by simp[Op.operands])
  rw[hx]at h1
  have h2:=evRaw ha (x:=y) (by simp[Op.operands]) hy
  generalize hv:a.eval x=v at h1
  obtain⟨e1,e2⟩:=hr
  have h3:(0:Int)≤(i:Int)∧(i:Int) < (n:Int):=by omega
  cases h1 with
  |pt ff hH hv'=>
   rename_i b o
   refine⟨.pointer (some ⟨b,o+i*sz+0,none⟩),?_,.pt (fun j=>ff (i*sz+j)) (fun j hj=>?_) (fun j hj=>?_)⟩
   ·simp[execOp,Instr.indexAt,hv,h2,asIntOf,run_und hT.out,Instr.sureAddr,h3,TSz.run hE,add_plain];intro h4;omega
   ·rw[Nat.add_assoc];exact hH (i*sz+j) (by omega)
   ·have e:r[j]=cs[i*sz+j]'(by omega):=by
     have:=List.getElem_of_eq e1.symm hj
     rw[this,List.getElem_take,List.getElem_drop]
    rw[e];exact hv' (i*sz+j) (by omega)) k
end
end Go.Q
namespace Go.Proofs
open Go Go.Q
attribute [local irreducible] pwp pops pAny PCalls OpN
def eTwo (x:Dig × Dig):List PV:=eDig x.1++eDig x.2
set_option maxHeartbeats 4000000 in
theorem patchsetGraph_fn (s:List Sto) (t:Tag) (l:List Dig) (u:Tag) (two:Dig × Dig):FnC Tryz.prog 11 [.slice (s.map eSto) t,.slice (l.map eDig) u,.agg (eTwo two)] (.raw (.bool true)):=⟨by
 obtain⟨p,q⟩:=two
 refine fn_of Tryz.func11 Tryz.ntmps11 rfl (rs:= [.tmp 6]) rfl rfl fun hb LF=>?_
 have hll:l.length≤140737488355328:=(hb (.slice (l.map eDig) u) (by simp)).slice_map
 refine wn ?_
 refine pwp_joinG (σ:=Nat × Nat) (fun _=>True) (fun k=> [(0,.slice (s.map eSto) t),(1,.slice (l.map eDig) u),(7,.raw (.pointer (some ⟨k.1,0,none⟩))),(8,.raw (.pointer (some ⟨k.2,0,none⟩)))]) (fun k=> .box k.1 37 (eDig p):: .box k.2 37 (eDig q)::LF) ?_ ?_
 ·refine pwp_drawA [4,5,6,7] (by decide+kernel) ?_
  refine pAny_quiet 0 rfl (by decide+kernel) rfl (fun L'=>q_of_pops (N:=102) rfl rfl (by refine s_ixArr (r:=eDig p) 0 rfl rfl (by decide) ⟨by simp[eTwo],by simp[eTwo]⟩ ?_;refine pops_nil ?_;exact⟨upd_self _ _ _,rfl⟩)) ?_
  refine pAny_quiet 1 rfl (by decide+kernel) rfl (fun L'=>q_of_pops (N:=102) rfl rfl (by refine wo ?_;refine pops_nil ?_;exact⟨upd_self _ _ _,rfl⟩)) ?_
  refine pAny_quiet 2 rfl (by decide+kernel) rfl (fun L'=>q_of_pops (N:=102) rfl rfl (by refine s_ixArr (r:=eDig q) 1 rfl rfl (by decide) ⟨by rw[eTwo,List.drop_left' (by simp)];exact List.take_length,by simp[eTwo]⟩ ?_;refine pops_nil ?_;exact⟨upd_self _ _ _,rfl⟩)) ?_
  refine pAny_quiet 3 rfl (by decide+kernel) rfl (fun L'=>q_of_pops (N:=102) rfl rfl (by refine wo ?_;refine pops_nil ?_;exact⟨upd_self _ _ _,rfl⟩)) ?_
  refine pAny_next (fuel:=3) [4,5] (by decide+kernel) (by simp) fun i hi=>?_
  simp only[List.mem_cons,List.not_mem_nil,or_false]at hi
  rcases hi with rfl|rfl
  ·refine⟨_,rfl,?_⟩
   refine s_alloc fun b7=>?_
   refine pops_nil ?_
   refine pAny_next (fuel:=2) [5] (by decide+kernel) (by simp) fun i hi=>?_
   simp only[List.mem_cons,List.not_mem_nil,or_false]at hi
   subst hi
   refine⟨_,rfl,?_⟩
   refine s_alloc fun b8=>?_
   refine pops_nil ?_
   refine pAny_next (fuel:=1) [6] (by decide+kernel) (by simp) fun i hi=>?_
   simp only[List.mem_cons,List.not_mem_nil,or_false]at hi
   subst hi
   refine⟨_,rfl,?_⟩
   refine pops_perm (.swap _ _ _) rfl ?_ (fun h=>h)
   refine wo ?_
   refine pops_nil ?_
   refine pAny_next (fuel:=0) [7] (by decide+kernel) (by simp) fun i hi=>?_
   simp only[List.mem_cons,List.not_mem_nil,or_false]at hi
   subst hi
   refine⟨_,rfl,?_⟩
   refine wo ?_
   refine pops_nil ?_
   refine pAny_end (by decide+kernel) ?_
   exact⟨(b7,b8),trivial,⟨rfl,rfl,rfl,rfl⟩,.refl _⟩
  ·refine⟨_,rfl,?_⟩
   refine s_alloc fun b8=>?_
   refine pops_nil ?_
   refine pAny_next (fuel:=2) [4] (by decide+kernel) (by simp) fun i hi=>?_
   simp only[List.mem_cons,List.not_mem_nil,or_false]at hi
   subst hi
   refine⟨_,rfl,?_⟩
   refine s_alloc fun b7=>?_
   refine pops_nil ?_
   refine pAny_next (fuel:=1) [6] (by decide+kernel) (by simp) fun i hi=>?_
   simp only[List.mem_cons,List.not_mem_nil,or_false]at hi
   subst hi
   refine⟨_,rfl,?_⟩
   refine wo ?_
   refine pops_nil ?_
   refine pAny_next (fuel:=0) [7] (by decide+kernel) (by simp) fun i hi=>?_
   simp only[List.mem_cons,List.not_mem_nil,or_false]at hi
   subst hi
   refine⟨_,rfl,?_⟩
   refine wo ?_
   refine pops_nil ?_
   refine pAny_end (by decide+kernel) ?_
   exact⟨(b7,b8),trivial,⟨rfl,rfl,rfl,rfl⟩,.refl _⟩
 rintro⟨b7,b8⟩ _
 refine pwp_freezeD 7 ?_
 refine pwp_freezeD 8 ?_
 refine wf ?_
 refine pops_cutE [(28,.raw (.bool (decide (rFine s=true→10 < (l.length:Int))))),(0,.slice (s.map eSto) t),(1,.slice (l.map eDig) u),(7,.pt (eDig p) 0),(8,.pt (eDig q) 0)] (LF) ?_ ?_
 ·repeat' (first|(refine pwp_condD (fun h=>?_) (fun h=>?_)<;>refine wf ?_)|(refine pwp_condN (fun h=>?_) (fun h=>?_)<;>refine wf ?_)|(refine pwp_condB (fun h=>?_) (fun h=>?_)<;>refine wf ?_)|(refine pops_if (fun h=>?_) (fun h=>?_)<;>(have h2:=h;(try simp only[decide_eq_true_eq,decide_eq_false_iff_not,Bool.not_eq_true',Bool.not_eq_false']at h2);refine wf ?_)))
  all_goals (refine⟨⟨holdsB (by rfl) ?_,rfl,rfl,rfl,rfl⟩,.refl _⟩;first|(simp_all;done)|grind)
 refine wf ?_
 refine pwp_condD (fun h=>?_) (fun h=>?_)
 ·refine wf ?_
  exact end1 (.refl _)
 have hf:rFine s=true:=Classical.byContradiction fun h2=>h fun h3=>absurd h3 h2
 have hl10:l.length≤10:=by
  rcases Nat.lt_or_ge 10 l.length with h2|h2
  ·exact absurd (fun _=>by omega) h
  ·exact h2
 have v:=valid_of hf
 have i1:Small (Valid s):=⟨v⟩
 have i2:Small (goodS s):=⟨v.close.1⟩
 have i3:Small (closeS s):=⟨v.close⟩
 have i4:Small (l.length≤400):=⟨by omega⟩
 have h40:=v.close.1.1
 have i5:Small (s.length≤1000000):=⟨by omega⟩
 have o1:=fun t=>orderP_fn s t v.close.1 v.asc
 have o2:=fun t=>Order_ct s t
 have k1:=fun t=>KnowsP_ct s p q t
 have k2:=fun t=>Knows17_ct s p q t
 have c1:=fun t u=>ClosureP_ct s l t u
 have c2:=fun t u=>Closure_ct s l t u
 have u1:=fun t u=>UsersP_ct s l t u
 have u2:=fun t u=>Users17_ct s l t u
 generalize rOrder s=O at o1 o2
 generalize rKnows s p q=kn at k1 k2
 generalize rClosure s l=C at c1 c2
 generalize rUsers s l=W at u1 u2
 have g1:decide (O=O)=true:=decide_eq_true rfl
 have g2:decide (kn=kn)=true:=decide_eq_true rfl
 have g3:decide (C.1=C.1)=true:=decide_eq_true rfl
 have g4:decide (C.2=C.2)=true:=decide_eq_true rfl
 have g5:decide (W.1=W.1)=true:=decide_eq_true rfl
 have g6:decide (W.2=W.2)=true:=decide_eq_true rfl
 have g7:decide (keepS s l=keepS s l)=true:=decide_eq_true rfl
 refine wf ?_
 exact end1 (.refl _)⟩
end Go.Proofs
namespace Go.Proofs
open Go Go.Q
attribute [local irreducible] pwp pops PCalls OpN
theorem fine_len {s:List Sto} (h:rFine s=true):s.length≤8:=by
 unfold rFine rGreatS at h
 simp only[Bool.and_eq_true,Bool.not_eq_true',Bool.or_eq_false_iff,decide_eq_false_iff_not]at h
 omega
set_option maxHeartbeats 2000000 in
theorem patchsetAdded_fn (s:List Sto) (t:Tag) (p:Pat):FnC Tryz.prog 12 [.slice (s.map eSto) t,.agg (ePat p)] (.raw (.bool true)):=⟨by
 refine fn_of Tryz.func12 Tryz.ntmps12 rfl (rs:= [.tmp 4]) rfl rfl fun hb LF=>?_
 refine wf ?_
 refine pops_cutE [(22,.raw (.bool (decide (rFine s=true→rGreat p=true)))),(0,.slice (s.map eSto) t),(3,.pt (ePat p) 0)] (LF) ?_ ?_
 ·repeat' (first|(refine pwp_condD (fun h=>?_) (fun h=>?_)<;>refine wf ?_)|(refine pwp_condN (fun h=>?_) (fun h=>?_)<;>refine wf ?_)|(refine pwp_condB (fun h=>?_) (fun h=>?_)<;>refine wf ?_)|(refine pops_if (fun h=>?_) (fun h=>?_)<;>(have h2:=h;(try simp only[decide_eq_true_eq,decide_eq_false_iff_not,Bool.not_eq_true',Bool.not_eq_false']at h2);refine wf ?_)))
  all_goals (refine⟨⟨holdsB (by rfl) ?_,rfl,rfl⟩,.refl _⟩;first|(simp_all;done)|grind)
 refine wf ?_
 refine pwp_condD (fun h=>?_) (fun h=>?_)
 ·refine wf ?_
  exact end1 (.refl _)
 have hf:rFine s=true:=Classical.byContradiction fun h2=>h fun h3=>absurd h3 h2
 have hp:rGreat p=false:=by
  cases hp:rGreat p with
  |false=>rfl
  |true=>exact absurd (fun _=>hp) h
 have v:=valid_of hf
 have hl8:=fine_len hf
 have i1:Small (Valid s):=⟨v⟩
 have i3:Small (rGreat p=false):=⟨hp⟩
 have a1:=fun t=>AddP_ct s p t
 refine Decidable.byCases (p:=(rAdd s p).2.2=0) (fun he=>?_) (fun he=>?_)
 ·obtain⟨F,hA⟩:=v.rAdd_ok hp he
  rw[hA]at a1
  dsimp only at a1
  have vT:=v.put F (by omega)
  have ag:=v.rAdd_again F
  have hid:=F.id.1
  have hnew:=F.new
  have hget:=getS_in vT.asc (mem_putS.2 (.inl rfl):(⟨(rId p).1,p⟩:Sto)∈putS s ⟨(rId p).1,p⟩)
  have hkp:=keep_put (s:=s) hnew
  have hck:=check_of_valid vT
  have hln:=putS_len s ⟨(rId p).1,p⟩
  dsimp only at hid hnew hget hkp
  generalize putS s ⟨(rId p).1,p⟩=T at*
  have i5:Small (Valid T):=⟨vT⟩
  have i6:Small (goodS T):=⟨vT.close.1⟩
  have i7:Small (T.length≤1000000):=⟨by omega⟩
  have a2:=fun t=>AddP_ct T p t
  rw[ag]at a2
  dsimp only at a2
  have a3:=fun t=>GetP_ct T t (rId p).1
  rw[hget]at a3
  have a4:=fun t=>CheckPS_ct T t
  rw[hck]at a4
  have a5:=fun t u=>KeepP_ct T (ids s) t u
  rw[hkp]at a5
  have a6:=IdPP_ct p
  rw[hid]at a6
  generalize (rId p).1=d at*
  have g1:decide (d=d)=true:=decide_eq_true rfl
  have g2:decide (p=p)=true:=decide_eq_true rfl
  have g3:decide ((T.length:Int)=s.length+1)=true:=decide_eq_true (by omega)
  have g4:decide (s=s)=true:=decide_eq_true rfl
  have g5:(!decide (d∈ids s))=true:=by rw[decide_eq_false hnew];rfl
  rw[Option.isSome_some,Option.getD_some]at a3
  refine wf ?_
  refine s_alloc fun b6=>?_
  refine wo ?_
  refine pops_nil ?_
  refine pwp_freezeD 6 ?_
  refine wf ?_
  refine s_alloc fun b8=>?_
  refine wo ?_
  refine pops_nil ?_
  refine pwp_freezeD 8 ?_
  refine wf ?_
  refine s_alloc fun b10=>?_
  refine wo ?_
  refine pops_nil ?_
  refine pwp_freezeD 10 ?_
  refine wf ?_
  refine s_alloc fun b13=>?_
  refine wo ?_
  refine pops_nil ?_
  refine pwp_freezeD 13 ?_
  refine wf ?_
  exact end1 (.refl _)
 ·obtain⟨e1,e2⟩:=rAdd_bad he
  rw[e1,e2]at a1
  generalize (rAdd s p).2.2=e at a1 he
  have g1:decide (Dig.zero=Dig.zero)=true:=decide_eq_true rfl
  refine wf ?_
  refine s_alloc fun b6=>?_
  refine wo ?_
  refine pops_nil ?_
  refine pwp_freezeD 6 ?_
  refine wf ?_
  refine pwp_condN (fun _=>?_) (fun h=>?_)
  ·refine wf ?_
   exact end1 (.refl _)
  ·exact absurd h he⟩
end Go.Proofs
namespace Go.Proofs
open Go Go.Q
attribute [local irreducible] pwp pops pAny PCalls OpN
theorem clo_one' {s:List Sto} {q:Dig} (hq:q∈ids s):rClosure s [q]=(cloS s q,0):=by
 have h:allIn (ids s) [q]=true:=by simp[allIn,hq]
 unfold cloS rClosure
 rw[if_neg (by simp[h])]
theorem uses_one {s:List Sto} {q:Dig} (hq:q∈ids s):rUsers s [q]=(usesS s [q] s,0):=by
 have h:allIn (ids s) [q]=true:=by simp[allIn,hq]
 unfold rUsers
 rw[if_neg (by simp[h])]
theorem Valid.knows_in {s:List Sto} (v:Valid s) {p:Dig} (hp:p∈ids s) (q:Dig):rKnows s p q=decide (q∈cloS s p):=by
 rw[v.knows,clo_one' hp];rfl
theorem Reach.first {nd:Dig→List Dig} {p q:Dig}:Q.Reach nd [p] q↔q=p∨ ∃ d∈nd p,Q.Reach nd [d] q:=by
 constructor
 ·intro h
  induction h with
  |base h=>exact .inl (List.mem_singleton.1 h)
  |step _ hd ih=>
   rcases ih with rfl|⟨e,he,hr⟩
   ·exact .inr ⟨_,hd,.base (by simp)⟩
   ·exact .inr ⟨e,he,.step hr hd⟩
 ·rintro(rfl|⟨d,hd,hr⟩)
  ·exact .base (by simp)
  ·exact Reach.trans' (.step (.base (by simp)) hd) hr
theorem Valid.clo_first {s:List Sto} (v:Valid s) {x:Sto} (hx:x∈s) (q:Dig):q∈cloS s x.id↔x.id=q∨ ∃ d∈rNeeds x.patch,q∈cloS s d:=by
 have hp:x.id∈ids s:=List.mem_map.2 ⟨x,hx,rfl⟩
 rw[v.mem_clo hp,Reach.first,v.ndS hx]
 constructor
 ·rintro(h|⟨d,hd,hr⟩)
  ·exact .inl h.symm
  ·exact .inr ⟨d,hd,(v.mem_clo (v.close.2 x hx d hd) q).2 hr⟩
 ·rintro(h|⟨d,hd,hr⟩)
  ·exact .inl h.symm
  ·exact .inr ⟨d,hd,(v.mem_clo (v.close.2 x hx d hd) q).1 hr⟩
theorem Valid.clo_rank {s:List Sto} (v:Valid s) {p q:Dig} (hp:p∈ids s) (h:q∈cloS s p):q=p∨rankS s q < rankS s p:=by
 replace h:=(v.mem_clo hp q).1 h
 induction h with
 |base h=>exact .inl (List.mem_singleton.1 h)
 |step hr hd ih=>
  rename_i x d
  have hx:x∈ids s:=hr.in_ (fun x _ d hd=>v.close.nd x d hd) (ids:= [p]) fun y hy=>by rw[List.mem_singleton.1 hy];exact hp
  obtain⟨z,hz,rfl⟩:=List.mem_map.1 hx
  rw[v.ndS hz]at hd
  have:=v.rank hz hd
  rcases ih with e|h2
  ·rw[e]at this;exact .inr this
  ·exact .inr (by omega)
theorem Valid.clo_anti {s:List Sto} (v:Valid s) {p q:Dig} (hp:p∈ids s) (hq:q∈ids s) (h1:q∈cloS s p) (h2:p∈cloS s q):p=q:=by
 rcases v.clo_rank hp h1 with h|h
 ·exact h.symm
 ·rcases v.clo_rank hq h2 with h'|h'
  ·exact h'
  ·omega
set_option maxHeartbeats 4000000 in
theorem patchsetDual_fn (s:List Sto) (t:Tag) (i k:UInt8):FnC Tryz.prog 14 [.slice (s.map eSto) t,eU8 i,eU8 k] (.raw (.bool true)):=⟨by
 refine fn_of Tryz.func14 Tryz.ntmps14 rfl (rs:= [.tmp 6]) rfl rfl fun hb LF=>?_
 refine wf ?_
 refine pops_cutE [(24,.raw (.bool (decide (rFine s=true→(s.length:Int)=0)))),(0,.slice (s.map eSto) t),(1,eU8 i),(2,eU8 k)] (LF) ?_ ?_
 ·repeat' (first|(refine pwp_condD (fun h=>?_) (fun h=>?_)<;>refine wf ?_)|(refine pwp_condN (fun h=>?_) (fun h=>?_)<;>refine wf ?_)|(refine pwp_condB (fun h=>?_) (fun h=>?_)<;>refine wf ?_)|(refine pops_if (fun h=>?_) (fun h=>?_)<;>(have h2:=h;(try simp only[decide_eq_true_eq,decide_eq_false_iff_not,Bool.not_eq_true',Bool.not_eq_false']at h2);refine wf ?_)))
  all_goals (refine⟨⟨holdsB (by rfl) ?_,rfl,rfl,rfl⟩,.refl _⟩;first|(simp_all;done)|grind)
 refine wf ?_
 refine pwp_condD (fun h=>?_) (fun h=>?_)
 ·refine wf ?_
  exact end1 (.refl _)
 have hf:rFine s=true:=Classical.byContradiction fun h2=>h fun h3=>absurd h3 h2
 have h0:s.length≠0:=fun h2=>h fun _=>by omega
 have v:=valid_of hf
 have i1:Small (Valid s):=⟨v⟩
 have h40:=v.close.1.1
 have hi:i.toNat % s.length < s.length:=Nat.mod_lt _ (by omega)
 have hk:k.toNat % s.length < s.length:=Nat.mod_lt _ (by omega)
 refine wn ?_
 refine pwp_joinG (σ:=Nat × Nat) (fun _=>True) (fun k'=> [(0,.slice (s.map eSto) t),(7,.raw (.pointer (some ⟨k'.1,0,none⟩))),(8,.raw (.pointer (some ⟨k'.2,0,none⟩)))]) (fun k'=> .box k'.1 59 (eSto s[i.toNat % s.length]):: .box k'.2 59 (eSto s[k.toNat % s.length])::LF) ?_ ?_
 ·refine pwp_drawA [16,17,18,19] (by decide+kernel) ?_
  refine pAny_quiet 0 rfl (by decide+kernel) rfl (fun L'=>q_of_pops (N:=136) rfl rfl (by refine wo ?_;refine pops_nil ?_;exact⟨upd_self _ _ _,rfl⟩)) ?_
  refine pAny_quiet 1 rfl (by decide+kernel) rfl (fun L'=>q_of_pops (N:=136) rfl rfl (by refine wo ?_;refine pops_nil ?_;exact⟨upd_self _ _ _,rfl⟩)) ?_
  refine pAny_quiet 2 rfl (by decide+kernel) rfl (fun L'=>q_of_pops (N:=136) rfl rfl (by refine s_convI (k₀:= .u8) (n:=(i.toNat:Int)) rfl (IntWalk.i64_in _ (by have:=i.toNat_lt;omega)) ?_;refine pops_nil ?_;exact⟨upd_self _ _ _,rfl⟩)) ?_
  refine pAny_quiet 3 rfl (by decide+kernel) rfl (fun L'=>q_of_pops (N:=136) rfl rfl (by refine wo ?_;refine pops_nil ?_;exact⟨upd_self _ _ _,rfl⟩)) ?_
  refine pAny_quiet 4 rfl (by decide+kernel) rfl (fun L'=>q_of_pops (N:=136) rfl rfl (by refine wo ?_;refine pops_nil ?_;exact⟨upd_self _ _ _,rfl⟩)) ?_
  refine pAny_quiet 5 rfl (by decide+kernel) rfl (fun L'=>q_of_pops (N:=136) rfl rfl (by refine s_rem (m:=i.toNat) (n:=s.length) rfl rfl h0 ?_;refine pops_nil ?_;exact⟨upd_self _ _ _,rfl⟩)) ?_
  refine pAny_quiet 6 rfl (by decide+kernel) rfl (fun L'=>q_of_pops (N:=136) rfl rfl (by refine wo ?_;refine pops_nil ?_;exact⟨upd_self _ _ _,rfl⟩)) ?_
  refine pAny_quiet 7 rfl (by decide+kernel) rfl (fun L'=>q_of_pops (N:=136) rfl rfl (by refine wo ?_;refine pops_nil ?_;exact⟨upd_self _ _ _,rfl⟩)) ?_
  refine pAny_quiet 8 rfl (by decide+kernel) rfl (fun L'=>q_of_pops (N:=136) rfl rfl (by refine wo ?_;refine pops_nil ?_;exact⟨upd_self _ _ _,rfl⟩)) ?_
  refine pAny_quiet 9 rfl (by decide+kernel) rfl (fun L'=>q_of_pops (N:=136) rfl rfl (by refine wo ?_;refine pops_nil ?_;exact⟨upd_self _ _ _,rfl⟩)) ?_
  refine pAny_quiet 10 rfl (by decide+kernel) rfl (fun L'=>q_of_pops (N:=136) rfl rfl (by refine s_convI (k₀:= .u8) (n:=(k.toNat:Int)) rfl (IntWalk.i64_in _ (by have:=k.toNat_lt;omega)) ?_;refine pops_nil ?_;exact⟨upd_self _ _ _,rfl⟩)) ?_
  refine pAny_quiet 11 rfl (by decide+kernel) rfl (fun L'=>q_of_pops (N:=136) rfl rfl (by refine wo ?_;refine pops_nil ?_;exact⟨upd_self _ _ _,rfl⟩)) ?_
  refine pAny_quiet 12 rfl (by decide+kernel) rfl (fun L'=>q_of_pops (N:=136) rfl rfl (by refine wo ?_;refine pops_nil ?_;exact⟨upd_self _ _ _,rfl⟩)) ?_
  refine pAny_quiet 13 rfl (by decide+kernel) rfl (fun L'=>q_of_pops (N:=136) rfl rfl (by refine s_rem (m:=k.toNat) (n:=s.length) rfl rfl h0 ?_;refine pops_nil ?_;exact⟨upd_self _ _ _,rfl⟩)) ?_
  refine pAny_quiet 14 rfl (by decide+kernel) rfl (fun L'=>q_of_pops (N:=136) rfl rfl (by refine wo ?_;refine pops_nil ?_;exact⟨upd_self _ _ _,rfl⟩)) ?_
  refine pAny_quiet 15 rfl (by decide+kernel) rfl (fun L'=>q_of_pops (N:=136) rfl rfl (by refine wo ?_;refine pops_nil ?_;exact⟨upd_self _ _ _,rfl⟩)) ?_
  refine pAny_next (fuel:=3) [16,17] (by decide+kernel) (by simp) fun i hi=>?_
  simp only[List.mem_cons,List.not_mem_nil,or_false]at hi
  rcases hi with rfl|rfl
  ·refine⟨_,rfl,?_⟩
   refine s_alloc fun b7=>?_
   refine pops_nil ?_
   refine pAny_next (fuel:=2) [17] (by decide+kernel) (by simp) fun i hi=>?_
   simp only[List.mem_cons,List.not_mem_nil,or_false]at hi
   subst hi
   refine⟨_,rfl,?_⟩
   refine s_alloc fun b8=>?_
   refine pops_nil ?_
   refine pAny_next (fuel:=1) [18] (by decide+kernel) (by simp) fun i hi=>?_
   simp only[List.mem_cons,List.not_mem_nil,or_false]at hi
   subst hi
   refine⟨_,rfl,?_⟩
   refine pops_perm (.swap _ _ _) rfl ?_ (fun h=>h)
   refine wo ?_
   refine pops_nil ?_
   refine pAny_next (fuel:=0) [19] (by decide+kernel) (by simp) fun i hi=>?_
   simp only[List.mem_cons,List.not_mem_nil,or_false]at hi
   subst hi
   refine⟨_,rfl,?_⟩
   refine wo ?_
   refine pops_nil ?_
   refine pAny_end (by decide+kernel) ?_
   exact⟨(b7,b8),trivial,⟨rfl,rfl,rfl⟩,.refl _⟩
  ·refine⟨_,rfl,?_⟩
   refine s_alloc fun b8=>?_
   refine pops_nil ?_
   refine pAny_next (fuel:=2) [16] (by decide+kernel) (by simp) fun i hi=>?_
   simp only[List.mem_cons,List.not_mem_nil,or_false]at hi
   subst hi
   refine⟨_,rfl,?_⟩
   refine s_alloc fun b7=>?_
   refine pops_nil ?_
   refine pAny_next (fuel:=1) [18] (by decide+kernel) (by simp) fun i hi=>?_
   simp only[List.mem_cons,List.not_mem_nil,or_false]at hi
   subst hi
   refine⟨_,rfl,?_⟩
   refine wo ?_
   refine pops_nil ?_
   refine pAny_next (fuel:=0) [19] (by decide+kernel) (by simp) fun i hi=>?_
   simp only[List.mem_cons,List.not_mem_nil,or_false]at hi
   subst hi
   refine⟨_,rfl,?_⟩
   refine wo ?_
   refine pops_nil ?_
   refine pAny_end (by decide+kernel) ?_
   exact⟨(b7,b8),trivial,⟨rfl,rfl,rfl⟩,.refl _⟩
 rintro⟨b7,b8⟩ _
 refine pwp_freezeD 7 ?_
 refine pwp_freezeD 8 ?_
 have hx:s[i.toNat % s.length]∈s:=List.getElem_mem hi
 have hy:s[k.toNat % s.length]∈s:=List.getElem_mem hk
 generalize s[i.toNat % s.length]=x at hx ⊢
 generalize s[k.toNat % s.length]=y at hy ⊢
 clear hi hk
 have hp:x.id∈ids s:=List.mem_map.2 ⟨x,hx,rfl⟩
 have hq:y.id∈ids s:=List.mem_map.2 ⟨y,hy,rfl⟩
 have hgx:Small (rGreat x.patch=false):=⟨v.close.1.2 x hx⟩
 have hnl:=needs_len v hx
 obtain⟨kn,hkn⟩: ∃ kn,kn=decide (y.id∈cloS s x.id):=⟨_,rfl⟩
 obtain⟨kr,hkr⟩: ∃ kr,kr=decide (x.id∈cloS s y.id):=⟨_,rfl⟩
 have c1:=fun t u=>ClosureP_ct s [x.id] t u (hl:=⟨by simp⟩)
 rw[clo_one' hp]at c1
 have u1:=fun t u=>UsersP_ct s [y.id] t u (hl:=⟨by simp⟩)
 rw[uses_one hq]at u1
 have k1:=fun t=>KnowsP_ct s x.id y.id t
 rw[v.knows_in hp,←hkn]at k1
 have k2:=fun t=>KnowsP_ct s y.id x.id t
 rw[v.knows_in hq,←hkr]at k2
 dsimp only at c1 u1
 have hth:(decide (x.id=y.id)||(rNeeds x.patch).any fun d=>decide (y.id∈cloS s d))=kn:=by
  rw[hkn,Bool.eq_iff_iff]
  simp only[Bool.or_eq_true,decide_eq_true_eq,List.any_eq_true]
  exact(v.clo_first hx y.id).symm
 have hun:decide (x.id∈usesS s [y.id] s)=kn:=by
  rw[hkn,decide_eq_decide,mem_uses]
  constructor
  ·rintro⟨_,z,hz,h⟩
   rw[List.mem_singleton.1 hz]at h;exact h
  ·exact fun h=>⟨hp,y.id,by simp,h⟩
 have hanti:x.id≠y.id→kn=true→kr=false:=fun hne h=>by
  rw[hkr]
  refine decide_eq_false fun h2=>hne (v.clo_anti hp hq ?_ h2)
  rw[hkn]at h;exact of_decide_eq_true h
 have hcn:decide (y.id∈cloS s x.id)=kn:=hkn.symm
 have hkd: ∀ d∈rNeeds x.patch,rKnows s d y.id=decide (y.id∈cloS s d):=fun d hd=>v.knows_in (v.close.2 x hx d hd) y.id
 clear hkn hkr
 generalize cloS s x.id=C at c1 hcn
 generalize usesS s [y.id] s=W at u1 hun
 refine wf ?_
 refine pwp_loopS (σ:=Nat) (fun j=>j≤(rNeeds x.patch).length) (fun j=>(rNeeds x.patch).length - j) (fun j=> [(0,.slice (s.map eSto) t),(7,.pt (eSto x) 0),(8,.pt (eSto y) 0),(9,.slice (C.map eDig) .ro),(10,.raw (.int .i64 0)),(11,.slice (W.map eDig) .ro),(12,.raw (.int .i64 0)),(13,.raw (.bool kn)),(14,.raw (.bool (decide (x.id=y.id)||((rNeeds x.patch).take j).any fun d=>decide (y.id∈cloS s d)))),(71,.slice ((rNeeds x.patch).map eDig) .ro),(72,.raw (.int .i64 (rNeeds x.patch).length)),(73,.raw (.int .i64 j))]) (fun _=>LF) 0 (by simp) ⟨rfl,rfl,rfl,rfl,rfl,rfl,rfl,rfl,holdsB (by rfl) (by simp),rfl,rfl,rfl⟩ (.refl _) ?_
 intro j hj
 refine wf ?_
 refine pwp_condD (fun hc=>?_) (fun hc=>?_)
 ·have hlt:j < (rNeeds x.patch).length:=by omega
  have kj:=fun t=>KnowsP_ct s (rNeeds x.patch)[j] y.id t
  rw[hkd _ (List.getElem_mem hlt)]at kj
  have hst:(decide (x.id=y.id)||((rNeeds x.patch).take (j+1)).any fun d=>decide (y.id∈cloS s d))=((decide (x.id=y.id)||((rNeeds x.patch).take j).any fun d=>decide (y.id∈cloS s d))||decide (y.id∈cloS s (rNeeds x.patch)[j])):=by
   rw[List.take_succ_eq_append_getElem hlt,List.any_append,Bool.or_assoc]
   simp
  generalize (decide (x.id=y.id)||((rNeeds x.patch).take j).any fun d=>decide (y.id∈cloS s d))=b at hst ⊢
  refine wf ?_
  refine s_alloc fun b16=>?_
  refine wo ?_
  refine pops_nil ?_
  refine pwp_freezeD 16 ?_
  refine wf ?_
  refine pops_if (fun hp=>?_) (fun hp=>?_)
  ·refine wf ?_
   exact⟨j+1,by omega,by dsimp only;omega,⟨rfl,rfl,rfl,rfl,rfl,rfl,rfl,rfl,holdsB (by rfl) (by rw[hst,hp];rfl),rfl,rfl,rfl⟩,.refl _⟩
  ·refine wf ?_
   exact⟨j+1,by omega,by dsimp only;omega,⟨rfl,rfl,rfl,rfl,rfl,rfl,rfl,rfl,holdsB (by rfl) (by rw[hst,hp];rfl),rfl,rfl,rfl⟩,.refl _⟩
 have e:(decide (x.id=y.id)||((rNeeds x.patch).take j).any fun d=>decide (y.id∈cloS s d))=kn:=by
  rw[List.take_of_length_le (by omega)];exact hth
 rw[e]
 clear e hth hkd hj hc
 have g1:decide (decide (y.id∈C)=kn)=true:=by rw[hcn];exact decide_eq_true rfl
 have g2:decide (decide (x.id∈W)=kn)=true:=by rw[hun];exact decide_eq_true rfl
 have g3:decide (kn=kn)=true:=decide_eq_true rfl
 refine Decidable.byCases (p:=x.id=y.id) (fun hpq=>?_) (fun hpq=>?_)
 ·have g4:decide (x.id=y.id)=true:=decide_eq_true hpq
  refine wf ?_
  exact end1 (.refl _)
 ·have g4:decide (x.id=y.id)=false:=decide_eq_false hpq
  have hanti:=hanti hpq
  cases kn with
  |false=>
   refine wf ?_
   exact end1 (.refl _)
  |true=>
   have hkr:=hanti rfl
   subst hkr
   refine wf ?_
   exact end1 (.refl _)⟩
end Go.Proofs
namespace Go.Proofs
open Go Go.Q
attribute [local irreducible] pwp pops pAny PCalls OpN
structure Closed (s:List Sto) (l L:List Dig):Prop where
 has: ∀ d∈l,d∈L
 sub: ∀ d∈L,d∈ids s
 asc:Asc L
 nd: ∀ d∈L,∀ n∈ndS s d,n∈L
theorem Valid.closed {s:List Sto} (v:Valid s) {l:List Dig} (hl: ∀ d∈l,d∈ids s): ∃ L,rClosure s l=(L,0)∧Closed s l L:=by
 have h:allIn (ids s) l=true:=List.all_eq_true.2 fun d hd=>decide_eq_true (hl d hd)
 have hcl: ∀ x∈ids s,∀ d∈Go.Proofs.ndS s x,d∈ids s:=fun x _ d hd=>v.close.nd x d hd
 have hm: ∀ d,d∈iterC (Go.Proofs.ndS s) s.length (withAll [] l)↔Q.Reach (Go.Proofs.ndS s) l d:=fun d=>mem_iterC hcl hl (by rw[ids_len];exact Nat.le_refl _)
 refine⟨iterC (Go.Proofs.ndS s) s.length (withAll [] l),by rw[rClosure,if_neg (by simp[h])],fun d hd=>(hm d).2 (.base hd),fun d hd=>((hm d).1 hd).in_ hcl hl,iterC_asc (withAll_asc .nil),fun d hd n hn=>(hm n).2 (.step ((hm d).1 hd) hn)⟩
theorem Closed.again {s:List Sto} (v:Valid s) {l L:List Dig} (h:Closed s l L):rClosure s L=(L,0):=by
 obtain⟨L',e,h'⟩:=v.closed h.sub
 rw[e]
 have hcl: ∀ x∈ids s,∀ d∈ndS s x,d∈ids s:=fun x _ d hd=>v.close.nd x d hd
 have:L'=L:=by
  have hA:allIn (ids s) L=true:=List.all_eq_true.2 fun d hd=>decide_eq_true (h.sub d hd)
  rw[rClosure,if_neg (by simp[hA])]at e
  have e:=(Prod.mk.inj e).1
  refine Asc.ext h'.asc h.asc fun d=>?_
  rw[←e,mem_iterC hcl h.sub (by rw[ids_len];exact Nat.le_refl _)]
  refine⟨fun hr=>?_,fun hd=> .base hd⟩
  induction hr with
  |base hd=>exact hd
  |step _ hd ih=>exact h.nd _ ih _ hd
 rw[this]
theorem Closed.keep {s:List Sto} (v:Valid s) {l L:List Dig} (h:Closed s l L):Valid (keepS s L):=v.keep fun x hx hc d hd=>h.nd x.id hc d (by rw[v.ndS hx];exact hd)
instance closed1_ct (s:List Sto) (t:Tag) (d:Dig):FnC Tryz.prog 63 [.agg (eDig d),.pt [.slice (s.map eSto) t] 0] (.raw (.bool (!(getS s d).isSome))):=⟨by
 refine fn_of Tryz.func63 Tryz.ntmps63 rfl (rs:= [.tmp 3]) rfl rfl fun hb LF=>?_
 refine wf ?_
 refine s_alloc fun b4=>?_
 refine wo ?_
 refine pops_nil ?_
 refine pwp_freezeD 4 ?_
 refine wf ?_
 exact end1 (.refl _)⟩
set_option maxHeartbeats 4000000 in
theorem patchsetClosed_fn (s:List Sto) (t:Tag) (l:List Dig) (u:Tag):FnC Tryz.prog 13 [.slice (s.map eSto) t,.slice (l.map eDig) u] (.raw (.bool true)):=⟨by
 refine fn_of Tryz.func13 Tryz.ntmps13 rfl (rs:= [.tmp 4]) rfl rfl fun hb LF=>?_
 have hll:l.length≤140737488355328:=(hb (.slice (l.map eDig) u) (by simp)).slice_map
 refine wf ?_
 refine pops_cutE [(28,.raw (.bool (decide (rFine s=true→10 < (l.length:Int))))),(1,.slice (l.map eDig) u),(2,.pt [.slice (s.map eSto) .ro] 0)] (LF) ?_ ?_
 ·repeat' (first|(refine pwp_condD (fun h=>?_) (fun h=>?_)<;>refine wf ?_)|(refine pwp_condN (fun h=>?_) (fun h=>?_)<;>refine wf ?_)|(refine pwp_condB (fun h=>?_) (fun h=>?_)<;>refine wf ?_)|(refine pops_if (fun h=>?_) (fun h=>?_)<;>(have h2:=h;(try simp only[decide_eq_true_eq,decide_eq_false_iff_not,Bool.not_eq_true',Bool.not_eq_false']at h2);refine wf ?_)))
  all_goals (refine⟨⟨holdsB (by rfl) ?_,rfl,rfl⟩,.refl _⟩;first|(simp_all;done)|grind)
 refine wf ?_
 refine pwp_condD (fun h=>?_) (fun h=>?_)
 ·refine wf ?_
  exact end1 (.refl _)
 have hf:rFine s=true:=Classical.byContradiction fun h2=>h fun h3=>absurd h3 h2
 have hl10:l.length≤10:=by
  rcases Nat.lt_or_ge 10 l.length with h2|h2
  ·exact absurd (fun _=>by omega) h
  ·exact h2
 have v:=valid_of hf
 have i1:Small (Valid s):=⟨v⟩
 have h40:=v.close.1.1
 have i4:Small (l.length≤400):=⟨by omega⟩
 have i5:Small (s.length≤1000000):=⟨by omega⟩
 have c1:=fun t u=>ClosureP_ct s l t u
 have u1:=fun t u=>UsersP_ct s l t u
 refine Decidable.byCases (p:=allIn (ids s) l=true) (fun hA=>?_) (fun hA=>?_)
 ·have hlU: ∀ d∈l,d∈ids s:=fun d hd=>by simpa using List.all_eq_true.1 hA d hd
  obtain⟨L,eL,hL⟩:=v.closed hlU
  have eM:rUsers s l=(usesS s l s,0):=by rw[rUsers,if_neg (by simp[hA])]
  have hM: ∀ d∈l,d∈usesS s l s:=fun d hd=>mem_uses.2 ⟨hlU d hd,d,hd,(v.mem_clo (hlU d hd) d).2 (.base (by simp))⟩
  rw[eL]at c1
  rw[eM]at u1
  dsimp only at c1 u1
  have hLl:L.length≤40:=by
   have:=nodup_len hL.asc.nodup hL.sub
   rw[ids_len]at this;omega
  have i6:Small (L.length≤400):=⟨by omega⟩
  have c2:=fun t u=>ClosureP_ct s L t u
  rw[hL.again v]at c2
  dsimp only at c2
  have v2:=hL.keep v
  have i7:Small (goodS (keepS s L)):=⟨v2.close.1⟩
  have ck:=fun t=>CheckPS_ct (keepS s L) t
  rw[check_of_valid v2]at ck
  have g1:decide (L=L)=true:=decide_eq_true rfl
  generalize usesS s l s=M at u1 hM
  refine wf ?_
  refine pwp_loopS (σ:=Nat) (fun k=>k≤l.length) (fun k=>l.length - k) (fun k=> [(1,.slice (l.map eDig) u),(2,.pt [.slice (s.map eSto) .ro] 0),(5,.slice (L.map eDig) .ro),(6,.raw (.int .i64 0)),(7,.slice (M.map eDig) .ro),(8,.raw (.int .i64 0)),(42,.slice (l.map eDig) u),(43,.raw (.int .i64 l.length)),(44,.raw (.int .i64 k))]) (fun _=>LF) 0 (by simp) ⟨rfl,rfl,rfl,rfl,rfl,rfl,rfl,rfl,rfl⟩ (.refl _) ?_
  intro k hk
  refine wf ?_
  refine pwp_condD (fun hc=>?_) (fun hc=>?_)
  ·have hlt:k < l.length:=by omega
   have hkl:=List.getElem_mem hlt
   obtain⟨x,hx,hxid⟩:=List.mem_map.1 (hlU _ hkl)
   have gk:=fun t=>GetP_ct s t l[k]
   have hget:=getS_in v.asc hx
   rw[hxid]at hget
   rw[hget,Option.isSome_some,Option.getD_some]at gk
   have q1:decide (l[k]∈L)=true:=decide_eq_true (hL.has _ hkl)
   have q2:decide (l[k]∈M)=true:=decide_eq_true (hM _ hkl)
   have q3:(!decide (l[k]∈L))=false:=by rw[q1];rfl
   have q4:(!decide (l[k]∈M))=false:=by rw[q2];rfl
   refine wf ?_
   refine s_alloc fun b10=>?_
   refine wo ?_
   refine pops_nil ?_
   refine pwp_freezeD 10 ?_
   refine wf ?_
   refine s_alloc fun b11=>?_
   refine wo ?_
   refine pops_nil ?_
   refine pwp_freezeD 11 ?_
   refine wf ?_
   refine pwp_condN (fun h=>?_) (fun _=>?_)
   ·exact absurd (hM _ hkl) h
   refine wf ?_
   exact⟨k+1,by omega,by dsimp only;omega,⟨rfl,rfl,rfl,rfl,rfl,rfl,rfl,rfl,rfl⟩,.refl _⟩
  clear hk hc hM u1
  refine wf ?_
  refine pwp_loopS (σ:=Nat) (fun k=>k≤L.length) (fun k=>L.length - k) (fun k=> [(2,.pt [.slice (s.map eSto) .ro] 0),(5,.slice (L.map eDig) .ro),(6,.raw (.int .i64 0)),(8,.raw (.int .i64 0)),(98,.slice (L.map eDig) .ro),(99,.raw (.int .i64 L.length)),(100,.raw (.int .i64 k))]) (fun _=>LF) 0 (by simp) ⟨rfl,rfl,rfl,rfl,rfl,rfl,rfl⟩ (.refl _) ?_
  intro k hk
  refine wf ?_
  refine pwp_condD (fun hc=>?_) (fun hc=>?_)
  ·have hlt:k < L.length:=by omega
   have hkl:=List.getElem_mem hlt
   obtain⟨x,hx,hxid⟩:=List.mem_map.1 (hL.sub _ hkl)
   have gk:=fun t=>GetP_ct s t L[k]
   have hget:=getS_in v.asc hx
   rw[hxid]at hget
   rw[hget,Option.isSome_some,Option.getD_some]at gk
   have hgx:Small (rGreat x.patch=false):=⟨v.close.1.2 x hx⟩
   have hnl:=needs_len v hx
   have hnd: ∀ n∈rNeeds x.patch,n∈L:=fun n hn=>hL.nd _ hkl n (by rw[←hxid,v.ndS hx];exact hn)
   have hprev: ∀ h:0 < (k:Int),¬0≤cmpD (L[((k:Int) - 1).toNat]'(by omega)) L[k]:=fun h h2=>by
    have:=List.pairwise_iff_getElem.1 hL.asc ((k:Int) - 1).toNat k (by omega) hlt (by omega)
    have this:cmpD (L[((k:Int) - 1).toNat]'(by omega)) L[k] < 0:=this
    omega
   refine wf ?_
   refine s_alloc fun b14=>?_
   refine wo ?_
   refine pops_nil ?_
   refine pwp_freezeD 14 ?_
   refine wf ?_
   refine s_alloc fun b15=>?_
   refine wo ?_
   refine pops_nil ?_
   refine pwp_freezeD 15 ?_
   refine wf ?_
   refine pops_cutE [(126,.raw (.bool false)),(2,.pt [.slice (s.map eSto) .ro] 0),(5,.slice (L.map eDig) .ro),(6,.raw (.int .i64 0)),(8,.raw (.int .i64 0)),(15,.pt (ePat x.patch) 0),(98,.slice (L.map eDig) .ro),(99,.raw (.int .i64 L.length)),(100,.raw (.int .i64 k))] LF ?_ ?_
   ·refine pops_if (fun hp=>?_) (fun hp=>?_)
    ·have hp':0 < (k:Int):=of_decide_eq_true hp
     refine wf ?_
     exact⟨⟨holdsB (by rfl) (decide_eq_false (hprev hp')),rfl,rfl,rfl,rfl,rfl,rfl,rfl,rfl⟩,.refl _⟩
    ·have hp': ¬0 < (k:Int):=of_decide_eq_false hp
     refine wf ?_
     exact⟨⟨rfl,rfl,rfl,rfl,rfl,rfl,rfl,rfl,rfl⟩,.refl _⟩
   clear hprev hget gk
   refine wf ?_
   refine pwp_loopS (σ:=Nat) (fun j=>j≤(rNeeds x.patch).length) (fun j=>(rNeeds x.patch).length - j) (fun j=> [(2,.pt [.slice (s.map eSto) .ro] 0),(5,.slice (L.map eDig) .ro),(6,.raw (.int .i64 0)),(8,.raw (.int .i64 0)),(98,.slice (L.map eDig) .ro),(99,.raw (.int .i64 L.length)),(100,.raw (.int .i64 k)),(128,.slice ((rNeeds x.patch).map eDig) .ro),(129,.raw (.int .i64 (rNeeds x.patch).length)),(130,.raw (.int .i64 j))]) (fun _=>LF) 0 (by simp) ⟨rfl,rfl,rfl,rfl,rfl,rfl,rfl,rfl,rfl,rfl⟩ (.refl _) ?_
   intro j hj
   refine wf ?_
   refine pwp_condD (fun hc2=>?_) (fun hc2=>?_)
   ·have hlt2:j < (rNeeds x.patch).length:=by omega
    have hin:=hnd _ (List.getElem_mem hlt2)
    refine wf ?_
    refine s_alloc fun b18=>?_
    refine wo ?_
    refine pops_nil ?_
    refine pwp_freezeD 18 ?_
    refine wf ?_
    refine pwp_condN (fun h=>?_) (fun _=>?_)
    ·exact absurd hin h
    refine wf ?_
    exact⟨j+1,by omega,by dsimp only;omega,⟨rfl,rfl,rfl,rfl,rfl,rfl,rfl,rfl,rfl,rfl⟩,.refl _⟩
   ·refine wf ?_
    exact⟨k+1,by omega,by dsimp only;omega,⟨rfl,rfl,rfl,rfl,rfl,rfl,rfl⟩,.refl _⟩
  refine wf ?_
  exact end1 (.refl _)
 ·have hA:allIn (ids s) l=false:=by simpa using hA
  obtain⟨E,hE⟩: ∃ E:List Dig,E= []:=⟨_,rfl⟩
  have eL:rClosure s l=(E,7):=by rw[rClosure,if_pos hA,hE]
  have eM:rUsers s l=(E,7):=by rw[rUsers,if_pos hA,hE]
  have hEl:E.length=0:=by rw[hE];rfl
  have hEm: ∀ d:Dig,d∉E:=fun d h=>by rw[hE]at h;cases h
  have g1:decide ((E.length:Int)+E.length=0)=true:=decide_eq_true (by omega)
  rw[eL]at c1
  rw[eM]at u1
  dsimp only at c1 u1
  have h0:0 < l.length:=by
   rcases Nat.eq_zero_or_pos l.length with h'|h'
   ·rw[List.eq_nil_of_length_eq_zero h']at hA
    cases hA
   ·exact h'
  have hsm:=fun d=>getS_isSome v.asc d
  have hany:(l.any fun d=>!(getS s d).isSome)=true:=by
   have:l.any (fun d=>!(getS s d).isSome)=!allIn (ids s) l:=by
    rw[allIn,List.not_all_eq_any_not]
    congr 1
    funext d
    rw[hsm]
   rw[this,hA];rfl
  have cf:=fun t u=>containsD_fn 63 [.pt [.slice (s.map eSto) u] 0] (fun d=>!(getS s d).isSome) l t
  rw[hany]at cf
  refine wf ?_
  refine pwp_loopS (σ:=Nat) (fun k=>k=0) (fun k=>k) (fun k=> [(1,.slice (l.map eDig) u),(2,.pt [.slice (s.map eSto) .ro] 0),(5,.slice (E.map eDig) .ro),(6,.raw (.int .i64 7)),(7,.slice (E.map eDig) .ro),(8,.raw (.int .i64 7)),(42,.slice (l.map eDig) u),(43,.raw (.int .i64 l.length)),(44,.raw (.int .i64 k))]) (fun _=>LF) 0 rfl ⟨rfl,rfl,rfl,rfl,rfl,rfl,rfl,rfl,rfl⟩ (.refl _) ?_
  intro k hk
  subst hk
  refine wf ?_
  refine pwp_condD (fun hc=>?_) (fun hc=>?_)
  ·have gk:=fun t=>GetP_ct s t l[0]
   have hq:(!decide (l[0]∈E))=true:=by rw[decide_eq_false (hEm _)];rfl
   refine wf ?_
   refine s_alloc fun b10=>?_
   refine wo ?_
   refine pops_nil ?_
   refine pwp_freezeD 10 ?_
   refine wf ?_
   refine s_alloc fun b11=>?_
   refine wo ?_
   refine pops_nil ?_
   refine pwp_freezeD 11 ?_
   refine wf ?_
   refine pwp_condB (fun h=>?_) (fun h=>?_)
   ·refine wf ?_
    exact end1 (.refl _)
   refine wf ?_
   exact end1 (.refl _)
  ·omega⟩
end Go.Proofs
namespace Go.Q
open Go
theorem opens_two {P:Program} {t e sz:Nat} {α:Type} {f:α→List PV} (ht:P.underlying t=some (.array 2 e)) (hc:P.cellsOf t=2*sz) (hce:P.cellsOf e=sz) (hf: ∀ a,(f a).length=sz) (h:Opens P e (fun xs=> ∃ a,xs=f a)):Opens P t (fun xs=> ∃ x:α × α,xs=f x.1++f x.2):=fun H enc w g hg base held fuel cs x hx hw=>by
 obtain⟨xs,m,rfl,rfl,k1,k2,k3⟩:=DataW.trod_array ht hx
 rw[hc]at k1
 have each: ∀ i (hi:i < 2),∃ a,VRl g ((cs.drop (i*sz)).take sz) (f a):=fun i hi=>by
  have h3:=k3 i hi
  have hlt:i < xs.length:=by omega
  rw[List.getElem?_eq_getElem hlt,hce]at h3
  obtain⟨ys,⟨a,rfl⟩,h2⟩:=h H enc w g hg base held m _ _ h3 (fun n hn=>hw n (by
   simp only[DataW.weights,ht]
   exact weights_each (d:=xs[i].1) (List.mem_map.2 ⟨xs[i],List.getElem_mem hlt,rfl⟩) n hn))
  exact⟨a,h2⟩
 obtain⟨a,ha⟩:=each 0 (by decide)
 obtain⟨b,hb⟩:=each 1 (by decide)
 refine⟨_,⟨(a,b),rfl⟩,?_⟩
 have:=ha.append hb
 rw[Nat.zero_mul,List.drop_zero,Nat.one_mul,List.take_of_length_le (l:=cs.drop sz) (by rw[List.length_drop];omega),List.take_append_drop]at this
 exact this
theorem opens_u8 {P:Program} {t:Nat} (ht:P.underlying t=some (.int .u8)):Opens P t (fun xs=> ∃ b:UInt8,xs= [eU8 b]):=Opens.to (opens_int ht) fun xs ⟨n,hwf,h⟩=>by
 simp[Lit.wf,IntKind.min,IntKind.max,IntKind.signed,IntKind.bits]at hwf
 refine⟨n.toNat.toUInt8,?_⟩
 rw[h]
 simp only[eU8,u8]
 congr 3
 simp
 omega
end Go.Q
namespace Go.Proofs
open Go Go.Q Go.ChangeShapes Go.WideShapes Go.ChangeAt Go.WideMaps Go.WideElems Go.RowKit
theorem o_two:Opens Tryz.prog 74 (fun xs=> ∃ x:Dig × Dig,xs=eTwo x):=opens_two (sz:=32) (by kernel_rfl) (by kernel_rfl) (by kernel_rfl) (fun _=>by simp) o_dig
theorem o_u8:Opens Tryz.prog 5 (fun xs=> ∃ b:UInt8,xs= [eU8 b]):=opens_u8 (by kernel_rfl)
set_option maxRecDepth 20000 in
theorem arg_u8 {t:Nat} {W:World} {base:Nat} {v:Value} {g:Gh} {b:UInt8} (ht:Tryz.prog.underlying t=some (.int .u8)) (hv:Value.okWide Tryz.prog W .any base t v) (h:VRl g v.cells.toList [eU8 b]):VR g v (eU8 b):=by
 have:v.cells= #[v]:=by
  unfold Value.okWide at hv
  rw[ht]at hv
  simp only[Cell.okWide,ht]at hv
  cases v<;>simp[Cell.ok,ht]at hv<;>rfl
 rw[this]at h
 exact h.uncons.1
end Go.Proofs
