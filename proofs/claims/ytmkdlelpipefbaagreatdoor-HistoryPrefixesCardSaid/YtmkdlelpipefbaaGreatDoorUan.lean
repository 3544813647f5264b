/- Contracts of the program: searches by closures that read a map in use; the order of a set. -/
import Derived.Test.YtmkdlelpipefbaaGreatDoorUam
import Derived.Test.YtmkdlelpipefbaaGreatDoorUal
import Derived.Test.YtmkdlelpipefbaaGreatDoorUad
import Derived.Test.YtmkdlelpipefbaaGreatDoorUag
import Derived.Lib.Overlaps
import Derived.Laws.Externs
import Derived.Test.YtmkdlelpipefbaaGreatDoorUak
import Derived.Test.YtmkdlelpipefbaaGreatDoorUaf
import Derived.Test.YtmkdlelpipefbaaGreatDoorUae
set_option linter.unusedSimpArgs false
set_option linter.unusedVariables false
namespace Go.Proofs
open Go Go.Q
attribute [local irreducible] pwp pops PCalls OpN
theorem indexDR_fn (F:Nat) (cs:List PV) (p:Dig→Bool) (LR:List Res) [hF:TFun Tryz.prog F] (hp: ∀ d,PCalls Tryz.prog F (.agg (eDig d)::cs) LR (fun r L'=>r= .raw (.bool (p d))∧L'=LR)) (l:List Dig) (t:Tag):
  PCalls Tryz.prog 111 [.slice (l.map eDig) t,.clo F cs] LR (fun r L'=>r= .raw (.int .i64 (idxF p l))∧L'=LR):=by
 refine pcalls_bd Tryz.func111 rfl Tryz.ntmps111 (rs:= [.tmp 4]) rfl rfl fun hb LF=>?_
 have hlen:l.length≤140737488355328:=(hb (.slice (l.map eDig) t) (by simp)).slice_map
 refine wf ?_
 refine pwp_loopS (σ:=Nat) (fun k=>k≤l.length∧(l.take k).any p=false) (fun k=>l.length - k) (fun k=> [(0,.slice (l.map eDig) t),(1,.clo F cs),(7,.raw (.int .i64 l.length)),(8,.raw (.int .i64 k))]) (fun _=>LR++LF) 0 ⟨by simp,by simp⟩ ⟨rfl,rfl,rfl,rfl⟩ (.refl _) ?_
 rintro k ⟨hk,hn⟩
 refine wf ?_
 refine pwp_condD (fun hc=>?_) (fun hc=>?_)
 ·have hlt:k < l.length:=by omega
  refine wf ?_
  refine s_callR (xs:= [.tmp 15]) LR LF (f:=F) (cs:=cs) (.refl _) rfl rfl (.refl _) _ (hp l[k]) fun r L' ⟨e1,e2⟩=>?_
  subst e1 e2
  refine wf ?_
  refine wf ?_
  refine pwp_condB (fun h=>?_) (fun h=>?_)
  ·refine wf ?_
   have e:l.any p=true:=List.any_eq_true.2 ⟨l[k],List.getElem_mem hlt,h⟩
   exact⟨trivial,_,_,.cons (.tmp 4) .nil,.refl _,by rw[idxF,if_pos e,findIdx_first hlt hn h];rfl,rfl⟩
  ·refine wf ?_
   refine⟨k+1,⟨by omega,?_⟩,by dsimp only;omega,⟨rfl,rfl,rfl,rfl⟩,.refl _⟩
   rw[List.take_succ_eq_append_getElem hlt,List.any_append,hn]
   simp[h]
 ·refine wf ?_
  rw[List.take_of_length_le (by omega)]at hn
  exact⟨trivial,_,_,.cons (.tmp 4) .nil,.refl _,by rw[idxF,if_neg (by simp[hn])];rfl,rfl⟩
theorem containsDR_fn (F:Nat) (cs:List PV) (p:Dig→Bool) (LR:List Res) [hF:TFun Tryz.prog F] (hp: ∀ d,PCalls Tryz.prog F (.agg (eDig d)::cs) LR (fun r L'=>r= .raw (.bool (p d))∧L'=LR)) (l:List Dig) (t:Tag):
  PCalls Tryz.prog 74 [.slice (l.map eDig) t,.clo F cs] LR (fun r L'=>r= .raw (.bool (l.any p))∧L'=LR):=by
 refine pcalls_bd Tryz.func74 rfl Tryz.ntmps74 (rs:= [.tmp 4]) rfl rfl fun hb LF=>?_
 refine wf ?_
 refine s_callR (xs:= [.tmp 5,.tmp 6]) LR LF (f:=111) (cs:= []) (le_func _) rfl rfl (.refl _) _ (indexDR_fn F cs p LR hp l t) fun r L' ⟨e1,e2⟩=>?_
 subst e1 e2
 refine wf ?_
 refine wf ?_
 refine⟨trivial,_,_,.cons (.tmp 4) .nil,.refl _,?_,rfl⟩
 show PV.raw (.bool (decide (0≤idxF p l)))=_
 cases h:l.any p<;>simp[idxF,h]
theorem indexSR_fn (F:Nat) (cs:List PV) (p:Sto→Bool) (LR:List Res) [hF:TFun Tryz.prog F] (hp: ∀ d,PCalls Tryz.prog F (.agg (eSto d)::cs) LR (fun r L'=>r= .raw (.bool (p d))∧L'=LR)) (l:List Sto) (t:Tag):
  PCalls Tryz.prog 45 [.slice (l.map eSto) t,.clo F cs] LR (fun r L'=>r= .raw (.int .i64 (idxF p l))∧L'=LR):=by
 refine pcalls_bd Tryz.func45 rfl Tryz.ntmps45 (rs:= [.tmp 4]) rfl rfl fun hb LF=>?_
 have hlen:l.length≤140737488355328:=(hb (.slice (l.map eSto) t) (by simp)).slice_map
 refine wf ?_
 refine pwp_loopS (σ:=Nat) (fun k=>k≤l.length∧(l.take k).any p=false) (fun k=>l.length - k) (fun k=> [(0,.slice (l.map eSto) t),(1,.clo F cs),(7,.raw (.int .i64 l.length)),(8,.raw (.int .i64 k))]) (fun _=>LR++LF) 0 ⟨by simp,by simp⟩ ⟨rfl,rfl,rfl,rfl⟩ (.refl _) ?_
 rintro k ⟨hk,hn⟩
 refine wf ?_
 refine pwp_condD (fun hc=>?_) (fun hc=>?_)
 ·have hlt:k < l.length:=by omega
  refine wf ?_
  refine s_callR (xs:= [.tmp 15]) LR LF (f:=F) (cs:=cs) (.refl _) rfl rfl (.refl _) _ (hp l[k]) fun r L' ⟨e1,e2⟩=>?_
  subst e1 e2
  refine wf ?_
  refine wf ?_
  refine pwp_condB (fun h=>?_) (fun h=>?_)
  ·refine wf ?_
   have e:l.any p=true:=List.any_eq_true.2 ⟨l[k],List.getElem_mem hlt,h⟩
   exact⟨trivial,_,_,.cons (.tmp 4) .nil,.refl _,by rw[idxF,if_pos e,findIdx_first hlt hn h];rfl,rfl⟩
  ·refine wf ?_
   refine⟨k+1,⟨by omega,?_⟩,by dsimp only;omega,⟨rfl,rfl,rfl,rfl⟩,.refl _⟩
   rw[List.take_succ_eq_append_getElem hlt,List.any_append,hn]
   simp[h]
 ·refine wf ?_
  rw[List.take_of_length_le (by omega)]at hn
  exact⟨trivial,_,_,.cons (.tmp 4) .nil,.refl _,by rw[idxF,if_neg (by simp[hn])];rfl,rfl⟩
theorem idxF_append {α:Type} (p:α→Bool) (l:List α) (x:α):idxF p (l++ [x])=if l.any p=true then idxF p l else if p x=true then(l.length:Int)else -1:=by
 unfold idxF
 rw[List.any_append,List.findIdx_append]
 by_cases h:l.any p=true
 ·have h2:l.findIdx p < l.length:=List.findIdx_lt_length.2 (List.any_eq_true.1 h)
  rw[if_pos h,if_pos h,if_pos h2,if_pos (by simp[h])]
 ·have h2: ¬l.findIdx p < l.length:=fun h'=>h (List.any_eq_true.2 (List.findIdx_lt_length.1 h'))
  rw[if_neg h,if_neg h2]
  cases hx:p x with
  |true=>simp[h,hx]
  |false=>simp[h,hx]
def eligR (out:List Dig) (x:Sto):Bool:=decide (¬x.id∈out∧allIn out (rNeeds x.patch)=true)
theorem idxF_range {α:Type} (p:α→Bool) (l:List α): -1≤idxF p l∧idxF p l < l.length∧(l.any p=true→0≤idxF p l):=by
 unfold idxF
 by_cases h:l.any p=true
 ·rw[if_pos h]
  have:=List.findIdx_lt_length.2 (List.any_eq_true.1 h)
  exact⟨by omega,by omega,fun _=>by omega⟩
 ·rw[if_neg h]
  exact⟨by omega,by omega,fun h'=>absurd h' h⟩
theorem rPick_first {s:List Sto} (h:Asc (ids s)) (out:List Dig):rPick s out=idxF (eligR out) s:=by
 have key: ∀ n,n≤s.length→(List.range n).foldl (rBetter s out) (-1)=idxF (eligR out) (s.take n):=fun n=>by
  induction n with
  |zero=>intro _;rfl
  |succ n ih=>
   intro hn
   have hlt:n < s.length:=by omega
   have e0:s.getD n Sto.zero=s[n]:=by simp[List.getD,hlt]
   rw[foldl_range_succ,ih (by omega),List.take_succ_eq_append_getElem hlt,idxF_append,rBetter,e0]
   obtain⟨r1,r2,r3⟩:=idxF_range (eligR out) (s.take n)
   rw[List.length_take]at r2
   by_cases ha:(s.take n).any (eligR out)=true
   ·have r3:=r3 ha
    generalize idxF (eligR out) (s.take n)=k at*
    rw[if_pos ha,if_neg]
    rintro⟨_,h2⟩
    rcases h2 with h2|h2
    ·omega
    ·have hk:k.toNat < s.length:=by omega
     have e1:s.getD k.toNat Sto.zero=s[k.toNat]:=by simp[List.getD,hk]
     rw[e1]at h2
     have:=List.pairwise_iff_getElem.1 h k.toNat n (by simpa [ids]using hk) (by simpa [ids]using hlt) (by omega)
     simp only[ids,List.getElem_map]at this
     exact Dig.lt_asymm this h2
   ·have hk:idxF (eligR out) (s.take n)= -1:=by unfold idxF;rw[if_neg ha]
    rw[if_neg ha,hk]
    by_cases he: ¬s[n].id∈out∧allIn out (rNeeds s[n].patch)=true
    ·rw[if_pos ⟨he,.inl (by omega)⟩,if_pos (by simpa [eligR]using he),List.length_take,Nat.min_eq_left (by omega)]
    ·rw[if_neg (fun h'=>he h'.1),if_neg (by simpa [eligR]using he)]
 have:=key s.length (Nat.le_refl _)
 rwa [List.take_length]at this
theorem mGet_gr {s:List Sto} (h:Asc (ids s)) {x:Sto} (hx:x∈s):mGet x.id (gr s)=some (rNeeds x.patch):=by
 have key: ∀ n,n≤s.length→ ∀ i (hi:i < s.length),i < n→mGet s[i].id (gr (s.take n))=some (rNeeds s[i].patch):=fun n=>by
  induction n with
  |zero=>intro _ i _ h';omega
  |succ n ih=>
   intro hn i hi hin
   have hlt:n < s.length:=by omega
   rw[gr_take hlt,mGet_mSet]
   by_cases e:i=n
   ·subst e;rw[if_pos rfl]
   ·have hp:=List.pairwise_iff_getElem.1 h i n (by simpa [ids]using hi) (by simpa [ids]using hlt) (by omega)
    simp only[ids,List.getElem_map]at hp
    rw[if_neg (fun e'=>Dig.lt_irrefl _ (e' ▸ hp))]
    exact ih (by omega) i hi (by omega)
 obtain⟨i,hi,rfl⟩:=List.mem_iff_getElem.1 hx
 have:=key s.length (Nat.le_refl _) i hi hi
 rwa [List.take_length]at this
theorem order11_fn (m:Nat) (done:List (Dig × Bool)) (d:Dig):PCalls Tryz.prog 75 [.agg (eDig d),.pt [.raw (.map (some m))] 0] [.map m (eMap kDig vBool done)] (fun r L'=>r= .raw (.bool (!(mGet d done).getD false))∧L'= [.map m (eMap kDig vBool done)]):=by
 refine pcalls_bd Tryz.func75 rfl Tryz.ntmps75 (rs:= [.tmp 3]) rfl rfl fun hb LF=>?_
 refine wf ?_
 exact⟨trivial,_,_,.cons (.tmp 3) .nil,.refl _,rfl,rfl⟩
def eligP (G:List (Dig × List Dig)) (done:List (Dig × Bool)) (x:Sto):Bool:=!(mGet x.id done).getD false&&!(((mGet x.id G).getD []).any fun d=>!(mGet d done).getD false)
theorem order1_fn (m:Nat) (G:List (Dig × List Dig)) (done:List (Dig × Bool)) (x:Sto):PCalls Tryz.prog 73 [.agg (eSto x),.pt [.raw (.map (some m))] 0,.pt [.fmap (eMap kDig (vSl eDig) G)] 0] [.map m (eMap kDig vBool done)] (fun r L'=>r= .raw (.bool (eligP G done x))∧L'= [.map m (eMap kDig vBool done)]):=by
 refine pcalls_bd Tryz.func73 rfl Tryz.ntmps73 (rs:= [.tmp 4]) rfl rfl fun hb LF=>?_
 refine wf ?_
 refine pops_if (fun hp=>?_) (fun hp=>?_)
 ·have h0:(mGet x.id done).getD false=false:=by simpa using hp
  refine wf ?_
  refine s_callR (xs:= [.tmp 14,.tmp 15]) [.map m (eMap kDig vBool done)] LF (f:=74) (cs:= []) (le_func _) rfl rfl (.refl _) _ (containsDR_fn 75 [.pt [.raw (.map (some m))] 0] (fun d=>!(mGet d done).getD false) [.map m (eMap kDig vBool done)] (order11_fn m done) ((mGet x.id G).getD []) .ro) fun r L' ⟨e1,e2⟩=>?_
  subst e1 e2
  refine wf ?_
  refine wf ?_
  exact⟨trivial,_,_,.cons (.tmp 4) .nil,.refl _,by rw[eligP,h0];rfl,rfl⟩
 ·have h0:(mGet x.id done).getD false=true:=by simpa using hp
  refine wf ?_
  exact⟨trivial,_,_,.cons (.tmp 4) .nil,.refl _,by rw[eligP,h0];rfl,rfl⟩
theorem idxF_congr {α:Type} {p q:α→Bool}: ∀ {l:List α},(∀ x∈l,p x=q x)→idxF p l=idxF q l:=fun {l} h=>by
 have h1:l.any p=l.any q:=by
  rw[Bool.eq_iff_iff,List.any_eq_true,List.any_eq_true]
  exact⟨fun⟨x,hx,e⟩=>⟨x,hx,(h x hx) ▸ e⟩,fun⟨x,hx,e⟩=>⟨x,hx,(h x hx).symm ▸ e⟩⟩
 have h2:l.findIdx p=l.findIdx q:=by
  clear h1
  induction l with
  |nil=>rfl
  |cons x l ih=>
   rw[List.findIdx_cons,List.findIdx_cons,h x (by simp),ih fun y hy=>h y (List.mem_cons_of_mem _ hy)]
 unfold idxF
 rw[h1,h2]
theorem elig_eq {s:List Sto} (h:Asc (ids s)) {done:List (Dig × Bool)} {out:List Dig} (hm:MetOk done out) {x:Sto} (hx:x∈s):eligP (gr s) done x=eligR out x:=by
 unfold eligP eligR
 rw[hm x.id,mGet_gr h hx,Option.getD_some]
 have e:((rNeeds x.patch).any fun d=>!(mGet d done).getD false)=!allIn out (rNeeds x.patch):=by
  rw[allIn,List.not_all_eq_any_not]
  congr 1
  funext d
  rw[hm d]
 rw[e,Bool.not_not]
 by_cases h1:x.id∈out<;>simp[h1]
set_option maxHeartbeats 2000000 in
theorem orderP_fn (s:List Sto) (t:Tag) (hg:goodS s) (ha:Asc (ids s)):FnC Tryz.prog 35 [.slice (s.map eSto) t] (.slice ((rOrder s).map eDig) .ro):=⟨by
 have h8:=hg.1
 have i1:Small (goodS s):=⟨hg⟩
 refine fn_of Tryz.func35 Tryz.ntmps35 rfl (rs:= [.tmp 2]) rfl rfl fun hb LF=>?_
 refine wf ?_
 refine s_alloc fun b3=>?_
 refine wo ?_
 refine pops_nil ?_
 refine pwp_freezeD 3 ?_
 refine wf ?_
 refine s_makeMap fun m=>?_
 refine wf ?_
 refine s_alloc fun b4=>?_
 refine wo ?_
 refine pops_nil ?_
 refine pwp_freezeD 4 ?_
 refine wf ?_
 refine pwp_tok 32 ?_
 refine pwp_perm (.swap _ _ _) ?_
 refine pwp_loopS (σ:=Nat × List Dig × Tag × List (Dig × Bool)) (fun k=>k.1≤s.length∧k.2.1.length=k.1∧MetOk k.2.2.2 k.2.1∧rOrder s=rOrd s (s.length - k.1) k.2.1) (fun k=>s.length - k.1) (fun k=> [(0,.slice (s.map eSto) t),(3,.pt [.fmap (eMap kDig (vSl eDig) (gr s))] 0),(4,.pt [.raw (.map (some m))] 0),(5,.slice (k.2.1.map eDig) k.2.2.1),(11,.raw (.int .i64 s.length)),(12,.raw (.int .i64 k.1))]) (fun k=> .map m (eMap kDig vBool k.2.2.2):: .tok k.2.2.1 k.2.1.length 32::LF) (0,[],.nil,[]) ⟨by simp,rfl,fun d=>by simp[mGet],rfl⟩ ⟨rfl,rfl,rfl,rfl,rfl,rfl⟩ (.refl _) ?_
 rintro⟨k,out,u,done⟩ ⟨hk,hol,hmo,hro⟩
 dsimp only at hk hol hmo hro ⊢
 refine wf ?_
 refine pwp_condD (fun hc=>?_) (fun hc=>?_)
 ·have hlt:k < s.length:=by omega
  have hpk:idxF (eligP (gr s) done) s=rPick s out:=by rw[rPick_first ha,idxF_congr fun x hx=>elig_eq ha hmo hx]
  have hrs:rOrd s (s.length - k) out=if rPick s out < 0 then out else rOrd s (s.length - (k+1)) (out++ [(s.getD (rPick s out).toNat Sto.zero).id]):=by
   rw[show s.length - k=(s.length - (k+1))+1 by omega,rOrd]
  have hrr:=rBetter_range (s:=s) (out:=out) s.length
  change -1≤rPick s out∧rPick s out < s.length at hrr
  refine wf ?_
  refine s_callR (xs:= [.tmp 14,.tmp 15]) [.map m (eMap kDig vBool done)] (.tok u out.length 32::LF) (f:=45) (cs:= []) (le_func _) rfl rfl (.refl _) _ (indexSR_fn 73 [.pt [.raw (.map (some m))] 0,.pt [.fmap (eMap kDig (vSl eDig) (gr s))] 0] (eligP (gr s) done) [.map m (eMap kDig vBool done)] (order1_fn m (gr s) done) s t) fun r L' ⟨e1,e2⟩=>?_
  subst e1 e2
  rw[hpk,List.cons_append,List.nil_append]
  generalize hpp:rPick s out=i at hrr hrs ⊢
  refine wf ?_
  refine wf ?_
  refine pwp_condD (fun hi=>?_) (fun hi=>?_)
  ·refine wf ?_
   refine end1 (.ros ?_)
   rw[hro,hrs,if_pos (by omega)]
  ·obtain⟨j,rfl⟩: ∃ j:Nat,i=(j:Int):=⟨i.toNat,by omega⟩
   have hj:j < s.length:=by omega
   rw[if_neg hi,Int.toNat_natCast,show s.getD j Sto.zero=s[j] by simp[List.getD,hj]]at hrs
   refine wn ?_
   refine pwp_drawN 6 ?_ ?_
   ·decide+kernel
   refine wf ?_
   refine wfa fun u'=>?_
   refine⟨(k+1,out++ [s[j].id],u',mSet s[j].id true done),⟨by dsimp only;omega,by dsimp only;rw[List.length_append,hol];rfl,hmo.add _,by dsimp only;rw[hro,hrs]⟩,by dsimp only;omega,⟨rfl,rfl,rfl,rfl,rfl,rfl⟩,.refl _⟩
 ·have hkk:k=s.length:=by omega
  refine wf ?_
  refine end1 (.ros ?_)
  rw[hro,show s.length - k=0 by omega,rOrd]⟩
end Go.Proofs
namespace Go.Proofs
open Go Go.Q
structure Ranked (s:List Sto) (r:Dig→Nat):Prop where
 asc:Asc (ids s)
 close: ∀ x∈s,∀ d∈rNeeds x.patch,d∈ids s
 rank: ∀ x∈s,∀ d∈rNeeds x.patch,r d < r x.id
theorem Ranked.pick {s:List Sto} {r:Dig→Nat} (h:Ranked s r) {out:List Dig} (hlt:out.length < s.length):0≤rPick s out:=by
 rw[rPick_first h.asc]
 refine(idxF_range (eligR out) s).2.2 ?_
 have hmiss: ∃ x∈s,x.id∉out:=Classical.byContradiction fun hn=>by
  have hall: ∀ d∈ids s,d∈out:=fun d hd=>by
   obtain⟨x,hx,rfl⟩:=List.mem_map.1 hd
   exact Classical.byContradiction fun h'=>hn ⟨x,hx,h'⟩
  have:=nodup_len h.asc.nodup (m:=out) hall
  rw[ids_len]at this;omega
 have key: ∀ n,∀ x∈s,x.id∉out→r x.id=n→ ∃ y∈s,eligR out y=true:=fun n=>by
  induction n using Nat.strongRecOn with
  |_ n ih=>
   intro x hx hxo hn
   by_cases ha: ∀ d∈rNeeds x.patch,d∈out
   ·exact⟨x,hx,decide_eq_true ⟨hxo,List.all_eq_true.2 fun d hd=>decide_eq_true (ha d hd)⟩⟩
   ·obtain⟨d,hd,hdo⟩: ∃ d∈rNeeds x.patch,d∉out:=Classical.byContradiction fun hn=>ha fun d hd=>Classical.byContradiction fun h'=>hn ⟨d,hd,h'⟩
    obtain⟨y,hy,rfl⟩:=List.mem_map.1 (h.close x hx d hd)
    exact ih (r y.id) (hn ▸ h.rank x hx _ hd) y hy hdo rfl
 obtain⟨x,hx,hxo⟩:=hmiss
 obtain⟨y,hy,he⟩:=key _ x hx hxo rfl
 exact List.any_eq_true.2 ⟨y,hy,he⟩
theorem Ranked.order {s:List Sto} {r:Dig→Nat} (h:Ranked s r):(rOrder s).length=s.length:=by
 have key: ∀ n out,out.length+n=s.length→(rOrd s n out).length=s.length:=fun n=>by
  induction n with
  |zero=>intro out ho;rw[rOrd];omega
  |succ n ih=>
   intro out ho
   have hp:=h.pick (out:=out) (by omega)
   rw[rOrd,if_neg (by omega)]
   exact ih _ (by rw[List.length_append,List.length_singleton];omega)
 exact key _ [] (by simp)
theorem check_of_valid {s:List Sto} (v:Valid s):rCheckS s=0:=by
 have h8:=v.close.1.1
 have h1:firstErr (rChkE s) (List.range s.length)=0:=firstErr_zero fun i hi=>by
  have hi':i < s.length:=by simpa using hi
  have e0:s.getD i Sto.zero=s[i]:=by simp[List.getD,hi']
  obtain⟨a1,a2⟩:=v.id s[i] (List.getElem_mem hi')
  rw[List.getElem_range,rChkE,e0,if_neg (by simp[a1]),if_neg (by simp[a2]),if_neg]
  rintro⟨h1,h2⟩
  have hi0:0 < i:=by omega
  have e1:s.getD (i - 1) Sto.zero=s[i - 1]'(by omega):=by
   have h':i - 1 < s.length:=by omega
   simp[List.getD,h']
  have hp:=List.pairwise_iff_getElem.1 v.asc (i - 1) i (by simp[ids];omega) (by simpa [ids]using hi') (by omega)
  simp only[ids,List.getElem_map]at hp
  rw[e1,a2]at h2
  have hp:cmpD (s[i - 1]'(by omega)).id s[i].id < 0:=hp
  omega
 have h2:s.all (fun x=>allIn (ids s) (rNeeds x.patch))=true:=List.all_eq_true.2 fun x hx=>List.all_eq_true.2 fun d hd=>decide_eq_true (v.close.2 x hx d hd)
 have h3:=v.order
 unfold rCheckS
 rw[if_neg (by omega),if_neg (by simp[h1]),if_neg (by simp[h2]),if_neg (by omega)]
 exact firstErr_zero fun i hi=>v.refs _ (List.getElem_mem hi)
theorem mem_keepS {s:List Sto} {C:List Dig} {x:Sto}:x∈keepS s C↔x∈s∧x.id∈C:=by simp[keepS]
theorem mem_ids_keep {s:List Sto} {C:List Dig} {d:Dig}:d∈ids (keepS s C)↔d∈ids s∧d∈C:=by
 constructor
 ·intro h
  obtain⟨x,hx,rfl⟩:=List.mem_map.1 h
  obtain⟨h1,h2⟩:=mem_keepS.1 hx
  exact⟨List.mem_map.2 ⟨x,h1,rfl⟩,h2⟩
 ·rintro⟨h1,h2⟩
  obtain⟨x,hx,rfl⟩:=List.mem_map.1 h1
  exact List.mem_map.2 ⟨x,mem_keepS.2 ⟨hx,h2⟩,rfl⟩
theorem ids_keep_sub (s:List Sto) (C:List Dig):(ids (keepS s C)).Sublist (ids s):=(List.filter_sublist).map _
theorem getS_keep {C:List Dig} {d:Dig} (hd:d∈C): ∀ s:List Sto,getS (keepS s C) d=getS s d
 | []=>rfl
 |x::s=>by
  by_cases hx:x.id=d
  ·have e:keepS (x::s) C=x::keepS s C:=by
    unfold keepS;rw[List.filter_cons_of_pos (by simpa using hx ▸ hd)]
   rw[e,getS,getS,if_pos hx,if_pos hx]
  ·have e2:getS (x::s) d=getS s d:=by rw[getS,if_neg hx]
   by_cases hc:x.id∈C
   ·have e:keepS (x::s) C=x::keepS s C:=by
     unfold keepS;rw[List.filter_cons_of_pos (by simpa using hc)]
    rw[e,e2,getS,if_neg hx,getS_keep hd s]
   ·have e:keepS (x::s) C=keepS s C:=by
     unfold keepS;rw[List.filter_cons_of_neg (by simpa using hc)]
    rw[e,e2,getS_keep hd s]
theorem foreign_needs {p:Pat} (hid:(rId p).2=0) {c:Chg} (hc:c∈p.changes) {y:Ident} (hy:y∈rIds c) (ho:rOther y=true):y.patch∈rNeeds p:=by
 have he: ¬(rEncodeP p).2≠0:=fun h=>by rw[rId,if_pos h]at hid;exact h hid
 rw[rNeeds,if_neg he,needs_mem]
 exact .inr ⟨c,hc,List.mem_map.2 ⟨y,List.mem_filter.2 ⟨hy,ho⟩,rfl⟩⟩
theorem rRefsS_congr {s t:List Sto} {p:Pat} {id:Dig} (hid:(rId p).2=0) (h: ∀ d∈rNeeds p,getS s d=getS t d):rRefsS s p id=rRefsS t p id:=by
 refine firstErr_congr fun c hc=>?_
 have hat: ∀ y∈rIds c,rOther y=true→rAtom s y=rAtom t y:=fun y hy ho=>by
  unfold rAtom rAtomsOf
  rw[h _ (foreign_needs hid hc hy ho)]
 have e1:rChgF s c=rChgF t c:=by
  unfold rChgF
  split
  ·rename_i h;rw[hat _ (by simp[rIds]) h]
  ·rfl
 have e2:rChgP s c=rChgP t c:=by
  unfold rChgP
  split
  ·rename_i h;rw[hat _ (by simp[rIds]) h]
  ·rfl
 have e3: ∀ y∈rIds c,rEndE s y c.file id=rEndE t y c.file id:=fun y hy=>by
  unfold rEndE
  split
  ·rfl
  ·rename_i h
   rw[hat y hy (by simpa using fun h'=>h (.inl h'))]
 have e4:firstErr (rChgO s c id) c.over=firstErr (rChgO t c id) c.over:=firstErr_congr fun y hy=>by
  unfold rChgO
  split
  ·rfl
  ·rename_i h
   rw[hat y (by simp[rIds,hy]) (by simpa using h)]
 unfold rChgE
 rw[e1,e2,e3 _ (by simp[rIds]),e3 _ (by simp[rIds]),e4]
theorem Valid.keep {s:List Sto} (v:Valid s) {C:List Dig} (hC: ∀ x∈s,x.id∈C→ ∀ d∈rNeeds x.patch,d∈C):Valid (keepS s C):=by
 have hlen:(keepS s C).length≤s.length:=List.length_filter_le _ _
 have hcl: ∀ x∈keepS s C,∀ d∈rNeeds x.patch,d∈ids (keepS s C):=fun x hx d hd=>by
  obtain⟨h1,h2⟩:=mem_keepS.1 hx
  exact mem_ids_keep.2 ⟨v.close.2 x h1 d hd,hC x h1 h2 d hd⟩
 have hasc:Asc (ids (keepS s C)):=List.Pairwise.sublist (ids_keep_sub s C) v.asc
 refine⟨⟨⟨Nat.le_trans hlen v.close.1.1,fun x hx=>v.close.1.2 x (mem_keepS.1 hx).1⟩,hcl⟩,fun x hx=>v.id x (mem_keepS.1 hx).1,hasc,?_,fun x hx=>?_⟩
 ·have hr:Ranked (keepS s C) (rankS s):=⟨hasc,hcl,fun x hx d hd=>v.rank (mem_keepS.1 hx).1 hd⟩
  exact Nat.le_of_eq hr.order.symm
 ·obtain⟨h1,h2⟩:=mem_keepS.1 hx
  rw[rRefsS_congr (v.id x h1).1 fun d hd=>getS_keep (hC x h1 h2 d hd) s]
  exact v.refs x h1
end Go.Proofs
namespace Go.Proofs
open Go Go.Q
theorem getS_in: ∀ {s:List Sto},Asc (ids s)→ ∀ {x:Sto},x∈s→getS s x.id=some x.patch
 | [],_,x,h=>by cases h
 |y::s,ha,x,h=>by
  by_cases e:y.id=x.id
  ·rw[getS,if_pos e]
   rcases List.mem_cons.1 h with rfl|h
   ·rfl
   ·have:=(List.pairwise_cons.1 ha).1 x.id (List.mem_map.2 ⟨x,h,rfl⟩)
    change Dig.lt y.id x.id at this
    rw[e]at this
    exact absurd this (Dig.lt_irrefl _)
  ·rw[getS,if_neg e]
   rcases List.mem_cons.1 h with rfl|h
   ·exact absurd rfl e
   ·exact getS_in (List.pairwise_cons.1 ha).2 h
theorem getS_out {s:List Sto} {d:Dig} (h:d∉ids s):getS s d=none:=by
 cases hg:getS s d with
 |none=>rfl
 |some p=>
  obtain⟨x,hx,rfl,_⟩:=getS_mem hg
  exact absurd (List.mem_map.2 ⟨x,hx,rfl⟩) h
theorem getS_isSome {s:List Sto} (ha:Asc (ids s)) (d:Dig):(getS s d).isSome=decide (d∈ids s):=by
 by_cases h:d∈ids s
 ·obtain⟨x,hx,rfl⟩:=List.mem_map.1 h
  rw[getS_in ha hx];simp[h]
 ·rw[getS_out h];simp[h]
end Go.Proofs
namespace Go.Proofs
open Go Go.Q
attribute [local irreducible] pwp pops PCalls OpN
theorem needs_len {s:List Sto} (v:Valid s) {x:Sto} (hx:x∈s):(rNeeds x.patch).length≤40:=by
 have h1:=nodup_len (rNeeds_asc x.patch).nodup (fun d hd=>v.close.2 x hx d hd)
 have:=v.close.1.1
 rw[ids_len]at h1
 omega
instance KnowsP_ct (s:List Sto) (p q:Dig) (t:Tag) [hs:Small (Valid s)]:FnC Tryz.prog 25 [.slice (s.map eSto) t,.agg (eDig p),.agg (eDig q)] (.raw (.bool (rKnows s p q))):=⟨by
 have v:=hs.out
 have cx:=fun t u=>ClosureP_ct s [p] t u (hl:=⟨by simp⟩)
 rw[v.knows]
 refine fn_of Tryz.func25 Tryz.ntmps25 rfl (rs:= [.tmp 6]) rfl rfl fun hb LF=>?_
 refine wf ?_
 refine pops_if (fun hp=>?_) (fun hp=>?_)
 ·refine wf ?_
  refine end1 (.of_eq ?_)
  rw[hp];rfl
 ·refine wf ?_
  refine end1 (.of_eq ?_)
  rw[hp];rfl⟩
end Go.Proofs
namespace Go.Q
open Go
section
variable {P:Program} {N:Nat} {all:Array Oper} {K:Env→List Res→Prop} {fl:List Bool} {os:List Oper} {ρ:Env} {L:List Res} {d:Nat} {ty:TypeId} {pos:String} {af:Array Edge}
theorem opN_toBytes {S T:TypeId} [hS:TStr P S] [hT:TByt P T] {x:Operand} {s:Str} {ax:PV} {dst:Option Nat} {gd:Option (Nat × Bool)} (hx:ρ.ev x=ax) [jx:IsStr ax s] (hs:s.length≤maxN) {Ψ:PV→List Res→Prop}
  (k: ∀ t',Ψ (.slice (s.map eBy) t') (.tok t' s.length 1::L)):OpN P ⟨dst,.convert S T x,ty,pos,af,gd⟩ ρ L Ψ:=by
 intro a w g ha hi
 obtain⟨E,e1,e2⟩:=hT.out
 have h1:=jx.out g _ (hx ▸ ha x (by simp[Op.operands]))
 let nc:=grownCap w s.length 0 E
 have hnc:s.length≤nc:=grownCap_ge w _ _ _
 let vs:List Value:=s.map fun b=>Value.int .u8 (b.toNat:Int)
 have hvl:vs.length=s.length:=by simp[vs]
 have hsz:(bytesRow (sB s) nc).size=nc:=by simp[bytesRow];omega
 have hrow: ∀ j (h:j < vs.length),(bytesRow (sB s) nc)[j]? =some vs[j]:=fun j h=>by
  have h':j < s.length:=by omega
  rw[bytesRow,Array.getElem?_append_left (by simp;exact h')]
  simp[vs,sB,h']
 have hr:(execOp a.eval ⟨dst,.convert S T x,ty,pos,af,gd⟩).run P w= .ok (.value (.slice (some ⟨w.heap.size,0,none⟩) s.length nc)) (w.drew.alloc (.cells (bytesRow (sB s) nc) E ((bytesRow (sB s) nc).size,(bytesRow (sB s) nc).size+1))):=by
  show(do pure (Next.value (←convert S T (a.eval x))):Sem Next).run P w=_
  rw[h1]
  have:=run_bytes_of_string (P:=P) w S T E (sB s) hS.out e1 e2
  rw[sB_size]at this
  rw[Sem.run_bind,this]
  rfl
 have hvr:VRl g vs (s.map eBy).flatten:=by
  have e: ∀ l:Str,(l.map eBy).flatten=(l.map fun b=>Value.int .u8 (b.toNat:Int)).map .raw:=fun l=>by
   induction l with
   |nil=>rfl
   |cons b l ih=>rw[List.map_cons,List.flatten_cons,ih];rfl
  rw[e];exact VRl.raws g vs
 have hH0: ∀ o,g.H w.heap.size o=none:=fun o=>by
  cases h:g.H w.heap.size o with
  |none=>rfl
  |some v=>have:=hi.sat _ _ _ h;simp[World.cell?]at this
 have hM0:g.M w.heap.size=none:=by
  cases h:g.M w.heap.size with
  |none=>rfl
  |some v=>exact absurd (hi.satM _ _ h).lt (Nat.lt_irrefl _)
 have hle:=Gh.le_lay (g:=g) (b:=w.heap.size) (from_:=0) (us:=vs) (fun o _=>hH0 o)
 have hget: ∀ (o:Obj) b,b < w.heap.size→(w.drew.alloc o).heap[b]? =w.heap[b]?:=fun o b hb=>by
  show(w.heap.push o)[b]? =_
  rw[Array.getElem?_push,if_neg (by omega)]
 have hlast: ∀ (o:Obj),(w.drew.alloc o).heap[w.heap.size]? =some o:=fun o=>by show(w.heap.push o)[w.heap.size]? =_;simp
 have key:=(hi.tok 1).repl (w':=w.drew.alloc (.cells (bytesRow (sB s) nc) E ((bytesRow (sB s) nc).size,(bytesRow (sB s) nc).size+1))) (g':=g.lay w.heap.size 0 vs) (r':= .tok (.own w.heap.size nc) s.length 1) .here rfl rfl ⟨rfl,Nat.le_succ _⟩ (by simp) hle
  (fun k hk _=>hget _ k hk) (fun k hk _=>⟨fun o=>Gh.lay_out (fun h=>by have:=h.1;omega),rfl⟩)
  (fun b₂ o v hv=>by
   by_cases hin:b₂=w.heap.size∧0≤o∧o < 0+vs.length
   ·obtain⟨rfl,_,h4⟩:=hin
    have hj:o < vs.length:=by omega
    have:=Gh.lay_in (g:=g) (b:=w.heap.size) (from_:=0) hj
    rw[Nat.zero_add,hv]at this
    cases this
    simp only[World.cell?,hlast,Option.isSome_none,Bool.false_eq_true,if_false]
    exact hrow o hj
   ·rw[Gh.lay_out hin]at hv
    have h3:=hi.sat b₂ o v hv
    have hb2:b₂ < w.heap.size:=by
     rcases Nat.lt_or_ge b₂ w.heap.size with h'|h'
     ·exact h'
     ·simp[World.cell?,Array.getElem?_eq_none h']at h3
    simp only[World.cell?]at h3 ⊢
    rw[hget _ b₂ hb2];exact h3)
  (fun b₂ es hM=>(hi.satM b₂ es hM).congr (hget _ b₂ (hi.satM b₂ es hM).lt))
  ⟨_,E,_,hlast _,by rw[hsz,Nat.mul_one],hnc,fun o ho=>by
   rw[Gh.lay_out (fun h=>by have:=h.2.2;omega)]
   exact hH0 o,hM0,.inr (Nat.le_refl _)⟩ (fun b₂ hb₂=> .inr (by simp[Res.block]at hb₂;omega))
 refine Oper.wq_of_run hr ?_
 refine⟨_,.slice (s.map eBy) (.own w.heap.size nc),_,_,rfl,?_,key.1,key.2.1,key.2.2,k _⟩
 have:=VR.of_cells (g:=g.lay w.heap.size 0 vs) (xs:=s.map eBy) (t:= .own w.heap.size nc) (sz:=1) (b:=w.heap.size) (off:=0) (cap:=nc) (fun e he=>by obtain⟨b,_,rfl⟩:=List.mem_map.1 he;rfl) (by simpa using hnc) (by simpa using hs) (us:=vs) (hvr.mono hle) (fun j hj=>Gh.lay_in hj) (fun b' cap' e=>by cases e;exact⟨rfl,rfl,rfl⟩) (by simp)
 simpa using this
theorem s_toBytes {S T:TypeId} [hS:TStr P S] [hT:TByt P T] {x:Operand} {s:Str} {ax:PV} (hx:ρ.ev x=ax) [jx:IsStr ax s] (hs:s.length≤140737488355328)
  (k: ∀ t',pops P N all K fl.tail os (upd ρ d (.slice (s.map eBy) t')) (.tok t' s.length 1::L)) (hd:Nat.blt d N=true:=by rfl) (hfl:fl.headD true=true:=by rfl):pops P N all K fl (⟨some d,.convert S T x,ty,pos,af,none⟩::os) ρ L:=
 pops_n rfl (dlt hd) hfl (opN_toBytes hx hs k)
end
end Go.Q
namespace Go.Q
open Go
theorem Inv.lendRow {w:World} {g:Gh} {r E sz cap:Nat} {xs:List (List PV)} {rest:List PV} {LF:List Res} (hi:Inv w g (.box r E (xs.flatten++rest)::LF)) (hs: ∀ e∈xs,e.length=sz) (hc:xs.length≤cap) (hm:xs.length≤maxN∧xs.length*sz≤maxN):
  ∃ g',g.le g'∧Inv w g' []∧VR g' (.slice (some ⟨r,0,none⟩) xs.length cap) (.slice xs .ro):=by
 obtain⟨us,h1,h2,h3,h4⟩:=hi.res _ (List.mem_cons_self)
 have hlen:us.length=(xs.flatten++rest).length:=h2.len
 let u:=us.take xs.flatten.length
 have hul:u.length=xs.flatten.length:=by
  simp only[u,List.length_take,hlen,List.length_append];omega
 have hu:VRl g u xs.flatten:=⟨hul,fun i k1 k2=>by
  have:=h2.at_ i (by rw[hlen,List.length_append];omega) (by rw[List.length_append];omega)
  rw[List.getElem_append_left k2]at this
  simpa [u]using this⟩
 have hle:=Gh.le_lay (g:=g) (b:=r) (from_:=0) (us:=u) (fun o _=>h3 o)
 have hcell: ∀ j (h:j < u.length),w.cell? ⟨r,j,none⟩=some u[j]:=fun j h=>by
  have hj:j < us.length:=by rw[hlen,List.length_append];omega
  simp only[World.cell?,h1,Option.isSome_none,Bool.false_eq_true,if_false,List.getElem?_toArray]
  rw[List.getElem?_eq_getElem hj]
  simp[u]
 refine⟨g.lay r 0 u,hle,⟨fun b o v hv=>?_,hi.satM,by simp,by simp[blocks],hi.glob.mono hle⟩,?_⟩
 ·by_cases hin:b=r∧0≤o∧o < 0+u.length
  ·obtain⟨rfl,_,h5⟩:=hin
   have hj:o < u.length:=by omega
   have:=Gh.lay_in (g:=g) (b:=b) (from_:=0) hj
   rw[Nat.zero_add,hv]at this
   cases this
   exact hcell o hj
  ·rw[Gh.lay_out hin]at hv
   exact hi.sat b o v hv
 ·exact VR.of_cells (g:=g.lay r 0 u) (t:= .ro) (sz:=sz) (b:=r) (off:=0) (cap:=cap) hs hc hm (us:=u) (hu.mono hle) (fun j hj=>Gh.lay_in hj) (fun b' cap' e=>by cases e) (by simp)
theorem VRl.repl {g g':Gh} {vs:List Value} {ps bs:List PV} {a b:PV} (hv:VRl g vs (ps++a::bs)) (hle:g.le g') (h: ∀ v,VR g v a→VR g' v b):VRl g' vs (ps++b::bs):=
 ⟨by rw[hv.len];simp,fun i k1 k2=>by
  have h0:=hv.at_ i k1 (by simpa using k2)
  by_cases hi1:i < ps.length
  ·rw[List.getElem_append_left hi1]at h0 ⊢;exact h0.mono hle
  ·rw[List.getElem_append_right (by omega)]at h0 ⊢
   by_cases hi2:i - ps.length=0
   ·have e1: ∀ (a:PV),(a::bs)[i - ps.length]'(by simp[hi2])=a:=fun a=>by simp[hi2]
    rw[e1]at h0 ⊢
    exact h _ h0
   ·obtain⟨m,hm'⟩: ∃ m,i - ps.length=m+1:=⟨i - ps.length - 1,by omega⟩
    simp only[hm',List.getElem_cons_succ]at h0 ⊢
    exact h0.mono hle⟩
theorem PCalls.lend {P:Program} {f:Nat} {X:Value} {r E sz n cap:Nat} {xs:List (List PV)} {rest:List PV} (ps bs:List PV) (hs: ∀ e∈xs,e.length=sz) (hn:xs.length=n) (hc:n≤cap) (hm:n≤maxN∧n*sz≤maxN)
  (h:Fn P f (ps++ .slice xs .ro::bs) (.raw X)):PCalls P f (ps++ .raw (.slice (some ⟨r,0,none⟩) n cap)::bs) [.box r E (xs.flatten++rest)] (fun x L'=>x= .raw X∧L'= [.box r E (xs.flatten++rest)]):=by
 intro vs w g LF hv hi
 subst hn
 obtain⟨g',hle,hi',hsl⟩:=hi.lendRow hs hc hm
 have hv':VRl g' vs (ps++ .slice xs .ro::bs):=hv.repl hle fun v hv=>by rw[hv.raw_inv];exact hsl
 refine(h vs w g' [] hv' (by simpa using hi')).mono ?_
 rintro e w' ⟨v,x,g'',L',rfl,k2,k3,k4,k5,rfl,rfl⟩
 have hk: ∀ k,k < w.heap.size→w'.heap[k]? =w.heap[k]?:=fun k hk=>k4.keep k hk (by simp[blocks])
 exact⟨v,.raw X,g,_,rfl,by rw[k2.raw_inv];exact .raw _,hi.later hk,⟨k4.os,k4.tape,k4.output,k4.size,fun k h _=>hk k h,.refl g,fun _ _ _=>⟨fun _=>rfl,rfl⟩⟩,.refl _ _,rfl,rfl⟩
theorem Inv.boxRaw {w:World} {g:Gh} {r E:Nat} {cs:List PV} {LF:List Res} (hi:Inv w g (.box r E cs::LF)): ∃ us:List Value,VRl g us cs∧Inv w g (.raw r (.cells us.toArray E (0,0))::LF):=by
 obtain⟨us,h1,h2,h3,h4⟩:=hi.res _ (List.mem_cons_self)
 refine⟨us,h2,hi.sat,hi.satM,fun x hx=>?_,hi.nodup,hi.glob⟩
 rcases List.mem_cons.1 hx with rfl|hx
 ·exact⟨h1,h3,h4⟩
 ·exact hi.res x (List.mem_cons_of_mem _ hx)
theorem Inv.rawBox {w:World} {g:Gh} {r E:Nat} {cur:Array Value} {cs:List PV} {LF:List Res} (hi:Inv w g (.raw r (.cells cur E (0,0))::LF)) (h:VRl g cur.toList cs):Inv w g (.box r E cs::LF):=by
 obtain⟨h1,h3,h4⟩:=hi.res _ (List.mem_cons_self)
 refine⟨hi.sat,hi.satM,fun x hx=>?_,hi.nodup,hi.glob⟩
 rcases List.mem_cons.1 hx with rfl|hx
 ·exact⟨cur.toList,by simpa using h1,h,h3,h4⟩
 ·exact hi.res x (List.mem_cons_of_mem _ hx)
inductive RowB (E sz:Nat):Value→List (List PV)→List Res→Prop
 |nil (o:Option Addr) (ho: ∀ a,o=some a→a.spot=none):RowB E sz (.slice o 0 0) [] []
 |row {r n cap:Nat} {xs:List (List PV)} {rest:List PV} (hn:xs.length=n) (hl:n≤cap) (hs: ∀ e∈xs,e.length=sz) (hc:xs.flatten.length+rest.length=cap*sz):RowB E sz (.slice (some ⟨r,0,none⟩) n cap) xs [.box r E (xs.flatten++rest)]
theorem RowB.slice {E sz:Nat} {v:Value} {xs:List (List PV)} {R:List Res} (h:RowB E sz v xs R):(∃ o c,v= .slice o xs.length c)∧ ∀ e∈xs,e.length=sz:=by
 cases h with
 |nil o ho=>exact⟨⟨_,_,rfl⟩,by simp⟩
 |row hn hl hs hc=>subst hn;exact⟨⟨_,_,rfl⟩,hs⟩
theorem RowB.open {E sz:Nat} {v:Value} {xs:List (List PV)} {R LF:List Res} {w:World} {g:Gh} (h:RowB E sz v xs R) (hi:Inv w g (R++LF)): ∃ us R₁,VRl g us xs.flatten∧RowG E sz v xs.length us R₁∧Inv w g (R₁++LF)∧blocks R₁=blocks R:=by
 cases h with
 |nil o ho=>exact⟨[],[],.nil g,.nil o ho,hi,rfl⟩
 |row hn hl hs hc=>
  rename_i r n cap rest
  subst hn
  obtain⟨us,h1,h2⟩:=Inv.boxRaw hi
  have hfl:=flatten_len hs
  have hul:us.length=xs.flatten.length+rest.length:=by rw[h1.len,List.length_append]
  refine⟨us.take (xs.length*sz),_,⟨by rw[List.length_take,hul,hfl];omega,fun i k1 k2=>?_⟩,.row hl (by rw[List.size_toArray,hul,hc]) (by rw[List.length_take,hul,hfl];omega) (by simp),h2,rfl⟩
  have:=h1.at_ i (by rw[hul];omega) (by rw[List.length_append];omega)
  rw[List.getElem_append_left k2]at this
  simpa using this
theorem RowB.close {E sz:Nat} {v:Value} {xs:List (List PV)} {us:List Value} {R LF:List Res} {w:World} {g:Gh} {n:Nat} (hn:xs.length=n) (hs: ∀ e∈xs,e.length=sz) (h:RowG E sz v n us R) (hu:VRl g us xs.flatten) (hi:Inv w g (R++LF)): ∃ R',RowB E sz v xs R'∧Inv w g (R'++LF)∧blocks R'=blocks R:=by
 have hfl:=flatten_len hs
 cases h with
 |nil o ho=>
  have hx:xs= []:=List.eq_nil_of_length_eq_zero hn
  subst hx
  exact⟨[],.nil o ho,hi,rfl⟩
 |row hl hc hu' hcur=>
  subst hn
  rename_i r cap cur
  have hcl:cur.toList.length=cap*sz:=by simpa using hc
  have hle:xs.length*sz≤cap*sz:=Nat.mul_le_mul_right _ hl
  have hv:VRl g cur.toList (xs.flatten++(cur.toList.drop (xs.length*sz)).map .raw):=by
   conv=>lhs;rw[←List.take_append_drop (xs.length*sz) cur.toList]
   rw[hcur]
   exact hu.append (VRl.raws g _)
  exact⟨_,.row rfl hl hs (by rw[List.length_map,List.length_drop,hcl,hfl];omega),Inv.rawBox hi hv,rfl⟩
theorem RowB.lend {P:Program} {f E sz:Nat} {X v:Value} {xs:List (List PV)} {R:List Res} (hr:RowB E sz v xs R) (ps bs:List PV) (hm:xs.length≤maxN∧xs.length*sz≤maxN) (h:Fn P f (ps++ .slice xs .ro::bs) (.raw X)):
  PCalls P f (ps++ .raw v::bs) R (fun x L'=>x= .raw X∧L'=R):=by
 cases hr with
 |nil o ho=>
  intro vs w g LF hv hi
  exact h vs w g LF (hv.repl (.refl g) fun v hv=>by rw[hv.raw_inv];exact .nilR) hi
 |row hn hl hs hc=>
  subst hn
  exact PCalls.lend ps bs hs rfl hl hm h
section
variable {P:Program} {N:Nat} {all:Array Oper} {K:Env→List Res→Prop} {fl:List Bool} {os:List Oper} {ρ:Env} {L:List Res} {d:Nat} {ty:TypeId} {pos:String} {af:Array Edge}
theorem s_appB {T T₂ E E₂ sz by_:Nat} {α:Type} {f:α→List PV} [hT:TRw P T E sz by_] [h2:TSl P T₂ E₂] [hf:Len f sz] [hff:FlatF f] {x y:Operand} {v:Value} {xs:List (List PV)} {m:List α} {t:Tag} {R LF:List Res} (F:List Res→List Res)
  (hx:ρ.ev x= .raw v) (hy:ρ.ev y= .slice (m.map f) t) (hv:RowB E sz v xs R) (hp:L.Perm (R++LF)) (hq: ∀ R',(R'++LF).Perm (F R')) (hb:(xs.length+m.length)*by_≤140737488355328) (hm:xs.length+m.length≤140737488355328)
  (k: ∀ v' R',RowB E sz v' (xs++m.map f) R'→pops P N all K fl.tail os (upd ρ d (.raw v')) (F R')) (hd:Nat.blt d N=true:=by rfl) (hfl:fl.headD true=true:=by rfl):
  pops P N all K fl (⟨some d,.call { callee:= .builtin .append,args:= #[x,y],argTypes:= #[T,T₂] },ty,pos,af,none⟩::os) ρ L:=
 pops_n rfl (dlt hd) hfl (OpN.perm hp fun a w g ha hi=>by
  have h1:=evRaw ha (x:=x) (by simp[Op.operands,Call.operands]) hx
  have h3:=ha y (by simp[Op.operands,Call.operands])
  rw[hy]at h3
  have hms: ∀ e∈m.map f,e.length=sz:=fun e he=>by obtain⟨a,_,rfl⟩:=List.mem_map.1 he;exact hf.out a
  obtain⟨base,cap,e,_,_,hnone,_,_,us,hus,hcell⟩:=h3.slice_cells (sz:=sz) hms
  rw[List.length_map]at e
  have hvl:us.length=m.length*sz:=by rw[hus.len,flatten_len hms,List.length_map]
  obtain⟨us0,R₁,q1,q2,q3,q4⟩:=hv.open hi
  have hone: ∀ x∈us,x.oneCell'=true:=hus.one (fun c hc=>by
   obtain⟨e,he,hce⟩:=List.mem_flatten.1 hc
   obtain⟨a,_,rfl⟩:=List.mem_map.1 he
   exact hff.out a c hce)
  obtain⟨v',w',R',p1,p2,p3,p4,p5⟩:=app_coreG (P:=P) (T:=T) (T₂:=T₂) (ty:=ty) (.inr ⟨_,h2.out⟩) (.slice base m.length cap) us q3 q2 (fun _=>rfl) hvl hone (fun w' hs'=>by
   cases base with
   |none=>
    have h0:=(hnone rfl).1
    have hm0:m= []:=by simpa using h0
    have:us= []:=List.eq_nil_of_length_eq_zero (by rw[hvl,hm0];simp)
    rw[this];rfl
   |some ad=>
    obtain⟨b,o,s⟩:=ad
    obtain⟨hsp,hH⟩:=hcell _ rfl
    show(loadCells _ (m.length*sz)).run P w'=_
    rw[←hvl]
    exact loadCells_of (hsp.imp_left fun h=>us_nil hus h.1) fun j hj=>hs' _ _ _ (hH j hj)) hb hm
  obtain⟨R₂,z1,z2,z3⟩:=RowB.close (xs:=xs++m.map f) (n:=xs.length+m.length) (by simp) (fun e he=>(List.mem_append.1 he).elim (hv.slice.2 e) (hms e)) p2 (by rw[List.flatten_append];exact q1.append hus) p3
  have hbl: ∀ (A B:List Res),blocks A=blocks B→blocks (A++LF)=blocks (B++LF):=fun A B h=>by
   simp only[blocks,List.filterMap_append]at h ⊢;rw[h]
  refine Oper.wq_of_run (show(do pure (.value (←Builtin.append_ #[T,T₂] ty (#[x,y].map a.eval))):Sem Next).run P w= .ok (.value v') w' by
   simp only[List.map_toArray,List.map_cons,List.map_nil,h1,e,Sem.run_bind,p1,Result.andThen_ok,Sem.run_pure]) ?_
  refine⟨_,.raw v',g,F R₂,rfl,.raw _,z2.perm (hq R₂),?_,?_,k v' R₂ z1⟩
  ·rw[←hbl _ _ q4];exact p4
  ·intro b hb' hlt
   rw[←hbl _ _ q4]
   have hb2:b∈blocks (R'++LF):=by rw[←hbl _ _ z3];exact((hq R₂).filterMap _).symm.subset hb'
   exact p5 b hb2 hlt)
end
end Go.Q
namespace Go.Q
open Go
def splice (X:List Value) (o:Nat) (cs:List Value):List Value:=X.take o++cs++X.drop (o+cs.length)
def CellsAt (cur:Array Value) (o:Nat) (cs:List Value):Prop:= ∀ j (h:j < cs.length),cur.toList[o+j]? =some cs[j]
theorem CellsAt.cell {w:World} {b E o:Nat} {fr:Nat × Nat} {cur:Array Value} {cs:List Value} (h:CellsAt cur o cs) (hb:w.heap[b]? =some (.cells cur E fr)): ∀ j (hj:j < cs.length),w.cell? ⟨b,o+j,none⟩=some cs[j]:=fun j hj=>by
 have:=h j hj
 simp only[World.cell?,hb,Option.isSome_none,Bool.false_eq_true,if_false]
 simpa using this
section
variable {P:Program} {N:Nat} {all:Array Oper} {K:Env→List Res→Prop} {fl:List Bool} {os:List Oper} {ρ:Env} {L:List Res} {d:Nat} {ty:TypeId} {pos:String} {af:Array Edge}
theorem s_capR {T:TypeId} {E:Nat} [hT:TSl P T E] {x:Operand} {a:Option Addr} {n c:Nat} (hx:ρ.ev x= .raw (.slice a n c)) (k:pops P N all K fl.tail os (upd ρ d (.raw (.int .i64 c))) L) (hd:Nat.blt d N=true:=by rfl):
  pops P N all K fl (⟨some d,.call { callee:= .builtin .cap,args:= #[x],argTypes:= #[T] },ty,pos,af,none⟩::os) ρ L:=
 step_q hd (qop_of_run fun a' w g ha hi=>⟨.int .i64 c,by
  have h1:=evRaw ha (x:=x) (by simp[Op.operands,Call.operands]) hx
  have he:execOp a'.eval ⟨some d,.call { callee:= .builtin .cap,args:= #[x],argTypes:= #[T] },ty,pos,af,none⟩=(do pure (.value (←Builtin.cap_ #[T] ty (#[x].map a'.eval)))):=rfl
  rw[he]
  simp[Builtin.cap_,h1,run_und hT.out,goInt],.raw _⟩) k
theorem s_cutAny {T E sz by_:Nat} [hT:TSl P T E] [hE:TSz P E sz by_] {x y:Operand} {b:Option Addr} {kk:IntKind} {n c i:Nat} (hx:ρ.ev x= .raw (.slice b n c)) (hy:ρ.ev y= .raw (.int kk (i:Int))) (hi:i≤n) (hn:n≤c)
  (k: ∀ u,pops P N all K fl.tail os (upd ρ d (.raw u)) L) (hd:Nat.blt d N=true:=by rfl):pops P N all K fl (⟨some d,.slice T x (some y) none none,ty,pos,af,none⟩::os) ρ L:=by
 let u:Value:=if c=i then .slice b (n - i) (c - i)else .slice (b.map (·.add (i*sz))) (n - i) (c - i)
 refine step_q (x:= .raw u) hd (qop_of_run fun a w g ha hI=>?_) (k u)
 have e1:=evRaw ha (x:=x) (by simp[Op.operands]) hx
 have e2:=evRaw ha (x:=y) (by simp[Op.operands]) hy
 refine⟨u,?_,.raw _⟩
 have hbounds:(Instr.sliceBounds true n c (some (a.eval y)) none none).run P w= .ok (i,n,c) w:=by
  unfold Instr.sliceBounds
  simp[e2,Instr.sliceBound,asIntOf]
  omega
 show(do pure (Next.value (←Instr.sliceAt T (a.eval x) (some (a.eval y)) none none)):Sem Next).run P w=_
 simp only[Instr.sliceAt,Sem.run_bind,run_underlying hT.out,Result.andThen_ok,Instr.slice,e1,hbounds,TSz.run hE,Sem.run_pure,u]
 by_cases h:c=i
 ·cases b<;>simp[h]
 ·cases b<;>simp[h]
theorem s_cutC {T E sz by_:Nat} [hT:TSl P T E] [hE:TSz P E sz by_] {x:Operand} {lo hi:Option Operand} {r off n c:Nat} (i j:Nat) (hx:ρ.ev x= .raw (.slice (some ⟨r,off,none⟩) n c)) (hij:i≤j) (hj:j≤c) (hc:i < c) (hnc:n≤c)
  (hlo: ∀ o,lo=some o→ ∃ k,ρ.ev o= .raw (.int k i)) (hlo':lo=none→i=0) (hhi: ∀ o,hi=some o→ ∃ k,ρ.ev o= .raw (.int k j)) (hhi':hi=none→j=n)
  (k:pops P N all K fl.tail os (upd ρ d (.raw (.slice (some ⟨r,off+i*sz,none⟩) (j - i) (c - i)))) L) (hd:Nat.blt d N=true:=by rfl):
  pops P N all K fl (⟨some d,.slice T x lo hi none,ty,pos,af,none⟩::os) ρ L:=
 step_q hd (qop_of_run fun a w g ha hI=>by
  have e1:=evRaw ha (x:=x) (by simp[Op.operands]) hx
  have hbl: ∀ o,lo=some o→ ∃ k,a.eval o= .int k i:=fun o e=>by
   obtain⟨k,hk⟩:=hlo o e
   exact⟨k,evRaw ha (by simp[Op.operands,e]) hk⟩
  have hbh: ∀ o,hi=some o→ ∃ k,a.eval o= .int k j:=fun o e=>by
   obtain⟨k,hk⟩:=hhi o e
   exact⟨k,evRaw ha (by simp[Op.operands,e]) hk⟩
  have hbounds:(Instr.sliceBounds true n c (lo.map a.eval) (hi.map a.eval) none).run P w= .ok (i,j,c) w:=by
   unfold Instr.sliceBounds
   cases lo with
   |none=>
    have:=hlo' rfl;subst this
    cases hi with
    |none=>have:=hhi' rfl;subst this;simp
    |some o=>
     obtain⟨k,hk⟩:=hbh o rfl
     simp[hk,Instr.sliceBound,asIntOf]
     omega
   |some o=>
    obtain⟨k,hk⟩:=hbl o rfl
    cases hi with
    |none=>
     have:=hhi' rfl;subst this
     simp[hk,Instr.sliceBound,asIntOf]
     omega
    |some o'=>
     obtain⟨k',hk'⟩:=hbh o' rfl
     simp[hk,hk',Instr.sliceBound,asIntOf]
     rw[if_pos (by omega)]
     simp
     omega
  refine⟨.slice (some ⟨r,off+i*sz,none⟩) (j - i) (c - i),?_,.raw _⟩
  show(do pure (Next.value (←Instr.sliceAt T (a.eval x) (lo.map a.eval) (hi.map a.eval) none)):Sem Next).run P w=_
  simp only[Instr.sliceAt,Sem.run_bind,run_underlying hT.out,Result.andThen_ok,Instr.slice,e1,hbounds,TSz.run hE,Sem.run_pure]
  rw[if_neg (by omega)]
  simp[add_plain]) k
theorem s_copyR {T T₂ E sz by_:Nat} [hT:TRw P T E sz by_] {x y:Operand} {r o dn dc b o2 sn sc:Nat} {cur:Array Value} (cs:List Value) {L':List Res} (F:Res→List Res)
  (hx:ρ.ev x= .raw (.slice (some ⟨r,o,none⟩) dn dc)) (hy:ρ.ev y= .raw (.slice (some ⟨b,o2,none⟩) sn sc)) (hp:L.Perm (.raw r (.cells cur E (0,0))::L')) (hq: ∀ c,(c::L').Perm (F c))
  (hl:cs.length=Nat.min sn dn*sz) (hone: ∀ x∈cs,x.oneCell'=true) (hfit:o+cs.length≤cur.size)
  (hs: ∃ cur2 E2 fr,Res.raw b (.cells cur2 E2 fr)∈(Res.raw r (.cells cur E (0,0))::L')∧CellsAt cur2 o2 cs)
  (k:pops P N all K fl.tail os (upd ρ d (.raw (.int .i64 (Nat.min sn dn:Nat)))) (F (.raw r (.cells (splice cur.toList o cs).toArray E (0,0))))) (hd:Nat.blt d N=true:=by rfl) (hfl:fl.headD true=true:=by rfl):
  pops P N all K fl (⟨some d,.call { callee:= .builtin .copy,args:= #[x,y],argTypes:= #[T,T₂] },ty,pos,af,none⟩::os) ρ L:=
 pops_n rfl (dlt hd) hfl (OpN.perm hp fun a w g ha hi=>by
  have h1:=evRaw ha (x:=x) (by simp[Op.operands,Call.operands]) hx
  have h2:=evRaw ha (x:=y) (by simp[Op.operands,Call.operands]) hy
  obtain⟨i,z,t1,t2,t3,t4,t5,t6,t7,t8⟩:=hT.out
  obtain⟨k1,k2,k3,k4,k5⟩:=hi.rawHead
  obtain⟨cur2,E2,fr,hm,hc⟩:=hs
  have hb:=(hi.res _ hm).1
  have hload:(loadCells ⟨b,o2,none⟩ (Nat.min sn dn*sz)).run P w= .ok cs.toArray w:=by
   rw[←hl];exact loadCells_run (hc.cell hb)
  obtain⟨w',hrun,hb',hos,htp,hout,hsz,hk⟩:=storeCells_run (P:=P) cs w cur.toList o 0 (by simpa using k1) (by simpa using hfit) hone
  have he:execOp a.eval ⟨some d,.call { callee:= .builtin .copy,args:= #[x,y],argTypes:= #[T,T₂] },ty,pos,af,none⟩=(do pure (.value (←Builtin.copy_ #[T,T₂] ty (#[x,y].map a.eval)))):=rfl
  have hr:(execOp a.eval ⟨some d,.call { callee:= .builtin .copy,args:= #[x,y],argTypes:= #[T,T₂] },ty,pos,af,none⟩).run P w= .ok (.value (.int .i64 (Nat.min sn dn:Nat))) w':=by
   rw[he]
   simp[Builtin.copy_,h1,h2,run_underlying t1,sizeOf,typeInfo,t2,t3,Builtin.lenOf,Builtin.firstCells,hload,hrun,goInt]
  rw[Nat.add_zero]at hb'
  refine Oper.wq_of_run hr ?_
  exact⟨_,.raw _,g,_,rfl,.raw _,(hi.turnRaw hb' hk).perm (hq _),⟨hos,htp,hout,Nat.le_of_eq hsz.symm,fun b _ hn=>hk b (fun e=>hn (by simp[blocks,Res.block,e])),.refl g,fun _ _ _=>⟨fun _=>rfl,rfl⟩⟩,
   fun b hb _=>by
    have:=(blocks_perm (hq _)).symm.subset hb
    simpa [blocks,Res.block]using this,k⟩)
theorem s_appRR {T T₂ E E₂ sz by_:Nat} [hT:TRw P T E sz by_] [h2:TSl P T₂ E₂] {x y:Operand} {v:Value} {n m b o2 sc:Nat} {us vs:List Value} {R LF:List Res} (F:List Res→List Res)
  (hx:ρ.ev x= .raw v) (hy:ρ.ev y= .raw (.slice (some ⟨b,o2,none⟩) m sc)) (hv:RowG E sz v n us R) (hp:L.Perm (R++LF)) (hq: ∀ R',(R'++LF).Perm (F R'))
  (hvl:vs.length=m*sz) (hone: ∀ x∈vs,x.oneCell'=true) (hs: ∃ cur2 E2 fr,Res.raw b (.cells cur2 E2 fr)∈LF∧CellsAt cur2 o2 vs) (hb:(n+m)*by_≤140737488355328) (hm:n+m≤140737488355328)
  (k: ∀ v' R',RowG E sz v' (n+m) (us++vs) R'→pops P N all K fl.tail os (upd ρ d (.raw v')) (F R')) (hd:Nat.blt d N=true:=by rfl) (hfl:fl.headD true=true:=by rfl):
  pops P N all K fl (⟨some d,.call { callee:= .builtin .append,args:= #[x,y],argTypes:= #[T,T₂] },ty,pos,af,none⟩::os) ρ L:=
 pops_n rfl (dlt hd) hfl (OpN.perm hp fun a w g ha hi=>by
  have h1:=evRaw ha (x:=x) (by simp[Op.operands,Call.operands]) hx
  have h3:=evRaw ha (x:=y) (by simp[Op.operands,Call.operands]) hy
  obtain⟨cur2,E2,fr,hm2,hc⟩:=hs
  have hbk:=(hi.res _ (List.mem_append_right _ hm2)).1
  obtain⟨v',w',R',q1,q2,q3,q4,q5⟩:=app_coreH (P:=P) (T:=T) (T₂:=T₂) (ty:=ty) (.inr ⟨_,h2.out⟩) (.slice (some ⟨b,o2,none⟩) m sc) vs hi hv (fun _=>rfl) hvl hone (fun w' e=>by
   show(loadCells _ (m*sz)).run P w'=_
   rw[←hvl]
   exact loadCells_run (hc.cell (e ▸ hbk))) hb hm
  refine Oper.wq_of_run (show(do pure (.value (←Builtin.append_ #[T,T₂] ty (#[x,y].map a.eval))):Sem Next).run P w= .ok (.value v') w' by
   simp only[List.map_toArray,List.map_cons,List.map_nil,h1,h3,Sem.run_bind,q1,Result.andThen_ok,Sem.run_pure]) ?_
  exact⟨v',.raw v',g,F R',rfl,.raw _,q3.perm (hq R'),q4,fun b hb hlt=>q5 b ((blocks_perm (hq R')).symm.subset hb) hlt,k v' R' q2⟩)
theorem s_appZ {T T₂ E sz by_:Nat} [hT:TRw P T E sz by_] {kk:IntKind} (h2:P.underlying T₂=some (.int .i64)) {x y:Operand} {r o n m c:Nat} {us:List Value} {cur:Array Value} {L':List Res}
  (hx:ρ.ev x= .raw (.slice (some ⟨r,o,none⟩) n c)) (hy:ρ.ev y= .raw (.int kk (m:Int))) (hm:Res.raw r (.cells cur E (0,0))∈L) (hl:L=L') (hu:us.length=n*sz) (hc:CellsAt cur o us) (h0:0 < m) (hn:c < n+m) (hb:(n+m)*by_≤140737488355328) (hbm:n+m≤140737488355328)
  (k: ∀ r' nc (zs:List Value),n+m≤nc→(us++zs).length=nc*sz→pops P N all K fl.tail os (upd ρ d (.raw (.slice (some ⟨r',0,none⟩) (n+m) nc))) (.raw r' (.cells (us++zs).toArray E (0,0))::L')) (hd:Nat.blt d N=true:=by rfl) (hfl:fl.headD true=true:=by rfl):
  pops P N all K fl (⟨some d,.call { callee:= .builtin .append,args:= #[x,y],argTypes:= #[T,T₂] },ty,pos,af,none⟩::os) ρ L:=
 pops_n rfl (dlt hd) hfl (fun a w g ha hi=>by
  have h1:=evRaw ha (x:=x) (by simp[Op.operands,Call.operands]) hx
  have h3:=evRaw ha (x:=y) (by simp[Op.operands,Call.operands]) hy
  obtain⟨i,z,t1,t2,t3,t4,t5,t6,t7,t8⟩:=hT.out
  have hbk:=(hi.res _ hm).1
  have hload: ∀ w',w'.heap=w.heap→(loadCells ⟨r,o,none⟩ (n*sz)).run P w'= .ok us.toArray w':=fun w' e=>by
   rw[←hu];exact loadCells_run (hc.cell (e ▸ hbk))
  have hw:IntKind.i64.wrap (m:Int)=m:=by rw[IntKind.wrap_i64];omega
  have h63': ¬(9223372036854775807 < ((n:Int)+(m:Int))):=by omega
  have h48': ¬(281474976710656 < Builtin.nextslicecap (n+m) c*i.bytes):=by
   rw[t4]
   have:Builtin.nextslicecap (n+m) c*by_≤2*140737488355328:=by
    calc Builtin.nextslicecap (n+m) c*by_≤(2*(n+m))*by_:=Nat.mul_le_mul_right _ (nextslicecap_le hn)
     _=2*((n+m)*by_):=by rw[Nat.mul_assoc]
     _≤2*140737488355328:=Nat.mul_le_mul_left _ hb
   omega
  have h48i: ¬(281474976710656 < (m:Int)*(i.bytes:Int)):=by
   rw[←Int.natCast_mul,t4]
   have:m*by_≤(n+m)*by_:=Nat.mul_le_mul_right _ (by omega)
   omega
  have hneg: ¬((m:Int) < 0):=by omega
  have hns: ¬(m*sz=0):=Nat.mul_ne_zero (by omega) t7
  have hle: ¬(n+m≤c):=by omega
  obtain⟨zs,hzs⟩: ∃ zs:List Value,zs=(Builtin.zeroCells z.cells m).toList++(Builtin.zeroCells z.cells (grownCap w (n+m) c E - (n+m))).toList:=⟨_,rfl⟩
  have hr:(execOp a.eval ⟨some d,.call { callee:= .builtin .append,args:= #[x,y],argTypes:= #[T,T₂] },ty,pos,af,none⟩).run P w= .ok (.value (.slice (some ⟨w.heap.size,0,none⟩) (n+m) (grownCap w (n+m) c E))) (w.drew.alloc (.cells (us++zs).toArray E (0,0))):=by
   have f1:=hload w.drew rfl
   show(do pure (.value (←Builtin.append_ #[T,T₂] ty (#[x,y].map a.eval))):Sem Next).run P w=_
   simp[Builtin.append_,h1,h3,run_underlying t1,run_underlying h2,sizeOf,typeInfo,zeroValue,t2,t3,t5,asInt,asIntOf,hw,hneg,h48i,hns,hle,h63',h48',Question.forced,Builtin.firstCells,f1,newRow,grownCap,hzs]
   congr 2
   apply Array.ext'
   simp[grownCap]
  have hge:=grownCap_ge w (n+m) c E
  have hlen:(us++zs).length=grownCap w (n+m) c E*sz:=by
   have e1: ∀ m,(Builtin.zeroCells z.cells m).toList.length=m*sz:=fun m=>by rw[Array.length_toList,size_zeroCells,t6]
   rw[hzs,List.length_append,List.length_append,e1,e1,hu,←Nat.add_mul,←Nat.add_mul]
   congr 1;omega
  obtain⟨j1,j2,j3⟩:=grown_row (R:= []) (LF:=L) hi (.cells (us++zs).toArray E (0,0))
  refine Oper.wq_of_run hr ?_
  subst hl
  exact⟨_,.raw _,g,_,rfl,.raw _,j1,j2,j3,k _ _ zs hge hlen⟩)
theorem s_overlaps {f:Nat} {fn:Func} {T B E sz by_:Nat} (hf:P.funcs[f]? =some fn) (hn:(fn.name== "runtime.NumGoroutine")=false) (hb:fn.body.isNone=true) (h1:Extern.findNext fn=none) (h2:Extern.find fn=some (Extern.SlicesOverlaps.overlaps #[T,T] #[B]))
  [hT:TSl P T E] [hE:TSz P E sz by_] {ats:Array TypeId} {x y:Operand} {rv o n c r o2 n2 c2 Ev Er:Nat} {cv cr:Array Value} {L':List Res} (hx:ρ.ev x= .raw (.slice (some ⟨rv,o,none⟩) n c)) (hy:ρ.ev y= .raw (.slice (some ⟨r,o2,none⟩) n2 c2))
  (hp:L.Perm (.raw rv (.cells cv Ev (0,0)):: .raw r (.cells cr Er (0,0))::L')) (hk:cr.size≠0) (k:pops P N all K fl.tail os (upd ρ d (.raw (.bool false))) L) (hd:Nat.blt d N=true:=by rfl):
  pops P N all K fl (⟨some d,.call { callee:= .value (.func f),args:= #[x,y],argTypes:=ats },ty,pos,af,none⟩::os) ρ L:=
 step_q hd (qop_of_run fun a w g ha hi=>by
  have e1:=evRaw ha (x:=x) (by simp[Op.operands,Call.operands]) hx
  have e2:=evRaw ha (x:=y) (by simp[Op.operands,Call.operands]) hy
  have hi2:=hi.perm hp
  obtain⟨q1,_,_,q4,q5⟩:=hi2.rawHead
  obtain⟨p1,_⟩:=q5.rawHead
  have hne:rv≠r:=fun e=>q4 (by simp[blocks,Res.block,e])
  refine⟨.bool false,?_,.raw _⟩
  have he:execOp a.eval ⟨some d,.call { callee:= .value (.func f),args:= #[x,y],argTypes:=ats },ty,pos,af,none⟩=callFunc f (#[]++ #[x,y].map a.eval++ #[]):=rfl
  rw[he]
  have hcall:(callFunc f #[.slice (some ⟨rv,o,none⟩) n c,.slice (some ⟨r,o2,none⟩) n2 c2]).run P w= .ok (.value (.bool false)) w:=by
   rw[run_callFunc_extern hf hn hb h1 h2,Lib.run_overlaps_apart w T B E hT.out sz (TSz.run hE) ⟨rv,o,none⟩ ⟨r,o2,none⟩ n c n2 c2 hne Ev Er cv.size cr.size (by simp[World.shape?,q1]) (by simp[World.shape?,p1]) hk (by simp[World.frozen?,q1]) (by simp[World.frozen?,q1])]
   rfl
  simpa [e1,e2]using hcall) k
end
end Go.Q
namespace Go.Proofs
open Go Go.Q
attribute [local irreducible] pwp pops PCalls OpN
section
variable {P:Program} {N:Nat} {all:Array Oper} {K:Env→List Res→Prop} {fl:List Bool} {os:List Oper} {ρ:Env} {L:List Res} {d:Nat} {ty:TypeId} {pos:String} {af:Array Edge}
theorem s_convNeg {S T:TypeId} {k':IntKind} [hS:TInt P S k'] [hT:TInt P T .u64] {x:Operand} {k₀:IntKind} {n:Nat} (hx:ρ.ev x= .raw (.int k₀ (-(n:Int)))) (hn:0 < n∧n≤32) (k:pops P N all K fl.tail os (upd ρ d (.raw (.int .u64 ((18446744073709551616 - n:Nat):Int)))) L) (hd:Nat.blt d N=true:=by rfl):
  pops P N all K fl (⟨some d,.convert S T x,ty,pos,af,none⟩::os) ρ L:=s_conv hx (by
 have e:IntKind.wrap .u64 (-(n:Int))=((18446744073709551616 - n:Nat):Int):=by
  simp only[IntKind.wrap,IntKind.signed,IntKind.bits]
  simp
  omega
 rw[e];exact k) hd
theorem s_and31 {T T':TypeId} {x y:Operand} {n:Nat} (hx:ρ.ev x= .raw (.int .u64 ((18446744073709551616 - n:Nat):Int))) (hy:ρ.ev y= .raw (.int .u64 31)) (hn:0 < n∧n < 32) (k:pops P N all K fl.tail os (upd ρ d (.raw (.int .u64 ((32 - n:Nat):Int)))) L) (hd:Nat.blt d N=true:=by rfl):
  pops P N all K fl (⟨some d,.binOp .and T x y T',ty,pos,af,none⟩::os) ρ L:=s_int hx hy (fun w=>by
 have key: ∀ m:Nat,m < 32→0 < m→IntKind.u64.wrap ((BitVec.ofInt 64 ((18446744073709551616 - m:Nat):Int)&&& BitVec.ofInt 64 31).toNat:Int)=((32 - m:Nat):Int):=by decide
 simp only[binOp,ne_eq,not_true_eq_false,if_false]
 show(pure (Value.int .u64 (IntKind.u64.wrap ((BitVec.ofInt 64 ((18446744073709551616 - n:Nat):Int)&&& BitVec.ofInt 64 31).toNat:Int))):Sem Value).run P w=_
 rw[key n hn.2 hn.1];rfl) k hd
end
theorem orW_comm (a b:Nat):orW a b=orW b a:=Nat.or_comm _ _
theorem rotl_fn (a n:Nat) (hn:0 < n∧n < 32):FnC Tryz.prog 212 [.raw (.int .u32 (a:Int)),.raw (.int .i64 (-(n:Int)))] (.raw (.int .u32 (rotW a n:Nat))):=⟨by
 refine fn_of Tryz.func212 Tryz.ntmps212 rfl (rs:= [.tmp 4]) rfl rfl fun hb LF=>?_
 refine walkW ?_
 refine s_convNeg (n:=n) rfl ⟨hn.1,by omega⟩ ?_
 refine s_and31 (n:=n) rfl rfl hn ?_
 refine walkW ?_
 refine s_subU (a:=32) (b:=32 - n) (by rfl) (by rfl) (by omega) (by decide) ?_
 refine walkW ?_
 refine end1 (.of_eq ?_)
 rw[show 32 - (32 - n)=n by omega,rotW,orW_comm]⟩
theorem right_fn (a n:Nat) (hn:0 < n∧n < 32):FnC Tryz.prog 173 [.raw (.int .u32 (a:Int)),.raw (.int .i64 (n:Int))] (.raw (.int .u32 (rotW a n:Nat))):=⟨by
 have i1:FnC Tryz.prog 212 [.raw (.int .u32 (a:Int)),.raw (.int .i64 (-(n:Int)))] (.raw (.int .u32 (rotW a n:Nat))):=rotl_fn a n hn
 refine fn_of Tryz.func173 Tryz.ntmps173 rfl (rs:= [.tmp 4]) rfl rfl fun hb LF=>?_
 refine walkW ?_
 exact end1 (.refl _)⟩
instance right2_ct (a:Nat):FnC Tryz.prog 173 [.raw (.int .u32 (a:Int)),.raw (.int .i64 2)] (.raw (.int .u32 (rotW a 2:Nat))):=right_fn a 2 ⟨by decide,by decide⟩
instance right6_ct (a:Nat):FnC Tryz.prog 173 [.raw (.int .u32 (a:Int)),.raw (.int .i64 6)] (.raw (.int .u32 (rotW a 6:Nat))):=right_fn a 6 ⟨by decide,by decide⟩
instance right7_ct (a:Nat):FnC Tryz.prog 173 [.raw (.int .u32 (a:Int)),.raw (.int .i64 7)] (.raw (.int .u32 (rotW a 7:Nat))):=right_fn a 7 ⟨by decide,by decide⟩
instance right11_ct (a:Nat):FnC Tryz.prog 173 [.raw (.int .u32 (a:Int)),.raw (.int .i64 11)] (.raw (.int .u32 (rotW a 11:Nat))):=right_fn a 11 ⟨by decide,by decide⟩
instance right13_ct (a:Nat):FnC Tryz.prog 173 [.raw (.int .u32 (a:Int)),.raw (.int .i64 13)] (.raw (.int .u32 (rotW a 13:Nat))):=right_fn a 13 ⟨by decide,by decide⟩
instance right17_ct (a:Nat):FnC Tryz.prog 173 [.raw (.int .u32 (a:Int)),.raw (.int .i64 17)] (.raw (.int .u32 (rotW a 17:Nat))):=right_fn a 17 ⟨by decide,by decide⟩
instance right18_ct (a:Nat):FnC Tryz.prog 173 [.raw (.int .u32 (a:Int)),.raw (.int .i64 18)] (.raw (.int .u32 (rotW a 18:Nat))):=right_fn a 18 ⟨by decide,by decide⟩
instance right19_ct (a:Nat):FnC Tryz.prog 173 [.raw (.int .u32 (a:Int)),.raw (.int .i64 19)] (.raw (.int .u32 (rotW a 19:Nat))):=right_fn a 19 ⟨by decide,by decide⟩
instance right22_ct (a:Nat):FnC Tryz.prog 173 [.raw (.int .u32 (a:Int)),.raw (.int .i64 22)] (.raw (.int .u32 (rotW a 22:Nat))):=right_fn a 22 ⟨by decide,by decide⟩
instance right25_ct (a:Nat):FnC Tryz.prog 173 [.raw (.int .u32 (a:Int)),.raw (.int .i64 25)] (.raw (.int .u32 (rotW a 25:Nat))):=right_fn a 25 ⟨by decide,by decide⟩
instance constantsP_ct:FnC Tryz.prog 172 [] (.agg (eW rK)):=⟨by
 refine fn_of Tryz.func172 Tryz.ntmps172 rfl (rs:= [.cell 0 211]) rfl rfl fun hb LF=>?_
 refine walkWb fun b=>?_
 refine s_buildWe [.const (.int .u32 1116352408),.const (.int .u32 1899447441),.const (.int .u32 3049323471),.const (.int .u32 3921009573),.const (.int .u32 961987163),.const (.int .u32 1508970993),.const (.int .u32 2453635748),.const (.int .u32 2870763221),.const (.int .u32 3624381080),.const (.int .u32 310598401),.const (.int .u32 607225278),.const (.int .u32 1426881987),.const (.int .u32 1925078388),.const (.int .u32 2162078206),.const (.int .u32 2614888103),.const (.int .u32 3248222580),.const (.int .u32 3835390401),.const (.int .u32 4022224774),.const (.int .u32 264347078),.const (.int .u32 604807628),.const (.int .u32 770255983),.const (.int .u32 1249150122),.const (.int .u32 1555081692),.const (.int .u32 1996064986),.const (.int .u32 2554220882),.const (.int .u32 2821834349),.const (.int .u32 2952996808),.const (.int .u32 3210313671),.const (.int .u32 3336571891),.const (.int .u32 3584528711),.const (.int .u32 113926993),.const (.int .u32 338241895),.const (.int .u32 666307205),.const (.int .u32 773529912),.const (.int .u32 1294757372),.const (.int .u32 1396182291),.const (.int .u32 1695183700),.const (.int .u32 1986661051),.const (.int .u32 2177026350),.const (.int .u32 2456956037),.const (.int .u32 2730485921),.const (.int .u32 2820302411),.const (.int .u32 3259730800),.const (.int .u32 3345764771),.const (.int .u32 3516065817),.const (.int .u32 3600352804),.const (.int .u32 4094571909),.const (.int .u32 275423344),.const (.int .u32 430227734),.const (.int .u32 506948616),.const (.int .u32 659060556),.const (.int .u32 883997877),.const (.int .u32 958139571),.const (.int .u32 1322822218),.const (.int .u32 1537002063),.const (.int .u32 1747873779),.const (.int .u32 1955562222),.const (.int .u32 2024104815),.const (.int .u32 2227730452),.const (.int .u32 2361852424),.const (.int .u32 2428436474),.const (.int .u32 2756734187),.const (.int .u32 3204031479),.const (.int .u32 3329325298)] rK rfl rfl rfl rfl ?_
 have i1:LenIs (eW rK) 64:=⟨rfl⟩
 have i2:LenIs (eW (List.replicate 64 0)) 64:=⟨rfl⟩
 refine walkWp ?_
 exact endC rfl (.refl _) (hn:=(rfl:(eW rK).length=64))⟩
instance initialP_ct:FnC Tryz.prog 128 [] (.agg (eW rH)):=⟨by
 refine fn_of Tryz.func128 Tryz.ntmps128 rfl (rs:= [.cell 0 173]) rfl rfl fun hb LF=>?_
 refine walkWb fun b=>?_
 refine s_buildWe [.const (.int .u32 1779033703),.const (.int .u32 3144134277),.const (.int .u32 1013904242),.const (.int .u32 2773480762),.const (.int .u32 1359893119),.const (.int .u32 2600822924),.const (.int .u32 528734635),.const (.int .u32 1541459225)] rH rfl rfl (by simp[rH]) rfl ?_
 have i1:LenIs (eW rH) 8:=⟨rfl⟩
 have i2:LenIs (eW (List.replicate 8 0)) 8:=⟨rfl⟩
 refine walkWp ?_
 exact endC rfl (.refl _) (hn:=(rfl:(eW rH).length=8))⟩
end Go.Proofs
namespace Go.Proofs
open Go Go.Q
attribute [local irreducible] pwp pops PCalls OpN
theorem or_add {a b i:Nat} (hb:b < 2 ^ i):a*2 ^ i|||b=a*2 ^ i+b:=by
 rw[←Nat.shiftLeft_eq];exact(Nat.shiftLeft_add_eq_or_of_lt hb a).symm
def byteW (v:Nat) (c:UInt8):Nat:=orW (shlW v 8) (c.toNat % 4294967296)
theorem byteW_eq {v:Nat} {c:UInt8} (hv:v < 16777216):byteW v c=v*256+c.toNat:=by
 have hc:c.toNat < 256:=c.toNat_lt
 unfold byteW orW shlW
 rw[show min 8 32=8 from rfl,Nat.mod_mod,Nat.mod_mod,Nat.mod_eq_of_lt (show c.toNat < 4294967296 by omega),Nat.mod_eq_of_lt (show v*2 ^ 8 < 4294967296 by omega)]
 exact or_add (i:=8) (by omega)
theorem word_bytes (b:Str) (t:Nat) (h:4*t+4≤b.length):(List.range 4).foldl (fun v i=>byteW v (b.getD (4*t+i) 0)) 0=rWord b t:=by
 have h0: ∀ i,(b.getD i 0).toNat < 256:=fun i=>UInt8.toNat_lt _
 have a0:=h0 (4*t)
 have a1:=h0 (4*t+1)
 have a2:=h0 (4*t+2)
 have a3:=h0 (4*t+3)
 show byteW (byteW (byteW (byteW 0 (b.getD (4*t+0) 0)) (b.getD (4*t+1) 0)) (b.getD (4*t+2) 0)) (b.getD (4*t+3) 0)=_
 rw[Nat.add_zero]
 rw[byteW_eq (v:=0) (by omega),byteW_eq (v:=0*256+(b.getD (4*t) 0).toNat) (by omega),byteW_eq (v:=(0*256+(b.getD (4*t) 0).toNat)*256+(b.getD (4*t+1) 0).toNat) (by omega),
  byteW_eq (v:=((0*256+(b.getD (4*t) 0).toNat)*256+(b.getD (4*t+1) 0).toNat)*256+(b.getD (4*t+2) 0).toNat) (by omega)]
 unfold rWord
 have e0:(4*(t:Int)).toNat=4*t:=by omega
 have e1:(4*(t:Int)+1).toNat=4*t+1:=by omega
 have e2:(4*(t:Int)+2).toNat=4*t+2:=by omega
 have e3:(4*(t:Int)+3).toNat=4*t+3:=by omega
 rw[e0,e1,e2,e3]
 generalize (b.getD (4*t) 0).toNat=x0 at*
 generalize (b.getD (4*t+1) 0).toNat=x1 at*
 generalize (b.getD (4*t+2) 0).toNat=x2 at*
 generalize (b.getD (4*t+3) 0).toNat=x3 at*
 unfold orW shlW
 rw[show min 24 32=24 from rfl,show min 16 32=16 from rfl,show min 8 32=8 from rfl]
 simp only[Nat.mod_eq_of_lt (show x0 < 4294967296 by omega),Nat.mod_eq_of_lt (show x1 < 4294967296 by omega),Nat.mod_eq_of_lt (show x2 < 4294967296 by omega),Nat.mod_eq_of_lt (show x3 < 4294967296 by omega),Nat.mod_eq_of_lt (show x0*2 ^ 24 < 4294967296 by omega),Nat.mod_eq_of_lt (show x1*2 ^ 16 < 4294967296 by omega),Nat.mod_eq_of_lt (show x2*2 ^ 8 < 4294967296 by omega)]
 have k1:x0*2 ^ 24|||x1*2 ^ 16=(x0*256+x1)*2 ^ 16:=by rw[or_add (by omega)];omega
 rw[k1,Nat.mod_eq_of_lt (show(x0*256+x1)*2 ^ 16 < 4294967296 by omega)]
 have k2:(x0*256+x1)*2 ^ 16|||x2*2 ^ 8=((x0*256+x1)*256+x2)*2 ^ 8:=by rw[or_add (by omega)];omega
 rw[k2,Nat.mod_eq_of_lt (show((x0*256+x1)*256+x2)*2 ^ 8 < 4294967296 by omega),or_add (by omega)]
 omega
def schS (b:Str) (k:Nat):List Nat:=(List.range (k - 16)).foldl rSched2 ((List.range (min k 16)).foldl (rSched1 b) (List.replicate 64 0))
theorem schS_len (b:Str) (k:Nat):(schS b k).length=64:=fold2_len (fold1_len b _) _
theorem schS_succ1 {b:Str} {k:Nat} (h:k < 16):schS b (k+1)=(schS b k).set k (rWord b k):=by
 unfold schS
 rw[show k+1 - 16=0 by omega,show k - 16=0 by omega,show min (k+1) 16=k+1 by omega,show min k 16=k by omega,foldl_range_succ];rfl
theorem schS_succ2 (b:Str) (j:Nat):schS b (j+16+1)=(schS b (j+16)).set (j+16) (rSigma (schS b (j+16)) j):=by
 unfold schS
 rw[show j+16+1 - 16=j+1 by omega,show j+16 - 16=j by omega,show min (j+16+1) 16=16 by omega,show min (j+16) 16=16 by omega,foldl_range_succ];rfl
theorem fold1_zero (b:Str) (k:Nat): ∀ j,k≤j→((List.range k).foldl (rSched1 b) (List.replicate 64 0)).getD j 0=0:=by
 induction k with
 |zero=>intro j _;rw[List.range_zero,List.foldl_nil,List.getD_eq_getElem?_getD,List.getElem?_replicate];split<;>rfl
 |succ k ih=>
  intro j hj
  have:=ih j (by omega)
  rw[foldl_range_succ,rSched1,List.getD,List.getElem?_set_ne (by omega)]
  exact this
theorem schS_zero {b:Str} {k:Nat} (h:k < 16):(schS b k).set k 0=schS b k:=by
 have h0:=fold1_zero b k k (Nat.le_refl _)
 have hl:=schS_len b k
 have e:schS b k=(List.range k).foldl (rSched1 b) (List.replicate 64 0):=by
  unfold schS
  rw[show k - 16=0 by omega,show min k 16=k by omega];rfl
 rw[←e]at h0
 refine List.ext_getElem (by simp) fun i h1 h2=>?_
 rw[List.getElem_set]
 split
 ·rename_i e
  subst e
  simpa [List.getD,h2]using h0.symm
 ·rfl
set_option maxHeartbeats 2000000 in
instance scheduleP_ct (s:Str) [hs:Small (s.length=64)]:FnC Tryz.prog 171 [.str s] (.agg (eW (rSched s))):=⟨by
 refine fn_of Tryz.func171 Tryz.ntmps171 rfl (rs:= [.cell 2 211]) rfl rfl fun hb LF=>?_
 have hl:=hs.out
 have i2:LenIs (eW (List.replicate 64 0)) 64:=⟨rfl⟩
 refine walkWb fun b=>?_
 refine walkWbp fun b2=>?_
 refine pwp_loopS (σ:=Nat × List Nat) (fun k=>k.1≤64∧k.2.length=64∧k.2=schS s k.1) (fun k=>64 - k.1) (fun k=> [(0,.str s),(2,.raw (.pointer (some ⟨b,0,none⟩))),(3,.raw (.pointer (some ⟨b2,0,none⟩))),(9,.raw (.int .i64 k.1))]) (fun k=> .box b2 211 (eW k.2):: .box b 211 (eW (List.replicate 64 0))::LF) (0,List.replicate 64 0) ⟨by simp,by simp,rfl⟩ ⟨rfl,rfl,rfl,rfl⟩ (.refl _) ?_
 rintro⟨k,w⟩ ⟨hk,hw,he⟩
 dsimp only at hk hw he ⊢
 have i3:LenIs (eW w) 64:=⟨by rw[len_eW,hw]⟩
 refine walkW ?_
 refine pwp_condD (fun hc=>?_) (fun hc=>?_)
 ·refine walkW ?_
  refine pwp_condD (fun h16=>?_) (fun h16=>?_)
  ·have h16':k < 16:=by omega
   have hz:=schS_zero (b:=s) h16'
   rw[←he]at hz
   refine walkW ?_
   refine s_cutS (ax:= .str s) (i:=4*k) (j:=4*k+4) rfl (by show PV.raw (.int .i64 (4*(k:Int)))=_;rw[show(4*(k:Int))=((4*k:Nat):Int) by omega]) (by show PV.raw (.int .i64 (4*(k:Int)+4))=_;rw[show(4*(k:Int)+4)=((4*k+4:Nat):Int) by omega]) (by omega) (by omega) (by omega) ?_
   refine s_toBytes (ax:= .str ((s.drop (4*k)).take (4*k+4 - 4*k))) rfl (by rw[List.length_take,List.length_drop];omega) fun t=>?_
   have hcl:((s.drop (4*k)).take (4*k+4 - 4*k)).length=4:=by rw[List.length_take,List.length_drop];omega
   have hce: ∀ i (h:i < ((s.drop (4*k)).take (4*k+4 - 4*k)).length),((s.drop (4*k)).take (4*k+4 - 4*k))[i]=s.getD (4*k+i) 0:=fun i h=>by
    rw[List.getElem_take,List.getElem_drop,List.getD_eq_getElem?_getD,List.getElem?_eq_getElem (by omega)];rfl
   generalize (s.drop (4*k)).take (4*k+4 - 4*k)=cs at hcl hce ⊢
   refine walkW ?_
   refine pwp_loopS (σ:=Nat × Nat) (fun j=>j.1≤4∧j.2=(List.range j.1).foldl (fun v i=>byteW v (s.getD (4*k+i) 0)) 0) (fun j=>4 - j.1) (fun j=> [(0,.str s),(2,.raw (.pointer (some ⟨b,0,none⟩))),(3,.raw (.pointer (some ⟨b2,0,none⟩))),(4,.raw (.int .i64 k)),(9,.raw (.int .i64 k)),(21,.slice (cs.map eBy) t),(22,.raw (.int .i64 cs.length)),(23,.raw (.int .i64 j.1))]) (fun j=> .box b2 211 (eW (w.set k j.2)):: .box b 211 (eW (List.replicate 64 0))::LF) (0,0) ⟨by simp,rfl⟩ ⟨rfl,rfl,rfl,rfl,rfl,rfl,rfl,rfl⟩ (by dsimp only;rw[hz];exact .cons _ (.refl _)) ?_
   rintro⟨j,v⟩ ⟨hj,hv⟩
   dsimp only at hj hv ⊢
   refine walkW ?_
   refine pwp_condD (fun hc2=>?_) (fun hc2=>?_)
   ·have hj4:j < 4:=by omega
    have hsl:(w.set k v).length=64:=by rw[List.length_set,hw]
    have hkw:k < w.length:=by omega
    refine wf ?_
    refine walkW ?_
    refine⟨(j+1,byteW v (s.getD (4*k+j) 0)),⟨by dsimp only;omega,?_⟩,by dsimp only;omega,⟨rfl,rfl,rfl,rfl,rfl,rfl,rfl,rfl⟩,?_⟩
    ·dsimp only
     rw[foldl_range_succ,←hv]
    ·have e:(w.set k v).getD k 0=v:=by simp[List.getD,hkw]
     dsimp only
     rw[e,hce j (by omega),List.set_set]
     exact .refl _
   ·have hj4:j=4:=by omega
    subst hj4
    rw[word_bytes s k (by omega)]at hv
    refine walkW ?_
    refine⟨(k+1,w.set k v),⟨by dsimp only;omega,by dsimp only;rw[List.length_set,hw],by dsimp only;rw[schS_succ1 h16',←he,hv]⟩,by dsimp only;omega,⟨rfl,rfl,rfl,rfl⟩,.refl _⟩
  ·obtain⟨j,rfl⟩: ∃ j,k=j+16:=⟨k - 16,by omega⟩
   refine walkWn ?_
   refine pwp_drawQ (by decide+kernel) ?_
   refine walkWnp ?_
   refine pwp_drawN 29 ?_ ?_
   ·decide+kernel
   refine walkWp ?_
   refine⟨(j+16+1,w.set (j+16) (rSigma w j)),⟨by dsimp only;omega,by dsimp only;rw[List.length_set,hw],by dsimp only;rw[schS_succ2,←he]⟩,by dsimp only;omega,⟨rfl,rfl,rfl,rfl⟩,?_⟩
   dsimp only;rw[rSigma_int];exact .refl _
 ·refine walkW ?_
  refine endC rfl (.of_eq ?_) (hn:=(by rw[len_eW,hw]:(eW w).length=64))
  have hkk:k=64:=by omega
  subst hkk
  rw[he];rfl⟩
end Go.Proofs
namespace Go.Q
open Go
section
variable {P:Program} {N:Nat} {all:Array Oper} {K:Env→List Res→Prop} {fl:List Bool} {os:List Oper} {ρ:Env} {L:List Res} {d:Nat} {ty:TypeId} {pos:String} {af:Array Edge}
theorem s_indexA {T n E by_:Nat} [hT:TArr P T n E] [hE:TSz P E 1 by_] [hS:TScal P E] {x y:Operand} {l:List Nat} {i:Nat} {kk:IntKind} (hx:ρ.ev x= .agg (eW l)) (hy:ρ.ev y= .raw (.int kk (i:Int))) (hl:l.length=n) (hi:i < n)
  (k:pops P N all K fl.tail os (upd ρ d (.raw (.int .u32 ((l.getD i 0:Nat):Int)))) L) (hd:Nat.blt d N=true:=by rfl):pops P N all K fl (⟨some d,.index T x y,ty,pos,af,none⟩::os) ρ L:=
 step_q hd (qop_of_run fun a w g ha hi'=>⟨.int .u32 ((l.getD i 0:Nat):Int),by
  have h1:=ha x (by simp[Op.operands])
  rw[hx]at h1
  have h2:=evRaw ha (x:=y) (by simp[Op.operands]) hy
  obtain⟨z,z1,z2,_⟩:=hE.out
  show(do pure (Next.value (←Instr.index T (a.eval x) (a.eval y))):Sem Next).run P w=_
  rw[h2]
  generalize a.eval x=v at h1
  cases h1 with
  |agg hs hv=>
   rename_i vs
   have hil:i < l.length:=by omega
   have hiv:i < vs.size:=by rw[hs];simpa using hil
   have h3:vs[i]= .int .u32 ((l.getD i 0:Nat):Int):=by
    have:=hv i hiv (by simpa using hil)
    simp only[eW,List.getElem_map]at this
    rw[this.raw_inv]
    simp[List.getD,hil]
   have hn:(0:Int)≤(i:Int)∧(i:Int) < (n:Int):=⟨by omega,by omega⟩
   have hp:(part E vs ((i:Int).toNat*1)).run P w= .ok (.int .u32 ((l.getD i 0:Nat):Int)) w:=by
    unfold part
    rw[Sem.run_bind,isAgg_run_no hS.out,Int.toNat_natCast,Nat.mul_one]
    simp only[Result.andThen_ok,Bool.false_eq_true,if_false,Array.getElem?_eq_getElem hiv,h3,Sem.run_pure]
   simp only[Instr.index,asIntOf,Sem.run_bind,Sem.run_pure,Result.andThen_ok,run_und hT.out,hn,and_self,if_true,sizeOf,typeInfo,run_program,z1,z2,hp],.raw _⟩) k
end
end Go.Q
namespace Go.Proofs
open Go Go.Q
attribute [local irreducible] pwp pops PCalls OpN
def v8 (v:List Nat):List Nat:= [v.getD 0 0,v.getD 1 0,v.getD 2 0,v.getD 3 0,v.getD 4 0,v.getD 5 0,v.getD 6 0,v.getD 7 0]
theorem v8_eq {v:List Nat} (h:v.length=8):v8 v=v:=by
 match v,h with
 | [_,_,_,_,_,_,_,_],_=>rfl
set_option maxHeartbeats 4000000 in
instance compressP_ct (h:List Nat) (s:Str) [hs:Small (s.length=64)] [hh:Small (h.length=8)]:FnC Tryz.prog 130 [.agg (eW h),.str s] (.agg (eW (rStep h s))):=⟨by
 refine fn_of Tryz.func130 Tryz.ntmps130 rfl (rs:= [.cell 4 173]) rfl rfl fun hb LF=>?_
 have hl:=hh.out
 have hsl:=rSched_len s
 have j1:LenIs (eW (List.replicate 64 0)) 64:=⟨rfl⟩
 have j2:LenIs (eW (List.replicate 8 0)) 8:=⟨rfl⟩
 have j3:LenIs (eW h) 8:=⟨by rw[len_eW,hl]⟩
 have j4:LenIs (eW rK) 64:=⟨rfl⟩
 have j5:LenIs (eW (rSched s)) 64:=⟨by rw[len_eW,hsl]⟩
 have hkl:rK.length=64:=rfl
 refine walkWb fun b2=>?_
 refine walkWbp fun b4=>?_
 refine walkWbp fun b5=>?_
 refine walkWbp fun b6=>?_
 refine pwp_loopS (σ:=Nat × List Nat) (fun k=>k.1≤64∧k.2.length=8∧k.2=(List.range k.1).foldl (rRound (rSched s)) h) (fun k=>64 - k.1) (fun k=> [(2,.raw (.pointer (some ⟨b2,0,none⟩))),(4,.raw (.pointer (some ⟨b4,0,none⟩))),(5,.raw (.pointer (some ⟨b5,0,none⟩))),(6,.raw (.pointer (some ⟨b6,0,none⟩))),(7,.raw (.int .u32 ((k.2.getD 0 0:Nat):Int))),(8,.raw (.int .u32 ((k.2.getD 1 0:Nat):Int))),(9,.raw (.int .u32 ((k.2.getD 2 0:Nat):Int))),(10,.raw (.int .u32 ((k.2.getD 3 0:Nat):Int))),(11,.raw (.int .u32 ((k.2.getD 4 0:Nat):Int))),(12,.raw (.int .u32 ((k.2.getD 5 0:Nat):Int))),(13,.raw (.int .u32 ((k.2.getD 6 0:Nat):Int))),(14,.raw (.int .u32 ((k.2.getD 7 0:Nat):Int))),(39,.raw (.int .i64 k.1))]) (fun k=> .box b6 211 (eW rK):: .box b5 211 (eW (rSched s)):: .box b4 173 (eW (List.replicate 8 0)):: .box b2 173 (eW h)::LF) (0,h) ⟨by simp,hl,rfl⟩ ⟨rfl,rfl,rfl,rfl,rfl,rfl,rfl,rfl,rfl,rfl,rfl,rfl,rfl⟩ (.refl _) ?_
 rintro⟨k,v⟩ ⟨hk,hv,hve⟩
 dsimp only at hk hv hve ⊢
 refine walkW ?_
 refine pwp_condD (fun hc=>?_) (fun hc=>?_)
 ·refine walkW ?_
  refine⟨(k+1,rRound (rSched s) v k),⟨by dsimp only;omega,rfl,by dsimp only;rw[foldl_range_succ,←hve]⟩,by dsimp only;omega,⟨rfl,rfl,rfl,rfl,rfl,rfl,rfl,rfl,rfl,rfl,rfl,rfl,rfl⟩,.refl _⟩
 have hkk:k=64:=by omega
 subst hkk
 replace hve:v=rRounds h s:=hve
 have hv8:=v8_eq hv
 refine walkW ?_
 refine s_buildWe [.tmp 102,.tmp 103,.tmp 104,.tmp 105,.tmp 106,.tmp 107,.tmp 108,.tmp 109] (v8 v) rfl (hx8 (by rfl) (by rfl) (by rfl) (by rfl) (by rfl) (by rfl) (by rfl) (by rfl)) (by simp[v8]) (by simp[v8]) ?_
 rw[hv8]
 refine walkW ?_
 refine pwp_loopS (σ:=Nat × List Nat) (fun k=>k.1≤8∧k.2.length=8∧k.2=(List.range k.1).foldl (rAdd8 (rRounds h s)) h) (fun k=>8 - k.1) (fun k=> [(2,.raw (.pointer (some ⟨b2,0,none⟩))),(4,.raw (.pointer (some ⟨b4,0,none⟩))),(110,.agg (eW v)),(111,.raw (.int .i64 k.1))]) (fun k=> .box b4 173 (eW (List.replicate 8 0)):: .box b2 173 (eW k.2)::LF) (0,h) ⟨by simp,hl,rfl⟩ ⟨rfl,rfl,rfl,rfl⟩ (.cons _ (.cons _ (.refl _))) ?_
 rintro⟨k,x⟩ ⟨hk,hx,hxe⟩
 dsimp only at hk hx hxe ⊢
 have j8:LenIs (eW x) 8:=⟨by rw[len_eW,hx]⟩
 refine walkW ?_
 refine pwp_condD (fun hc=>?_) (fun hc=>?_)
 ·refine walkW ?_
  refine s_indexA rfl rfl hv (by omega) ?_
  refine walkW ?_
  refine⟨(k+1,x.set k (addW (x.getD k 0) ((rRounds h s).getD k 0))),⟨by dsimp only;omega,by dsimp only;rw[List.length_set,hx],by dsimp only;rw[foldl_range_succ,←hxe];rfl⟩,by dsimp only;omega,⟨rfl,rfl,rfl,rfl⟩,?_⟩
  rw[←hve]
  exact .refl _
 ·refine walkW ?_
  refine endC rfl (.of_eq ?_) (hn:=(by rw[len_eW,hx]:(eW x).length=8))
  have hkk:k=8:=by omega
  subst hkk
  rw[rStep,hxe]⟩
end Go.Proofs
namespace Go.Q
open Go
section
variable {P:Program} {N:Nat} {all:Array Oper} {K:Env→List Res→Prop} {fl:List Bool} {os:List Oper} {ρ:Env} {L:List Res} {d:Nat} {ty:TypeId} {pos:String} {af:Array Edge}
theorem s_shrUI {T T':TypeId} {x y:Operand} {a b:Nat} (hx:ρ.ev x= .raw (.int .u64 (a:Int))) (hy:ρ.ev y= .raw (.int .i64 (b:Int))) (k:pops P N all K fl.tail os (upd ρ d (.raw (.int .u64 ((a / 2 ^ (min b 64):Nat):Int)))) L) (hd:Nat.blt d N=true:=by rfl):
  pops P N all K fl (⟨some d,.binOp .shr T x y T',ty,pos,af,none⟩::os) ρ L:=s_int hx hy (fun w=>by
   have h0: ¬(b:Int) < 0:=by omega
   simp only[binOp,Op.shift,h0,if_false,IntKind.bits,Int.toNat_natCast]
   rw[fdiv_pow];rfl) k hd
theorem s_cutLH {T E sz by_:Nat} [hT:TSl P T E] [hE:TSz P E sz by_] {x y z:Operand} {α:Type} {f:α→List PV} [hf:Len f sz] {l:List α} {t:Tag} {k1 k2:IntKind} {i j:Nat} (hx:ρ.ev x= .slice (l.map f) t) (hy:ρ.ev y= .raw (.int k1 (i:Int))) (hz:ρ.ev z= .raw (.int k2 (j:Int))) (hij:i≤j) (hj:j≤l.length)
  (k:pops P N all K fl.tail os (upd ρ d (.slice (((l.drop i).take (j - i)).map f) .ro)) L) (hd:Nat.blt d N=true:=by rfl):pops P N all K fl (⟨some d,.slice T x (some y) (some z) none,ty,pos,af,none⟩::os) ρ L:=
 step_q hd (qop_cut i j hx hij (by simpa using hj) (fun e he=>by obtain⟨a,_,rfl⟩:=List.mem_map.1 he;exact hf.out a) (fun o e=>by cases e;exact⟨_,hy⟩) (by simp) (fun o e=>by cases e;exact⟨_,hz⟩) (by simp)) (by
  rw[←List.map_drop,←List.map_take];exact k)
end
end Go.Q
namespace Go.Proofs
open Go Go.Q
attribute [local irreducible] pwp pops PCalls OpN
def blk (m:Str) (k:Nat):Str:=(m.drop (64*k)).take 64
def eS1 (s:Str):List PV:= [.str s]
def blks (s:Str):List Str:=(List.range ((rPad s).length / 64)).map (blk (rPad s))
theorem rPad_mod (s:Str):(rPad s).length % 64=0:=by rw[rPad_len];omega
theorem rPad_split (s:Str) (n:Nat) (h:n≤s.length):(rPad s).drop n=(s.drop n++ [128])++List.replicate ((120 - (s.length+1) % 64) % 64) 0++padTail (s.length*8) 8:=by
 unfold rPad
 rw[List.append_assoc,List.append_assoc,List.drop_append_of_le_length h,List.append_assoc,List.append_assoc]
theorem blk_whole {s:Str} {k:Nat} (h:64*k+64≤s.length):blk (rPad s) k=(s.drop (64*k)).take 64:=by
 unfold blk
 rw[rPad_split s (64*k) (by omega),List.append_assoc,List.append_assoc,List.take_append_of_le_length (by rw[List.length_drop];omega)]
theorem blks_take (s:Str) {k:Nat} (h:k < (rPad s).length / 64):(blks s).take (k+1)=(blks s).take k++ [blk (rPad s) k]:=by
 have hl:k < (blks s).length:=by simpa [blks]using h
 rw[List.take_succ_eq_append_getElem hl]
 simp[blks]
theorem padTail_succ (n j:Nat):padTail n (j+1)=padTail n j++ [UInt8.ofNat (n / 2 ^ (min (8*(7 - j)) 64))]:=by
 rw[padTail,padTail,List.range_succ,List.map_append];rfl
set_option maxHeartbeats 4000000 in
theorem blocks_iter (s:Str) (hs:s.length≤1000000):PIter Tryz.prog 170 [.pt [.str s] 0] eS1 (blks s):=by
 have hpl:=rPad_len s
 have hpm:=rPad_mod s
 obtain⟨q,hq⟩: ∃ q,q=s.length / 64:=⟨_,rfl⟩
 have hq1:64*q≤s.length:=by omega
 have hq2:s.length < 64*q+64:=by omega
 have hn:q < (rPad s).length / 64:=by omega
 intro l J Jx hY L hJ
 have e128:EncC (.raw (.int .u8 128)) eBy (128:UInt8):=(inferInstance:EncC (.raw (.int .u8 (((128:UInt8)).toNat:Int))) eBy 128)
 have e0:EncC (.raw (.int .u8 0)) eBy (0:UInt8):=(inferInstance:EncC (.raw (.int .u8 (((0:UInt8)).toNat:Int))) eBy 0)
 have hpre: ∀ k,(blks s).take k <+:blks s:=fun k=>List.take_prefix _ _
 refine pcalls_bd Tryz.func170 rfl Tryz.ntmps170 (rs:= []) rfl rfl fun hb LF=>?_
 refine wf ?_
 refine s_quoL (by rfl) (by rfl) (by decide) (by omega) ?_
 rw[show s.length / (@OfNat.ofNat Nat 64 _)=q from hq.symm]
 refine wf ?_
 refine pwp_loopS (σ:=Nat × List Res) (fun k=>k.1≤q∧J ((blks s).take k.1) k.2) (fun k=>q - k.1) (fun k=> [(0,.raw (.func (.yield l) #[] #[])),(1,.pt [.str s] 0),(3,.raw (.int .i64 ((64*q:Nat):Int))),(4,.raw (.int .i64 ((64*k.1:Nat):Int)))]) (fun k=>k.2++LF) (0,L) ⟨by simp,hJ⟩ ⟨rfl,rfl,?_,rfl⟩ (.refl _) ?_
 ·show PV.raw (.int .i64 ((q:Int)*64))=_
  rw[show((q:Int)*64)=((64*q:Nat):Int) by omega]
 rintro⟨k,L1⟩ ⟨hk,hJ1⟩
 dsimp only at hk hJ1 ⊢
 refine wf ?_
 refine pwp_condD (fun hc=>?_) (fun hc=>?_)
 ·have hkq:k < q:=by omega
  have hb:=blk_whole (s:=s) (k:=k) (by omega)
  have hbt:=blks_take s (k:=k) (by omega)
  refine wf ?_
  refine s_cutS (ax:= .str s) (i:=64*k) (j:=64*k+64) rfl rfl (by show PV.raw (.int .i64 (((64*k:Nat):Int)+64))=_;rw[show(((64*k:Nat):Int)+64)=((64*k+64:Nat):Int) by omega]) (by omega) (by omega) (by omega) ?_
  rw[show 64*k+64 - 64*k=64 by omega,←hb]
  refine s_yield L1 LF rfl rfl rfl (.refl _) _ (hY ((blks s).take k) (blk (rPad s) k) L1 (by rw[←hbt];exact hpre _) hJ1) fun bo L' hR=>?_
  refine wf ?_
  rw[←hbt]at hR
  rcases hR with ⟨rfl,hJ2⟩|⟨rfl,hJx⟩
  ·refine wf ?_
   refine⟨(k+1,L'),⟨by dsimp only;omega,hJ2⟩,by dsimp only;omega,⟨rfl,rfl,rfl,?_⟩,.refl _⟩
   show PV.raw (.int .i64 (((64*k:Nat):Int)+64))=_
   rw[show(((64*k:Nat):Int)+64)=((64*(k+1):Nat):Int) by omega]
  ·refine wf ?_
   exact⟨trivial,_,L',.nil,.refl _,.inr ⟨_,hJx⟩⟩
 ·have hkq:k=q:=by omega
  subst hkq
  refine wf ?_
  refine s_toBytes (ax:= .str (s.drop (64*k))) rfl (by rw[List.length_drop];omega) fun t=>?_
  refine wfa fun t1=>?_
  have hdl:(s.drop (64*k)).length=s.length - 64*k:=List.length_drop
  refine pwp_loopS (σ:=Nat × Tag) (fun j=>j.1≤(120 - (s.length+1) % 64) % 64) (fun j=>(120 - (s.length+1) % 64) % 64 - j.1) (fun j=> [(0,.raw (.func (.yield l) #[] #[])),(1,.pt [.str s] 0),(5,.slice (((s.drop (64*k)++ [128])++List.replicate j.1 0).map eBy) j.2)]) (fun j=> .tok j.2 ((s.drop (64*k)++ [128])++List.replicate j.1 0).length 1::(L1++LF)) (0,t1) (by simp) ⟨rfl,rfl,?_⟩ ?_ ?_
  ·rw[List.replicate_zero,List.append_nil];rfl
  ·rw[List.replicate_zero,List.append_nil];exact .refl _
  rintro⟨j,t2⟩ hj
  dsimp only at hj ⊢
  have hjl:((s.drop (64*k)++ [128])++List.replicate j (0:UInt8)).length=s.length - 64*k+1+j:=by simp[hdl];omega
  refine wf ?_
  refine s_remL (by rfl) (by rfl) (by decide) ?_
  refine wf ?_
  refine pwp_condN (fun hc2=>?_) (fun hc2=>?_)
  ·have hlt:j < (120 - (s.length+1) % 64) % 64:=by
    rcases Nat.lt_or_ge j ((120 - (s.length+1) % 64) % 64)with h|h
    ·exact h
    ·exfalso
     apply hc2
     rw[hjl]
     omega
   generalize hmj:(s.drop (64*k)++ [128])++List.replicate j (0:UInt8)=mj at hjl ⊢
   refine wfa fun t3=>?_
   refine⟨(j+1,t3),by dsimp only;omega,by dsimp only;omega,⟨rfl,rfl,?_⟩,?_⟩
   ·dsimp only
    rw[List.replicate_succ',←List.append_assoc,hmj];rfl
   ·dsimp only
    rw[List.replicate_succ',←List.append_assoc,hmj];exact .refl _
  have hjz:j=(120 - (s.length+1) % 64) % 64:=by
   rw[hjl]at hc2
   omega
  subst hjz
  generalize hm0:(s.drop (64*k)++ [128])++List.replicate ((120 - (s.length+1) % 64) % 64) (0:UInt8)=m0 at hjl ⊢
  refine wf ?_
  refine pwp_loopS (σ:=Nat × Tag) (fun j=>j.1≤8) (fun j=>8 - j.1) (fun j=> [(0,.raw (.func (.yield l) #[] #[])),(1,.pt [.str s] 0),(5,.slice ((m0++padTail (s.length*8) j.1).map eBy) j.2),(6,.raw (.int .i64 (56 - 8*(j.1:Int))))]) (fun j=> .tok j.2 (m0++padTail (s.length*8) j.1).length 1::(L1++LF)) (0,t2) (by simp) ⟨rfl,rfl,?_,rfl⟩ ?_ ?_
  ·show _=PV.slice ((m0++ []).map eBy) _
   rw[List.append_nil];rfl
  ·show List.Sublist (_::_) (_::_)
   rw[show m0++padTail (s.length*8) 0=m0 from List.append_nil _];exact .refl _
  rintro⟨j,t3⟩ hj8
  dsimp only at hj8 ⊢
  have hpt:(m0++padTail (s.length*8) j).length=s.length - 64*k+1+(120 - (s.length+1) % 64) % 64+j:=by simp[padTail,hjl]
  refine wf ?_
  refine pwp_condD (fun hc3=>?_) (fun hc3=>?_)
  ·generalize hmj:m0++padTail (s.length*8) j=mj at hpt ⊢
   refine wf ?_
   refine s_mulU (b:=8) (by rfl) (by rfl) (by omega) ?_
   refine wf ?_
   refine s_shrUI (b:=8*(7 - j)) (by rfl) (by show PV.raw (.int .i64 (56 - 8*(j:Int)))=_;rw[show(56 - 8*(j:Int))=((8*(7 - j):Nat):Int) by omega]) ?_
   refine wfa fun t4=>?_
   refine⟨(j+1,t4),by dsimp only;omega,by dsimp only;omega,⟨rfl,rfl,?_,?_⟩,?_⟩
   ·dsimp only
    rw[padTail_succ,←List.append_assoc,hmj];rfl
   ·show PV.raw (.int .i64 (56 - 8*(j:Int) - 8))=PV.raw (.int .i64 (56 - 8*((j+1:Nat):Int)))
    rw[show(56 - 8*(j:Int) - 8)=56 - 8*((j+1:Nat):Int) by omega]
   ·dsimp only
    rw[padTail_succ,←List.append_assoc,hmj];exact .refl _
  have hj:j=8:=by omega
  subst hj
  have hm1:m0++padTail (s.length*8) 8=(rPad s).drop (64*k):=by rw[rPad_split s (64*k) hq1,←hm0]
  rw[hm1]at hpt ⊢
  refine wf ?_
  refine pwp_loopS (σ:=Nat × List Res) (fun i=>k+i.1≤(rPad s).length / 64∧J ((blks s).take (k+i.1)) i.2) (fun i=>(rPad s).length / 64 - (k+i.1)) (fun i=> [(0,.raw (.func (.yield l) #[] #[])),(5,.slice (((rPad s).drop (64*k)).map eBy) t3),(7,.raw (.int .i64 ((64*i.1:Nat):Int)))]) (fun i=>i.2++LF) (0,L1) ⟨by dsimp only;omega,hJ1⟩ ⟨rfl,rfl,rfl⟩ (.cons _ (.refl _)) ?_
  rintro⟨i,L2⟩ ⟨hi,hJ2⟩
  dsimp only at hi hJ2 ⊢
  refine wf ?_
  refine pwp_condD (fun hc4=>?_) (fun hc4=>?_)
  ·have hbt:=blks_take s (k:=k+i) (by omega)
   refine wf ?_
   refine s_cutLH (i:=64*i) (j:=64*i+64) rfl rfl (by show PV.raw (.int .i64 (((64*i:Nat):Int)+64))=_;rw[show(((64*i:Nat):Int)+64)=((64*i+64:Nat):Int) by omega]) (by omega) (by omega) ?_
   refine wf ?_
   have e:(((rPad s).drop (64*k)).drop (64*i)).take (64*i+64 - 64*i)=blk (rPad s) (k+i):=by
    rw[List.drop_drop,blk,show 64*i+64 - 64*i=64 by omega,show 64*k+64*i=64*(k+i) by omega]
   rw[e]
   refine s_yield L2 LF rfl rfl rfl (.refl _) _ (hY ((blks s).take (k+i)) (blk (rPad s) (k+i)) L2 (by rw[←hbt];exact hpre _) hJ2) fun bo L' hR=>?_
   refine wf ?_
   rw[←hbt]at hR
   rcases hR with ⟨rfl,hJ3⟩|⟨rfl,hJx⟩
   ·refine wf ?_
    refine⟨(i+1,L'),⟨by dsimp only;omega,hJ3⟩,by dsimp only;omega,⟨rfl,rfl,?_⟩,.refl _⟩
    show PV.raw (.int .i64 (((64*i:Nat):Int)+64))=_
    rw[show(((64*i:Nat):Int)+64)=((64*(i+1):Nat):Int) by omega]
   ·refine wf ?_
    exact⟨trivial,_,L',.nil,.refl _,.inr ⟨_,hJx⟩⟩
  ·have hie:k+i=(rPad s).length / 64:=by omega
   rw[hie,List.take_of_length_le (by simp[blks])]at hJ2
   refine wf ?_
   exact⟨trivial,_,L2,.nil,.refl _,.inl hJ2⟩
end Go.Proofs
