/- Plain laws: depths; tops. -/
import Derived.Test.YtmkdlelpipefbaaGreatDoorUaq
import Derived.Test.YtmkdlelpipefbaaGreatDoorUap
import Derived.Test.YtmkdlelpipefbaaGreatDoorUan
import Derived.Test.YtmkdlelpipefbaaGreatDoorUao
import Derived.Test.YtmkdlelpipefbaaGreatDoorUam
set_option linter.unusedSimpArgs false
set_option linter.unusedVariables false
namespace Go.Proofs
open Go Go.Q
theorem snocInd {motive:List Dig→Prop} (nil:motive []) (snoc: ∀ l x,motive l→motive (l++ [x])) (l:List Dig):motive l:=by
 have h: ∀ m:List Dig,motive m.reverse:=fun m=>by
  induction m with
  |nil=>exact nil
  |cons x m ih=>rw[List.reverse_cons];exact snoc _ x ih
 have:=h l.reverse
 rwa [List.reverse_reverse]at this
def mxF (f:Dig→Nat) (l:List Dig):Nat:=l.foldl (fun n d=>max n (1+f d)) 1
theorem mx_fold (f:Dig→Nat): ∀ (l:List Dig) (a:Nat),a≤l.foldl (fun n d=>max n (1+f d)) a∧(∀ d∈l,1+f d≤l.foldl (fun n d=>max n (1+f d)) a)∧(l.foldl (fun n d=>max n (1+f d)) a=a∨ ∃ d∈l,l.foldl (fun n d=>max n (1+f d)) a=1+f d)
 | [],a=>⟨Nat.le_refl _,by simp,.inl rfl⟩
 |x::l,a=>by
  obtain⟨h1,h2,h3⟩:=mx_fold f l (max a (1+f x))
  simp only[List.foldl_cons]
  refine⟨by omega,fun d hd=>?_,?_⟩
  ·rcases List.mem_cons.1 hd with rfl|hd
   ·omega
   ·exact h2 d hd
  ·rcases h3 with h3|⟨d,hd,h3⟩
   ·rw[h3]
    rcases Nat.le_total a (1+f x)with h|h
    ·exact .inr ⟨x,by simp,by omega⟩
    ·exact .inl (by omega)
   ·exact .inr ⟨d,by simp[hd],h3⟩
theorem mxF_pos (f:Dig→Nat) (l:List Dig):1≤mxF f l:=(mx_fold f l 1).1
theorem mxF_le {f:Dig→Nat} {l:List Dig} {d:Dig} (h:d∈l):1+f d≤mxF f l:=(mx_fold f l 1).2.1 d h
theorem mxF_at (f:Dig→Nat) (l:List Dig):mxF f l=1∨ ∃ d∈l,mxF f l=1+f d:=(mx_fold f l 1).2.2
def dMap (s:List Sto):List Dig→List (Dig × Int)
 |l=>l.foldl (fun m d=>mSet d ((mxF (fun x=>((mGet x m).getD 0).toNat) (ndS s d):Nat):Int) m) []
def depI (s:List Sto) (m:List (Dig × Int)) (d:Dig):Nat:=mxF (fun x=>((mGet x m).getD 0).toNat) (ndS s d)
theorem dMap_append (s:List Sto) (l:List Dig) (d:Dig):dMap s (l++ [d])=mSet d (depI s (dMap s l) d:Int) (dMap s l):=by
 simp[dMap,depI,List.foldl_append]
def depD (s:List Sto) (d:Dig):Nat:=((mGet d (dMap s (rOrder s))).getD 0).toNat
theorem dMap_none {s:List Sto} {d:Dig}: ∀ {l:List Dig},d∉l→mGet d (dMap s l)=none:=fun {l}=>by
 induction l using snocInd with
 |nil=>intro _;rfl
 |snoc l x ih=>
  intro h
  rw[dMap_append,mGet_mSet,if_neg fun e=>h (by simp[e])]
  exact ih fun hm=>h (by simp[hm])
theorem dMap_pos {s:List Sto} {d:Dig} {v:Int}: ∀ {l:List Dig},mGet d (dMap s l)=some v→1≤v:=fun {l}=>by
 induction l using snocInd with
 |nil=>intro h;simp[dMap,mGet]at h
 |snoc l x ih=>
  intro h
  rw[dMap_append,mGet_mSet]at h
  split at h
  ·have:=Option.some.inj h
   have h2:=mxF_pos (fun x=>((mGet x (dMap s l)).getD 0).toNat) (ndS s x)
   unfold depI at this
   omega
  ·exact ih h
theorem dMap_keep {s:List Sto} {d:Dig}: ∀ {l m:List Dig},d∉m→mGet d (dMap s (l++m))=mGet d (dMap s l):=fun {l m}=>by
 induction m using snocInd with
 |nil=>intro _;rw[List.append_nil]
 |snoc m x ih=>
  intro h
  rw[←List.append_assoc,dMap_append,mGet_mSet,if_neg fun e=>h (by simp[e])]
  exact ih fun hm=>h (by simp[hm])
theorem mxF_congr {f g:Dig→Nat} {l:List Dig} (h: ∀ d∈l,f d=g d):mxF f l=mxF g l:=by
 unfold mxF
 suffices ∀ a,l.foldl (fun n d=>max n (1+f d)) a=l.foldl (fun n d=>max n (1+g d)) a from this 1
 intro a
 induction l generalizing a with
 |nil=>rfl
 |cons x l ih=>
  simp only[List.foldl_cons]
  rw[h x (by simp),ih fun d hd=>h d (by simp[hd])]
theorem Lin.take_at {s:List Sto} {l:List Dig} (h:Lin s l) {i:Nat} (hi:i < l.length):mGet l[i] (dMap s l)=some (depI s (dMap s (l.take i)) l[i]:Int)∧ ∀ x∈ndS s l[i],mGet x (dMap s (l.take i))=mGet x (dMap s l):=by
 have e1:l=l.take (i+1)++l.drop (i+1):=(List.take_append_drop _ _).symm
 have e2:l=l.take i++l.drop i:=(List.take_append_drop _ _).symm
 have hn: ∀ d∈l.take i,d∉l.drop i:=fun d hd hd2=>by
  have:=h.nodup
  rw[e2,List.nodup_append]at this
  exact this.2.2 d hd d hd2 rfl
 have hn2:l[i]∉l.drop (i+1):=fun hd2=>by
  have:=h.nodup
  rw[e1,List.nodup_append]at this
  exact this.2.2 l[i] (List.mem_take_iff_getElem.2 ⟨i,by omega,rfl⟩) _ hd2 rfl
 refine⟨?_,fun x hx=>?_⟩
 ·have e3:dMap s l=dMap s (l.take (i+1)++l.drop (i+1)):=congrArg (dMap s) e1
  rw[e3,dMap_keep hn2,List.take_succ_eq_append_getElem hi,dMap_append,mGet_mSet,if_pos rfl]
 ·have:=h.need i hi x hx
  have e3:dMap s l=dMap s (l.take i++l.drop i):=congrArg (dMap s) e2
  rw[e3,dMap_keep (hn x this)]
theorem depD_eq {s:List Sto} (v:Valid s) {d:Dig} (hd:d∈ids s):mGet d (dMap s (rOrder s))=some (depD s d:Int)∧depD s d=mxF (depD s) (ndS s d):=by
 have h:=order_lin v
 obtain⟨i,hi,rfl⟩:=List.mem_iff_getElem.1 ((h.mem d).2 hd)
 obtain⟨h1,h2⟩:=h.take_at hi
 have h3:depD s (rOrder s)[i]=depI s (dMap s ((rOrder s).take i)) (rOrder s)[i]:=by unfold depD;rw[h1];simp
 refine⟨by rw[h1,h3],?_⟩
 rw[h3]
 unfold depI
 exact mxF_congr fun x hx=>by rw[h2 x hx];rfl
theorem depD_pos {s:List Sto} (v:Valid s) {d:Dig} (hd:d∈ids s):1≤depD s d:=by rw[(depD_eq v hd).2];exact mxF_pos _ _
theorem depD_need {s:List Sto} (v:Valid s) {d n:Dig} (hd:d∈ids s) (hn:n∈ndS s d):depD s n < depD s d:=by
 have:=mxF_le (f:=depD s) hn
 rw[←(depD_eq v hd).2]at this
 omega
theorem depD_reach {s:List Sto} (v:Valid s) {d:Dig} (hd:d∈ids s) {x:Dig} (h:Q.Reach (ndS s) [d] x):x=d∨depD s x < depD s d:=by
 have hcl: ∀ x∈ids s,∀ d∈ndS s x,d∈ids s:=fun x _ d hd=>v.close.nd x d hd
 have hl: ∀ x∈ [d],x∈ids s:=fun x hx=>by rw[List.mem_singleton.1 hx];exact hd
 induction h with
 |base h=>exact .inl (List.mem_singleton.1 h)
 |step hr hn ih=>
  have hin:=hr.in_ hcl hl
  have:=depD_need v hin hn
  rcases ih with rfl|ih
  ·exact .inr this
  ·exact .inr (by omega)
theorem depD_chain {s:List Sto} (v:Valid s): ∀ (n:Nat) {d:Dig} (_:d∈ids s) (_:depD s d=n) (k:Nat),1≤k→k≤n→ ∃ x,Q.Reach (ndS s) [d] x∧depD s x=k:=fun n=>by
 induction n using Nat.strongRecOn with
 |_ n ih=>
  intro d hd e k h1 hk
  by_cases hkn:k=n
  ·exact⟨d,.base (by simp),by omega⟩
  have h2:=(depD_eq v hd).2
  rcases mxF_at (depD s) (ndS s d)with h3|⟨x,hx,h3⟩
  ·omega
  ·have hxi:x∈ids s:=v.close.nd d x hx
   obtain⟨y,hy,e2⟩:=ih (depD s x) (by omega) hxi rfl k h1 (by omega)
   refine⟨y,?_,e2⟩
   clear e2
   induction hy with
   |base h=>rw[List.mem_singleton.1 h];exact .step (.base (by simp)) hx
   |step _ h ih2=>exact .step ih2 h
def topP (s:List Sto) (x:Sto):Bool:=s.all fun y=>decide (x.id∉rNeeds y.patch)
def rTops (s:List Sto):List Dig:=(s.filter (topP s)).map (·.id)
theorem tops_sub (s:List Sto):(rTops s).Sublist (ids s):=(List.filter_sublist).map _
theorem mem_tops {s:List Sto} {d:Dig}:d∈rTops s↔d∈ids s∧ ∀ y∈s,d∉rNeeds y.patch:=by
 unfold rTops topP
 rw[List.mem_map]
 constructor
 ·rintro⟨x,hx,rfl⟩
  obtain⟨h1,h2⟩:=List.mem_filter.1 hx
  exact⟨List.mem_map.2 ⟨x,h1,rfl⟩,fun y hy=>by simpa using List.all_eq_true.1 h2 y hy⟩
 ·rintro⟨h1,h2⟩
  obtain⟨x,hx,rfl⟩:=List.mem_map.1 h1
  exact⟨x,List.mem_filter.2 ⟨hx,List.all_eq_true.2 fun y hy=>by simpa using h2 y hy⟩,rfl⟩
theorem tops_all {s:List Sto} (v:Valid s): ∀ (n:Nat) {d:Dig},d∈ids s→(rOrder s).length - (rOrder s).idxOf d=n→Q.Reach (ndS s) (rTops s) d:=fun n=>by
 induction n using Nat.strongRecOn with
 |_ n ih=>
  intro d hd e
  by_cases h: ∀ y∈s,d∉rNeeds y.patch
  ·exact .base (mem_tops.2 ⟨hd,h⟩)
  ·simp only[Classical.not_forall,not_imp,Classical.not_not]at h
   obtain⟨y,hy,hn⟩:=h
   have hyi:y.id∈ids s:=List.mem_map.2 ⟨y,hy,rfl⟩
   have hL:=order_lin v
   have h1:=(hL.mem y.id).2 hyi
   have hk:(rOrder s).idxOf y.id < (rOrder s).length:=List.idxOf_lt_length_iff.2 h1
   have h2:=hL.need _ hk d (by rw[List.getElem_idxOf hk,v.ndS hy];exact hn)
   obtain⟨j,hj,e2⟩:=List.mem_take_iff_getElem.1 h2
   have hdk:(rOrder s).idxOf d < (rOrder s).length:=List.idxOf_lt_length_iff.2 ((hL.mem d).2 hd)
   have e3:(rOrder s).idxOf d=j:=(List.getElem_inj hL.nodup).1 ((List.getElem_idxOf hdk).trans e2.symm)
   have:=ih ((rOrder s).length - (rOrder s).idxOf y.id) (by omega) hyi rfl
   exact .step this (by rw[v.ndS hy];exact hn)
theorem tops_apart {s:List Sto} {l:List Dig} {d:Dig} (hd:d∈rTops s) (h:Q.Reach (ndS s) l d):d∈l:=by
 cases h with
 |base h=>exact h
 |step hr hn=>
  rename_i x
  unfold ndS at hn
  cases hg:getS s x with
  |none=>rw[hg,Option.getD_none,needs_zero]at hn;cases hn
  |some p=>
   rw[hg,Option.getD_some]at hn
   exact absurd hn ((mem_tops.1 hd).2 _ (getS_mem' hg))
end Go.Proofs
namespace Go.Proofs
open Go Go.Q
def candS (s:List Sto) (out:List Dig):List Sto:=s.filter (eligR out)
def minS:List Sto→Option Sto
 | []=>none
 |x::l=>some (l.foldl (fun b y=>if lessS y b=true then y else b) x)
def logF (s:List Sto):Nat→List Dig→List Dig
 |0,out=>out
 |n+1,out=>match minS (candS s out)with
  |none=>out
  |some x=>logF s n (out++ [x.id])
def rLog (s:List Sto):List Dig:=logF s s.length []
theorem min_fold: ∀ (l:List Sto) (a:Sto),(l.foldl (fun b y=>if lessS y b=true then y else b) a=a∨l.foldl (fun b y=>if lessS y b=true then y else b) a∈l)∧LeS (l.foldl (fun b y=>if lessS y b=true then y else b) a) a∧ ∀ y∈l,LeS (l.foldl (fun b y=>if lessS y b=true then y else b) a) y
 | [],a=>⟨.inl rfl,.refl _,by simp⟩
 |x::l,a=>by
  simp only[List.foldl_cons]
  by_cases h:lessS x a=true
  ·rw[if_pos h]
   obtain⟨h1,h2,h3⟩:=min_fold l x
   refine⟨?_,h2.trans (.of_less h),fun y hy=>?_⟩
   ·rcases h1 with h1|h1
    ·exact .inr (by rw[h1];simp)
    ·exact .inr (by simp[h1])
   ·rcases List.mem_cons.1 hy with rfl|hy
    ·exact h2
    ·exact h3 y hy
  ·rw[if_neg h]
   obtain⟨h1,h2,h3⟩:=min_fold l a
   have hx:LeS a x:=by unfold LeS;simpa using h
   refine⟨?_,h2,fun y hy=>?_⟩
   ·rcases h1 with h1|h1
    ·exact .inl h1
    ·exact .inr (by simp[h1])
   ·rcases List.mem_cons.1 hy with rfl|hy
    ·exact h2.trans hx
    ·exact h3 y hy
theorem minS_some {l:List Sto} {x:Sto} (h:minS l=some x):x∈l∧ ∀ y∈l,LeS x y:=by
 cases l with
 |nil=>cases h
 |cons a l=>
  have e:=Option.some.inj h
  obtain⟨h1,h2,h3⟩:=min_fold l a
  rw[e]at h1 h2 h3
  refine⟨?_,fun y hy=>?_⟩
  ·rcases h1 with h1|h1
   ·rw[h1];simp
   ·simp[h1]
  ·rcases List.mem_cons.1 hy with rfl|hy
   ·exact h2
   ·exact h3 y hy
theorem minS_eq {s:List Sto} (ha:Asc (ids s)) {l:List Sto} (hs: ∀ y∈l,y∈s) {x:Sto} (hx:x∈l) (h: ∀ y∈l,LeS x y):minS l=some x:=by
 cases hm:minS l with
 |none=>
  cases l with
  |nil=>cases hx
  |cons a l=>cases hm
 |some z=>
  obtain⟨h1,h2⟩:=minS_some hm
  by_cases e:x.id=z.id
  ·rw[sto_unique ha (hs x hx) (hs z h1) e]
  ·have a:=(h z h1).less e
   have b:=h2 x hx
   unfold LeS at b
   rw[a]at b;cases b
theorem mem_cand {s:List Sto} {out:List Dig} {x:Sto}:x∈candS s out↔x∈s∧x.id∉out∧ ∀ d∈rNeeds x.patch,d∈out:=by
 unfold candS eligR
 rw[List.mem_filter,decide_eq_true_eq,allIn_iff]
structure LogAt (s:List Sto) (l:List Dig):Prop where
 step: ∀ j (h:j < l.length),∃ x∈s,x.id=l[j]∧minS (candS s (l.take j))=some x
theorem LogAt.new {s:List Sto} {l:List Dig} (h:LogAt s l):l.Nodup:=nodup_of_take fun j hj=>by
 obtain⟨x,_,e,hm⟩:=h.step j hj
 have:=(mem_cand.1 (minS_some hm).1).2.1
 rwa [e]at this
theorem LogAt.sub {s:List Sto} {l:List Dig} (h:LogAt s l): ∀ d∈l,d∈ids s:=fun d hd=>by
 obtain⟨j,hj,rfl⟩:=List.mem_iff_getElem.1 hd
 obtain⟨x,hx,e,_⟩:=h.step j hj
 exact List.mem_map.2 ⟨x,hx,e⟩
theorem LogAt.snoc {s:List Sto} {l:List Dig} (h:LogAt s l) {x:Sto} (hm:minS (candS s l)=some x):LogAt s (l++ [x.id]):=⟨fun j hj=>by
 rw[List.length_append,List.length_singleton]at hj
 by_cases hl:j < l.length
 ·obtain⟨y,hy,e,h2⟩:=h.step j hl
  exact⟨y,hy,by rw[List.getElem_append_left hl];exact e,by rw[List.take_append_of_le_length (by omega)];exact h2⟩
 ·obtain rfl:j=l.length:=by omega
  exact⟨x,(mem_cand.1 (minS_some hm).1).1,by simp,by simpa using hm⟩⟩
theorem cand_some {s:List Sto} (v:Valid s) {out:List Dig} (hn:out.Nodup) (hs: ∀ d∈out,d∈ids s) (hl:out.length < s.length): ∃ x,minS (candS s out)=some x:=by
 cases hm:minS (candS s out)with
 |some x=>exact⟨x,rfl⟩
 |none=>
  exfalso
  have he:candS s out= []:=by
   cases hc:candS s out with
   |nil=>rfl
   |cons a l=>rw[hc]at hm;cases hm
  have hno: ∀ x∈s,¬(x.id∉out∧ ∀ d∈rNeeds x.patch,d∈out):=fun x hx h=>by
   have:=mem_cand.2 ⟨hx,h⟩
   rw[he]at this;cases this
  have hL:=order_lin v
  have key: ∀ (n:Nat) (h:n < (rOrder s).length),(rOrder s)[n]∈out:=fun n=>by
   induction n using Nat.strongRecOn with
   |_ n ih=>
    intro h
    refine Classical.byContradiction fun hno2=>?_
    obtain⟨x,hx,e⟩:=List.mem_map.1 ((hL.mem _).1 (List.getElem_mem h))
    refine hno x hx ⟨by rw[e];exact hno2,fun d hd=>?_⟩
    have h3:=hL.need n h d (by rw[←e,v.ndS hx];exact hd)
    obtain⟨j,hj,e2⟩:=List.mem_take_iff_getElem.1 h3
    rw[←e2]
    exact ih j (by omega) (by omega)
  have h4:=nodup_len (l:=ids s) (m:=out) v.asc.nodup fun d hd=>by
   obtain⟨n,hn,rfl⟩:=List.mem_iff_getElem.1 ((hL.mem d).2 hd)
   exact key n hn
  rw[ids_len]at h4
  omega
theorem logF_at {s:List Sto} (v:Valid s): ∀ (n:Nat) {out:List Dig},LogAt s out→out.length+n=s.length→LogAt s (logF s n out)∧(logF s n out).length=s.length
 |0,out,h,e=>⟨h,by show out.length=_;omega⟩
 |n+1,out,h,e=>by
  obtain⟨x,hx⟩:=cand_some v h.new h.sub (by omega)
  rw[logF,hx]
  exact logF_at v n (h.snoc hx) (by rw[List.length_append,List.length_singleton];omega)
theorem rLog_at {s:List Sto} (v:Valid s):LogAt s (rLog s)∧(rLog s).length=s.length:=logF_at v _ ⟨fun j h=>absurd h (Nat.not_lt_zero _)⟩ (by simp)
theorem log_lin {s:List Sto} (v:Valid s):Lin s (rLog s):=by
 obtain⟨h,hl⟩:=rLog_at v
 refine⟨fun d=>⟨h.sub d,fun hd=>Classical.byContradiction fun hn=>?_⟩,h.new,fun j hj d hd=>?_⟩
 ·have:=nodup_len (l:=d::rLog s) (m:=ids s) (List.nodup_cons.2 ⟨hn,h.new⟩) fun x hx=>by
   rcases List.mem_cons.1 hx with rfl|hx
   ·exact hd
   ·exact h.sub x hx
  rw[List.length_cons,ids_len]at this
  omega
 ·obtain⟨x,hx,e,hm⟩:=h.step j hj
  rw[←e,v.ndS hx]at hd
  exact(mem_cand.1 (minS_some hm).1).2.2 d hd
theorem logF_steps {s:List Sto} {l:List Dig}: ∀ (n i:Nat),i+n≤l.length→(∀ j (h:j < l.length),j < i+n→ ∃ x∈s,x.id=l[j]∧minS (candS s (l.take j))=some x)→logF s n (l.take i)=l.take (i+n)
 |0,i,_,_=>rfl
 |n+1,i,hl,h=>by
  obtain⟨x,hx,e,hm⟩:=h i (by omega) (by omega)
  rw[logF,hm]
  have:=logF_steps n (i+1) (l:=l) (by omega) (fun j hj hjn=>h j hj (by omega))
  rw[show l.take (i+1)=l.take i++ [x.id] by rw[e];exact List.take_succ_eq_append_getElem (by omega)]at this
  rw[show i+(n+1)=i+1+n by omega]
  exact this
theorem log_prefix {s:List Sto} (v:Valid s) {k:Nat} (hk:k≤(rLog s).length):rLog (keepS s ((rLog s).take k))=(rLog s).take k:=by
 obtain⟨h,hl⟩:=rLog_at v
 have hL:=log_lin v
 have hlen:=hL.prefix_len v.asc hk
 have e0:rLog (keepS s ((rLog s).take k))=logF (keepS s ((rLog s).take k)) k ((rLog s).take 0):=by
  conv=>lhs;unfold rLog
  change logF _ (keepS s ((rLog s).take k)).length []=_
  rw[hlen];rfl
 rw[e0]
 have:=logF_steps (s:=keepS s ((rLog s).take k)) (l:=rLog s) k 0 (by omega) (fun j hj hjk=>by
  obtain⟨x,hx,e,hm⟩:=h.step j hj
  obtain⟨h1,h2⟩:=minS_some hm
  have hxk:x∈keepS s ((rLog s).take k):=mem_keepS.2 ⟨hx,by rw[e];exact List.mem_take_iff_getElem.2 ⟨j,by omega,rfl⟩⟩
  refine⟨x,hxk,e,minS_eq v.asc (fun y hy=>(mem_keepS.1 (mem_cand.1 hy).1).1) (mem_cand.2 ⟨hxk,(mem_cand.1 h1).2⟩) fun y hy=>?_⟩
  exact h2 y (mem_cand.2 ⟨(mem_keepS.1 (mem_cand.1 hy).1).1,(mem_cand.1 hy).2⟩))
 simpa using this
theorem log_times {s:List Sto} (v:Valid s) (hs: ∀ x∈s,∀ y∈s,y.id∈rNeeds x.patch→y.patch.time≤x.patch.time) {j:Nat} (hj:j+1 < (rLog s).length) {x y:Sto} (hx:x∈s) (hy:y∈s) (ex:x.id=(rLog s)[j]) (ey:y.id=(rLog s)[j+1]):x.patch.time≤y.patch.time:=by
 obtain⟨h,hl⟩:=rLog_at v
 obtain⟨x',hx',e1,m1⟩:=h.step j (by omega)
 obtain⟨y',hy',e2,m2⟩:=h.step (j+1) hj
 obtain rfl:=sto_unique v.asc hx hx' (ex.trans e1.symm)
 obtain rfl:=sto_unique v.asc hy hy' (ey.trans e2.symm)
 obtain⟨c1,c2⟩:=minS_some m1
 obtain⟨c3,_⟩:=minS_some m2
 obtain⟨_,d1,d2⟩:=mem_cand.1 c3
 rw[List.take_succ_eq_append_getElem (by omega)]at d1 d2
 by_cases hr: ∀ d∈rNeeds y.patch,d∈(rLog s).take j
 ·have:=c2 y (mem_cand.2 ⟨hy,fun hm=>d1 (List.mem_append_left _ hm),hr⟩)
  unfold LeS at this
  rw[Bool.eq_false_iff,Ne,less_iff]at this
  omega
 ·simp only[Classical.not_forall,not_imp]at hr
  obtain⟨d,hd,hn⟩:=hr
  rcases List.mem_append.1 (d2 d hd)with h3|h3
  ·exact absurd h3 hn
  ·have:=List.mem_singleton.1 h3
   rw[this,←ex]at hd
   exact hs y hy x hx hd
end Go.Proofs
namespace Go.Proofs
open Go Go.Q
theorem rNeeds_nodup (p:Pat):(rNeeds p).Nodup:=by
 unfold rNeeds
 split
 ·exact .nil
 ·exact(needs_asc _ _ (withAll_asc .nil)).nodup
def cntS (out:List Dig) (y:Sto):Nat:=(rNeeds y.patch).countP fun d=>decide (d∉out)
theorem cnt_start (y:Sto):cntS [] y=(rNeeds y.patch).length:=by
 unfold cntS
 rw[List.countP_eq_length]
 simp
theorem cnt_zero {out:List Dig} {y:Sto}:cntS out y=0↔ ∀ d∈rNeeds y.patch,d∈out:=by
 unfold cntS
 rw[List.countP_eq_zero]
 simp
theorem count_snoc (out:List Dig) (x:Dig): ∀ {l:List Dig},l.Nodup→x∉out→l.countP (fun d=>decide (d∉out++ [x]))+(if x∈l then 1 else 0)=l.countP (fun d=>decide (d∉out))
 | [],_,_=>by simp
 |d::l,hn,hx=>by
  obtain⟨h1,h2⟩:=List.nodup_cons.1 hn
  have ih:=count_snoc out x h2 hx
  rw[List.countP_cons,List.countP_cons]
  by_cases e:d=x
  ·subst e
   rw[if_neg h1]at ih
   have e1:decide (d∉out++ [d])=false:=by simp
   have e2:decide (d∉out)=true:=by simp[hx]
   rw[e1,e2,if_pos (List.mem_cons_self)]
   simp only[Bool.false_eq_true,if_false,if_true]
   omega
  ·have e1:decide (d∉out++ [x])=decide (d∉out):=by
    by_cases hd:d∈out<;>simp[hd,e]
   have e2:(x∈d::l)↔x∈l:=by simp[Ne.symm e]
   rw[e1]
   simp only[e2]
   omega
theorem cnt_snoc {out:List Dig} {x:Dig} (hx:x∉out) (y:Sto):cntS (out++ [x]) y+(if x∈rNeeds y.patch then 1 else 0)=cntS out y:=count_snoc out x (rNeeds_nodup _) hx
def usersS (s:List Sto) (d:Dig):List Sto:=s.filter fun y=>decide (d∈rNeeds y.patch)
def MisOk (s:List Sto) (f:Sto→Int) (M:List (Dig × Int)):Prop:= ∀ y∈s,mGet y.id M=some (f y)
theorem MisOk.set {s:List Sto} (ha:Asc (ids s)) {f:Sto→Int} {M:List (Dig × Int)} (h:MisOk s f M) {x:Sto} (hx:x∈s) (n:Int):MisOk s (fun y=>if y=x then n else f y) (mSet x.id n M):=fun y hy=>by
 rw[mGet_mSet]
 by_cases e:y=x
 ·subst e;dsimp only;rw[if_pos rfl,if_pos rfl]
 ·dsimp only;rw[if_neg fun e2=>e (sto_unique ha hy hx e2),if_neg e];exact h y hy
theorem MisOk.congr {s:List Sto} {f g:Sto→Int} {M:List (Dig × Int)} (h:MisOk s f M) (e: ∀ y∈s,f y=g y):MisOk s g M:=fun y hy=>by rw[h y hy,e y hy]
def midF (out:List Dig) (U:List Sto) (y:Sto):Int:=(cntS out y:Int) - if y∈U then 1 else 0
theorem midF_nil (out:List Dig) (y:Sto):midF out [] y=(cntS out y:Int):=by simp[midF]
theorem midF_snoc {out:List Dig} {U:List Sto} {x:Sto} (hx:x∉U) (y:Sto):midF out (U++ [x]) y=if y=x then midF out U x - 1 else midF out U y:=by
 unfold midF
 by_cases e:y=x
 ·subst e;simp[hx]
 ·rw[if_neg e];simp[e]
theorem midF_all {s:List Sto} {out:List Dig} {x:Dig} (hx:x∉out) {y:Sto} (hy:y∈s):midF out (usersS s x) y=(cntS (out++ [x]) y:Int):=by
 have h:=cnt_snoc hx y
 unfold midF usersS
 by_cases e:x∈rNeeds y.patch
 ·rw[if_pos (List.mem_filter.2 ⟨hy,by simpa using e⟩)]
  rw[if_pos e]at h;omega
 ·rw[if_neg fun hm=>e (by simpa using (List.mem_filter.1 hm).2)]
  rw[if_neg e]at h;omega
theorem mid_user {s:List Sto} {out:List Dig} {x:Dig} (hx:x∉out) {y:Sto} (hy:y∈usersS s x) {U:List Sto} (hU:y∉U):midF out U y - 1=(cntS (out++ [x]) y:Int):=by
 have h:=cnt_snoc hx y
 rw[if_pos (by simpa using (List.mem_filter.1 hy).2)]at h
 unfold midF
 rw[if_neg hU];omega
theorem sto_nodup {s:List Sto} (ha:Asc (ids s)):s.Nodup:=by
 have h:=ha.nodup
 unfold ids at h
 rw[List.Nodup,List.pairwise_map]at h
 exact h.imp fun h e=>h (by rw[e])
theorem queue_next {s:List Sto} (v:Valid s) {out:List Dig} (hL:LogAt s out) {x:Sto} (hx:x∈candS s out) {r:List Sto} (hp:(candS s out).Perm (x::r)):
  (r++(usersS s x.id).filter fun y=>decide ((cntS (out++ [x.id]) y:Int)=0)).Perm (candS s (out++ [x.id])):=by
 have hs:=sto_nodup v.asc
 obtain⟨hxs,hxo,hxn⟩:=mem_cand.1 hx
 have hcn:(candS s out).Nodup:=hs.filter _
 have hrn:(x::r).Nodup:=hp.nodup_iff.1 hcn
 obtain⟨hxr,hrn⟩:=List.nodup_cons.1 hrn
 have hrm: ∀ y,y∈r↔y∈candS s out∧y≠x:=fun y=>by
  rw[hp.mem_iff,List.mem_cons]
  constructor
  ·intro h;exact⟨.inr h,fun e=>hxr (e ▸ h)⟩
  ·rintro⟨h|h,hne⟩
   ·exact absurd h hne
   ·exact h
 have hclosed: ∀ y∈s,y.id∈out→ ∀ d∈rNeeds y.patch,d∈out:=fun y hy hyo d hd=>by
  obtain⟨j,hj,e⟩:=List.mem_iff_getElem.1 hyo
  obtain⟨z,hz,e2,hm⟩:=hL.step j hj
  obtain rfl:=sto_unique v.asc hy hz (e.symm.trans e2.symm)
  exact List.mem_of_mem_take ((mem_cand.1 (minS_some hm).1).2.2 d hd)
 refine(List.perm_ext_iff_of_nodup ?_ (hs.filter _)).2 fun y=>?_
 ·refine List.nodup_append.2 ⟨hrn,(hs.filter _).filter _,fun a ha b hb e=>?_⟩
  subst e
  have h1:=(mem_cand.1 ((hrm a).1 ha).1).2.2
  have h2:=(List.mem_filter.1 (List.mem_filter.1 hb).1).2
  exact hxo (h1 x.id (by simpa using h2))
 ·change _↔y∈candS s (out++ [x.id])
  rw[List.mem_append,hrm,List.mem_filter,mem_cand,mem_cand]
  constructor
  ·rintro(⟨⟨h1,h2,h3⟩,hne⟩|⟨h1,h2⟩)
   ·refine⟨h1,fun hm=>?_,fun d hd=>List.mem_append_left _ (h3 d hd)⟩
    rcases List.mem_append.1 hm with hm|hm
    ·exact h2 hm
    ·exact hne (sto_unique v.asc h1 hxs (List.mem_singleton.1 hm))
   ·obtain⟨hy,hn⟩:=List.mem_filter.1 h1
    have hn:x.id∈rNeeds y.patch:=by simpa using hn
    have h2:=of_decide_eq_true h2
    refine⟨hy,fun hm=>?_,cnt_zero.1 (by omega)⟩
    rcases List.mem_append.1 hm with hm|hm
    ·exact hxo (hclosed y hy hm _ hn)
    ·have:=sto_unique v.asc hy hxs (List.mem_singleton.1 hm)
     subst this
     exact hxo (hxn _ hn)
  ·rintro⟨h1,h2,h3⟩
   by_cases hn:x.id∈rNeeds y.patch
   ·refine .inr ⟨List.mem_filter.2 ⟨h1,by simpa using hn⟩,?_⟩
    have:=cnt_zero.2 h3
    exact decide_eq_true (by omega)
   ·refine .inl ⟨⟨h1,fun hm=>h2 (List.mem_append_left _ hm),fun d hd=>?_⟩,fun e=>h2 (by rw[e];simp)⟩
    rcases List.mem_append.1 (h3 d hd)with h4|h4
    ·exact h4
    ·exact absurd (List.mem_singleton.1 h4 ▸ hd) hn
theorem queue_first (s:List Sto):(s.filter fun y=>decide (((rNeeds y.patch).length:Int)=0))=candS s []:=by
 unfold candS
 refine List.filter_congr fun y _=>?_
 have h1:eligR [] y=true↔rNeeds y.patch= []:=by
  unfold eligR
  rw[decide_eq_true_eq,allIn_iff]
  constructor
  ·rintro⟨_,h⟩
   exact List.eq_nil_iff_forall_not_mem.2 fun d hd=>by cases h d hd
  ·intro h;rw[h];simp
 cases he:eligR [] y with
 |true=>rw[h1.1 he];rfl
 |false=>
  refine decide_eq_false fun h=>?_
  have h2:rNeeds y.patch= []:=List.eq_nil_of_length_eq_zero (by omega)
  rw[h1.2 h2]at he;cases he
theorem LogAt.len {s:List Sto} {l:List Dig} (h:LogAt s l):l.length≤s.length:=by
 have:=nodup_len h.new h.sub
 rwa [ids_len]at this
theorem LogAt.done {s:List Sto} (v:Valid s) {l:List Dig} (h:LogAt s l) (hc:candS s l= []):l=rLog s:=by
 have hl:l.length=s.length:=by
  refine Nat.le_antisymm h.len (Nat.le_of_not_lt fun hlt=>?_)
  obtain⟨x,hx⟩:=cand_some v h.new h.sub hlt
  rw[hc]at hx;cases hx
 have:=logF_steps (s:=s) (l:=l) s.length 0 (by omega) (fun j hj _=>h.step j hj)
 rw[Nat.zero_add]at this
 have e2:l.take s.length=l:=List.take_of_length_le (by omega)
 rw[e2]at this
 exact this.symm
theorem root_min {s:List Sto} (ha:Asc (ids s)) {out:List Dig} {q:List Sto} (hp:q.Perm (candS s out)) (h:HeapP q q.length) (h0:0 < q.length):minS (candS s out)=some (atS q 0):=by
 have hin:atS q 0∈q:=by rw[atS_get h0];exact List.getElem_mem _
 refine minS_eq ha (fun y hy=>(mem_cand.1 hy).1) (hp.mem_iff.1 hin) fun y hy=>?_
 exact(rest_heap h h0).2.2.2 y (hp.mem_iff.2 hy)
end Go.Proofs
namespace Go.Q
open Go
section
variable {P:Program} {N:Nat} {all:Array Oper} {K:Env→List Res→Prop} {fl:List Bool} {os:List Oper} {ρ:Env} {L:List Res} {d:Nat} {ty:TypeId} {pos:String} {af:Array Edge}
variable {κ α:Type} [DecidableEq κ] {ek:κ→PV} {ev:α→PV} {T KT ET:Nat}
theorem s_lookO {es:Array MapEntry} {cl:Nat} {x y:Operand} {b:Nat} {l:List (κ × α)} {ay:PV} {k0:κ} (hl:es.size=l.length) (hx:ρ.ev x= .raw (.map (some b))) (hm:Res.raw b (.map es cl)∈L) (hkn:kvsKnow es (eMap ek ev l)∈L) (hy:ρ.ev y=ay) [hT:TMap P T KT ET] [hK:TKey P KT ek] {a0:α} [hz:ZV P ET ev a0] [hk:IsKey' ay ek k0]
  (k:pops P N all K fl.tail os (upd ρ d (ev ((mGet k0 l).getD a0))) L) (hd:Nat.blt d N=true:=by rfl):pops P N all K fl (⟨some d,.lookup T x y false,ty,pos,af,none⟩::os) ρ L:=
 step_q hd (qop_of_run fun a w g ha hi=>by
  have h1:=evRaw ha (x:=x) (by simp[Op.operands]) hx
  have h2:=hk.out g _ (hy ▸ ha y (by simp[Op.operands]))
  obtain⟨hb,_,_⟩:=hi.res _ hm
  have hE:Entries g es (eMap ek ev l):= .of_know (by simpa [eMap]using hl) (hi.res _ hkn)
  obtain⟨u,hr,hu⟩:=lookup_run hT.out hK.out hz.out hE (.inl ⟨b,cl,h1,hb⟩) h2 false
  refine⟨u,?_,hu⟩
  simp only[execOp,hr,Sem.run_bind,Result.andThen_ok,Sem.run_pure];rfl) k
end
theorem rowB_nil {α:Type} {vf:α→List Value} {E sz:Nat} {v:Value} (h:RowL vf E sz v ([]:List α) []):RowB E sz v [] []:=by
 unfold RowL at h
 generalize hn:([]:List α).length=n at h
 generalize hu:([]:List α).flatMap vf=u at h
 cases h with
 |nil o ho=>exact .nil o ho
end Go.Q
namespace Go.Proofs
open Go Go.Q
def ndF (U:List (Dig × (List Sto × Tag))) (d:Dig):List Sto:=((mGet d U).getD ([],.nil)).1
theorem ndF_set (U:List (Dig × (List Sto × Tag))) (k d:Dig) (v:List Sto × Tag):ndF (mSet k v U) d=if d=k then v.1 else ndF U d:=by
 unfold ndF
 rw[mGet_mSet]
 by_cases h:d=k
 ·rw[if_pos h,if_pos h];rfl
 ·rw[if_neg h,if_neg h]
def usJ (s:List Sto) (k:Nat) (nd:List Dig) (j:Nat) (x:Sto) (d:Dig):List Sto:=usersS (s.take k) d++if d∈nd.take j then [x]else []
theorem usJ_zero (s:List Sto) (k:Nat) (nd:List Dig) (x:Sto) (d:Dig):usJ s k nd 0 x d=usersS (s.take k) d:=by simp[usJ]
theorem usJ_all {s:List Sto} {k:Nat} (hk:k < s.length) (d:Dig):usJ s k (rNeeds s[k].patch) (rNeeds s[k].patch).length s[k] d=usersS (s.take (k+1)) d:=by
 unfold usJ usersS
 rw[List.take_length,List.take_succ_eq_append_getElem hk,List.filter_append]
 congr 1
 by_cases h:d∈rNeeds s[k].patch<;>simp[h]
theorem usJ_step {s:List Sto} {k:Nat} {nd:List Dig} {j:Nat} {x:Sto} {U:List (Dig × (List Sto × Tag))} (hn:nd.Nodup) (hj:j < nd.length) (h: ∀ d,ndF U d=usJ s k nd j x d) (t:Tag) (d:Dig):ndF (mSet nd[j] (ndF U nd[j]++ [x],t) U) d=usJ s k nd (j+1) x d:=by
 have hnj:nd[j]∉nd.take j:=fun hm=>by
  obtain⟨q,hq,e⟩:=List.mem_iff_getElem.1 hm
  rw[List.length_take]at hq
  rw[List.getElem_take]at e
  exact(List.pairwise_iff_getElem.1 hn) q j (by omega) hj (by omega) e
 rw[ndF_set]
 unfold usJ at h ⊢
 rw[List.take_succ_eq_append_getElem hj]
 by_cases e:d=nd[j]
 ·rw[if_pos e,h,if_neg hnj,e,if_pos (List.mem_append_right _ (List.mem_singleton.2 rfl)),List.append_nil]
 ·rw[if_neg e,h]
  congr 1
  by_cases h2:d∈nd.take j
  ·rw[if_pos h2,if_pos (List.mem_append_left _ h2)]
  ·rw[if_neg h2,if_neg fun hm=>(List.mem_append.1 hm).elim h2 fun h3=>e (List.mem_singleton.1 h3)]
theorem usersS_len (s:List Sto) (d:Dig):(usersS s d).length≤s.length:=List.length_filter_le _ _
theorem usJ_len (s:List Sto) (k:Nat) (nd:List Dig) (j:Nat) (x:Sto) (d:Dig):(usJ s k nd j x d).length≤s.length+1:=by
 unfold usJ
 have h1:=usersS_len (s.take k) d
 rw[List.length_take]at h1
 rw[List.length_append]
 split<;>simp<;>omega
theorem usersS_nodup {s:List Sto} (ha:Asc (ids s)) (d:Dig):(usersS s d).Nodup:=(sto_nodup ha).filter _
theorem MisOk.add {s:List Sto} (ha:Asc (ids s)) {f:Sto→Int} {M:List (Dig × Int)} {k:Nat} (hk:k < s.length) (h:MisOk (s.take k) f M):MisOk (s.take (k+1)) f (mSet s[k].id (f s[k]) M):=fun y hy=>by
 rw[mGet_mSet]
 by_cases e:y.id=s[k].id
 ·rw[if_pos e,sto_unique ha (List.mem_of_mem_take hy) (List.getElem_mem hk) e]
 ·rw[if_neg e]
  rw[List.take_succ_eq_append_getElem hk]at hy
  rcases List.mem_append.1 hy with hy|hy
  ·exact h y hy
  ·exact absurd (by rw[List.mem_singleton.1 hy]) e
theorem filter_take {s:List Sto} {k:Nat} (hk:k < s.length) (P:Sto→Bool):(s.take (k+1)).filter P=(s.take k).filter P++if P s[k]=true then [s[k]]else []:=by
 rw[List.take_succ_eq_append_getElem hk,List.filter_append]
 congr 1
 by_cases h:P s[k]=true
 ·simp[h]
 ·simp[h]
theorem push_perm {q l r:List Sto} {x:Sto} (h:HeapP q q.length) (hp:q.Perm (l++r)):HeapP (pushS q x) (pushS q x).length∧(pushS q x).Perm (l++(r++ [x])):=by
 obtain⟨h1,h2⟩:=push_heap (x:=x) h
 refine⟨h1,h2.trans (((List.Perm.cons x hp).trans ?_))⟩
 rw[←List.append_assoc]
 exact(List.perm_append_singleton x (l++r)).symm
theorem MisOk.dec {s:List Sto} (ha:Asc (ids s)) {out:List Dig} {us:List Sto} {M:List (Dig × Int)} {j:Nat} (hj:j < us.length) (hn:us.Nodup) (hs: ∀ y∈us,y∈s) (h:MisOk s (midF out (us.take j)) M):MisOk s (midF out (us.take (j+1))) (mSet us[j].id (midF out (us.take j) us[j] - 1) M):=by
 have hnj:us[j]∉us.take j:=fun hm=>by
  obtain⟨q,hq,e⟩:=List.mem_iff_getElem.1 hm
  rw[List.length_take]at hq
  rw[List.getElem_take]at e
  exact(List.pairwise_iff_getElem.1 hn) q j (by omega) hj (by omega) e
 refine(h.set ha (hs _ (List.getElem_mem hj)) _).congr fun y _=>?_
 rw[List.take_succ_eq_append_getElem hj,midF_snoc hnj]
theorem MisOk.end_ {s:List Sto} {out:List Dig} {x:Dig} (hx:x∉out) {M:List (Dig × Int)} (h:MisOk s (midF out (usersS s x)) M):MisOk s (fun y=>(cntS (out++ [x]) y:Int)) M:=h.congr fun y hy=>midF_all hx hy
theorem MisOk.start_ {s:List Sto} {out:List Dig} {M:List (Dig × Int)} (h:MisOk s (fun y=>(cntS out y:Int)) M):MisOk s (midF out []) M:=h.congr fun y _=>(midF_nil out y).symm
theorem cnt_le (out:List Dig) (y:Sto):cntS out y≤(rNeeds y.patch).length:=List.countP_le_length
end Go.Proofs
namespace Go.Proofs
open Go Go.Q
attribute [local irreducible] pwp pops pAny PCalls OpN
instance :TMap Tryz.prog 71 25 22:=⟨by kernel_rfl⟩
instance tmap_DI:TMap Tryz.prog 61 25 3:=⟨by kernel_rfl⟩
instance mform_DI:MapForm Tryz.prog 61 kDig vInt:=⟨trivial⟩
instance zv_tgS:ZV Tryz.prog 22 (vTgF eSto) ([],.nil):=zvof (v:= .slice none 0 0) (by kernel_rfl) fun _=> .nilN none (by simp)
theorem perm_mid (X R LF:List Res):(X++(R++LF)).Perm (R++(X++LF)):=by
 rw[←List.append_assoc,←List.append_assoc];exact List.perm_append_comm.append_right LF
theorem perm_q {a b c:Res} {T R LF:List Res}:(a::b::c::(T++(R++LF))).Perm ((c::R)++(a::b::(T++LF))):=
 (List.perm_middle (l₁:= [a,b]) (a:=c) (l₂:=T++(R++LF))).trans (.cons c (perm_mid (a::b::T) R LF))
theorem perm_p {a b c:Res} {R LF:List Res}:(a::b::c::(R++LF)).Perm ((c::R)++(a::b::LF)):=
 (List.perm_middle (l₁:= [a,b]) (a:=c) (l₂:=R++LF)).trans (.cons c (perm_mid [a,b] R LF))
set_option maxHeartbeats 16000000 in
theorem logP_fn (s:List Sto) (t:Tag) (v:Valid s) (hl:s.length≤400):FnC Tryz.prog 17 [.slice (s.map eSto) t] (.slice ((rLog s).map eDig) .ro):=⟨by
 refine fn_of Tryz.func17 Tryz.ntmps17 rfl (rs:= [.tmp 2]) rfl rfl fun hb LF=>?_
 have hbig: ∀ x∈s,rBig x.patch=false:=v.close.1.2
 have ha:=v.asc
 refine wf ?_
 refine s_makeMap fun m1=>?_
 refine wf ?_
 refine s_makeMap fun m2=>?_
 refine wo ?_
 refine pops_nil ?_
 refine pwp_seq ?_
 refine pwp_region (by kernel_rfl) ?_
 refine s_bsRow (α:=Sto) (vf:=fun _=> []) fun vq hq=>?_
 have hq0:QRow vq [] []:=rowB_nil hq
 have hC:CellsC (.raw vq) [.raw vq]:=⟨.one fun x hx=>by
  rw[List.mem_singleton.1 hx]
  exact⟨by simp,by simp,fun u e=>by cases e;exact row_one hq0,by simp⟩⟩
 refine s_boxC (hC:=hC) rfl fun bq=>?_
 refine wo ?_
 refine pops_nil ?_
 refine pwp_perm (L':= .map m1 []:: .map m2 []::bxQ bq vq::LF) ((List.reverse_perm ([Res.map m1 [],Res.map m2 [],bxQ bq vq]:List Res)).append_right LF) ?_
 refine wf ?_
 refine pwp_loopS (σ:=Nat × List (Dig × (List Sto × Tag)) × List (Dig × Int) × List Sto × Value × List Res)
  (fun z=>z.1≤s.length∧(∀ d,ndF z.2.1 d=usersS (s.take z.1) d)∧MisOk (s.take z.1) (fun y=>((rNeeds y.patch).length:Int)) z.2.2.1∧(HeapP z.2.2.2.1 z.2.2.2.1.length∧z.2.2.2.1.Perm ((s.take z.1).filter fun y=>decide (((rNeeds y.patch).length:Int)=0)))∧QRow z.2.2.2.2.1 z.2.2.2.1 z.2.2.2.2.2)
  (fun z=>s.length - z.1)
  (fun z=> [(3,.raw (.map (some m1))),(4,.raw (.map (some m2))),(5,.raw (.pointer (some ⟨bq,0,none⟩))),(20,.slice (s.map eSto) t),(21,.raw (.int .i64 s.length)),(22,.raw (.int .i64 z.1))])
  (fun z=> .map m1 (eMap kDig (vTgF eSto) z.2.1):: .map m2 (eMap kDig vInt z.2.2.1)::bxQ bq z.2.2.2.2.1::(toksF 37 z.2.1++(z.2.2.2.2.2++LF)))
  (0,[],[],[],vq,[]) ⟨by simp,fun d=>by simp[ndF,mGet,usersS],fun y hy=>by simp at hy,⟨fun k _ h=>absurd h (by simp),by simp⟩,hq0⟩ ⟨rfl,rfl,rfl,rfl,rfl,rfl⟩ (.refl _) ?_
 clear hq hq0 hC vq
 rintro⟨k,U,M,q,vq,R⟩ ⟨hk,hU,hM,⟨hH,hQ⟩,hr⟩
 dsimp only at hk hU hM hH hQ hr ⊢
 refine wf ?_
 refine pwp_condD (fun hc=>?_) (fun hc=>?_)
 ·have hlt:k < s.length:=by omega
  have hxm:=List.getElem_mem hlt
  have i1:Small (rBig s[k].patch=false):=⟨hbig _ hxm⟩
  have hnd:=rNeeds_nodup s[k].patch
  have hnl:=needs_len v hxm
  have hM1:=hM.add ha hlt
  have hUa:=fun d=>usJ_all hlt d
  have hqf:=filter_take hlt (fun y=>decide (((rNeeds y.patch).length:Int)=0))
  have hql:q.length≤400:=by
   have h1:=hQ.length_eq
   have h2:((s.take k).filter fun y=>decide (((rNeeds y.patch).length:Int)=0)).length≤(s.take k).length:=List.length_filter_le _ _
   rw[List.length_take]at h2
   omega
  refine wz fun b7=>?_
  refine pwp_freezeD 7 ?_
  generalize s[k]=x at hxm i1 hnd hnl hM1 hUa hqf ⊢
  have hUj:=fun(U':List (Dig × (List Sto × Tag))) (j:Nat) (hj:j < (rNeeds x.patch).length) h t' d=>usJ_step (s:=s) (k:=k) (x:=x) (U:=U') hnd hj h t' d
  have hUl:=fun(j:Nat) d=>usJ_len s k (rNeeds x.patch) j x d
  have hUz: ∀ d,ndF U d=usJ s k (rNeeds x.patch) 0 x d:=fun d=>by rw[usJ_zero];exact hU d
  refine wf ?_
  generalize hnn:rNeeds x.patch=nd at*
  refine pwp_perm (.swap _ _ _) ?_
  refine pwp_loopS (σ:=Nat × List (Dig × (List Sto × Tag))) (fun j=>j.1≤nd.length∧ ∀ d,ndF j.2 d=usJ s k nd j.1 x d) (fun j=>nd.length - j.1) (fun j=> [(3,.raw (.map (some m1))),(4,.raw (.map (some m2))),(5,.raw (.pointer (some ⟨bq,0,none⟩))),(7,.pt (eSto x) 0),(8,.slice (nd.map eDig) .ro),(20,.slice (s.map eSto) t),(21,.raw (.int .i64 s.length)),(22,.raw (.int .i64 k)),(34,.slice (nd.map eDig) .ro),(35,.raw (.int .i64 nd.length)),(36,.raw (.int .i64 j.1))]) (fun j=> .map m1 (eMap kDig (vTgF eSto) j.2):: .map m2 (eMap kDig vInt (mSet x.id (nd.length:Int) M))::bxQ bq vq::(toksF 37 j.2++(R++LF))) (0,U) ⟨by simp,hUz⟩ ⟨rfl,rfl,rfl,rfl,rfl,rfl,rfl,rfl,rfl,rfl,rfl⟩ (.refl _) ?_
  rintro⟨j,U2⟩ ⟨hj,hU2⟩
  dsimp only at hj hU2 ⊢
  refine wf ?_
  refine pwp_condD (fun hc=>?_) (fun hc=>?_)
  ·have hjl:j < nd.length:=by omega
   have hstep:=fun t' d=>hUj U2 j hjl hU2 t' d
   have hl0:(ndF U2 nd[j]).length≤401:=by rw[hU2];have:=hUl j nd[j];omega
   obtain⟨S,hS1,hS2⟩:=toksF_split 37 nd[j] U2
   refine wz fun b10=>?_
   refine pwp_freezeD 10 ?_
   refine pwp_toksF 37 (A:= [.map m1 (eMap kDig (vTgF eSto) U2),.map m2 (eMap kDig vInt (mSet x.id (nd.length:Int) M)),bxQ bq vq]) hS1 ?_
   unfold ndF at hl0 hstep
   generalize hv0:(mGet nd[j] U2).getD ([],Tag.nil)=v0 at hl0 hstep ⊢
   obtain⟨l0,t0⟩:=v0
   dsimp only at hl0 hstep
   refine wf ?_
   refine s_mapEntry (ek:=kDig) (ev:=vTgF eSto) (k0:=nd[j]) (l:=U2) (L':= .map m2 (eMap kDig vInt (mSet x.id (nd.length:Int) M))::bxQ bq vq:: .tok t0 l0.length 37::(S++(R++LF))) rfl (.refl _) (.refl _) fun es cl ix n hO=>?_
   rw[hv0]at hO ⊢
   refine wf ?_
   refine s_append (f:=eSto) (l:=l0) (m:= [x]) (t:=t0) (L':=fun t'=> .raw m1 (.map es cl)::kvsKnow es (eMap kDig (vTgF eSto) (mSet nd[j] (l0,t0) U2)):: .map m2 (eMap kDig vInt (mSet x.id (nd.length:Int) M))::bxQ bq vq:: .tok t' (l0++ [x]).length 37::(S++(R++LF))) rfl rfl (by simp only[List.length_cons,List.length_nil];omega) (by simp only[List.length_cons,List.length_nil];omega) (fun t'=> .there (.there (.there (.there .here)))) fun t'=>?_
   refine wf ?_
   refine s_entryStore (ek:=kDig) (ev:=vTgF eSto) (x0:=(l0++ [x],t')) (L':= .map m2 (eMap kDig vInt (mSet x.id (nd.length:Int) M))::bxQ bq vq:: .tok t' (l0++ [x]).length 37::(S++(R++LF))) hO rfl rfl (.refl _) (.refl _) ?_
   rw[mSet_mSet]
   refine pops_nil ?_
   have hT1:=hstep t'
   have hp1:=hS2 (l0++ [x],t')
   generalize mSet nd[j] (l0++ [x],t') U2=U3 at hT1 hp1 ⊢
   refine pwp_perm (L':= .map m1 (eMap kDig (vTgF eSto) U3):: .map m2 (eMap kDig vInt (mSet x.id (nd.length:Int) M))::bxQ bq vq::(toksF 37 U3++(R++LF))) (.cons _ (.cons _ (.cons _ ((hp1.append_right (R++LF)).symm)))) ?_
   refine wf ?_
   exact⟨(j+1,U3),⟨by dsimp only;omega,hT1⟩,by dsimp only;omega,⟨rfl,rfl,rfl,rfl,rfl,rfl,rfl,rfl,rfl,rfl,rfl⟩,.refl _⟩
  have hjj:j=nd.length:=by omega
  have hU3: ∀ d,ndF U2 d=usersS (s.take (k+1)) d:=fun d=>by rw[hU2,hjj];exact hUa d
  refine wf ?_
  refine pwp_condD (fun h=>?_) (fun h=>?_)
  ·rw[if_pos (decide_eq_true h)]at hqf
   obtain⟨hH2,hQ2⟩:=push_perm (x:=x) (l:=(s.take k).filter fun y=>decide (((rNeeds y.patch).length:Int)=0)) (r:= []) hH (by rw[List.append_nil];exact hQ)
   rw[List.nil_append,←hqf]at hQ2
   refine wf ?_
   refine s_mkIfc rfl ?_
   refine wf ?_
   refine s_mkIfc rfl ?_
   refine wf ?_
   refine s_callR (xs:= [.tmp 53,.tmp 55]) (bxQ bq vq::R) (.map m1 (eMap kDig (vTgF eSto) U2):: .map m2 (eMap kDig vInt (mSet x.id (nd.length:Int) M))::(toksF 37 U2++LF)) (f:=41) (cs:= []) (le_func _) rfl rfl perm_q _ (hpush_fn q x bq vq R hr (by omega)) fun r L' ⟨v',R',hp2,hr2⟩=>?_
   refine pops_nil ?_
   refine pwp_perm ((hp2.append_right _).trans perm_q.symm) ?_
   refine wf ?_
   exact⟨(k+1,U2,mSet x.id (nd.length:Int) M,pushS q x,v',R'),⟨by dsimp only;omega,hU3,hM1,⟨hH2,hQ2⟩,hr2⟩,by dsimp only;omega,⟨rfl,rfl,rfl,rfl,rfl,rfl⟩,.refl _⟩
  ·rw[if_neg (by simpa using h),List.append_nil]at hqf
   rw[←hqf]at hQ
   refine wf ?_
   exact⟨(k+1,U2,mSet x.id (nd.length:Int) M,q,vq,R),⟨by dsimp only;omega,hU3,hM1,⟨hH,hQ⟩,hr⟩,by dsimp only;omega,⟨rfl,rfl,rfl,rfl,rfl,rfl⟩,.refl _⟩
 have hkk:k=s.length:=by omega
 subst hkk
 rw[List.take_length]at hU hM hQ
 rw[queue_first]at hQ
 have hM0:MisOk s (fun y=>(cntS [] y:Int)) M:=hM.congr fun y _=>by rw[cnt_start]
 have hun:=fun d=>usersS_nodup ha d
 have hul:=usersS_len s
 refine wf ?_
 refine pwp_freezeM [(3,.fmap (eMap kDig (vTgF eSto) U)),(4,.raw (.map (some m2))),(5,.raw (.pointer (some ⟨bq,0,none⟩))),(11,.slice (([]:List Dig).map eDig) .nil)] ⟨.inr ⟨rfl,rfl⟩,.inl rfl,.inl rfl,.inl rfl⟩ (.refl _) ?_
 refine pwp_tok 32 ?_
 refine pwp_perm (.swap _ _ _) ?_
 refine pwp_loopS (σ:=(List Dig × Tag) × List (Dig × Int) × List Sto × Value × List Res)
  (fun z=>LogAt s z.1.1∧MisOk s (fun y=>(cntS z.1.1 y:Int)) z.2.1∧(HeapP z.2.2.1 z.2.2.1.length∧z.2.2.1.Perm (candS s z.1.1))∧QRow z.2.2.2.1 z.2.2.1 z.2.2.2.2)
  (fun z=>s.length - z.1.1.length)
  (fun z=> [(3,.fmap (eMap kDig (vTgF eSto) U)),(4,.raw (.map (some m2))),(5,.raw (.pointer (some ⟨bq,0,none⟩))),(11,.slice (z.1.1.map eDig) z.1.2)])
  (fun z=> .map m2 (eMap kDig vInt z.2.1):: .tok z.1.2 z.1.1.length 32::bxQ bq z.2.2.2.1::(z.2.2.2.2++LF))
  (([],.nil),M,q,vq,R) ⟨⟨fun j h=>absurd h (Nat.not_lt_zero _)⟩,hM0,⟨hH,hQ⟩,hr⟩ ⟨rfl,rfl,rfl,rfl⟩ (.cons_cons _ (.cons_cons _ (.cons_cons _ (List.sublist_append_right _ _)))) ?_
 clear hM0 hH hQ hr hM q vq R M
 rintro⟨⟨out,ot⟩,M,q,vq,R⟩ ⟨hL,hM,⟨hH,hQ⟩,hr⟩
 dsimp only at hL hM hH hQ hr ⊢
 have hol:=hL.len
 have hql:q.length≤400:=by
  have h1:=hQ.length_eq
  have h2:(candS s out).length≤s.length:=List.length_filter_le _ _
  omega
 obtain⟨⟨o,c,ev⟩,_⟩:=hr.slice
 rw[List.length_map]at ev
 subst ev
 refine wf ?_
 refine pwp_condD (fun hc=>?_) (fun hc=>?_)
 ·have h0:0 < q.length:=by omega
  obtain⟨hr0,hHr,hp1,_⟩:=rest_heap hH h0
  have hmin:=root_min ha hQ hH h0
  have hL1:=hL.snoc hmin
  have hol1:=hL1.len
  have hcx:=(minS_some hmin).1
  have hnx:=queue_next v hL hcx (hQ.symm.trans hp1)
  have hpop:=hpop_fn q bq _ R hr h0 (by omega)
  have hrl:((restS q).take (q.length - 1)).length=q.length - 1:=by
   have:(restS q).length=q.length:=by unfold restS;rw[dnF_len,swapS_len]
   rw[List.length_take];omega
  replace hHr:HeapP ((restS q).take (q.length - 1)) ((restS q).take (q.length - 1)).length:=by rw[hrl];exact hHr
  rw[hr0]at hpop
  generalize (restS q).take (q.length - 1)=r at hHr hnx hpop hrl
  generalize atS q 0=x at hL1 hol1 hcx hnx hpop hmin
  obtain⟨hxs,hxo,_⟩:=mem_cand.1 hcx
  refine wf ?_
  refine s_mkIfc rfl ?_
  refine wf ?_
  refine s_callR (xs:= [.tmp 65]) (bxQ bq (.slice o q.length c)::R) (.map m2 (eMap kDig vInt M):: .tok ot out.length 32::LF) (f:=43) (cs:= []) (le_func _) rfl rfl perm_p _ hpop fun r' L' ⟨v',R',e1,e2,hr2⟩=>?_
  subst e1 e2
  refine s_assert rfl ?_
  refine wf ?_
  refine s_alloc fun b12=>?_
  refine wo ?_
  refine pops_nil ?_
  refine pwp_freezeD 12 ?_
  refine pwp_perm (L':= .map m2 (eMap kDig vInt M):: .tok ot out.length 32::bxQ bq v'::(R'++LF)) perm_p.symm ?_
  have hux:=hU x.id
  unfold ndF at hux
  generalize hv0:(mGet x.id U).getD ([],Tag.nil)=v0 at hux
  obtain⟨us,tu⟩:=v0
  dsimp only at hux
  rw[List.length_append,List.length_singleton]at hol1
  refine wfa fun ot'=>?_
  rw[hv0]
  have hun':=hun x.id
  have hul':=hul x.id
  have hme:=fun M'=>MisOk.end_ (s:=s) hxo (M:=M')
  have hmu:=fun y hy U' hU'=>mid_user (s:=s) hxo (y:=y) hy (U:=U') hU'
  have hsu: ∀ y∈usersS s x.id,y∈s:=fun y hy=>(List.mem_filter.1 hy).1
  rw[←hux]at hun' hul' hme hmu hsu hnx
  have hcl: ∀ y∈us,cntS (out++ [x.id]) y≤40:=fun y hy=>Nat.le_trans (cnt_le _ y) (needs_len v (hsu y hy))
  have hrq:r.length≤400:=by omega
  refine pwp_loopS (σ:=Nat × List (Dig × Int) × List Sto × Value × List Res)
   (fun z=>z.1≤us.length∧MisOk s (midF out (us.take z.1)) z.2.1∧(HeapP z.2.2.1 z.2.2.1.length∧z.2.2.1.Perm (r++(us.take z.1).filter fun y=>decide ((cntS (out++ [x.id]) y:Int)=0)))∧QRow z.2.2.2.1 z.2.2.1 z.2.2.2.2)
   (fun z=>us.length - z.1)
   (fun z=> [(3,.fmap (eMap kDig (vTgF eSto) U)),(4,.raw (.map (some m2))),(5,.raw (.pointer (some ⟨bq,0,none⟩))),(11,.slice ((out++ [x.id]).map eDig) ot'),(80,.slice (us.map eSto) tu),(81,.raw (.int .i64 us.length)),(82,.raw (.int .i64 z.1))])
   (fun z=> .map m2 (eMap kDig vInt z.2.1):: .tok ot' (out++ [x.id]).length 32::bxQ bq z.2.2.2.1::(z.2.2.2.2++LF))
   (0,M,r,v',R') ⟨by simp,hM.start_,⟨hHr,by simp⟩,hr2⟩ ⟨rfl,rfl,rfl,rfl,rfl,rfl,rfl⟩ (.refl _) ?_
  clear hM hH hQ hr hr2 hHr hpop hp1 hr0 hmin hrl
  rintro⟨j,M,q2,v2,R2⟩ ⟨hj,hM,⟨hH2,hQ2⟩,hr2⟩
  dsimp only at hj hM hH2 hQ2 hr2 ⊢
  refine wf ?_
  refine pwp_condD (fun hc=>?_) (fun hc=>?_)
  ·have hjl:j < us.length:=by omega
   have hym:=List.getElem_mem hjl
   have hq2:q2.length≤2000:=by
    have h1:=hQ2.length_eq
    have h2:=List.length_filter_le (fun y=>decide ((cntS (out++ [x.id]) y:Int)=0)) (us.take j)
    rw[List.length_append]at h1
    rw[List.length_take]at h2
    omega
   have hdec:=hM.dec ha hjl hun' hsu
   have hnj:us[j]∉us.take j:=fun hm=>by
    obtain⟨i,hi,e⟩:=List.mem_iff_getElem.1 hm
    rw[List.length_take]at hi
    rw[List.getElem_take]at e
    exact(List.pairwise_iff_getElem.1 hun') i j (by omega) hjl (by omega) e
   have hmid:=hmu us[j] hym (us.take j) hnj
   have hMy:=hM us[j] (hsu _ hym)
   have hcy:=hcl us[j] hym
   have hft:=filter_take hjl (fun y=>decide ((cntS (out++ [x.id]) y:Int)=0))
   rw[hmid]at hdec
   refine wz fun b15=>?_
   refine pwp_freezeD 15 ?_
   generalize us[j]=y at hym hdec hmid hMy hcy hft ⊢
   generalize cntS (out++ [x.id]) y=n at hdec hmid hcy hft
   generalize midF out (us.take j) y=c at hmid hMy
   have hgn:(mGet y.id (mSet y.id (n:Int) M)).getD 0=(n:Int):=by rw[mGet_mSet,if_pos rfl];rfl
   have hgc:(mGet y.id M).getD 0=c:=by rw[hMy];rfl
   have hgo:(mGet y.id (mSet y.id c M)).getD 0=c:=by rw[mGet_mSet,if_pos rfl];rfl
   refine wn ?_
   refine pwp_joinG (σ:=Unit) (fun _=>True) (fun _=> [(3,.fmap (eMap kDig (vTgF eSto) U)),(4,.raw (.map (some m2))),(5,.raw (.pointer (some ⟨bq,0,none⟩))),(11,.slice ((out++ [x.id]).map eDig) ot'),(15,.pt (eSto y) 0),(80,.slice (us.map eSto) tu),(81,.raw (.int .i64 us.length)),(82,.raw (.int .i64 j))]) (fun _=> .map m2 (eMap kDig vInt (mSet y.id (n:Int) M)):: .tok ot' (out++ [x.id]).length 32::bxQ bq v2::(R2++LF)) ?_ ?_
   ·refine pwp_drawA [3,5,7] (by decide+kernel) ?_
    refine pAny_quiet 0 rfl (by decide+kernel) rfl (fun L'=>q_of_pops (N:=105) rfl rfl (by refine wo ?_;refine pops_nil ?_;exact⟨upd_self _ _ _,rfl⟩)) ?_
    refine pAny_quiet 1 rfl (by decide+kernel) rfl (fun L'=>q_of_pops (N:=105) rfl rfl (by refine wo ?_;refine pops_nil ?_;exact⟨upd_self _ _ _,rfl⟩)) ?_
    refine pAny_quiet 2 rfl (by decide+kernel) rfl (fun L'=>q_of_pops (N:=105) rfl rfl (by refine wo ?_;refine pops_nil ?_;exact⟨upd_self _ _ _,rfl⟩)) ?_
    refine pAny_next (fuel:=4) [3,5] (by decide+kernel) (by simp) fun i hi=>?_
    simp only[List.mem_cons,List.not_mem_nil,or_false]at hi
    rcases hi with rfl|rfl
    ·refine⟨_,rfl,?_⟩
     refine s_lookM (κ:=Dig) (ek:=kDig) (ev:=vInt) (l:=M) (ay:= .agg (eDig y.id)) (k0:=y.id) rfl List.mem_cons_self rfl ?_
     rw[hgc]
     change pops _ _ _ _ _ _ (upd _ _ (.raw (.int .i64 c))) _
     refine pops_nil ?_
     refine pAny_quiet 4 rfl (by decide+kernel) rfl (fun L'=>q_of_pops (N:=105) rfl rfl (by refine wo ?_;refine pops_nil ?_;exact⟨upd_self _ _ _,rfl⟩)) ?_
     refine pAny_next (fuel:=2) [5] (by decide+kernel) (by simp) fun i hi=>?_
     simp only[List.mem_cons,List.not_mem_nil,or_false]at hi
     subst hi
     refine⟨_,rfl,?_⟩
     refine s_mapEntry (ek:=kDig) (ev:=vInt) (k0:=y.id) (l:=M) (L':= .tok ot' (out++ [x.id]).length 32::bxQ bq v2::(R2++LF)) rfl (.refl _) (.refl _) fun es cl ix st hO=>?_
     refine pops_nil ?_
     refine pAny_quiet 6 rfl (by decide+kernel) rfl (fun L'=>q_of_pops (N:=105) rfl rfl (by refine wo ?_;refine pops_nil ?_;exact⟨upd_self _ _ _,rfl⟩)) ?_
     refine pAny_next (fuel:=0) [7] (by decide+kernel) (by simp) fun i hi=>?_
     simp only[List.mem_cons,List.not_mem_nil,or_false]at hi
     subst hi
     refine⟨_,rfl,?_⟩
     refine s_entryStore (ek:=kDig) (ev:=vInt) (x0:=(n:Int)) (L':= .tok ot' (out++ [x.id]).length 32::bxQ bq v2::(R2++LF)) hO rfl rfl (.of_eq (congrArg (fun z=>PV.raw (Value.int .i64 z)) hmid)) (.refl _) ?_
     rw[mSet_mSet]
     refine pops_nil ?_
     refine pAny_end (by decide+kernel) ?_
     exact⟨(),trivial,⟨rfl,rfl,rfl,rfl,rfl,rfl,rfl,rfl⟩,.refl _⟩
    ·refine⟨_,rfl,?_⟩
     refine s_mapEntry (ek:=kDig) (ev:=vInt) (k0:=y.id) (l:=M) (L':= .tok ot' (out++ [x.id]).length 32::bxQ bq v2::(R2++LF)) rfl (.refl _) (.refl _) fun es cl ix st hO=>?_
     rw[hgc]at hO ⊢
     refine pops_nil ?_
     refine pAny_quiet 6 rfl (by decide+kernel) rfl (fun L'=>q_of_pops (N:=105) rfl rfl (by refine wo ?_;refine pops_nil ?_;exact⟨upd_self _ _ _,rfl⟩)) ?_
     refine pAny_next (fuel:=2) [3] (by decide+kernel) (by simp) fun i hi=>?_
     simp only[List.mem_cons,List.not_mem_nil,or_false]at hi
     subst hi
     refine⟨_,rfl,?_⟩
     refine s_lookO (κ:=Dig) (ek:=kDig) (ev:=vInt) (l:=mSet y.id c M) (ay:= .agg (eDig y.id)) (k0:=y.id) hO.len rfl List.mem_cons_self (List.mem_cons_of_mem _ List.mem_cons_self) rfl ?_
     rw[hgo]
     change pops _ _ _ _ _ _ (upd _ _ (.raw (.int .i64 c))) _
     refine pops_nil ?_
     refine pAny_quiet 4 rfl (by decide+kernel) rfl (fun L'=>q_of_pops (N:=105) rfl rfl (by refine wo ?_;refine pops_nil ?_;exact⟨upd_self _ _ _,rfl⟩)) ?_
     refine pAny_next (fuel:=0) [7] (by decide+kernel) (by simp) fun i hi=>?_
     simp only[List.mem_cons,List.not_mem_nil,or_false]at hi
     subst hi
     refine⟨_,rfl,?_⟩
     refine s_entryStore (ek:=kDig) (ev:=vInt) (x0:=(n:Int)) (L':= .tok ot' (out++ [x.id]).length 32::bxQ bq v2::(R2++LF)) hO rfl rfl (.of_eq (congrArg (fun z=>PV.raw (Value.int .i64 z)) hmid)) (.refl _) ?_
     rw[mSet_mSet]
     refine pops_nil ?_
     refine pAny_end (by decide+kernel) ?_
     exact⟨(),trivial,⟨rfl,rfl,rfl,rfl,rfl,rfl,rfl,rfl⟩,.refl _⟩
   rintro _ _
   generalize mSet y.id (n:Int) M=M3 at hdec hgn ⊢
   refine wf ?_
   rw[hgn]
   refine pwp_condD (fun h=>?_) (fun h=>?_)
   ·rw[if_pos (decide_eq_true h)]at hft
    obtain⟨hH3,hQ3⟩:=push_perm (x:=y) hH2 hQ2
    rw[←hft]at hQ3
    refine wf ?_
    refine s_mkIfc rfl ?_
    refine wf ?_
    refine s_mkIfc rfl ?_
    refine wf ?_
    refine s_callR (xs:= [.tmp 99,.tmp 101]) (bxQ bq v2::R2) (.map m2 (eMap kDig vInt M3):: .tok ot' (out++ [x.id]).length 32::LF) (f:=41) (cs:= []) (le_func _) rfl rfl perm_p _ (hpush_fn q2 y bq v2 R2 hr2 (by omega)) fun r' L' ⟨v3,R3,hp3,hr3⟩=>?_
    refine pops_nil ?_
    refine pwp_perm ((hp3.append_right _).trans perm_p.symm) ?_
    refine wf ?_
    exact⟨(j+1,M3,pushS q2 y,v3,R3),⟨by dsimp only;omega,hdec,⟨hH3,hQ3⟩,hr3⟩,by dsimp only;omega,⟨rfl,rfl,rfl,rfl,rfl,rfl,rfl⟩,.refl _⟩
   ·rw[if_neg (by simpa using h),List.append_nil]at hft
    rw[←hft]at hQ2
    refine wf ?_
    exact⟨(j+1,M3,q2,v2,R2),⟨by dsimp only;omega,hdec,⟨hH2,hQ2⟩,hr2⟩,by dsimp only;omega,⟨rfl,rfl,rfl,rfl,rfl,rfl,rfl⟩,.refl _⟩
  rw[List.take_of_length_le (by omega)]at hM hQ2
  refine wf ?_
  exact⟨((out++ [x.id],ot'),M,q2,v2,R2),⟨hL1,hme _ hM,⟨hH2,hQ2.trans hnx⟩,hr2⟩,by dsimp only;rw[List.length_append,List.length_singleton];omega,⟨rfl,rfl,rfl,rfl⟩,.refl _⟩
 ·have hq0:q= []:=List.eq_nil_of_length_eq_zero (by omega)
  have he:out=rLog s:=hL.done v (by
   have h1:=hQ.length_eq
   rw[hq0]at h1
   exact List.eq_nil_of_length_eq_zero h1.symm)
  refine wf ?_
  refine end1 (hs:= .cons _ (.cons _ (.cons _ (List.sublist_append_right _ _)))) (.ros ?_)
  rw[he]⟩
end Go.Proofs
namespace Go.Proofs
open Go Go.Q
section
variable {β:Type} [DecidableEq β] (K:Sto→β)
end
end Go.Proofs
namespace Go.Proofs
open Go Go.Q
end Go.Proofs
namespace Go.Proofs
open Go Go.Q
def rDepth (s:List Sto) (d:Dig):Int × Int:=match mGet d (dMap s (rOrder s))with
 |some v=>(v,0)
 |none=>(0,7)
def hw0:Dig:=⟨[29,5,81,176,77,171,31,168,3,84,99,177,155,5,61,168,37,109,70,193,94,5,28,98,24,204,118,247,185,184,170,220],rfl⟩
def hw1:Dig:=⟨[240,168,68,31,108,233,64,210,234,68,91,7,227,21,139,135,67,203,230,233,173,209,83,239,153,132,174,43,167,0,34,187],rfl⟩
def hw2:Dig:=⟨[213,83,79,138,58,73,5,36,69,187,190,214,93,193,171,28,47,86,11,254,23,204,168,89,142,6,60,190,106,212,44,43],rfl⟩
def hwA:Pat:=⟨[97],[],5,[],[awF]⟩
def hwB:Pat:=⟨[98],[],3,[],[awF]⟩
def hwC:Pat:=⟨[99],[],4,[hw0],[awF]⟩
def hw1S:List Sto:= [⟨hw0,hwA⟩]
def hw2S:List Sto:= [⟨hw0,hwA⟩,⟨hw1,hwB⟩]
def hw3S:List Sto:= [⟨hw0,hwA⟩,⟨hw2,hwC⟩,⟨hw1,hwB⟩]
theorem hwAdd0:rAdd [] hwA=(hw1S,hw0,0):=by decide+kernel
theorem hwAdd1:rAdd hw1S hwB=(hw2S,hw1,0):=by decide+kernel
theorem hwAdd2:rAdd hw2S hwC=(hw3S,hw2,0):=by decide+kernel
theorem hwGreat:rGreat hwA=false∧rGreat hwB=false∧rGreat hwC=false:=by decide+kernel
theorem hwFine1:rFine hw1S=true:=by decide+kernel
theorem hwFine2:rFine hw2S=true:=by decide+kernel
theorem hwFine3:rFine hw3S=true:=by decide+kernel
theorem hwLog:rLog hw3S= [hw1,hw0,hw2]:=by decide+kernel
theorem hwTops:rTops hw3S= [hw2,hw1]:=by decide+kernel
theorem hwDepth:rDepth hw3S hw2=(2,0):=by decide+kernel
end Go.Proofs
namespace Go.Proofs
open Go Go.Q
def rSwap (s:List Sto) (l:List Dig) (i:Int):List Dig × Bool:=
 if rLin s l≠0∨i < 0∨(l.length:Int) - 1≤i then([],false)else
 if l.getD i.toNat Dig.zero∈ndS s (l.getD (i.toNat+1) Dig.zero)then([],false)else(swapD l i.toNat,true)
def rMove (s:List Sto) (l:List Dig) (a b:Int):List Dig × Bool:=
 if rLin s l≠0∨(a < 0∨(l.length:Int)≤a)∨b < 0∨(l.length:Int)≤b then([],false)else
 match mvF s (dst a.toNat b.toNat) l a.toNat b.toNat with
 |none=>([],false)
 |some m=>(m,true)
def rPrefix (s:List Sto) (l:List Dig) (n:Int):List Sto × Int:=
 if rLin s l≠0 then([],rLin s l)else if n < 0∨(l.length:Int) < n then([],2)else(keepS s (l.take n.toNat),0)
theorem mv_eq (s:List Sto) (l:List Dig) (a:Nat):mvF s (dst a a) l a a=some l:=by
 have:dst a a=0:=by unfold dst;omega
 rw[this];rfl
theorem mv_dn {s:List Sto} {l:List Dig} {a b:Nat} (h:b < a):mvF s (dst a b) l a b=if l.getD (a - 1) Dig.zero∈ndS s (l.getD a Dig.zero)then none else mvF s (dst (a - 1) b) (swapD l (a - 1)) (a - 1) b:=by
 have e:dst a b=dst (a - 1) b+1:=by unfold dst;omega
 rw[e,mvF,if_neg (by omega),if_pos h]
theorem mv_up {s:List Sto} {l:List Dig} {a b:Nat} (h:a < b):mvF s (dst a b) l a b=if l.getD a Dig.zero∈ndS s (l.getD (a+1) Dig.zero)then none else mvF s (dst (a+1) b) (swapD l a) (a+1) b:=by
 have e:dst a b=dst (a+1) b+1:=by unfold dst;omega
 rw[e,mvF,if_neg (by omega),if_neg (by omega)]
theorem connect_step {s:List Sto} {a b:List Dig} (ha:Lin s a) (hb:Lin s b) {i:Nat} (hi:i < b.length) (he:a.take i=b.take i) (hl:a.length=b.length):
  ∃ k,i≤k∧(∀ j,i≤j→(h:j < a.length)→j < k→a[j]≠b[i])∧ ∃ (hk:k < a.length),a[k]=b[i]∧ ∃ m,mvF s (dst k i) a k i=some m∧Lin s m∧m.length=a.length∧m.take (i+1)=b.take (i+1):=by
 have hmem:b[i]∈a:=(ha.mem _).2 ((hb.mem _).1 (List.getElem_mem hi))
 have hk:a.idxOf b[i] < a.length:=List.idxOf_lt_length_iff.2 hmem
 have hak:a[a.idxOf b[i]]=b[i]:=List.getElem_idxOf hk
 have hik:i≤a.idxOf b[i]:=by
  refine Classical.byContradiction fun h=>?_
  have h1:a[a.idxOf b[i]]∈a.take i:=List.mem_take_iff_getElem.2 ⟨a.idxOf b[i],by omega,rfl⟩
  rw[he,hak]at h1
  exact nodup_takeC hb.nodup hi h1
 refine⟨a.idxOf b[i],hik,fun j _ h hj e=>?_,hk,hak,?_⟩
 ·have:=(List.getElem_inj ha.nodup).1 (e.trans hak.symm)
  omega
 ·obtain⟨m,h1,h2,h3,h4,h5⟩:=front (a.idxOf b[i] - i) ha (i:=i) (k:=a.idxOf b[i]) (by omega) hk (by
   rw[hak,he];exact hb.need i hi)
  have e:dst (a.idxOf b[i]) i=a.idxOf b[i] - i:=by unfold dst;omega
  refine⟨m,by rw[e];exact h1,h2,h3,?_⟩
  rw[List.take_succ_eq_append_getElem (by omega),List.take_succ_eq_append_getElem hi,h4,he]
  rw[hak,getD_get (by omega)]at h5
  rw[h5]
end Go.Proofs
namespace Go.Proofs
open Go Go.Q
def dpK (s:List Sto) (l:List Dig) (i k:Nat):Nat:=(List.range k).foldl (fun d j=>if l.getD j Dig.zero∈ndS s (l.getD i Dig.zero)then max d (depD s (l.getD j Dig.zero)+1)else d) 1
theorem dpK_succ (s:List Sto) (l:List Dig) (i k:Nat):dpK s l i (k+1)=if l.getD k Dig.zero∈ndS s (l.getD i Dig.zero)then max (dpK s l i k) (depD s (l.getD k Dig.zero)+1)else dpK s l i k:=by
 unfold dpK
 rw[List.range_succ,List.foldl_append]
 rfl
theorem dpK_spec (s:List Sto) (l:List Dig) (i:Nat): ∀ k,1≤dpK s l i k∧(∀ j,j < k→l.getD j Dig.zero∈ndS s (l.getD i Dig.zero)→depD s (l.getD j Dig.zero)+1≤dpK s l i k)∧(dpK s l i k=1∨ ∃ j,j < k∧l.getD j Dig.zero∈ndS s (l.getD i Dig.zero)∧dpK s l i k=depD s (l.getD j Dig.zero)+1)
 |0=>⟨Nat.le_refl _,fun j h=>absurd h (Nat.not_lt_zero _),.inl rfl⟩
 |k+1=>by
  obtain⟨h1,h2,h3⟩:=dpK_spec s l i k
  rw[dpK_succ]
  by_cases h:l.getD k Dig.zero∈ndS s (l.getD i Dig.zero)
  ·rw[if_pos h]
   refine⟨by omega,fun j hj hn=>?_,?_⟩
   ·by_cases e:j=k
    ·subst e;omega
    ·have:=h2 j (by omega) hn;omega
   ·rcases Nat.le_total (dpK s l i k) (depD s (l.getD k Dig.zero)+1)with h4|h4
    ·exact .inr ⟨k,by omega,h,by omega⟩
    ·rcases h3 with h3|⟨j,hj,hn,h3⟩
     ·exact .inl (by omega)
     ·exact .inr ⟨j,by omega,hn,by omega⟩
  ·rw[if_neg h]
   refine⟨h1,fun j hj hn=>?_,?_⟩
   ·by_cases e:j=k
    ·subst e;exact absurd hn h
    ·exact h2 j (by omega) hn
   ·rcases h3 with h3|⟨j,hj,hn,h3⟩
    ·exact .inl h3
    ·exact .inr ⟨j,by omega,hn,h3⟩
theorem dpK_all {s:List Sto} (v:Valid s) {i:Nat} (hi:i < (rOrder s).length):dpK s (rOrder s) i i=depD s (rOrder s)[i]:=by
 have hL:=order_lin v
 obtain⟨h1,h2,h3⟩:=dpK_spec s (rOrder s) i i
 rw[getD_get hi]at h2 h3
 have e:=(depD_eq v ((hL.mem _).1 (List.getElem_mem hi))).2
 refine Nat.le_antisymm ?_ ?_
 ·rcases h3 with h3|⟨j,hj,hn,h3⟩
  ·rw[h3,e];exact mxF_pos _ _
  ·have:=mxF_le (f:=depD s) hn
   rw[h3,e];omega
 ·rw[e]
  rcases mxF_at (depD s) (ndS s (rOrder s)[i])with h4|⟨x,hx,h4⟩
  ·omega
  ·obtain⟨j,hj,ej⟩:=List.mem_take_iff_getElem.1 (hL.need i hi x hx)
   have hji:j < i:=by omega
   have:=h2 j hji (by rw[getD_get (by omega),ej];exact hx)
   rw[getD_get (by omega),ej]at this
   omega
theorem rDepth_in {s:List Sto} (v:Valid s) {d:Dig} (hd:d∈ids s):rDepth s d=(((depD s d:Nat):Int),0):=by
 unfold rDepth
 rw[(depD_eq v hd).1]
theorem rDepth_out {s:List Sto} (v:Valid s) {d:Dig} (hd:d∉ids s):rDepth s d=(0,7):=by
 unfold rDepth
 rw[dMap_none fun h=>hd ((mem_order_iff v).1 h)]
theorem mSet_keys {κ α:Type} [DecidableEq κ] (k:κ) (x:α): ∀ m:List (κ × α),(mSet k x m).map (·.1)=if k∈m.map (·.1)then m.map (·.1)else m.map (·.1)++ [k]
 | []=>by simp[mSet]
 |(a,y)::l=>by
  have ih:=mSet_keys k x l
  by_cases e:k=a
  ·subst e;simp[mSet]
  ·have e2:mSet k x ((a,y)::l)=(a,y)::mSet k x l:=by simp[mSet,e]
   rw[e2,List.map_cons,ih,List.map_cons]
   by_cases h:k∈l.map (·.1)
   ·rw[if_pos h,if_pos (by simp[h])]
   ·rw[if_neg h,if_neg (by simp only[List.mem_cons,not_or];exact⟨e,h⟩)];rfl
theorem len_of_same' {α:Type} [DecidableEq α] {l m:List α} (hl:l.Nodup) (hm:m.Nodup) (h: ∀ d,d∈l↔d∈m):l.length=m.length:=
 Nat.le_antisymm (nodup_len hl fun d hd=>(h d).1 hd) (nodup_len hm fun d hd=>(h d).2 hd)
structure MetD (s:List Sto) (l:List Dig) (m:List (Int × Bool)):Prop where
 nodup:(m.map (·.1)).Nodup
 mem: ∀ k,k∈m.map (·.1)↔ ∃ x∈l,k=(depD s x:Int)
theorem MetD.start (s:List Sto):MetD s [] []:=⟨by simp,by simp⟩
theorem MetD.snoc {s:List Sto} {l:List Dig} {m:List (Int × Bool)} (h:MetD s l m) (x:Dig):MetD s (l++ [x]) (mSet ((depD s x:Nat):Int) true m):=by
 refine⟨?_,fun k=>?_⟩
 ·rw[mSet_keys]
  split
  ·exact h.nodup
  ·rename_i hn
   exact List.nodup_append.2 ⟨h.nodup,by simp,fun a ha b hb e=>by rw[List.mem_singleton.1 hb]at e;exact hn (e ▸ ha)⟩
 ·rw[mSet_keys]
  have e:(k∈(if((depD s x:Nat):Int)∈m.map (·.1)then m.map (·.1)else m.map (·.1)++ [((depD s x:Nat):Int)]))↔k∈m.map (·.1)∨k=((depD s x:Nat):Int):=by
   split
   ·rename_i hm
    exact⟨.inl,fun h=>h.elim id fun e=>e ▸ hm⟩
   ·rw[List.mem_append,List.mem_singleton]
  rw[e,h.mem]
  constructor
  ·rintro(⟨y,hy,e⟩|e)
   ·exact⟨y,by simp[hy],e⟩
   ·exact⟨x,by simp,e⟩
  ·rintro⟨y,hy,e⟩
   rcases List.mem_append.1 hy with hy|hy
   ·exact .inl ⟨y,hy,e⟩
   ·rw[List.mem_singleton.1 hy]at e;exact .inr e
theorem MetD.len {s:List Sto} (v:Valid s) {d:Dig} (hd:d∈ids s) {L:List Dig} (hL: ∀ x,x∈L↔Q.Reach (ndS s) [d] x) {m:List (Int × Bool)} (h:MetD s L m):m.length=depD s d:=by
 have hcl: ∀ x∈ids s,∀ d∈ndS s x,d∈ids s:=fun x _ d hd=>v.close.nd x d hd
 have hl: ∀ x∈ [d],x∈ids s:=fun x hx=>by rw[List.mem_singleton.1 hx];exact hd
 have:=len_of_same' (l:=m.map (·.1)) (m:=(List.range (depD s d)).map fun(i:Nat)=>((i:Nat):Int)+1) h.nodup (by
  refine List.Pairwise.map _ (fun(a b:Nat) (hab:a≠b) (e:((a:Int)+1=(b:Int)+1))=>hab (by omega)) List.nodup_range) fun k=>by
  rw[h.mem,List.mem_map]
  constructor
  ·rintro⟨x,hx,rfl⟩
   have hr:=(hL x).1 hx
   have h1:=depD_pos v (hr.in_ hcl hl)
   have h2:depD s x≤depD s d:=by
    rcases depD_reach v hd hr with rfl|h2
    ·exact Nat.le_refl _
    ·omega
   exact⟨depD s x - 1,List.mem_range.2 (by omega),by omega⟩
  ·rintro⟨i,hi,rfl⟩
   have hi:=List.mem_range.1 hi
   obtain⟨x,hx,e⟩:=depD_chain v (depD s d) hd rfl (i+1) (by omega) (by omega)
   exact⟨x,(hL x).2 hx,by omega⟩
 simpa using this
theorem tops_clo {s:List Sto} (v:Valid s):rClosure s (rTops s)=(ids s,0):=by
 obtain⟨L,e,hc,hm⟩:=v.closedM (l:=rTops s) fun d hd=>(mem_tops.1 hd).1
 rw[e]
 have:L=ids s:=Asc.ext hc.asc v.asc fun d=>⟨hc.sub d,fun hd=>(hm d).2 (tops_all v _ hd rfl)⟩
 rw[this]
theorem tops_others {s:List Sto} (v:Valid s) {i:Nat} (hi:i < (rTops s).length): ∃ L,rClosure s ((rTops s).take i++(rTops s).drop (i+1))=(L,0)∧(rTops s)[i]∉L:=by
 have hn:(rTops s).Nodup:=v.asc.nodup.sublist (tops_sub s)
 obtain⟨L,e,hc,hm⟩:=v.closedM (l:=(rTops s).take i++(rTops s).drop (i+1)) fun d hd=>by
  refine(mem_tops.1 ?_).1
  rcases List.mem_append.1 hd with hd|hd
  ·exact List.mem_of_mem_take hd
  ·exact List.mem_of_mem_drop hd
 refine⟨L,e,fun hin=>?_⟩
 have h1:=tops_apart (List.getElem_mem hi) ((hm _).1 hin)
 rcases List.mem_append.1 h1 with h1|h1
 ·exact nodup_takeC hn hi h1
 ·obtain⟨k,hk,e2⟩:=List.mem_drop_iff_getElem.1 h1
  have:=(List.getElem_inj hn).1 e2
  omega
theorem need_knows {s:List Sto} (v:Valid s) {x y:Dig} (hx:x∈ids s) (h:y∈ndS s x):rKnows s x y=true:=by
 obtain⟨L,e,hc,hm⟩:=v.closedM (l:= [x]) fun d hd=>by rw[List.mem_singleton.1 hd];exact hx
 rw[v.knows,e]
 simp[(hm y).2 (.step (.base (by simp)) h)]
end Go.Proofs
namespace Go.Proofs
open Go Go.Q
theorem rLin_at {s:List Sto} {l:List Dig} {i:Nat} (hi:i < l.length) (h: ∀ j,j < i→linE s l j=0) (hn:linE s l i≠0):rLin s l=linE s l i:=by
 have e:=firstErr_at (f:=linE s l) (l:=List.range l.length) (k:=i) (by simpa using hi) (fun j hj hji=>by rw[List.getElem_range];exact h j hji) (by rw[List.getElem_range];exact hn)
 rw[List.getElem_range]at e
 unfold rLin
 rw[e,if_pos hn]
theorem lin_zero {s:List Sto} {l:List Dig} (h: ∀ j,j < l.length→linE s l j=0):firstErr (linE s l) (List.range l.length)=0:=firstErr_zero fun i hi=>by
 rw[List.length_range]at hi
 rw[List.getElem_range];exact h i hi
theorem rLin_len {s:List Sto} {l:List Dig} (h: ∀ j,j < l.length→linE s l j=0):rLin s l=if(l.length:Int)≠s.length then 10 else 0:=by
 unfold rLin
 rw[lin_zero h,if_neg (by simp)]
theorem rLin_has {s:List Sto} {l:List Dig} (ha:Asc (ids s)) (h: ∀ j,j < l.length→linE s l j=0) (hs: ∀ x∈s,x.id∈l):rLin s l=0:=by
 obtain⟨n1,n2,n3⟩:=lin_part ha (lin_zero h)
 exact(lin_iff ha).2 ⟨fun d=>⟨n2 d,fun hd=>by
  obtain⟨x,hx,rfl⟩:=List.mem_map.1 hd
  exact hs x hx⟩,n1,n3⟩
theorem rLin_lacks {s:List Sto} {l:List Dig} (ha:Asc (ids s)) (h: ∀ j,j < l.length→linE s l j=0) {x:Sto} (hx:x∈s) (hn:x.id∉l):rLin s l=10:=by
 have h1:rLin s l≠0:=fun h0=>hn (((lin_iff ha).1 h0).mem x.id |>.2 (List.mem_map.2 ⟨x,hx,rfl⟩))
 rw[rLin_len h]at h1 ⊢
 split
 ·rfl
 ·rename_i h2;rw[if_neg h2]at h1;exact absurd rfl h1
theorem linE_7 {s:List Sto} {l:List Dig} {i:Nat} (hi:i < l.length) (h:(getS s l[i]).isSome=false):linE s l i=7:=by
 unfold linE;rw[getD_get hi,if_pos h]
theorem linE_6 {s:List Sto} {l:List Dig} {i:Nat} (hi:i < l.length) (h:(getS s l[i]).isSome=true) (h2:l[i]∈l.take i):linE s l i=6:=by
 unfold linE;rw[getD_get hi,if_neg (by simp[h]),if_pos h2]
theorem linE_19 {s:List Sto} {l:List Dig} {i:Nat} (hi:i < l.length) (h:(getS s l[i]).isSome=true) (h2:l[i]∉l.take i) (h3: ¬ ∀ d∈ndS s l[i],d∈l.take i):linE s l i=19:=by
 unfold linE;rw[getD_get hi,if_neg (by simp[h]),if_neg h2,if_pos (by
  cases hA:allIn (l.take i) (ndS s l[i])with
  |false=>rfl
  |true=>exact absurd (allIn_iff.1 hA) h3)]
theorem linE_0 {s:List Sto} {l:List Dig} {i:Nat} (hi:i < l.length) (h:(getS s l[i]).isSome=true) (h2:l[i]∉l.take i) (h3: ∀ d∈ndS s l[i],d∈l.take i):linE s l i=0:=by
 unfold linE;rw[getD_get hi,if_neg (by simp[h]),if_neg h2,if_neg (by rw[allIn_iff.2 h3];simp)]
theorem lin_next {s:List Sto} {l:List Dig} {i:Nat} (h: ∀ j,j < i→linE s l j=0) (h0:linE s l i=0): ∀ j,j < i+1→linE s l j=0:=fun j hj=>by
 by_cases e:j=i
 ·rw[e];exact h0
 ·exact h j (by omega)
theorem nd_len {s:List Sto} (v:Valid s) (d:Dig):(ndS s d).length≤40:=by
 unfold ndS
 cases hg:getS s d with
 |none=>rw[Option.getD_none,needs_zero];simp
 |some p=>rw[Option.getD_some];exact needs_len v (getS_mem' hg)
end Go.Proofs
namespace Go.Proofs
open Go Go.Q
attribute [local irreducible] pwp pops pAny PCalls OpN
def ndAll (s:List Sto):List Dig:=s.flatMap fun y=>rNeeds y.patch
theorem ndAll_succ {s:List Sto} {k:Nat} (hk:k < s.length):ndAll (s.take (k+1))=ndAll (s.take k)++rNeeds s[k].patch:=by
 unfold ndAll
 rw[List.take_succ_eq_append_getElem hk,List.flatMap_append,List.flatMap_singleton]
theorem mem_flat (f:Sto→List Dig) (d:Dig): ∀ s:List Sto,decide (d∈s.flatMap f)=!(s.all fun y=>decide (d∉f y))
 | []=>by simp
 |y::s=>by
  have ih:=mem_flat f d s
  rw[List.flatMap_cons,List.all_cons,Bool.not_and,←ih]
  by_cases h1:d∈f y<;>simp[h1]
theorem top_met {s:List Sto} {T:List (Dig × Bool)} (h:MetOk T (ndAll s)) (x:Sto):(mGet x.id T).getD false=!topP s x:=(h x.id).trans (mem_flat _ _ s)
def tpK (s:List Sto) (k:Nat):List Dig:=((s.take k).filter (topP s)).map (·.id)
theorem tpK_len (s:List Sto) (k:Nat):(tpK s k).length≤k:=by
 unfold tpK
 rw[List.length_map]
 refine Nat.le_trans (List.length_filter_le _ _) ?_
 rw[List.length_take];omega
theorem tpK_succ {s:List Sto} {k:Nat} (hk:k < s.length):tpK s (k+1)=tpK s k++if topP s s[k]=true then [s[k].id]else []:=by
 unfold tpK
 rw[filter_take hk,List.map_append]
 congr 1
 split<;>rfl
theorem tpK_all (s:List Sto):tpK s s.length=rTops s:=by unfold tpK rTops;rw[List.take_length]
set_option maxHeartbeats 4000000 in
theorem topsP_fn (s:List Sto) (t:Tag) (v:Valid s) (hl:s.length≤400):FnC Tryz.prog 15 [.slice (s.map eSto) t] (.slice ((rTops s).map eDig) .ro):=⟨by
 refine fn_of Tryz.func15 Tryz.ntmps15 rfl (rs:= [.tmp 2]) rfl rfl fun hb LF=>?_
 refine wfm fun m=>?_
 refine pwp_loopS (σ:=Nat × List (Dig × Bool)) (fun z=>z.1≤s.length∧MetOk z.2 (ndAll (s.take z.1))) (fun z=>s.length - z.1) (fun z=> [(0,.slice (s.map eSto) t),(3,.raw (.map (some m))),(12,.slice (s.map eSto) t),(13,.raw (.int .i64 s.length)),(14,.raw (.int .i64 z.1))]) (fun z=> .map m (eMap kDig vBool z.2)::LF) (0,[]) ⟨by simp,fun d=>by simp[mGet,ndAll]⟩ ⟨rfl,rfl,rfl,rfl,rfl⟩ (.refl _) ?_
 rintro⟨k,T⟩ ⟨hk,hT⟩
 dsimp only at hk hT ⊢
 refine wf ?_
 refine pwp_condD (fun hc=>?_) (fun hc=>?_)
 ·have hlt:k < s.length:=by omega
  have hxm:=List.getElem_mem hlt
  have i1:Small (rBig s[k].patch=false):=⟨v.close.1.2 _ hxm⟩
  have hnl:=needs_len v hxm
  have hns:=ndAll_succ hlt
  refine wz fun b5=>?_
  refine pwp_freezeD 5 ?_
  generalize s[k]=x at hxm i1 hnl hns ⊢
  refine wf ?_
  generalize ndAll (s.take k)=A at hT hns
  generalize rNeeds x.patch=nd at hnl hns ⊢
  refine pwp_loopS (σ:=Nat × List (Dig × Bool)) (fun z=>z.1≤nd.length∧MetOk z.2 (A++nd.take z.1)) (fun z=>nd.length - z.1) (fun z=> [(0,.slice (s.map eSto) t),(3,.raw (.map (some m))),(12,.slice (s.map eSto) t),(13,.raw (.int .i64 s.length)),(14,.raw (.int .i64 k)),(20,.slice (nd.map eDig) .ro),(21,.raw (.int .i64 nd.length)),(22,.raw (.int .i64 z.1))]) (fun z=> .map m (eMap kDig vBool z.2)::LF) (0,T) ⟨by simp,by simpa using hT⟩ ⟨rfl,rfl,rfl,rfl,rfl,rfl,rfl,rfl⟩ (.refl _) ?_
  rintro⟨j,T2⟩ ⟨hj,hT2⟩
  dsimp only at hj hT2 ⊢
  refine wf ?_
  refine pwp_condD (fun hc=>?_) (fun hc=>?_)
  ·have hjl:j < nd.length:=by omega
   have hT3:=hT2.add nd[j]
   rw[List.append_assoc,←List.take_succ_eq_append_getElem hjl]at hT3
   refine wz fun b7=>?_
   refine pwp_freezeD 7 ?_
   refine wf ?_
   exact⟨(j+1,mSet nd[j] true T2),⟨by dsimp only;omega,hT3⟩,by dsimp only;omega,⟨rfl,rfl,rfl,rfl,rfl,rfl,rfl,rfl⟩,.refl _⟩
  ·rw[List.take_of_length_le (by omega),←hns]at hT2
   refine wf ?_
   exact⟨(k+1,T2),⟨by dsimp only;omega,hT2⟩,by dsimp only;omega,⟨rfl,rfl,rfl,rfl,rfl⟩,.refl _⟩
 have hkk:k=s.length:=by omega
 subst hkk
 rw[List.take_length]at hT
 have htm:=top_met hT
 refine wf ?_
 refine pwp_tok 32 ?_
 refine pwp_perm (.swap _ _ _) ?_
 refine pwp_loopS (σ:=Nat × Tag) (fun z=>z.1≤s.length) (fun z=>s.length - z.1) (fun z=> [(3,.raw (.map (some m))),(8,.slice ((tpK s z.1).map eDig) z.2),(30,.slice (s.map eSto) t),(31,.raw (.int .i64 s.length)),(32,.raw (.int .i64 z.1))]) (fun z=> .map m (eMap kDig vBool T):: .tok z.2 (tpK s z.1).length 32::LF) (0,.nil) (by simp) ⟨rfl,rfl,rfl,rfl,rfl⟩ (.refl _) ?_
 rintro⟨k,u⟩ hk
 dsimp only at hk ⊢
 refine wf ?_
 refine pwp_condD (fun hc=>?_) (fun hc=>?_)
 ·have hlt:k < s.length:=by omega
  have hsk:=tpK_succ hlt
  have hkl:=tpK_len s k
  have hx:=htm s[k]
  refine wz fun b10=>?_
  refine pwp_freezeD 10 ?_
  generalize s[k]=x at hsk hx ⊢
  generalize topP s x=p at hsk hx
  refine wf ?_
  rw[hx]
  refine pwp_condB (fun h=>?_) (fun h=>?_)
  ·have hp:p=true:=by simpa using h
   rw[if_pos hp]at hsk
   generalize tpK s k=A at hsk hkl ⊢
   refine wfa fun u'=>?_
   refine⟨(k+1,u'),by dsimp only;omega,by dsimp only;omega,⟨rfl,?_,rfl,rfl,rfl⟩,?_⟩
   ·dsimp only;rw[hsk];rfl
   ·dsimp only;rw[hsk];exact .refl _
  ·have hp:p=false:=by simpa using h
   rw[if_neg (by simp[hp]),List.append_nil]at hsk
   refine wf ?_
   refine⟨(k+1,u),by dsimp only;omega,by dsimp only;omega,⟨rfl,?_,rfl,rfl,rfl⟩,?_⟩
   ·dsimp only;rw[hsk];rfl
   ·dsimp only;rw[hsk];exact .refl _
 ·have hkk:k=s.length:=by omega
  rw[hkk,tpK_all]
  refine wf ?_
  exact end1 (.ro _ _)⟩
theorem dMap_le {s:List Sto} {d:Dig} {v:Int}: ∀ {l:List Dig},mGet d (dMap s l)=some v→v≤l.length:=fun {l}=>by
 revert d v
 refine snocInd (motive:=fun l=> ∀ {d:Dig} {v:Int},mGet d (dMap s l)=some v→v≤l.length) (fun {d v} h=>by simp[dMap,mGet]at h) (fun l x ih {d v} h=>?_) l
 rw[dMap_append,mGet_mSet]at h
 rw[List.length_append,List.length_singleton]
 by_cases e:d=x
 ·rw[if_pos e]at h
  have h:=Option.some.inj h
  unfold depI at h
  rcases mxF_at (fun x=>((mGet x (dMap s l)).getD 0).toNat) (ndS s x)with h1|⟨y,_,h1⟩
  ·omega
  ·have h2:(mGet y (dMap s l)).getD 0≤l.length:=by
    cases hy:mGet y (dMap s l)with
    |none=>show(0:Int)≤_;omega
    |some w=>exact ih hy
   omega
 ·rw[if_neg e]at h
  have:=ih h
  omega
def dpJ (D:List (Dig × Int)) (nd:List Dig) (j:Nat):Nat:=(nd.take j).foldl (fun n d=>max n (1+((mGet d D).getD 0).toNat)) 1
theorem dpJ_succ {D:List (Dig × Int)} {nd:List Dig} {j:Nat} (h:j < nd.length):dpJ D nd (j+1)=max (dpJ D nd j) (1+((mGet nd[j] D).getD 0).toNat):=by
 unfold dpJ
 rw[List.take_succ_eq_append_getElem h,List.foldl_append]
 rfl
theorem dpJ_all (s:List Sto) (D:List (Dig × Int)) (d:Dig):dpJ D (ndS s d) (ndS s d).length=depI s D d:=by
 unfold dpJ
 rw[List.take_length];rfl
theorem dpJ_le {D:List (Dig × Int)} {nd:List Dig} {B:Nat} (h: ∀ x,(mGet x D).getD 0≤B): ∀ j,j≤nd.length→dpJ D nd j≤B+1
 |0,_=>by simp[dpJ]
 |j+1,hj=>by
  rw[dpJ_succ (by omega)]
  have h1:=dpJ_le (nd:=nd) h j (by omega)
  have h2:=h nd[j]
  omega
set_option maxHeartbeats 4000000 in
theorem depthP_fn (s:List Sto) (t:Tag) (d:Dig) (v:Valid s):FnC Tryz.prog 12 [.slice (s.map eSto) t,.agg (eDig d)] (.tuple [.raw (.int .i64 (rDepth s d).1),.raw (.int .i64 (rDepth s d).2)]):=⟨by
 have c1:=fun t=>orderP_fn s t v.close.1 v.asc
 have hol:=(order_lin v).len v.asc
 have h40:=v.close.1.1
 refine fn_of Tryz.func12 Tryz.ntmps12 rfl (rs:= [.tmp 4,.tmp 5]) rfl rfl fun hb LF=>?_
 have hrd:rDepth s d=match mGet d (dMap s (rOrder s))with|some v=>(v,0)|none=>(0,7):=rfl
 have hda:=fun k (hk:k < (rOrder s).length)=>dMap_append s ((rOrder s).take k) (rOrder s)[k]
 generalize rDepth s d=rd at hrd ⊢
 generalize rOrder s=O at c1 hol hrd hda
 refine wfm fun m=>?_
 refine pwp_loopS (σ:=Nat) (fun k=>k≤O.length) (fun k=>O.length - k) (fun k=> [(0,.slice (s.map eSto) t),(3,.pt (eDig d) 0),(6,.raw (.map (some m))),(18,.slice (O.map eDig) .ro),(19,.raw (.int .i64 O.length)),(20,.raw (.int .i64 k))]) (fun k=> .map m (eMap kDig vInt (dMap s (O.take k)))::LF) 0 (by simp) ⟨rfl,rfl,rfl,rfl,rfl,rfl⟩ (.refl _) ?_
 rintro k hk
 refine wf ?_
 refine pwp_condD (fun hc=>?_) (fun hc=>?_)
 ·have hlt:k < O.length:=by omega
  have hd1:=hda k hlt
  rw[←List.take_succ_eq_append_getElem hlt]at hd1
  have hB: ∀ x,0≤(mGet x (dMap s (O.take k))).getD 0∧(mGet x (dMap s (O.take k))).getD 0≤(400:Nat):=fun x=>by
   cases hx:mGet x (dMap s (O.take k))with
   |none=>show(0:Int)≤0∧(0:Int)≤_;omega
   |some w=>
    have h1:=dMap_pos hx
    have h2:=dMap_le hx
    rw[List.length_take]at h2
    show 0≤w∧w≤_
    omega
  generalize dMap s (O.take k)=D at hd1 hB ⊢
  have i1:Small (rBig ((getS s O[k]).getD Pat.zero)=false):=⟨v.close.great _⟩
  have hdj:=dpJ_all s D O[k]
  refine wz fun b8=>?_
  refine pwp_freezeD 8 ?_
  generalize O[k]=x at hd1 i1 hdj ⊢
  refine wz fun b9=>?_
  refine pwp_freezeD 9 ?_
  refine wf ?_
  rw[show rNeeds ((getS s x).getD Pat.zero)=ndS s x from rfl]
  have hnl:=nd_len v x
  generalize ndS s x=nd at hdj hnl ⊢
  rw[←hdj]at hd1
  have hdle:=dpJ_le (nd:=nd) fun x=>(hB x).2
  refine pwp_loopS (σ:=Nat) (fun j=>j≤nd.length) (fun j=>nd.length - j) (fun j=> [(0,.slice (s.map eSto) t),(3,.pt (eDig d) 0),(6,.raw (.map (some m))),(8,.pt (eDig x) 0),(11,.raw (.int .i64 (dpJ D nd j:Nat))),(18,.slice (O.map eDig) .ro),(19,.raw (.int .i64 O.length)),(20,.raw (.int .i64 k)),(31,.slice (nd.map eDig) .ro),(32,.raw (.int .i64 nd.length)),(33,.raw (.int .i64 j))]) (fun _=> .map m (eMap kDig vInt D)::LF) 0 (by simp) ⟨rfl,rfl,rfl,rfl,rfl,rfl,rfl,rfl,rfl,rfl,rfl⟩ (.refl _) ?_
  rintro j hj
  refine wf ?_
  refine pwp_condD (fun hc=>?_) (fun hc=>?_)
  ·have hjl:j < nd.length:=by omega
   have hj1:=hdle j hj
   obtain⟨hb0,hb1⟩:=hB nd[j]
   have hsu:=dpJ_succ (D:=D) hjl
   have e:max ((dpJ D nd j:Nat):Int) (1+(mGet nd[j] D).getD 0)=((dpJ D nd (j+1):Nat):Int):=by rw[hsu];omega
   refine wz fun b13=>?_
   refine pwp_freezeD 13 ?_
   refine wf ?_
   rw[e]
   exact⟨j+1,by omega,by dsimp only;omega,⟨rfl,rfl,rfl,rfl,rfl,rfl,rfl,rfl,rfl,rfl,rfl⟩,.refl _⟩
  ·have hjj:j=nd.length:=by omega
   rw[hjj]
   refine wf ?_
   rw[←hd1]
   exact⟨k+1,by omega,by dsimp only;omega,⟨rfl,rfl,rfl,rfl,rfl,rfl⟩,.refl _⟩
 ·have hkk:k=O.length:=by omega
  rw[hkk,List.take_length]
  generalize dMap s O=D at hrd
  cases hm:mGet d D with
  |none=>
   rw[hm]at hrd
   subst hrd
   refine wf ?_
   rw[hm]
   refine wf ?_
   exact end2 (.refl _)
  |some w=>
   rw[hm]at hrd
   replace hrd:rd=(w,0):=hrd
   subst hrd
   refine wf ?_
   rw[hm]
   refine wf ?_
   refine end2 (.of_eq ?_)
   rfl⟩
instance needsH_ct (s:List Sto) (t:Tag) (d o:Dig) [hs:Small (Valid s)]:FnC Tryz.prog 54 [.slice (s.map eSto) t,.agg (eDig d),.agg (eDig o)] (.raw (.bool (decide (o∈ndS s d)))):=⟨by
 have v:=hs.out
 have i1:Small (rBig ((getS s d).getD Pat.zero)=false):=⟨v.close.great _⟩
 refine fn_of Tryz.func54 Tryz.ntmps54 rfl (rs:= [.tmp 6]) rfl rfl fun hb LF=>?_
 refine wz fun b7=>?_
 refine pwp_freezeD 7 ?_
 refine wf ?_
 refine end1 (.of_eq ?_)
 rfl⟩
end Go.Proofs
