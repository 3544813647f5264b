/- Contracts: lists of digests and sets of patches (the reference's layers 16 and 17). -/
import Derived.Test.YtddlffkdpocmhaaGreatDoorUae
set_option linter.unusedSimpArgs false
set_option linter.unusedVariables false
namespace Go.Proofs
open Go Go.Q
attribute [local irreducible] pwp pops PCalls OpN
instance Has_ct (l:List Dig) (d:Dig) (t:Tag):FnC Tryz.prog 102 [.slice (l.map eDig) t,.agg (eDig d)] (.raw (.bool (decide (d∈l)))):=⟨by
 refine fn_of Tryz.func102 Tryz.ntmps102 rfl (rs:= [.tmp 4]) rfl rfl fun hb LF=>?_
 have hlen:l.length≤140737488355328:=(hb (.slice (l.map eDig) t) (by simp)).slice_map
 refine walkb fun b=>?_
 refine pwp_loopS (σ:=Nat) (fun k=>k≤l.length∧ ∀ i (h:i < l.length),i < k→d≠l[i]) (fun k=>l.length - k) (fun k=> [(0,.slice (l.map eDig) t),(3,.raw (.pointer (some ⟨b,0,none⟩))),(5,.raw (.int .i64 k))]) (fun _=> .box b 37 (eDig d)::LF) 0 ⟨by simp,by simp⟩ ⟨rfl,rfl,rfl⟩ (.refl _) ?_
 rintro k ⟨hk,hne⟩
 refine walk ?_
 refine pwp_condD (fun hc=>?_) (fun hc=>?_)
 ·refine walk ?_
  refine pwp_condD (fun he=>?_) (fun he=>?_)
  ·refine walk ?_;refine end1 (.of_eq ?_)
   have:d∈l:=he ▸ List.getElem_mem _
   simp[this]
  ·refine walk ?_
   refine⟨k+1,⟨by omega,fun i h hi=>?_⟩,by dsimp only;omega,⟨rfl,rfl,rfl⟩,.refl _⟩
   rcases Nat.lt_or_ge i k with h'|h'
   ·exact hne i h h'
   ·have:i=k:=by omega
    subst this;exact fun e=>he e.symm
 ·refine walk ?_;refine end1 (.of_eq ?_)
  have: ¬d∈l:=fun h=>by
   obtain⟨i,hi,e⟩:=List.mem_iff_getElem.1 h
   exact hne i hi (by omega) e.symm
  simp[this]⟩
def allIn (l m:List Dig):Bool:=m.all (fun x=>decide (x∈l))
instance all_ct (l m:List Dig) (t u:Tag):FnC Tryz.prog 90 [.slice (l.map eDig) t,.slice (m.map eDig) u] (.raw (.bool (allIn l m))):=⟨by
 refine fn_of Tryz.func90 Tryz.ntmps90 rfl (rs:= [.tmp 4]) rfl rfl fun hb LF=>?_
 have hlen:m.length≤140737488355328:=(hb (.slice (m.map eDig) u) (by simp)).slice_map
 refine walk ?_
 refine pwp_loopS (σ:=Nat) (fun k=>k≤m.length∧ ∀ i (h:i < m.length),i < k→m[i]∈l) (fun k=>m.length - k) (fun k=> [(0,.slice (l.map eDig) t),(1,.slice (m.map eDig) u),(5,.raw (.int .i64 k))]) (fun _=>LF) 0 ⟨by simp,by simp⟩ ⟨rfl,rfl,rfl⟩ (.refl _) ?_
 rintro k ⟨hk,hne⟩
 refine walk ?_
 refine pwp_condD (fun hc=>?_) (fun hc=>?_)
 ·refine walk ?_
  refine pwp_condN (fun he=>?_) (fun he=>?_)
  ·refine walk ?_;refine end1 (.of_eq ?_)
   have:allIn l m=false:=by
    unfold allIn;rw[List.all_eq_false];exact⟨_,List.getElem_mem _,by simpa using he⟩
   rw[this]
  ·refine walk ?_
   refine⟨k+1,⟨by omega,fun i h hi=>?_⟩,by dsimp only;omega,⟨rfl,rfl,rfl⟩,.refl _⟩
   rcases Nat.lt_or_ge i k with h'|h'
   ·exact hne i h h'
   ·have:i=k:=by omega
    subst this;exact he
 ·refine walk ?_;refine end1 (.of_eq ?_)
  have:allIn l m=true:=by
   unfold allIn;rw[List.all_eq_true];intro x hx
   obtain⟨i,hi,rfl⟩:=List.mem_iff_getElem.1 hx
   simpa using hne i hi (by omega)
  rw[this]⟩
def ids (s:List Sto):List Dig:=s.map (·.id)
instance Ids_ct (s:List Sto) (t:Tag):FnC Tryz.prog 34 [.slice (s.map eSto) t] (.slice ((ids s).map eDig) .ro):=⟨by
 refine fn_of Tryz.func34 Tryz.ntmps34 rfl (rs:= [.tmp 2]) rfl rfl fun hb LF=>?_
 have hlen:s.length*37≤140737488355328:=(hb (.slice (s.map eSto) t) (by simp)).slice_cells
 refine walk ?_
 refine pwp_tok 32 ?_
 refine pwp_loopS (σ:=Nat × Tag) (fun k=>k.1≤s.length) (fun k=>s.length - k.1) (fun k=> [(0,.slice (s.map eSto) t),(3,.slice ((ids (s.take k.1)).map eDig) k.2),(4,.raw (.int .i64 k.1))]) (fun k=> .tok k.2 (ids (s.take k.1)).length 32::LF) (0,.nil) (by simp) ⟨rfl,rfl,rfl⟩ (.refl _) ?_
 rintro⟨k,u⟩ hk
 dsimp only at hk
 refine walk ?_
 refine pwp_condD (fun hc=>?_) (fun hc=>?_)
 ·have hl:(ids (s.take k)).length=k:=by simp[ids];omega
  refine walka fun v=>?_
  have e:ids (s.take (k+1))=ids (s.take k)++ [s[k].id]:=by
   rw[List.take_succ_eq_append_getElem (by omega)];simp only[ids,List.map_append,List.map_cons,List.map_nil]
  refine⟨(k+1,v),by dsimp only;omega,by dsimp only;omega,⟨rfl,by dsimp only;rw[e];rfl,rfl⟩,by dsimp only;rw[e];exact .refl _⟩
 ·refine walk ?_
  refine end1 (.ros ?_)
  rw[List.take_of_length_le (by omega)]⟩
def getS:List Sto→Dig→Option Pat
 | [],_=>none
 |x::s,d=>if x.id=d then some x.patch else getS s d
theorem getS_none {s:List Sto} {d:Dig} (h: ∀ i (h:i < s.length),s[i].id≠d):getS s d=none:=by
 induction s with
 |nil=>rfl
 |cons x s ih=>
  have h0:=h 0 (by simp)
  simp only[List.getElem_cons_zero]at h0
  simp only[getS,h0,if_false]
  exact ih fun i hi=>by have:=h (i+1) (by simpa using hi);simpa using this
theorem getS_some {s:List Sto} {d:Dig} {k:Nat} (hk:k < s.length) (h: ∀ i (h:i < s.length),i < k→s[i].id≠d) (he:s[k].id=d):getS s d=some s[k].patch:=by
 induction s generalizing k with
 |nil=>simp at hk
 |cons x s ih=>
  cases k with
  |zero=>simp only[List.getElem_cons_zero]at he ⊢;simp[getS,he]
  |succ k=>
   have h0:=h 0 (by simp) (by omega)
   simp only[List.getElem_cons_zero]at h0
   simp only[getS,h0,if_false,List.getElem_cons_succ]
   exact ih (by simpa using hk) (fun i hi hik=>by have:=h (i+1) (by simpa using hi) (by omega);simpa using this) (by simpa using he)
def optP (o:Option Pat):PV:= .tuple [.agg (ePat (o.getD Pat.zero)),.raw (.bool o.isSome)]
instance Get_ct (s:List Sto) (d:Dig) (t:Tag):FnC Tryz.prog 45 [.slice (s.map eSto) t,.agg (eDig d)] (optP (getS s d)):=⟨by
 refine fn_of Tryz.func45 Tryz.ntmps45 rfl (rs:= [.cell 4 57,.tmp 5]) rfl rfl fun hb LF=>?_
 have hlen:s.length≤140737488355328:=(hb (.slice (s.map eSto) t) (by simp)).slice_map
 refine walkb fun b=>?_
 refine walkbp fun r=>?_
 refine pwp_loopS (σ:=Nat) (fun k=>k≤s.length∧ ∀ i (h:i < s.length),i < k→s[i].id≠d) (fun k=>s.length - k) (fun k=> [(0,.slice (s.map eSto) t),(3,.raw (.pointer (some ⟨b,0,none⟩))),(4,.raw (.pointer (some ⟨r,0,none⟩))),(6,.raw (.int .i64 k))]) (fun _=> .box r 57 (ePat Pat.zero):: .box b 37 (eDig d)::LF) 0 ⟨by simp,by simp⟩ ⟨rfl,rfl,rfl,rfl⟩ (.refl _) ?_
 rintro k ⟨hk,hne⟩
 refine walk ?_
 refine pwp_condD (fun hc=>?_) (fun hc=>?_)
 ·refine walk ?_
  refine pwp_condD (fun he=>?_) (fun he=>?_)
  ·refine walk ?_
   refine endC1 rfl (.of_eq ?_)
   rw[getS_some (by omega) hne he];rfl
  ·refine walk ?_
   refine⟨k+1,⟨by omega,fun i h hi=>?_⟩,by dsimp only;omega,⟨rfl,rfl,rfl,rfl⟩,.refl _⟩
   rcases Nat.lt_or_ge i k with h'|h'
   ·exact hne i h h'
   ·have:i=k:=by omega
    subst this;exact he
 ·refine walk ?_
  refine endC1 rfl (.of_eq ?_)
  rw[getS_none fun i h=>hne i h (by omega)];rfl⟩
set_option maxHeartbeats 1000000 in
instance With_ct (l:List Dig) (d:Dig) (t:Tag) [hs:Small (l.length≤1000000)]:FnC Tryz.prog 100 [.slice (l.map eDig) t,.agg (eDig d)] (.slice ((withD l d).map eDig) .ro):=⟨by
 refine fn_of Tryz.func100 Tryz.ntmps100 rfl (rs:= [.tmp 4]) rfl rfl fun hb LF=>?_
 have hlen:l.length≤1000000:=hs.out
 refine walkb fun b=>?_
 refine pwp_loopS (σ:=Nat) (fun k=>k≤l.length∧ ∀ i (h:i < l.length),i < k→Dig.lt l[i] d) (fun k=>l.length - k) (fun k=> [(0,.slice (l.map eDig) t),(3,.raw (.pointer (some ⟨b,0,none⟩))),(5,.raw (.int .i64 k))]) (fun _=> .box b 37 (eDig d)::LF) 0 ⟨by simp,by simp⟩ ⟨rfl,rfl,rfl⟩ (.refl _) ?_
 rintro k ⟨hk,hne⟩
 refine walk ?_
 refine pops_if (fun hp=>?_) (fun hp=>?_)
 ·have hc:(k:Int) < l.length:=of_decide_eq_true hp
  refine walkp ?_
  refine pwp_condD (fun h1=>?_) (fun h1=>?_)
  ·refine walk ?_
   refine⟨k+1,⟨by omega,fun i h hi=>?_⟩,by dsimp only;omega,⟨rfl,rfl,rfl⟩,.refl _⟩
   rcases Nat.lt_or_ge i k with h'|h'
   ·exact hne i h h'
   ·have:i=k:=by omega
    subst this;exact h1
  ·refine walk ?_
   refine pwp_condD (fun h2=>?_) (fun h2=>?_)
   ·refine walk ?_
    refine end1 (.ros ?_)
    rw[withD_at hk hne (fun _=>h1),if_pos ⟨by omega,h2⟩]
   ·refine walka fun t1=>?_
    refine walkap fun t2=>?_
    refine walkap fun t3=>?_
    refine end1 (.ros ?_)
    rw[withD_at hk hne (fun _=>h1),if_neg (fun⟨_,e⟩=>h2 e)]
    simp
 ·have hc: ¬(k:Int) < l.length:=of_decide_eq_false hp
  refine walkp ?_
  refine walkap fun t1=>?_
  refine walkap fun t2=>?_
  refine walkap fun t3=>?_
  refine end1 (.ros ?_)
  rw[withD_at hk hne (fun h=>absurd (show(k:Int) < l.length by omega) hc),if_neg (fun⟨h,_⟩=>hc (by omega))]
  simp⟩
end Go.Proofs
namespace Go.Proofs
open Go Go.Q
attribute [local irreducible] pwp pops PCalls OpN
def rWant (k:Int):Int:=if k=7 then 0 else k
def rText (k:Int):Bool:=decide (k=5)||decide (k=6)
def rOther (x:Ident):Bool:=!decide (x.patch=Dig.zero)
def rDirectory (x:Atm):Bool:=decide (x.kind=1)&&decide (x.type=4)
def rAllowed (x:Ident) (n:Int):Bool:=if x.patch=Dig.zero then decide (0≤x.n)&&decide (x.n < n)else decide (0≤x.n)&&decide (x.n < 100000)
def rFitsFile (k:Int) (x:Atm):Bool:=if x.kind≠1 then false else if rText k then decide (x.type=1)else !decide (k=4)||decide (x.type=2)||decide (x.type=3)
def rFitsEnd (f:Ident) (x:Atm):Bool:=decide (x.kind=5)&&decide (x.file=f)
instance none_ct:FnC Tryz.prog 281 [] (.agg (eIdent Ident.zero)):=⟨by
 refine fn_of Tryz.func281 Tryz.ntmps281 rfl (rs:= [.cell 0 115]) rfl rfl fun hb LF=>?_
 refine walkb fun b=>?_
 exact endC rfl (.refl _)⟩
instance Root_ct:FnC Tryz.prog 139 [] (.agg (eIdent ⟨Dig.zero,-1⟩)):=⟨by
 refine fn_of Tryz.func139 Tryz.ntmps139 rfl (rs:= [.cell 0 115]) rfl rfl fun hb LF=>?_
 refine walkb fun b=>?_
 exact endC rfl (.refl _)⟩
instance want_ct (k:Int):FnC Tryz.prog 203 [.raw (.int .i64 k)] (.raw (.int .i64 (rWant k))):=⟨by
 refine fn_of Tryz.func203 Tryz.ntmps203 rfl (rs:= [.tmp 2]) rfl rfl fun hb LF=>?_
 refine walk ?_
 refine pwp_condD (fun h=>?_) (fun h=>?_)
 ·refine walk ?_
  refine end1 (.of_eq ?_)
  simp[rWant,h]
 ·refine walk ?_
  refine end1 (.of_eq ?_)
  simp[rWant,h]⟩
instance text_ct (k:Int):FnC Tryz.prog 201 [.raw (.int .i64 k)] (.raw (.bool (rText k))):=⟨by
 refine fn_of Tryz.func201 Tryz.ntmps201 rfl (rs:= [.tmp 2]) rfl rfl fun hb LF=>?_
 refine walk ?_
 refine pops_if (fun hp=>?_) (fun hp=>?_)
 ·refine walkp ?_
  refine end1 (.of_eq ?_)
  simp_all[rText]
 ·refine walkp ?_
  refine end1 (.of_eq ?_)
  simp_all[rText]⟩
instance other_ct (x:Ident):FnC Tryz.prog 159 [.agg (eIdent x)] (.raw (.bool (rOther x))):=⟨by
 refine fn_of Tryz.func159 Tryz.ntmps159 rfl (rs:= [.tmp 2]) rfl rfl fun hb LF=>?_
 refine walkb fun b=>?_
 refine end1 (.of_eq ?_)
 rfl⟩
instance directory_ct (x:Atm):FnC Tryz.prog 162 [.agg (eAtm x)] (.raw (.bool (rDirectory x))):=⟨by
 refine fn_of Tryz.func162 Tryz.ntmps162 rfl (rs:= [.tmp 2]) rfl rfl fun hb LF=>?_
 refine walkb fun b=>?_
 refine pops_if (fun hp=>?_) (fun hp=>?_)
 ·refine walkp ?_
  refine end1 (.of_eq ?_)
  simp_all[rDirectory]
 ·refine walkp ?_
  refine end1 (.of_eq ?_)
  simp_all[rDirectory]⟩
instance allowed_ct (x:Ident) (n:Int):FnC Tryz.prog 283 [.agg (eIdent x),.raw (.int .i64 n)] (.raw (.bool (rAllowed x n))):=⟨by
 refine fn_of Tryz.func283 Tryz.ntmps283 rfl (rs:= [.tmp 4]) rfl rfl fun hb LF=>?_
 refine walkb fun b=>?_
 refine pwp_condD (fun h=>?_) (fun h=>?_)
 ·refine walk ?_
  refine pops_if (fun hp=>?_) (fun hp=>?_)
  ·refine walkp ?_
   refine end1 (.of_eq ?_)
   simp_all[rAllowed]<;>omega
  ·refine walkp ?_
   refine end1 (.of_eq ?_)
   simp_all[rAllowed]<;>omega
 ·refine walk ?_
  refine pops_if (fun hp=>?_) (fun hp=>?_)
  ·refine walkp ?_
   refine end1 (.of_eq ?_)
   simp_all[rAllowed]<;>omega
  ·refine walkp ?_
   refine end1 (.of_eq ?_)
   simp_all[rAllowed]<;>omega⟩
instance FitsFile_ct (k:Int) (x:Atm):FnC Tryz.prog 161 [.raw (.int .i64 k),.agg (eAtm x)] (.raw (.bool (rFitsFile k x))):=⟨by
 refine fn_of Tryz.func161 Tryz.ntmps161 rfl (rs:= [.tmp 4]) rfl rfl fun hb LF=>?_
 refine walkb fun b=>?_
 refine pwp_condN (fun h=>?_) (fun h=>?_)
 ·refine walk ?_
  refine end1 (.of_eq ?_)
  simp[rFitsFile,h]
 ·refine walk ?_
  refine pwp_condB (fun h2=>?_) (fun h2=>?_)
  ·refine walk ?_
   refine end1 (.of_eq ?_)
   simp[rFitsFile,h,h2]
  ·refine walk ?_
   refine pops_if (fun hp=>?_) (fun hp=>?_)
   ·refine walkp ?_
    refine end1 (.of_eq ?_)
    simp_all[rFitsFile]
   ·refine walkp ?_
    refine pops_if (fun hq=>?_) (fun hq=>?_)
    ·refine walkp ?_
     refine end1 (.of_eq ?_)
     simp_all[rFitsFile]
    ·refine walkp ?_
     refine end1 (.of_eq ?_)
     simp_all[rFitsFile]⟩
instance FitsEnd_ct (f:Ident) (x:Atm):FnC Tryz.prog 202 [.agg (eIdent f),.agg (eAtm x)] (.raw (.bool (rFitsEnd f x))):=⟨by
 refine fn_of Tryz.func202 Tryz.ntmps202 rfl (rs:= [.tmp 4]) rfl rfl fun hb LF=>?_
 refine walkb fun b=>?_
 refine walkbp fun b2=>?_
 refine pops_if (fun hp=>?_) (fun hp=>?_)
 ·refine walkp ?_
  refine end1 (.of_eq ?_)
  simp_all[rFitsEnd]
 ·refine walkp ?_
  refine end1 (.of_eq ?_)
  simp_all[rFitsEnd]⟩
end Go.Proofs
namespace Go.Proofs
open Go Go.Q
attribute [local irreducible] pwp pops PCalls OpN
def rFitsOver (k:Int) (f:Ident) (x:Atm):Bool:=decide (rWant k=0)||decide (x.kind=rWant k)&&decide (x.file=f)
def rOne (x:Ident) (own:List Atm) (fits:Bool):Int:=if rAllowed x own.length=false then 7 else if x.patch=Dig.zero∧fits=false then 8 else 0
def rGet (own:List Atm) (x:Ident):Atm:=if x.patch=Dig.zero∧0≤x.n then own.getD x.n.toNat Atm.zero else Atm.zero
def rComplete (x:Ident) (d:Dig):Ident:=if 0≤x.n∧x.patch=Dig.zero then { x with patch:=d }else x
def rWhole (x:Ident) (d:Dig):Ident:=if x.patch=Dig.zero∧0≤x.n then { x with patch:=d }else x
instance FitsOver_ct (k:Int) (f:Ident) (x:Atm):FnC Tryz.prog 164 [.raw (.int .i64 k),.agg (eIdent f),.agg (eAtm x)] (.raw (.bool (rFitsOver k f x))):=⟨by
 refine fn_of Tryz.func164 Tryz.ntmps164 rfl (rs:= [.tmp 6]) rfl rfl fun hb LF=>?_
 refine walkb fun b=>?_
 refine walkbp fun b2=>?_
 refine pops_if (fun hp=>?_) (fun hp=>?_)
 ·refine walkp ?_
  refine end1 (.of_eq ?_)
  simp_all[rFitsOver]
 ·refine walkp ?_
  refine pops_if (fun hq=>?_) (fun hq=>?_)
  ·refine walkp ?_
   refine end1 (.of_eq ?_)
   simp_all[rFitsOver]
  ·refine walkp ?_
   refine end1 (.of_eq ?_)
   simp_all[rFitsOver]⟩
instance one_ct (x:Ident) (own:List Atm) (t:Tag) (fits:Bool):FnC Tryz.prog 259 [.agg (eIdent x),.slice (own.map eAtm) t,.raw (.bool fits)] (.raw (.int .i64 (rOne x own fits))):=⟨by
 refine fn_of Tryz.func259 Tryz.ntmps259 rfl (rs:= [.tmp 6]) rfl rfl fun hb LF=>?_
 refine walkb fun b=>?_
 refine pwp_condB (fun h=>?_) (fun h=>?_)
 ·refine walk ?_
  refine end1 (.of_eq ?_)
  simp_all[rOne]
 ·refine walk ?_
  refine pops_if (fun hp=>?_) (fun hp=>?_)
  ·refine walkp ?_
   refine pwp_condB (fun h2=>?_) (fun h2=>?_)
   ·refine walk ?_
    refine end1 (.of_eq ?_)
    simp_all[rOne]
   ·refine walk ?_
    refine end1 (.of_eq ?_)
    simp_all[rOne]
  ·refine walkp ?_
   refine end1 (.of_eq ?_)
   simp_all[rOne]⟩
instance get_ct (own:List Atm) (t:Tag) (x:Ident):FnC Tryz.prog 260 [.slice (own.map eAtm) t,.agg (eIdent x)] (.agg (eAtm (rGet own x))):=⟨by
 refine fn_of Tryz.func260 Tryz.ntmps260 rfl (rs:= [.cell 4 157]) rfl rfl fun hb LF=>?_
 refine walkb fun b=>?_
 refine walkbp fun b2=>?_
 refine pops_if (fun hp=>?_) (fun hp=>?_)
 ·refine walkp ?_
  refine pops_if (fun hq=>?_) (fun hq=>?_)
  ·refine walkp ?_
   refine pwp_condD (fun h=>?_) (fun h=>?_)
   ·have h0:0≤x.n:=of_decide_eq_true hq
    refine walk ?_
    refine endC rfl (.of_eq ?_)
    have:x.n.toNat < own.length:=by omega
    simp_all[rGet]
   ·refine walk ?_
    refine endC rfl (.of_eq ?_)
    have h0:0≤x.n:=of_decide_eq_true hq
    have: ¬x.n.toNat < own.length:=by omega
    simp_all[rGet]
  ·refine walkp ?_
   refine endC rfl (.of_eq ?_)
   have h0: ¬0≤x.n:=of_decide_eq_false hq
   simp[rGet,h0]
 ·refine walkp ?_
  refine endC rfl (.of_eq ?_)
  simp_all[rGet]⟩
instance complete_ct (x:Ident) (d:Dig):FnC Tryz.prog 165 [.agg (eIdent x),.agg (eDig d)] (.agg (eIdent (rComplete x d))):=⟨by
 refine fn_of Tryz.func165 Tryz.ntmps165 rfl (rs:= [.cell 4 115]) rfl rfl fun hb LF=>?_
 refine walkb fun b=>?_
 refine walkbp fun b2=>?_
 refine walkbp fun b3=>?_
 refine pops_if (fun hp=>?_) (fun hp=>?_)
 ·refine walkp ?_
  refine pwp_condD (fun h=>?_) (fun h=>?_)
  ·refine walk ?_
   refine endC rfl (.of_eq ?_)
   simp_all[rComplete]
  ·refine walk ?_
   refine endC rfl (.of_eq ?_)
   simp_all[rComplete]
 ·refine walkp ?_
  refine endC rfl (.of_eq ?_)
  have h0: ¬0≤x.n:=of_decide_eq_false hp
  simp[rComplete,h0]⟩
instance whole_ct (x:Ident) (d:Dig):FnC Tryz.prog 233 [.agg (eIdent x),.agg (eDig d)] (.agg (eIdent (rWhole x d))):=⟨by
 refine fn_of Tryz.func233 Tryz.ntmps233 rfl (rs:= [.cell 4 115]) rfl rfl fun hb LF=>?_
 refine walkb fun b=>?_
 refine walkbp fun b2=>?_
 refine walkbp fun b3=>?_
 refine pops_if (fun hp=>?_) (fun hp=>?_)
 ·refine walkp ?_
  refine pwp_condD (fun h=>?_) (fun h=>?_)
  ·refine walk ?_
   refine endC rfl (.of_eq ?_)
   simp_all[rWhole]
  ·refine walk ?_
   refine endC rfl (.of_eq ?_)
   simp[rWhole,h]
 ·refine walkp ?_
  refine endC rfl (.of_eq ?_)
  simp_all[rWhole]⟩
end Go.Proofs
namespace Go.Proofs
open Go Go.Q
attribute [local irreducible] pwp pops PCalls OpN
def cmpI (a b:Ident):Int:=if cmpD a.patch b.patch≠0 then cmpD a.patch b.patch else if a.n < b.n then -1 else if b.n < a.n then 1 else 0
instance CompareI_ct (a b:Ident):FnC Tryz.prog 264 [.agg (eIdent a),.agg (eIdent b)] (.raw (.int .i64 (cmpI a b))):=⟨by
 refine fn_of Tryz.func264 Tryz.ntmps264 rfl (rs:= [.tmp 4]) rfl rfl fun hb LF=>?_
 refine walkb fun p=>?_
 refine walkbp fun q=>?_
 refine pwp_condN (fun h=>?_) (fun h=>?_)
 ·refine walk ?_
  refine end1 (.of_eq ?_)
  simp[cmpI,h]
 ·refine walk ?_
  refine pwp_condD (fun h1=>?_) (fun h1=>?_)
  ·refine walk ?_
   refine end1 (.of_eq ?_)
   simp[cmpI,h,h1]
  ·refine walk ?_
   refine pwp_condD (fun h2=>?_) (fun h2=>?_)
   ·refine walk ?_
    refine end1 (.of_eq ?_)
    simp[cmpI,h,h1,h2]
   ·refine walk ?_
    refine end1 (.of_eq ?_)
    simp[cmpI,h,h1,h2]⟩
def rAsc (l:List Ident):Bool:=(List.range (l.length - 1)).all fun i=>decide (cmpI (l.getD i Ident.zero) (l.getD (i+1) Ident.zero) < 0)
instance Ascending_ct (l:List Ident) (t:Tag):FnC Tryz.prog 258 [.slice (l.map eIdent) t] (.raw (.bool (rAsc l))):=⟨by
 refine fn_of Tryz.func258 Tryz.ntmps258 rfl (rs:= [.tmp 2]) rfl rfl fun hb LF=>?_
 have hlen:l.length≤140737488355328:=(hb (.slice (l.map eIdent) t) (by simp)).slice_map
 refine walk ?_
 refine pwp_loopS (σ:=Nat) (fun k=>1≤k∧ ∀ i,i+1 < k→i+1 < l.length→cmpI (l.getD i Ident.zero) (l.getD (i+1) Ident.zero) < 0) (fun k=>l.length - k) (fun k=> [(0,.slice (l.map eIdent) t),(3,.raw (.int .i64 k))]) (fun _=>LF) 1 ⟨by simp,fun i h=>by omega⟩ ⟨rfl,rfl⟩ (.refl _) ?_
 rintro k ⟨hk,he⟩
 refine walk ?_
 refine pwp_condD (fun hc=>?_) (fun hc=>?_)
 ·obtain⟨j,rfl⟩: ∃ j,k=j+1:=⟨k - 1,by omega⟩
  refine walk ?_
  have e:((↑(j+1):Int) - 1).toNat=j:=by omega
  have hj:j+1 < l.length:=by omega
  refine pwp_condD (fun h1=>?_) (fun h1=>?_)
  ·refine walk ?_
   refine end1 (.of_eq ?_)
   simp only[e]at h1
   have:rAsc l=false:=by
    unfold rAsc
    rw[List.all_eq_false]
    refine⟨j,List.mem_range.2 (by omega),?_⟩
    simp only[decide_eq_true_eq,List.getD_eq_getElem?_getD,List.getElem?_eq_getElem hj,List.getElem?_eq_getElem (show j < l.length by omega),Option.getD_some]
    omega
   rw[this]
  ·refine walk ?_
   simp only[e]at h1
   refine⟨j+1+1,⟨by omega,fun i h2 h3=>?_⟩,by dsimp only;omega,⟨rfl,rfl⟩,.refl _⟩
   rcases Nat.lt_or_ge (i+1) (j+1)with h'|h'
   ·exact he i h' h3
   ·have:i=j:=by omega
    subst this
    simp only[List.getD_eq_getElem?_getD,List.getElem?_eq_getElem hj,List.getElem?_eq_getElem (show i < l.length by omega),Option.getD_some]
    omega
 ·refine walk ?_
  refine end1 (.of_eq ?_)
  have:rAsc l=true:=by
   unfold rAsc
   rw[List.all_eq_true]
   intro i hi
   rw[List.mem_range]at hi
   exact decide_eq_true (he i (by omega) (by omega))
  rw[this]⟩
end Go.Proofs
namespace Go.Proofs
open Go Go.Q
attribute [local irreducible] pwp pops PCalls OpN
instance SameIds_ct (l m:List Ident) (t u:Tag):FnC Tryz.prog 126 [.slice (l.map eIdent) t,.slice (m.map eIdent) u] (.raw (.bool (decide (l=m)))):=⟨by
 refine fn_of Tryz.func126 Tryz.ntmps126 rfl (rs:= [.tmp 4]) rfl rfl fun hb LF=>?_
 have hlen:l.length≤140737488355328:=(hb (.slice (l.map eIdent) t) (by simp)).slice_map
 refine walk ?_
 refine pwp_condN (fun h1=>?_) (fun h1=>?_)
 ·refine walk ?_
  refine end1 (.of_eq ?_)
  have: ¬l=m:=fun e=>h1 (by rw[e])
  simp[this]
 ·refine walk ?_
  have hl:l.length=m.length:=by omega
  refine pwp_loopS (σ:=Nat) (fun k=>k≤l.length∧l.take k=m.take k) (fun k=>l.length - k) (fun k=> [(0,.slice (l.map eIdent) t),(1,.slice (m.map eIdent) u),(5,.raw (.int .i64 k))]) (fun _=>LF) 0 ⟨by simp,by simp⟩ ⟨rfl,rfl,rfl⟩ (.refl _) ?_
  rintro k ⟨hk,he⟩
  refine walk ?_
  refine pwp_condD (fun hc=>?_) (fun hc=>?_)
  ·refine walk ?_
   refine pwp_condN (fun h2=>?_) (fun h2=>?_)
   ·refine walk ?_
    refine end1 (.of_eq ?_)
    have: ¬l=m:=fun e=>h2 (by simp[e])
    simp[this]
   ·refine walk ?_
    refine⟨k+1,⟨by omega,?_⟩,by dsimp only;omega,⟨rfl,rfl,rfl⟩,.refl _⟩
    rw[List.take_succ_eq_append_getElem (by omega),List.take_succ_eq_append_getElem (by omega),he,h2]
  ·refine walk ?_
   refine end1 (.of_eq ?_)
   have:l=m:=by
    rw[List.take_of_length_le (by omega),List.take_of_length_le (by omega)]at he
    exact he
   simp[this]⟩
instance SameS_ct (l m:List Str) (t u:Tag):FnC Tryz.prog 125 [.slice (l.map eS) t,.slice (m.map eS) u] (.raw (.bool (decide (l=m)))):=⟨by
 refine fn_of Tryz.func125 Tryz.ntmps125 rfl (rs:= [.tmp 4]) rfl rfl fun hb LF=>?_
 have hlen:l.length≤140737488355328:=(hb (.slice (l.map eS) t) (by simp)).slice_map
 refine walk ?_
 refine pwp_condN (fun h1=>?_) (fun h1=>?_)
 ·refine walk ?_
  refine end1 (.of_eq ?_)
  have: ¬l=m:=fun e=>h1 (by rw[e])
  simp[this]
 ·refine walk ?_
  have hl:l.length=m.length:=by omega
  refine pwp_loopS (σ:=Nat) (fun k=>k≤l.length∧l.take k=m.take k) (fun k=>l.length - k) (fun k=> [(0,.slice (l.map eS) t),(1,.slice (m.map eS) u),(5,.raw (.int .i64 k))]) (fun _=>LF) 0 ⟨by simp,by simp⟩ ⟨rfl,rfl,rfl⟩ (.refl _) ?_
  rintro k ⟨hk,he⟩
  refine walk ?_
  refine pwp_condD (fun hc=>?_) (fun hc=>?_)
  ·refine walk ?_
   refine pwp_condN (fun h2=>?_) (fun h2=>?_)
   ·refine walk ?_
    refine end1 (.of_eq ?_)
    have: ¬l=m:=fun e=>h2 (by simp[e])
    simp[this]
   ·refine walk ?_
    refine⟨k+1,⟨by omega,?_⟩,by dsimp only;omega,⟨rfl,rfl,rfl⟩,.refl _⟩
    rw[List.take_succ_eq_append_getElem (by omega),List.take_succ_eq_append_getElem (by omega),he,h2]
  ·refine walk ?_
   refine end1 (.of_eq ?_)
   have:l=m:=by
    rw[List.take_of_length_le (by omega),List.take_of_length_le (by omega)]at he
    exact he
   simp[this]⟩
theorem chg_eq (a b:Chg):decide (a=b)=(decide (a.kind=b.kind)&&decide (a.file=b.file)&&decide (a.type=b.type)&&decide (a.parent=b.parent)&&decide (a.name=b.name)&&decide (a.mode=b.mode)&&decide (a.data=b.data)&&decide (a.after=b.after)&&decide (a.before=b.before)&&decide (a.lines=b.lines)&&decide (a.over=b.over)):=by
 cases a;cases b;rw[Bool.eq_iff_iff];simp[and_assoc]
instance SameChange_ct (a b:Chg):FnC Tryz.prog 93 [.agg (eChg a),.agg (eChg b)] (.raw (.bool (decide (a=b)))):=⟨by
 refine fn_of Tryz.func93 Tryz.ntmps93 rfl (rs:= [.tmp 4]) rfl rfl fun hb LF=>?_
 rw[chg_eq]
 refine walkb fun p=>?_
 refine walkbp fun q=>?_
 iterate 10
  refine pops_if (fun hp=>?_) (fun hp=>by
   refine walkp ?_
   refine end1 (.of_eq ?_)
   simp_all)
  refine walkp ?_
 refine end1 (.of_eq ?_)
 simp_all⟩
end Go.Proofs
namespace Go.Proofs
open Go Go.Q
attribute [local irreducible] pwp pops PCalls OpN
theorem pat_ext {a b:Pat} (h1:a.author=b.author) (h2:a.message=b.message) (h3:a.time=b.time) (h4:a.deps=b.deps) (h5:a.changes=b.changes):a=b:=by
 cases a;cases b;simp_all
instance SameP_ct (a b:Pat):FnC Tryz.prog 47 [.agg (ePat a),.agg (ePat b)] (.raw (.bool (decide (a=b)))):=⟨by
 refine fn_of Tryz.func47 Tryz.ntmps47 rfl (rs:= [.tmp 4]) rfl rfl fun hb LF=>?_
 have hlen:a.changes.length≤140737488355328:=((hb (.agg (ePat a)) (by simp)).agg_at (c:= .slice (a.changes.map eChg) .ro) (by simp[ePat])).slice_map
 have no: ∀ {q:Prop},(a=b→ ¬q)→q→Le (.raw (.bool false)) (.raw (.bool (decide (a=b)))):=fun h hq=> .of_eq (by rw[decide_eq_false (fun e=>h e hq)])
 refine walkb fun p=>?_
 refine walkbp fun q=>?_
 iterate 4
  refine pops_if (fun hp=>by
   refine walkp ?_
   refine end1 (no (fun e=>?_) hp)
   simp[e]) (fun hp=>?_)
  refine walkp ?_
 refine pwp_condN (fun h=>?_) (fun h=>?_)
 ·refine walk ?_
  refine end1 (no (fun e=>?_) h)
  simp[e]
 ·refine walk ?_
  have hl:a.changes.length=b.changes.length:=by omega
  refine pwp_loopS (σ:=Nat) (fun k=>k≤a.changes.length∧a.changes.take k=b.changes.take k) (fun k=>a.changes.length - k) (fun k=> [(2,.raw (.pointer (some ⟨p,0,none⟩))),(3,.raw (.pointer (some ⟨q,0,none⟩))),(5,.raw (.int .i64 k))]) (fun _=> .box q 57 (ePat b):: .box p 57 (ePat a)::LF) 0 ⟨by simp,by simp⟩ ⟨rfl,rfl,rfl⟩ (.refl _) ?_
  rintro k ⟨hk,he⟩
  refine walk ?_
  refine pwp_condD (fun hc=>?_) (fun hc=>?_)
  ·refine walk ?_
   refine pwp_condN (fun h2=>?_) (fun h2=>?_)
   ·refine walk ?_
    refine end1 (no (fun e=>?_) h2)
    simp[e]
   ·refine walk ?_
    refine⟨k+1,⟨by omega,?_⟩,by dsimp only;omega,⟨rfl,rfl,rfl⟩,.refl _⟩
    rw[List.take_succ_eq_append_getElem (by omega),List.take_succ_eq_append_getElem (by omega),he,h2]
  ·refine walk ?_
   refine end1 (.of_eq ?_)
   have h5:a.changes=b.changes:=by
    rw[List.take_of_length_le (by omega),List.take_of_length_le (by omega)]at he
    exact he
   have:a=b:=by
    apply pat_ext<;>simp_all
   simp[this]⟩
theorem sto_ext {a b:Sto} (h1:a.id=b.id) (h2:a.patch=b.patch):a=b:=by
 cases a;cases b;simp_all
instance SameSet_ct (l m:List Sto) (t u:Tag):FnC Tryz.prog 31 [.slice (l.map eSto) t,.slice (m.map eSto) u] (.raw (.bool (decide (l=m)))):=⟨by
 refine fn_of Tryz.func31 Tryz.ntmps31 rfl (rs:= [.tmp 4]) rfl rfl fun hb LF=>?_
 have hlen:l.length≤140737488355328:=(hb (.slice (l.map eSto) t) (by simp)).slice_map
 refine walk ?_
 refine pwp_condN (fun h1=>?_) (fun h1=>?_)
 ·refine walk ?_
  refine end1 (.of_eq ?_)
  have: ¬l=m:=fun e=>h1 (by rw[e])
  simp[this]
 ·refine walk ?_
  have hl:l.length=m.length:=by omega
  refine pwp_loopS (σ:=Nat) (fun k=>k≤l.length∧l.take k=m.take k) (fun k=>l.length - k) (fun k=> [(0,.slice (l.map eSto) t),(1,.slice (m.map eSto) u),(5,.raw (.int .i64 k))]) (fun _=>LF) 0 ⟨by simp,by simp⟩ ⟨rfl,rfl,rfl⟩ (.refl _) ?_
  rintro k ⟨hk,he⟩
  refine walk ?_
  refine pwp_condD (fun hc=>?_) (fun hc=>?_)
  ·refine walk ?_
   refine pops_if (fun hp=>?_) (fun hp=>?_)
   ·refine walkp ?_
    refine end1 (.of_eq ?_)
    have: ¬l=m:=fun e=>by simp[e]at hp
    simp[this]
   ·refine walkp ?_
    refine pwp_condN (fun h2=>?_) (fun h2=>?_)
    ·refine walk ?_
     refine end1 (.of_eq ?_)
     have: ¬l=m:=fun e=>h2 (by simp[e])
     simp[this]
    ·refine walk ?_
     refine⟨k+1,⟨by omega,?_⟩,by dsimp only;omega,⟨rfl,rfl,rfl⟩,.refl _⟩
     have h3:l[k]=m[k]:=sto_ext (by simpa using hp) h2
     rw[List.take_succ_eq_append_getElem (by omega),List.take_succ_eq_append_getElem (by omega),he,h3]
  ·refine walk ?_
   refine end1 (.of_eq ?_)
   have:l=m:=by
    rw[List.take_of_length_le (by omega),List.take_of_length_le (by omega)]at he
    exact he
   simp[this]⟩
def keepS (s:List Sto) (l:List Dig):List Sto:=s.filter fun x=>decide (x.id∈l)
instance Keep_ct (s:List Sto) (l:List Dig) (t u:Tag) [hs:Small (s.length≤1000000)]:FnC Tryz.prog 61 [.slice (s.map eSto) t,.slice (l.map eDig) u] (.slice ((keepS s l).map eSto) .ro):=⟨by
 refine fn_of Tryz.func61 Tryz.ntmps61 rfl (rs:= [.tmp 4]) rfl rfl fun hb LF=>?_
 have hlen:s.length≤1000000:=hs.out
 refine walk ?_
 refine pwp_tok 37 ?_
 refine pwp_loopS (σ:=Nat × Tag) (fun k=>k.1≤s.length) (fun k=>s.length - k.1) (fun k=> [(0,.slice (s.map eSto) t),(1,.slice (l.map eDig) u),(5,.slice ((keepS (s.take k.1) l).map eSto) k.2),(6,.raw (.int .i64 k.1))]) (fun k=> .tok k.2 (keepS (s.take k.1) l).length 37::LF) (0,.nil) (by simp) ⟨rfl,rfl,rfl,rfl⟩ (.refl _) ?_
 rintro⟨k,v⟩ hk
 dsimp only at hk
 refine walk ?_
 refine pwp_condD (fun hc=>?_) (fun hc=>?_)
 ·have hl:(keepS (s.take k) l).length≤k:=Nat.le_trans (List.length_filter_le _ _) (by simp;omega)
  have e:keepS (s.take (k+1)) l=keepS (s.take k) l++keepS [s[k]] l:=by
   rw[List.take_succ_eq_append_getElem (by omega)];simp only[keepS,List.filter_append]
  refine walk ?_
  refine pwp_condD (fun h=>?_) (fun h=>?_)
  ·refine walka fun v'=>?_
   have e2:keepS [s[k]] l= [s[k]]:=by simp[keepS,h]
   rw[e2]at e
   refine⟨(k+1,v'),by dsimp only;omega,by dsimp only;omega,⟨rfl,rfl,by dsimp only;rw[e];rfl,rfl⟩,by dsimp only;rw[e];exact .refl _⟩
  ·refine walk ?_
   have e2:keepS [s[k]] l= []:=by simp[keepS,h]
   rw[e2,List.append_nil]at e
   refine⟨(k+1,v),by dsimp only;omega,by dsimp only;omega,⟨rfl,rfl,by dsimp only;rw[e];rfl,rfl⟩,by dsimp only;rw[e];exact .refl _⟩
 ·refine walk ?_
  refine end1 (.ros ?_)
  rw[List.take_of_length_le (by omega)]⟩
end Go.Proofs
namespace Go.Proofs
open Go Go.Q
attribute [local irreducible] pwp pops PCalls OpN
theorem all_true_of {α:Type} {l:List α} {q:α→Bool} (h: ∀ i (h:i < l.length),q l[i]=true):l.all q=true:=by
 rw[List.all_eq_true];intro x hx
 obtain⟨i,hi,rfl⟩:=List.mem_iff_getElem.1 hx
 exact h i hi
theorem all_false_of {α:Type} {l:List α} {q:α→Bool} {k:Nat} (hk:k < l.length) (h:q l[k]=false):l.all q=false:=by
 rw[List.all_eq_false];exact⟨_,List.getElem_mem hk,by simp[h]⟩
theorem upto_succ {α:Type} {l:List α} {q:α→Bool} {k:Nat} (he: ∀ i (h:i < l.length),i < k→q l[i]=true) (hk:k < l.length) (h:q l[k]=true): ∀ i (h:i < l.length),i < k+1→q l[i]=true:=fun i hi hik=>by
 rcases Nat.lt_or_ge i k with h'|h'
 ·exact he i hi h'
 ·have:i=k:=by omega
  subst this;exact h
def rCleanC (m n:Int) (c:UInt8):Bool:=!decide ((c.toNat:Int)=m)&&!decide ((c.toNat:Int)=n)
def rClean (s:Str) (m n:Int):Bool:=s.all (rCleanC m n)
instance clean_ct (s:Str) (m n:Int):FnC Tryz.prog 290 [.str s,.raw (.int .u8 m),.raw (.int .u8 n)] (.raw (.bool (rClean s m n))):=⟨by
 refine fn_of Tryz.func290 Tryz.ntmps290 rfl (rs:= [.tmp 6]) rfl rfl fun hb LF=>?_
 have hlen:s.length≤140737488355328:=(hb (.str s) (by simp)).str_len
 refine walk ?_
 refine pwp_loopS (σ:=Nat) (fun k=>k≤s.length∧ ∀ i (h:i < s.length),i < k→rCleanC m n s[i]=true) (fun k=>s.length - k) (fun k=> [(0,.str s),(1,.raw (.int .u8 m)),(2,.raw (.int .u8 n)),(7,.raw (.int .i64 k))]) (fun _=>LF) 0 ⟨by simp,by simp⟩ ⟨rfl,rfl,rfl,rfl⟩ (.refl _) ?_
 rintro k ⟨hk,he⟩
 refine walk ?_
 refine pwp_condD (fun hc=>?_) (fun hc=>?_)
 ·have hlt:k < s.length:=by omega
  refine walk ?_
  repeat' (first|(refine pwp_condD (fun h=>?_) (fun h=>?_)<;>refine walk ?_)|(refine pwp_condN (fun h=>?_) (fun h=>?_)<;>refine walk ?_)|(refine pwp_condB (fun h=>?_) (fun h=>?_)<;>refine walk ?_)|(refine pops_if (fun h=>?_) (fun h=>?_)<;>(have h2:=h;(try simp only[decide_eq_true_eq,decide_eq_false_iff_not,Bool.not_eq_true',Bool.not_eq_false']at h2);refine walkp ?_)))
  all_goals first
   |(refine⟨k+1,⟨by omega,upto_succ he hlt ?_⟩,by dsimp only;omega,⟨rfl,rfl,rfl,rfl⟩,.refl _⟩;simp_all[rCleanC];done)
   |(refine end1 (.of_eq ?_);have:rCleanC m n s[k]=false:=by simp_all[rCleanC]
     rw[rClean,all_false_of hlt this])
 ·refine walk ?_
  refine end1 (.of_eq ?_)
  rw[rClean,all_true_of fun i h=>he i h (by omega)]⟩
def rValid (s:Str):Bool:=decide ((s.length:Int)≤1000)&&rClean s 10 0
instance Valid_ct (s:Str):FnC Tryz.prog 282 [.str s] (.raw (.bool (rValid s))):=⟨by
 refine fn_of Tryz.func282 Tryz.ntmps282 rfl (rs:= [.tmp 2]) rfl rfl fun hb LF=>?_
 refine walk ?_
 repeat' (first|(refine pwp_condD (fun h=>?_) (fun h=>?_)<;>refine walk ?_)|(refine pwp_condN (fun h=>?_) (fun h=>?_)<;>refine walk ?_)|(refine pwp_condB (fun h=>?_) (fun h=>?_)<;>refine walk ?_)|(refine pops_if (fun h=>?_) (fun h=>?_)<;>(have h2:=h;(try simp only[decide_eq_true_eq,decide_eq_false_iff_not,Bool.not_eq_true',Bool.not_eq_false']at h2);refine walkp ?_)))
 all_goals (refine end1 (.of_eq ?_);first|(simp_all[rValid];done)|grind [rValid])⟩
def rNameC (c:UInt8):Bool:=(decide (97≤(c.toNat:Int))&&decide ((c.toNat:Int)≤122))||(decide (65≤(c.toNat:Int))&&decide ((c.toNat:Int)≤90))||(decide (48≤(c.toNat:Int))&&decide ((c.toNat:Int)≤57))||decide ((c.toNat:Int)=46)||decide ((c.toNat:Int)=95)||decide ((c.toNat:Int)=45)
def rName (s:Str):Bool:=s.all rNameC&&decide (1≤(s.length:Int))&&decide ((s.length:Int)≤40)&&!decide (s= [46])&&!decide (s= [46,46])
set_option maxHeartbeats 1000000 in
instance Name_ct (s:Str):FnC Tryz.prog 187 [.str s] (.raw (.bool (rName s))):=⟨by
 refine fn_of Tryz.func187 Tryz.ntmps187 rfl (rs:= [.tmp 2]) rfl rfl fun hb LF=>?_
 have hlen:s.length≤140737488355328:=(hb (.str s) (by simp)).str_len
 refine walk ?_
 refine pwp_loopS (σ:=Nat) (fun k=>k≤s.length∧ ∀ i (h:i < s.length),i < k→rNameC s[i]=true) (fun k=>s.length - k) (fun k=> [(0,.str s),(3,.raw (.int .i64 k))]) (fun _=>LF) 0 ⟨by simp,by simp⟩ ⟨rfl,rfl⟩ (.refl _) ?_
 rintro k ⟨hk,he⟩
 refine walk ?_
 refine pwp_condD (fun hc=>?_) (fun hc=>?_)
 ·have hlt:k < s.length:=by omega
  refine walk ?_
  repeat' (first|(refine pwp_condD (fun h=>?_) (fun h=>?_)<;>refine walk ?_)|(refine pwp_condN (fun h=>?_) (fun h=>?_)<;>refine walk ?_)|(refine pwp_condB (fun h=>?_) (fun h=>?_)<;>refine walk ?_)|(refine pops_if (fun h=>?_) (fun h=>?_)<;>(have h2:=h;(try simp only[decide_eq_true_eq,decide_eq_false_iff_not,Bool.not_eq_true',Bool.not_eq_false']at h2);refine walkp ?_)))
  all_goals first
   |(refine⟨k+1,⟨by omega,upto_succ he hlt ?_⟩,by dsimp only;omega,⟨rfl,rfl⟩,.refl _⟩;clear he hc;grind [rNameC])
   |(refine end1 (.of_eq ?_);have:rNameC s[k]=false:=by clear he hc;grind [rNameC]
     rw[rName,all_false_of hlt this];rfl)
 ·have hall:s.all rNameC=true:=all_true_of fun i h=>he i h (by omega)
  refine walk ?_
  repeat' (first|(refine pwp_condD (fun h=>?_) (fun h=>?_)<;>refine walk ?_)|(refine pwp_condN (fun h=>?_) (fun h=>?_)<;>refine walk ?_)|(refine pwp_condB (fun h=>?_) (fun h=>?_)<;>refine walk ?_)|(refine pops_if (fun h=>?_) (fun h=>?_)<;>(have h2:=h;(try simp only[decide_eq_true_eq,decide_eq_false_iff_not,Bool.not_eq_true',Bool.not_eq_false']at h2);refine walkp ?_)))
  all_goals (refine end1 (.of_eq ?_);first|(simp_all[rName];done)|grind [rName])⟩
def rLines (l:List Str):Int:=if(l.length:Int)=0 then 1 else if 2000 < (l.length:Int)then 4 else if l.all rValid then 0 else 3
instance lines_ct (l:List Str) (t:Tag):FnC Tryz.prog 257 [.slice (l.map eS) t] (.raw (.int .i64 (rLines l))):=⟨by
 refine fn_of Tryz.func257 Tryz.ntmps257 rfl (rs:= [.tmp 2]) rfl rfl fun hb LF=>?_
 have hlen:l.length≤140737488355328:=(hb (.slice (l.map eS) t) (by simp)).slice_map
 refine walk ?_
 refine pwp_condD (fun h1=>?_) (fun h1=>?_)
 ·refine walk ?_
  refine end1 (.of_eq ?_)
  simp[rLines,h1]
 refine walk ?_
 refine pwp_condD (fun h2=>?_) (fun h2=>?_)
 ·refine walk ?_
  refine end1 (.of_eq ?_)
  simp only[rLines,h1,h2,if_true,if_false]
 refine walk ?_
 refine pwp_loopS (σ:=Nat) (fun k=>k≤l.length∧ ∀ i (h:i < l.length),i < k→rValid l[i]=true) (fun k=>l.length - k) (fun k=> [(0,.slice (l.map eS) t),(3,.raw (.int .i64 k))]) (fun _=>LF) 0 ⟨by simp,by simp⟩ ⟨rfl,rfl⟩ (.refl _) ?_
 rintro k ⟨hk,he⟩
 refine walk ?_
 refine pwp_condD (fun hc=>?_) (fun hc=>?_)
 ·have hlt:k < l.length:=by omega
  refine walk ?_
  refine pwp_condB (fun h=>?_) (fun h=>?_)
  ·refine walk ?_
   refine end1 (.of_eq ?_)
   simp only[rLines,h1,h2,if_false]
   rw[all_false_of hlt (by simpa using h)];rfl
  ·refine walk ?_
   exact⟨k+1,⟨by omega,upto_succ he hlt (by simpa using h)⟩,by dsimp only;omega,⟨rfl,rfl⟩,.refl _⟩
 ·refine walk ?_
  refine end1 (.of_eq ?_)
  simp only[rLines,h1,h2,if_false]
  rw[all_true_of fun i h=>he i h (by omega)];rfl⟩
end Go.Proofs
namespace Go.Proofs
open Go Go.Q
attribute [local irreducible] pwp pops PCalls OpN
def rRest (c:Chg):Chg:=
 { kind:=c.kind,file:=if 2≤c.kind∧c.kind≤6 then Ident.zero else c.file,type:=if c.kind=1 then 0 else c.type,parent:=if c.kind=2 then Ident.zero else c.parent,name:=if c.kind=2 then []else c.name,
   mode:=if c.kind=3 then 0 else c.mode,data:=if c.kind=4 then []else c.data,after:=if c.kind=5∨c.kind=6 then Ident.zero else c.after,before:=if c.kind=5∨c.kind=6 then Ident.zero else c.before,
   lines:=if c.kind=5 then []else c.lines,over:=if c.kind≠1∧c.kind≠5 then []else c.over }
set_option maxHeartbeats 1000000 in
instance rest_ct (c:Chg):FnC Tryz.prog 256 [.agg (eChg c)] (.agg (eChg (rRest c))):=⟨by
 refine fn_of Tryz.func256 Tryz.ntmps256 rfl (rs:= [.cell 2 119]) rfl rfl fun hb LF=>?_
 refine walkb fun b=>?_
 refine walkbp fun b2=>?_
 repeat' (first|(refine pwp_condD (fun h=>?_) (fun h=>?_)<;>((try dsimp only at h);first|(exfalso;omega;done)|refine walk ?_))|(refine pwp_condN (fun h=>?_) (fun h=>?_)<;>((try dsimp only at h);first|(exfalso;omega;done)|refine walk ?_))|(refine pwp_condB (fun h=>?_) (fun h=>?_)<;>((try dsimp only at h);first|(exfalso;omega;done)|refine walk ?_))|(refine pops_if (fun h=>?_) (fun h=>?_)<;>(have h2:=h;(try simp only[decide_eq_true_eq,decide_eq_false_iff_not,Bool.not_eq_true',Bool.not_eq_false']at h2);first|(exfalso;omega;done)|refine walkp ?_)))
 all_goals (refine endC rfl (.of_eq (congrArg (fun c=>PV.agg (eChg c)) ?_));simp only[rRest,Chg.mk.injEq];and_intros<;>first|trivial|rfl|(split<;>first|rfl|(exfalso;omega)))⟩
def rEmpty (c:Chg):Bool:=decide (c.file=Ident.zero)&&decide (c.type=0)&&decide (c.parent=Ident.zero)&&decide (c.name= [])&&decide (c.mode=0)&&decide (c.data= [])&&decide (c.after=Ident.zero)&&decide (c.before=Ident.zero)&&decide ((c.lines.length:Int)=0)&&decide ((c.over.length:Int)=0)
set_option maxHeartbeats 1000000 in
instance empty_ct (c:Chg):FnC Tryz.prog 255 [.agg (eChg c)] (.raw (.bool (rEmpty c))):=⟨by
 refine fn_of Tryz.func255 Tryz.ntmps255 rfl (rs:= [.tmp 2]) rfl rfl fun hb LF=>?_
 refine walkb fun b=>?_
 iterate 9
  refine pops_if (fun hp=>?_) (fun hp=>by
   refine walkp ?_
   refine end1 (.of_eq ?_)
   simp_all[rEmpty])
  refine walkp ?_
 refine end1 (.of_eq ?_)
 simp_all[rEmpty]⟩
end Go.Proofs
namespace Go.Q
open Go
section
variable {P:Program} {N:Nat} {all:Array Oper} {K:Env→List Res→Prop} {fl:List Bool} {os:List Oper} {ρ:Env} {L:List Res} {Q:PPost} {c:Code} {d:Nat} {ty:TypeId} {pos:String} {af:Array Edge}
theorem pops_mono {K':Env→List Res→Prop} (hk: ∀ ρ L,K' ρ L→K ρ L): ∀ {os:List Oper} {fl:List Bool} {ρ:Env} {L:List Res},pops P N all K' fl os ρ L→pops P N all K fl os ρ L
 | [],_,_,_,h=>hk _ _ h
 |o::os,fl,ρ,L,h=>by
  obtain⟨hd,h⟩:=h
  refine⟨hd,?_⟩
  rcases h with ⟨hno,h⟩|⟨hy,h⟩
  ·exact .inl ⟨hno,pops_mono hk h⟩
  ·refine .inr ⟨hy,?_⟩
   rcases h with ⟨x,hq,h⟩|⟨hf,h⟩
   ·exact .inl ⟨x,hq,pops_mono hk h⟩
   ·exact .inr ⟨hf,h.mono fun x L' h=>pops_mono hk h⟩
theorem pops_cutE {y:Code} (E:List (Nat × PV)) (LL:List Res) (h:pops P N all (fun ρ L=>Holds ρ E∧LL.Sublist L) fl os ρ L) (k:pwp P N y Q (env E) LL)
  (hK: ∀ ρ L,pwp P N y Q ρ L→K ρ L:=by intro _ _ h;exact h):pops P N all K fl os ρ L:=
 pops_mono (fun ρ' L' ⟨h1,h2⟩=>hK _ _ (pwp_env E h1 h2 k)) h
theorem pwp_join {c y:Code} (F:Prop) (E:List (Nat × PV)) (LL:List Res) (h:pwp P N c (PThen (fun ρ L=>F∧Holds ρ E∧LL.Sublist L) Q) ρ L) (k:F→pwp P N y Q (env E) LL):pwp P N c (PThen (pwp P N y Q) Q) ρ L:=
 pwp_mono h fun e ρ' L' hq=>by
  cases e with
  |normal=>obtain⟨h1,h2,h3⟩:=hq;exact pwp_env E h2 h3 (k h1)
  |_=>exact hq
theorem walkn {A B:Prop} (k:B) (h:Wrap B→A:=by
  intro hB
  repeat(first
   |refine pops_nil ?_
   |(refine g_guard ?_;first|refine pops_yes rfl (by rfl) ?_|refine pops_yesA rfl (by first|((conv=>lhs;whnf);done)|fail) (by assumption) ?_|refine pops_noT rfl (by first|((conv=>lhs;whnf);done)|fail) (by assumption) ?_|refine pops_noF rfl (by first|((conv=>lhs;whnf);done)|fail) (by assumption) ?_|refine pops_noU rfl (by rfl) ?_|refine pops_noT rfl (by rfl) rfl ?_|refine pops_noF rfl (by rfl) rfl ?_)
   |(refine g_move ?_;first|refine s_moveN (by(conv=>lhs;whnf);done) ?_)
   |(refine g_assign ?_;first|refine s_assignN (by(conv=>lhs;whnf);done) ?_)
   |(refine g_load ?_;first|refine s_loadAL (by rfl) (hl:=(by first|infer_instance|fail)) ?_|refine s_loadS (by rfl) rfl ?_|refine s_loadBL (by rfl) (by repeat(first|exact List.mem_cons_self|apply List.mem_cons_of_mem)) (hl:=(by first|infer_instance|fail)) ?_|refine s_loadBF (by rfl) (by repeat(first|exact List.mem_cons_self|apply List.mem_cons_of_mem)) (hs:=(by first|infer_instance|fail)) ?_|refine s_loadBG (by rfl) (by repeat(first|exact List.mem_cons_self|apply List.mem_cons_of_mem)) (hs:=(by first|infer_instance|fail)) ?_|refine s_loadD (by rfl) (by repeat(first|exact List.mem_cons_self|apply List.mem_cons_of_mem)) (by omega) ?_|refine s_loadW (by rfl) (by repeat(first|exact List.mem_cons_self|apply List.mem_cons_of_mem)) (by omega) ?_)
   |(refine g_fld ?_;first|refine s_fldF (by rfl) (hr:=(by first|infer_instance|fail)) ?_|refine s_fldBq (by rfl) (by(conv=>lhs;whnf);done) ?_)
   |(refine g_len ?_;first|refine s_lenM (by rfl) ?_|refine s_lenS (by(conv=>lhs;whnf);done) (jx:=(by first|infer_instance|fail)) ?_|refine s_len (by rfl) ?_)
   |(refine g_call ?_;first|refine j_call1 (by(conv=>lhs;whnf);done) (hN0:=(by first|infer_instance|fail)) (hc:=(by first|infer_instance|fail)) ?_|refine j_call2 (by(conv=>lhs;whnf);done) (by(conv=>lhs;whnf);done) (hN0:=(by first|infer_instance|fail)) (hN1:=(by first|infer_instance|fail)) (hc:=(by first|infer_instance|fail)) ?_|refine j_call3 (by(conv=>lhs;whnf);done) (by(conv=>lhs;whnf);done) (by(conv=>lhs;whnf);done) (hN0:=(by first|infer_instance|fail)) (hN1:=(by first|infer_instance|fail)) (hN2:=(by first|infer_instance|fail)) (hc:=(by first|infer_instance|fail)) ?_|refine j_call0 (hc:=(by first|infer_instance|fail)) ?_|refine j_call4 (by(conv=>lhs;whnf);done) (by(conv=>lhs;whnf);done) (by(conv=>lhs;whnf);done) (by(conv=>lhs;whnf);done) (hN0:=(by first|infer_instance|fail)) (hN1:=(by first|infer_instance|fail)) (hN2:=(by first|infer_instance|fail)) (hN3:=(by first|infer_instance|fail)) (hc:=(by first|infer_instance|fail)) ?_|refine j_call5 (by(conv=>lhs;whnf);done) (by(conv=>lhs;whnf);done) (by(conv=>lhs;whnf);done) (by(conv=>lhs;whnf);done) (by(conv=>lhs;whnf);done) (hN0:=(by first|infer_instance|fail)) (hN1:=(by first|infer_instance|fail)) (hN2:=(by first|infer_instance|fail)) (hN3:=(by first|infer_instance|fail)) (hN4:=(by first|infer_instance|fail)) (hc:=(by first|infer_instance|fail)) ?_|refine j_call6 (by(conv=>lhs;whnf);done) (by(conv=>lhs;whnf);done) (by(conv=>lhs;whnf);done) (by(conv=>lhs;whnf);done) (by(conv=>lhs;whnf);done) (by(conv=>lhs;whnf);done) (hN0:=(by first|infer_instance|fail)) (hN1:=(by first|infer_instance|fail)) (hN2:=(by first|infer_instance|fail)) (hN3:=(by first|infer_instance|fail)) (hN4:=(by first|infer_instance|fail)) (hN5:=(by first|infer_instance|fail)) (hc:=(by first|infer_instance|fail)) ?_)
   |(refine g_bi ?_;first|refine s_min (by rfl) (by rfl) ?_|refine s_max (by rfl) (by rfl) ?_)
   |(refine g_bin ?_;first|refine s_lss (by rfl) (by rfl) ?_|refine s_leq (by rfl) (by rfl) ?_|refine s_gtr (by rfl) (by rfl) ?_|refine s_geq (by rfl) (by rfl) ?_|refine s_eqi (by rfl) (by rfl) ?_|refine s_nei (by rfl) (by rfl) ?_|refine s_add (by rfl) (by rfl) (by constructor<;>omega) ?_|refine s_sub (by rfl) (by rfl) (by constructor<;>omega) ?_|refine s_eqDig (by rfl) (by rfl) ?_|refine s_neDig (by rfl) (by rfl) ?_|refine s_eqId (by rfl) (by rfl) ?_|refine s_neId (by rfl) (by rfl) ?_|refine s_eqS (by(conv=>lhs;whnf);done) (by(conv=>lhs;whnf);done) (jx:=(by first|infer_instance|fail)) (jy:=(by first|infer_instance|fail)) ?_|refine s_neS (by(conv=>lhs;whnf);done) (by(conv=>lhs;whnf);done) (jx:=(by first|infer_instance|fail)) (jy:=(by first|infer_instance|fail)) ?_|refine s_eqB (by rfl) (by rfl) ?_|refine s_neB (by rfl) (by rfl) ?_|refine s_cat (by(conv=>lhs;whnf);done) (by(conv=>lhs;whnf);done) (jx:=(by first|infer_instance|fail)) (jy:=(by first|infer_instance|fail)) (by first|omega|(simp only[List.length_append,List.length_cons,List.length_nil,Nat.zero_add];omega)) ?_|refine s_mul (by rfl) (by rfl) (by constructor<;>omega) ?_|refine s_quo (by rfl) (by rfl) (by first|omega|decide) (by omega) ?_|refine s_rem (by rfl) (by rfl) (by first|omega|decide) ?_|refine s_addW (by rfl) (by rfl) ?_|refine s_xorW (by rfl) (by rfl) ?_|refine s_andW (by rfl) (by rfl) ?_|refine s_orW (by rfl) (by rfl) ?_|refine s_shrW (by rfl) (by rfl) ?_|refine s_shlW (by rfl) (by rfl) ?_|refine s_shrU (by rfl) (by rfl) ?_|refine s_subU (by rfl) (by rfl) (by omega) (by omega) ?_|refine s_mulU (by rfl) (by rfl) (by omega) ?_)
   |(refine g_ix ?_;first|refine s_indexN (by rfl) (by rfl) (by omega) ?_|refine s_indexB (by rfl) (by rfl) (by omega) ?_|refine s_indexZ (by rfl) (by rfl) (by omega) (by omega) ?_)
   |(refine g_ext ?_;first|refine s_extract (by rfl) rfl ?_)
   |(refine g_pick ?_;first|refine s_pickTA (by rfl) rfl (by(conv=>lhs;whnf);done) ?_|refine s_pickFA (by rfl) rfl (by(conv=>lhs;whnf);done) ?_|refine s_pickTA (by first|((conv=>lhs;whnf);done)|fail) (by assumption) (by(conv=>lhs;whnf);done) ?_|refine s_pickFA (by first|((conv=>lhs;whnf);done)|fail) (by assumption) (by(conv=>lhs;whnf);done) ?_)
   |(refine g_un ?_;first|refine s_not (by rfl) ?_|refine s_neg (by rfl) (by constructor<;>omega) ?_|refine s_notW (by rfl) ?_)
   |(refine g_store ?_;first|refine s_storeC (by rfl) (by(conv=>lhs;whnf);done) (hC:=(by first|infer_instance|fail)) (hB:=(by first|infer_instance|fail)) (hp:=(by first|infer_instance|fail)) (hu:=(by first|infer_instance|fail)) (hf:=(by first|infer_instance|fail)) (hlen:=(by first|infer_instance|fail)) ?_|refine s_storeX (by rfl) (by rfl) (hB:=(by first|infer_instance|fail)) (hu:=(by first|infer_instance|fail)) (hf:=(by first|infer_instance|fail)) (hlen:=(by first|infer_instance|fail)) (hcs:=(by first|infer_instance|fail)) ?_|refine s_storeW32 (by rfl) (by rfl) (by repeat(first|exact List.mem_cons_self|apply List.mem_cons_of_mem)) (by omega) (hu:=(by first|infer_instance|fail)) ?_|refine s_storeD (by rfl) (by rfl) (by repeat(first|exact List.mem_cons_self|apply List.mem_cons_of_mem)) (by omega) (hu:=(by first|infer_instance|fail)) ?_)
   |(refine g_bs ?_;first|refine s_bs0 ?_|refine s_bs1 (by(conv=>lhs;whnf);done) (hC0:=(by first|infer_instance|fail)) (hf:=(by first|infer_instance|fail)) (by decide) ?_|refine s_bs2 (by(conv=>lhs;whnf);done) (by(conv=>lhs;whnf);done) (hC0:=(by first|infer_instance|fail)) (hC1:=(by first|infer_instance|fail)) (hf:=(by first|infer_instance|fail)) (by decide) ?_|refine s_bs3 (by(conv=>lhs;whnf);done) (by(conv=>lhs;whnf);done) (by(conv=>lhs;whnf);done) (hC0:=(by first|infer_instance|fail)) (hC1:=(by first|infer_instance|fail)) (hC2:=(by first|infer_instance|fail)) (hf:=(by first|infer_instance|fail)) (by decide) ?_|refine s_bs4 (by(conv=>lhs;whnf);done) (by(conv=>lhs;whnf);done) (by(conv=>lhs;whnf);done) (by(conv=>lhs;whnf);done) (hC0:=(by first|infer_instance|fail)) (hC1:=(by first|infer_instance|fail)) (hC2:=(by first|infer_instance|fail)) (hC3:=(by first|infer_instance|fail)) (hf:=(by first|infer_instance|fail)) (by decide) ?_|refine s_bs5 (by(conv=>lhs;whnf);done) (by(conv=>lhs;whnf);done) (by(conv=>lhs;whnf);done) (by(conv=>lhs;whnf);done) (by(conv=>lhs;whnf);done) (hC0:=(by first|infer_instance|fail)) (hC1:=(by first|infer_instance|fail)) (hC2:=(by first|infer_instance|fail)) (hC3:=(by first|infer_instance|fail)) (hC4:=(by first|infer_instance|fail)) (hf:=(by first|infer_instance|fail)) (by decide) ?_|refine s_bs6 (by(conv=>lhs;whnf);done) (by(conv=>lhs;whnf);done) (by(conv=>lhs;whnf);done) (by(conv=>lhs;whnf);done) (by(conv=>lhs;whnf);done) (by(conv=>lhs;whnf);done) (hC0:=(by first|infer_instance|fail)) (hC1:=(by first|infer_instance|fail)) (hC2:=(by first|infer_instance|fail)) (hC3:=(by first|infer_instance|fail)) (hC4:=(by first|infer_instance|fail)) (hC5:=(by first|infer_instance|fail)) (hf:=(by first|infer_instance|fail)) (by decide) ?_)
   |(refine g_build ?_;first|refine s_build0 ?_|refine s_buildA0 ?_|refine b_build1 (by(conv=>lhs;whnf);done) (hC0:=(by first|infer_instance|fail)) (hP0:=(by first|infer_instance|fail)) (hl0:=(by first|infer_instance|fail)) ?_|refine b_build2 (by(conv=>lhs;whnf);done) (by(conv=>lhs;whnf);done) (hC0:=(by first|infer_instance|fail)) (hC1:=(by first|infer_instance|fail)) (hP0:=(by first|infer_instance|fail)) (hP1:=(by first|infer_instance|fail)) (hl0:=(by first|infer_instance|fail)) (hl1:=(by first|infer_instance|fail)) ?_|refine b_build3 (by(conv=>lhs;whnf);done) (by(conv=>lhs;whnf);done) (by(conv=>lhs;whnf);done) (hC0:=(by first|infer_instance|fail)) (hC1:=(by first|infer_instance|fail)) (hC2:=(by first|infer_instance|fail)) (hP0:=(by first|infer_instance|fail)) (hP1:=(by first|infer_instance|fail)) (hP2:=(by first|infer_instance|fail)) (hl0:=(by first|infer_instance|fail)) (hl1:=(by first|infer_instance|fail)) (hl2:=(by first|infer_instance|fail)) ?_|refine b_build4 (by(conv=>lhs;whnf);done) (by(conv=>lhs;whnf);done) (by(conv=>lhs;whnf);done) (by(conv=>lhs;whnf);done) (hC0:=(by first|infer_instance|fail)) (hC1:=(by first|infer_instance|fail)) (hC2:=(by first|infer_instance|fail)) (hC3:=(by first|infer_instance|fail)) (hP0:=(by first|infer_instance|fail)) (hP1:=(by first|infer_instance|fail)) (hP2:=(by first|infer_instance|fail)) (hP3:=(by first|infer_instance|fail)) (hl0:=(by first|infer_instance|fail)) (hl1:=(by first|infer_instance|fail)) (hl2:=(by first|infer_instance|fail)) (hl3:=(by first|infer_instance|fail)) ?_|refine b_build5 (by(conv=>lhs;whnf);done) (by(conv=>lhs;whnf);done) (by(conv=>lhs;whnf);done) (by(conv=>lhs;whnf);done) (by(conv=>lhs;whnf);done) (hC0:=(by first|infer_instance|fail)) (hC1:=(by first|infer_instance|fail)) (hC2:=(by first|infer_instance|fail)) (hC3:=(by first|infer_instance|fail)) (hC4:=(by first|infer_instance|fail)) (hP0:=(by first|infer_instance|fail)) (hP1:=(by first|infer_instance|fail)) (hP2:=(by first|infer_instance|fail)) (hP3:=(by first|infer_instance|fail)) (hP4:=(by first|infer_instance|fail)) (hl0:=(by first|infer_instance|fail)) (hl1:=(by first|infer_instance|fail)) (hl2:=(by first|infer_instance|fail)) (hl3:=(by first|infer_instance|fail)) (hl4:=(by first|infer_instance|fail)) ?_|refine b_build6 (by(conv=>lhs;whnf);done) (by(conv=>lhs;whnf);done) (by(conv=>lhs;whnf);done) (by(conv=>lhs;whnf);done) (by(conv=>lhs;whnf);done) (by(conv=>lhs;whnf);done) (hC0:=(by first|infer_instance|fail)) (hC1:=(by first|infer_instance|fail)) (hC2:=(by first|infer_instance|fail)) (hC3:=(by first|infer_instance|fail)) (hC4:=(by first|infer_instance|fail)) (hC5:=(by first|infer_instance|fail)) (hP0:=(by first|infer_instance|fail)) (hP1:=(by first|infer_instance|fail)) (hP2:=(by first|infer_instance|fail)) (hP3:=(by first|infer_instance|fail)) (hP4:=(by first|infer_instance|fail)) (hP5:=(by first|infer_instance|fail)) (hl0:=(by first|infer_instance|fail)) (hl1:=(by first|infer_instance|fail)) (hl2:=(by first|infer_instance|fail)) (hl3:=(by first|infer_instance|fail)) (hl4:=(by first|infer_instance|fail)) (hl5:=(by first|infer_instance|fail)) ?_|refine b_build7 (by(conv=>lhs;whnf);done) (by(conv=>lhs;whnf);done) (by(conv=>lhs;whnf);done) (by(conv=>lhs;whnf);done) (by(conv=>lhs;whnf);done) (by(conv=>lhs;whnf);done) (by(conv=>lhs;whnf);done) (hC0:=(by first|infer_instance|fail)) (hC1:=(by first|infer_instance|fail)) (hC2:=(by first|infer_instance|fail)) (hC3:=(by first|infer_instance|fail)) (hC4:=(by first|infer_instance|fail)) (hC5:=(by first|infer_instance|fail)) (hC6:=(by first|infer_instance|fail)) (hP0:=(by first|infer_instance|fail)) (hP1:=(by first|infer_instance|fail)) (hP2:=(by first|infer_instance|fail)) (hP3:=(by first|infer_instance|fail)) (hP4:=(by first|infer_instance|fail)) (hP5:=(by first|infer_instance|fail)) (hP6:=(by first|infer_instance|fail)) (hl0:=(by first|infer_instance|fail)) (hl1:=(by first|infer_instance|fail)) (hl2:=(by first|infer_instance|fail)) (hl3:=(by first|infer_instance|fail)) (hl4:=(by first|infer_instance|fail)) (hl5:=(by first|infer_instance|fail)) (hl6:=(by first|infer_instance|fail)) ?_|refine b_build8 (by(conv=>lhs;whnf);done) (by(conv=>lhs;whnf);done) (by(conv=>lhs;whnf);done) (by(conv=>lhs;whnf);done) (by(conv=>lhs;whnf);done) (by(conv=>lhs;whnf);done) (by(conv=>lhs;whnf);done) (by(conv=>lhs;whnf);done) (hC0:=(by first|infer_instance|fail)) (hC1:=(by first|infer_instance|fail)) (hC2:=(by first|infer_instance|fail)) (hC3:=(by first|infer_instance|fail)) (hC4:=(by first|infer_instance|fail)) (hC5:=(by first|infer_instance|fail)) (hC6:=(by first|infer_instance|fail)) (hC7:=(by first|infer_instance|fail)) (hP0:=(by first|infer_instance|fail)) (hP1:=(by first|infer_instance|fail)) (hP2:=(by first|infer_instance|fail)) (hP3:=(by first|infer_instance|fail)) (hP4:=(by first|infer_instance|fail)) (hP5:=(by first|infer_instance|fail)) (hP6:=(by first|infer_instance|fail)) (hP7:=(by first|infer_instance|fail)) (hl0:=(by first|infer_instance|fail)) (hl1:=(by first|infer_instance|fail)) (hl2:=(by first|infer_instance|fail)) (hl3:=(by first|infer_instance|fail)) (hl4:=(by first|infer_instance|fail)) (hl5:=(by first|infer_instance|fail)) (hl6:=(by first|infer_instance|fail)) (hl7:=(by first|infer_instance|fail)) ?_)
   |(refine g_slice ?_;first|refine s_cutL (by rfl) (by rfl) (by omega) ?_|refine s_cutH (by rfl) (by rfl) (by omega) ?_|refine s_cutS (by(conv=>lhs;whnf);done) (by rfl) (by rfl) (jx:=(by first|infer_instance|fail)) (by omega) (by omega) (by omega) ?_|refine s_cutSL (by(conv=>lhs;whnf);done) (by rfl) (jx:=(by first|infer_instance|fail)) (by omega) (by omega) ?_|refine s_sliceD (by rfl) ?_)
   |(refine g_conv ?_;first|refine s_convB (by rfl) ?_|refine s_convW (by rfl) ?_|refine s_convU (by rfl) (by omega) ?_|refine s_strB (by rfl) ?_|refine s_strBox (by rfl) (by repeat(first|exact List.mem_cons_self|apply List.mem_cons_of_mem)) (hs:=(by first|infer_instance|fail)) ?_)
   |(refine g_index ?_;first|refine s_indexS (by(conv=>lhs;whnf);done) (by rfl) (jx:=(by first|infer_instance|fail)) (by omega) ?_)
   |(refine g_nck ?_;first|refine s_nilCheckP (by rfl) ?_)
   |refine pwp_seq ?_
   |refine pwp_region (by kernel_rfl) ?_
   |refine pwp_block ?_
   |refine pwp_skip ?_
   |refine pwp_ret ?_
   |refine pwp_exit ?_
   |refine pwp_condT (by rfl) ?_
   |refine pwp_condF (by rfl) ?_)
  exact hB.out):A:=h ⟨k⟩
theorem walkbn {A:Prop} {B:Nat→Prop} (k: ∀ b,B b) (h:WrapF B→A:=by
  intro hB
  refine walkn ?_
  first|refine s_box (by rfl) fun b=>?_|refine s_alloc fun b=>?_
  refine walkn ?_
  exact hB.out b):A:=h ⟨k⟩
theorem walkbnp {A:Prop} {B:Nat→Prop} (k: ∀ b,B b) (h:WrapF B→A:=by
  intro hB
  refine walkbn fun b=>?_
  exact hB.out b):A:=h ⟨k⟩
theorem opN_bsT {T n sz by_:Nat} [hE:TApp P T sz by_] {xs:List Operand} {cs:List (List PV)} {dst:Option Nat} {gd:Option (Nat × Bool)} (hn:xs.length=n) (hl:cs.length=n) (h24:n*sz≤16777216) (hm:n≤maxN)
  (hx: ∀ i (h1:i < xs.length) (h2:i < cs.length),Cells (ρ.ev xs[i]) cs[i]∧cs[i].length=sz) {Ψ:PV→List Res→Prop} (k: ∀ t',Ψ (.slice cs t') (.tok t' n sz::L)):OpN P ⟨dst,.buildSlice T n ((xs.zipIdx.map fun p=>(p.2,p.1)).toArray),ty,pos,af,gd⟩ ρ L Ψ:=by
 intro a w g ha hi
 obtain⟨E,i,z,t1,t2,t3,t4,t5,t6,t7,t8⟩:=hE.out
 have hcell: ∀ i,i < n→ ∃ us:List Value,(∀ (h1:i < xs.length),(a.eval xs[i]).cells=us.toArray)∧(∀ (h2:i < cs.length),VRl g us cs[i]):=fun i h1=>by
  obtain⟨us,e1,e2⟩:=(hx i (by omega) (by omega)).1 g _ (ha xs[i] (bs_operand (by omega)))
  exact⟨us,fun _=>e1,fun _=>e2⟩
 let F:Nat→List Value:=fun i=>by classical exact if h:i < n then Classical.choose (hcell i h)else []
 have hF: ∀ i (h:i < n),(∀ (h1:i < xs.length),(a.eval xs[i]).cells=(F i).toArray)∧(∀ (h2:i < cs.length),VRl g (F i) cs[i]):=fun i h=>by
  have:=Classical.choose_spec (hcell i h)
  simp only[F,dif_pos h];exact this
 let vs:List (List Value):=(List.range n).map F
 have hvl:vs.length=n:=by simp[vs]
 have hvi: ∀ i (h:i < vs.length),vs[i]=F i:=fun i h=>by simp[vs]
 have hFl: ∀ i,i < n→(F i).length=sz:=fun i h=>by rw[((hF i h).2 (by omega)).len,(hx i (by omega) (by omega)).2]
 have hflat:VRl g vs.flatten cs.flatten:=by
  have: ∀ m,m≤n→VRl g (vs.take m).flatten (cs.take m).flatten:=by
   intro m
   induction m with
   |zero=>intro _;simp;exact .nil g
   |succ m ih=>
    intro hm'
    rw[List.take_succ_eq_append_getElem (by omega:m < vs.length),List.take_succ_eq_append_getElem (by omega:m < cs.length),List.flatten_append,List.flatten_append]
    refine(ih (by omega)).append ?_
    simp only[List.flatten_cons,List.flatten_nil,List.append_nil,hvi]
    exact(hF m (by omega)).2 (by omega)
  have:=this n (Nat.le_refl _)
  rwa [List.take_of_length_le (by omega),List.take_of_length_le (by omega)]at this
 have hcs: ∀ e∈cs,e.length=sz:=fun e he=>by
  obtain⟨j,hj,rfl⟩:=List.mem_iff_getElem.1 he
  exact(hx j (by omega) hj).2
 have hparts:(((xs.zipIdx.map fun p=>(p.2,p.1)).toArray).map fun(p:Nat × Operand)=>(p.1,a.eval p.2)).toList=((xs.map a.eval).zipIdx 0).map fun p=>(p.2,p.1):=by
  simp only[List.map_toArray,List.map_map]
  rw[List.zipIdx_map,List.map_map]
  rfl
 obtain⟨j1,j2,j3⟩:=hi.lay vs.flatten E
 have hr:(execOp a.eval ⟨dst,.buildSlice T n ((xs.zipIdx.map fun p=>(p.2,p.1)).toArray),ty,pos,af,gd⟩).run P w= .ok (.value (.slice (some ⟨w.heap.size,0,none⟩) n n)) { w with heap:=w.heap.push (.cells vs.flatten.toArray E (0,0)) }:=by
  have hz: ∀ (zz:Array Value),Instr.fill (fun i=>some (i*sz,sz)) ((Array.range (n*sz)).map (zz[·% zz.size]!)) (((xs.map a.eval).zipIdx 0).map fun p=>(p.2,p.1))=some vs.flatten.toArray:=fun zz=>by
   have e:(Array.range (n*sz)).map (zz[·% zz.size]!)=((List.range (n*sz)).map (zz[·% zz.size]!)).toArray:=by
    apply Array.ext';simp
   rw[e,fill_all vs (xs.map a.eval) 0 _ (by simp[hvl,hn]) (fun i h1 h2=>by
    simp only[List.length_map]at h1
    rw[hvi]
    simp only[List.getElem_map]
    exact⟨(hF i (by omega)).1 h1,hFl i (by omega)⟩) (by simp[hvl])]
   simp
  show(do pure (Next.value (←Instr.buildSlice T n (((xs.zipIdx.map fun p=>(p.2,p.1)).toArray).map fun(p:Nat × Operand)=>(p.1,a.eval p.2)))):Sem Next).run P w=_
  simp only[Instr.buildSlice,Sem.run_bind,run_underlying t1,Result.andThen_ok,sizeOf,typeInfo,run_program,t2,Sem.run_pure,t3,hparts]
  rw[if_neg (by have:(2:Nat) ^ 24=16777216:=by decide
                omega)]
  have hzv:(zeroValue E).run P w= .ok z w:=by simp[zeroValue,typeInfo,t2,t5]
  split
  ·simp only[Sem.run_bind,Sem.run_pure,Result.andThen_ok,hz #[],newRow,run_newObj]
  ·simp only[Sem.run_bind,hzv,Sem.run_pure,Result.andThen_ok,hz z.cells,newRow,run_newObj]
 refine Oper.wq_of_run hr ?_
 have hH0: ∀ o,g.H w.heap.size o=none:=fun o=>by
  cases h:g.H w.heap.size o with
  |none=>rfl
  |some v=>have:=hi.sat _ _ _ h;simp[World.cell?]at this
 have hM0:g.M w.heap.size=none:=by
  cases h:g.M w.heap.size with
  |none=>rfl
  |some v=>exact absurd (hi.satM _ _ h).lt (Nat.lt_irrefl _)
 have hfl:vs.flatten.length=n*sz:=by
  rw[hflat.len]
  have: ∀ (l:List (List PV)),(∀ e∈l,e.length=sz)→l.flatten.length=l.length*sz:=by
   intro l
   induction l with
   |nil=>simp
   |cons e l ih=>intro h;simp only[List.flatten_cons,List.length_append,h e (by simp),ih fun e' he=>h e' (by simp[he]),List.length_cons,Nat.add_mul];omega
  rw[this cs hcs,hl]
 refine⟨_,.slice cs (.own w.heap.size n),_,.tok (.own w.heap.size n) n sz::L,rfl,?_,⟨j1.sat,j1.satM,fun r hr=>?_,?_,j1.glob⟩,?_,?_,k _⟩
 ·have:=VR.of_cells (g:=g.lay w.heap.size 0 vs.flatten) (xs:=cs) (t:= .own w.heap.size n) (sz:=sz) (b:=w.heap.size) (off:=0) (cap:=n) hcs (by omega) ⟨by omega,by rw[hl];exact Nat.le_trans h24 (by decide)⟩ (us:=vs.flatten) (hflat.mono j3) (fun j hj=>Gh.lay_in hj) (fun b' cap' e=>by cases e;exact⟨rfl,rfl,rfl⟩) (by simp)
  rw[hl]at this
  exact this
 ·rcases List.mem_cons.1 hr with rfl|hr
  ·refine⟨vs.flatten.toArray,E,(0,0),by simp,by simp[hfl],Nat.le_refl _,fun o ho=>?_,hM0,.inl (Nat.le_refl _)⟩
   rw[Gh.lay_out (fun h=>by have:=h.2.2;omega)];exact hH0 o
  ·exact j1.res r hr
 ·have hb:w.heap.size∉blocks L:=fun h=>by
   obtain⟨r,hr,e⟩:=List.mem_filterMap.1 h
   have:=Res.holds_lt (hi.res r hr) e
   omega
  simp only[blocks,List.filterMap_cons,Res.block]
  exact List.nodup_cons.2 ⟨hb,hi.nodup⟩
 ·exact j2
 ·intro b' hb' hlt
  simp only[blocks,List.filterMap_cons,Res.block,List.mem_cons]at hb'
  rcases hb' with h|h
  ·omega
  ·exact h
theorem s_bsT1 {T sz by_:Nat} [hE:TApp P T sz by_] {x0:Operand} {a0:PV} {α:Type} {f:α→List PV} {e0:α} (q0:ρ.ev x0=a0) [hC0:EncC a0 f e0] [hf:Len f sz] (h24:1*sz≤16777216)
  (k: ∀ t,pops P N all K fl.tail os (upd ρ d (.slice ([e0].map f) t)) (.tok t [e0].length sz::L)) (hd:Nat.blt d N=true:=by rfl) (hfl:fl.headD true=true:=by rfl):pops P N all K fl (⟨some d,.buildSlice T 1 #[(0,x0)],ty,pos,af,none⟩::os) ρ L:=
 pops_n rfl (dlt hd) hfl (opN_bsT (n:=1) (xs:= [x0]) (cs:= [e0].map f) rfl rfl h24 (by decide) (fun i h1 h2=>by
  match i,h1,h2 with
  |0,_,_=>exact⟨q0 ▸ hC0.out,hf.out e0⟩
  |m+1,h1,_=>exact absurd h1 (by simp only[List.length_cons,List.length_nil];omega)) k)
theorem walkx {A B:Prop} (k:B) (h:Wrap B→A:=by
  intro hB
  repeat(first
   |refine pops_nil ?_
   |(refine g_guard ?_;first|refine pops_yes rfl (by rfl) ?_|refine pops_yesA rfl (by first|((conv=>lhs;whnf);done)|fail) (by assumption) ?_|refine pops_noT rfl (by first|((conv=>lhs;whnf);done)|fail) (by assumption) ?_|refine pops_noF rfl (by first|((conv=>lhs;whnf);done)|fail) (by assumption) ?_|refine pops_noU rfl (by rfl) ?_|refine pops_noT rfl (by rfl) rfl ?_|refine pops_noF rfl (by rfl) rfl ?_)
   |(refine g_move ?_;first|refine s_moveN (by(conv=>lhs;whnf);done) ?_)
   |(refine g_assign ?_;first|refine s_assignN (by(conv=>lhs;whnf);done) ?_)
   |(refine g_load ?_;first|refine s_loadAL (by rfl) (hl:=(by first|infer_instance|fail)) ?_|refine s_loadS (by rfl) rfl ?_|refine s_loadBL (by rfl) (by repeat(first|exact List.mem_cons_self|apply List.mem_cons_of_mem)) (hl:=(by first|infer_instance|fail)) ?_|refine s_loadBF (by rfl) (by repeat(first|exact List.mem_cons_self|apply List.mem_cons_of_mem)) (hs:=(by first|infer_instance|fail)) ?_|refine s_loadBG (by rfl) (by repeat(first|exact List.mem_cons_self|apply List.mem_cons_of_mem)) (hs:=(by first|infer_instance|fail)) ?_|refine s_loadD (by rfl) (by repeat(first|exact List.mem_cons_self|apply List.mem_cons_of_mem)) (by omega) ?_|refine s_loadW (by rfl) (by repeat(first|exact List.mem_cons_self|apply List.mem_cons_of_mem)) (by omega) ?_)
   |(refine g_fld ?_;first|refine s_fldF (by rfl) (hr:=(by first|infer_instance|fail)) ?_|refine s_fldBq (by rfl) (by(conv=>lhs;whnf);done) ?_)
   |(refine g_len ?_;first|refine s_lenM (by rfl) ?_|refine s_lenS (by(conv=>lhs;whnf);done) (jx:=(by first|infer_instance|fail)) ?_|refine s_len (by rfl) ?_)
   |(refine g_call ?_;first|refine j_call1 (by(conv=>lhs;whnf);done) (hN0:=(by first|infer_instance|fail)) (hc:=(by first|infer_instance|fail)) ?_|refine j_call2 (by(conv=>lhs;whnf);done) (by(conv=>lhs;whnf);done) (hN0:=(by first|infer_instance|fail)) (hN1:=(by first|infer_instance|fail)) (hc:=(by first|infer_instance|fail)) ?_|refine j_call3 (by(conv=>lhs;whnf);done) (by(conv=>lhs;whnf);done) (by(conv=>lhs;whnf);done) (hN0:=(by first|infer_instance|fail)) (hN1:=(by first|infer_instance|fail)) (hN2:=(by first|infer_instance|fail)) (hc:=(by first|infer_instance|fail)) ?_|refine j_call0 (hc:=(by first|infer_instance|fail)) ?_|refine j_call4 (by(conv=>lhs;whnf);done) (by(conv=>lhs;whnf);done) (by(conv=>lhs;whnf);done) (by(conv=>lhs;whnf);done) (hN0:=(by first|infer_instance|fail)) (hN1:=(by first|infer_instance|fail)) (hN2:=(by first|infer_instance|fail)) (hN3:=(by first|infer_instance|fail)) (hc:=(by first|infer_instance|fail)) ?_|refine j_call5 (by(conv=>lhs;whnf);done) (by(conv=>lhs;whnf);done) (by(conv=>lhs;whnf);done) (by(conv=>lhs;whnf);done) (by(conv=>lhs;whnf);done) (hN0:=(by first|infer_instance|fail)) (hN1:=(by first|infer_instance|fail)) (hN2:=(by first|infer_instance|fail)) (hN3:=(by first|infer_instance|fail)) (hN4:=(by first|infer_instance|fail)) (hc:=(by first|infer_instance|fail)) ?_|refine j_call6 (by(conv=>lhs;whnf);done) (by(conv=>lhs;whnf);done) (by(conv=>lhs;whnf);done) (by(conv=>lhs;whnf);done) (by(conv=>lhs;whnf);done) (by(conv=>lhs;whnf);done) (hN0:=(by first|infer_instance|fail)) (hN1:=(by first|infer_instance|fail)) (hN2:=(by first|infer_instance|fail)) (hN3:=(by first|infer_instance|fail)) (hN4:=(by first|infer_instance|fail)) (hN5:=(by first|infer_instance|fail)) (hc:=(by first|infer_instance|fail)) ?_)
   |(refine g_bi ?_;first|refine s_min (by rfl) (by rfl) ?_|refine s_max (by rfl) (by rfl) ?_)
   |(refine g_bin ?_;first|refine s_lss (by rfl) (by rfl) ?_|refine s_leq (by rfl) (by rfl) ?_|refine s_gtr (by rfl) (by rfl) ?_|refine s_geq (by rfl) (by rfl) ?_|refine s_eqi (by rfl) (by rfl) ?_|refine s_nei (by rfl) (by rfl) ?_|refine s_add (by rfl) (by rfl) (by constructor<;>omega) ?_|refine s_sub (by rfl) (by rfl) (by constructor<;>omega) ?_|refine s_eqDig (by rfl) (by rfl) ?_|refine s_neDig (by rfl) (by rfl) ?_|refine s_eqId (by rfl) (by rfl) ?_|refine s_neId (by rfl) (by rfl) ?_|refine s_eqS (by(conv=>lhs;whnf);done) (by(conv=>lhs;whnf);done) (jx:=(by first|infer_instance|fail)) (jy:=(by first|infer_instance|fail)) ?_|refine s_neS (by(conv=>lhs;whnf);done) (by(conv=>lhs;whnf);done) (jx:=(by first|infer_instance|fail)) (jy:=(by first|infer_instance|fail)) ?_|refine s_eqB (by rfl) (by rfl) ?_|refine s_neB (by rfl) (by rfl) ?_|refine s_cat (by(conv=>lhs;whnf);done) (by(conv=>lhs;whnf);done) (jx:=(by first|infer_instance|fail)) (jy:=(by first|infer_instance|fail)) (by first|omega|(simp only[List.length_append,List.length_cons,List.length_nil,Nat.zero_add];omega)) ?_|refine s_mul (by rfl) (by rfl) (by constructor<;>omega) ?_|refine s_quo (by rfl) (by rfl) (by first|omega|decide) (by omega) ?_|refine s_rem (by rfl) (by rfl) (by first|omega|decide) ?_|refine s_addW (by rfl) (by rfl) ?_|refine s_xorW (by rfl) (by rfl) ?_|refine s_andW (by rfl) (by rfl) ?_|refine s_orW (by rfl) (by rfl) ?_|refine s_shrW (by rfl) (by rfl) ?_|refine s_shlW (by rfl) (by rfl) ?_|refine s_shrU (by rfl) (by rfl) ?_|refine s_subU (by rfl) (by rfl) (by omega) (by omega) ?_|refine s_mulU (by rfl) (by rfl) (by omega) ?_)
   |(refine g_ix ?_;first|refine s_indexN (by rfl) (by rfl) (by omega) ?_|refine s_indexB (by rfl) (by rfl) (by omega) ?_|refine s_indexZ (by rfl) (by rfl) (by omega) (by omega) ?_)
   |(refine g_ext ?_;first|refine s_extract (by rfl) rfl ?_)
   |(refine g_pick ?_;first|refine s_pickTA (by rfl) rfl (by(conv=>lhs;whnf);done) ?_|refine s_pickFA (by rfl) rfl (by(conv=>lhs;whnf);done) ?_|refine s_pickTA (by first|((conv=>lhs;whnf);done)|fail) (by assumption) (by(conv=>lhs;whnf);done) ?_|refine s_pickFA (by first|((conv=>lhs;whnf);done)|fail) (by assumption) (by(conv=>lhs;whnf);done) ?_)
   |(refine g_un ?_;first|refine s_not (by rfl) ?_|refine s_neg (by rfl) (by constructor<;>omega) ?_|refine s_notW (by rfl) ?_)
   |(refine g_store ?_;first|refine s_storeC (by rfl) (by(conv=>lhs;whnf);done) (hC:=(by first|infer_instance|fail)) (hB:=(by first|infer_instance|fail)) (hp:=(by first|infer_instance|fail)) (hu:=(by first|infer_instance|fail)) (hf:=(by first|infer_instance|fail)) (hlen:=(by first|infer_instance|fail)) ?_|refine s_storeX (by rfl) (by rfl) (hB:=(by first|infer_instance|fail)) (hu:=(by first|infer_instance|fail)) (hf:=(by first|infer_instance|fail)) (hlen:=(by first|infer_instance|fail)) (hcs:=(by first|infer_instance|fail)) ?_|refine s_storeW32 (by rfl) (by rfl) (by repeat(first|exact List.mem_cons_self|apply List.mem_cons_of_mem)) (by omega) (hu:=(by first|infer_instance|fail)) ?_|refine s_storeD (by rfl) (by rfl) (by repeat(first|exact List.mem_cons_self|apply List.mem_cons_of_mem)) (by omega) (hu:=(by first|infer_instance|fail)) ?_)
   |(refine g_build ?_;first|refine s_build0 ?_|refine s_buildA0 ?_|refine b_build1 (by(conv=>lhs;whnf);done) (hC0:=(by first|infer_instance|fail)) (hP0:=(by first|infer_instance|fail)) (hl0:=(by first|infer_instance|fail)) ?_|refine b_build2 (by(conv=>lhs;whnf);done) (by(conv=>lhs;whnf);done) (hC0:=(by first|infer_instance|fail)) (hC1:=(by first|infer_instance|fail)) (hP0:=(by first|infer_instance|fail)) (hP1:=(by first|infer_instance|fail)) (hl0:=(by first|infer_instance|fail)) (hl1:=(by first|infer_instance|fail)) ?_|refine b_build3 (by(conv=>lhs;whnf);done) (by(conv=>lhs;whnf);done) (by(conv=>lhs;whnf);done) (hC0:=(by first|infer_instance|fail)) (hC1:=(by first|infer_instance|fail)) (hC2:=(by first|infer_instance|fail)) (hP0:=(by first|infer_instance|fail)) (hP1:=(by first|infer_instance|fail)) (hP2:=(by first|infer_instance|fail)) (hl0:=(by first|infer_instance|fail)) (hl1:=(by first|infer_instance|fail)) (hl2:=(by first|infer_instance|fail)) ?_|refine b_build4 (by(conv=>lhs;whnf);done) (by(conv=>lhs;whnf);done) (by(conv=>lhs;whnf);done) (by(conv=>lhs;whnf);done) (hC0:=(by first|infer_instance|fail)) (hC1:=(by first|infer_instance|fail)) (hC2:=(by first|infer_instance|fail)) (hC3:=(by first|infer_instance|fail)) (hP0:=(by first|infer_instance|fail)) (hP1:=(by first|infer_instance|fail)) (hP2:=(by first|infer_instance|fail)) (hP3:=(by first|infer_instance|fail)) (hl0:=(by first|infer_instance|fail)) (hl1:=(by first|infer_instance|fail)) (hl2:=(by first|infer_instance|fail)) (hl3:=(by first|infer_instance|fail)) ?_|refine b_build5 (by(conv=>lhs;whnf);done) (by(conv=>lhs;whnf);done) (by(conv=>lhs;whnf);done) (by(conv=>lhs;whnf);done) (by(conv=>lhs;whnf);done) (hC0:=(by first|infer_instance|fail)) (hC1:=(by first|infer_instance|fail)) (hC2:=(by first|infer_instance|fail)) (hC3:=(by first|infer_instance|fail)) (hC4:=(by first|infer_instance|fail)) (hP0:=(by first|infer_instance|fail)) (hP1:=(by first|infer_instance|fail)) (hP2:=(by first|infer_instance|fail)) (hP3:=(by first|infer_instance|fail)) (hP4:=(by first|infer_instance|fail)) (hl0:=(by first|infer_instance|fail)) (hl1:=(by first|infer_instance|fail)) (hl2:=(by first|infer_instance|fail)) (hl3:=(by first|infer_instance|fail)) (hl4:=(by first|infer_instance|fail)) ?_|refine b_build6 (by(conv=>lhs;whnf);done) (by(conv=>lhs;whnf);done) (by(conv=>lhs;whnf);done) (by(conv=>lhs;whnf);done) (by(conv=>lhs;whnf);done) (by(conv=>lhs;whnf);done) (hC0:=(by first|infer_instance|fail)) (hC1:=(by first|infer_instance|fail)) (hC2:=(by first|infer_instance|fail)) (hC3:=(by first|infer_instance|fail)) (hC4:=(by first|infer_instance|fail)) (hC5:=(by first|infer_instance|fail)) (hP0:=(by first|infer_instance|fail)) (hP1:=(by first|infer_instance|fail)) (hP2:=(by first|infer_instance|fail)) (hP3:=(by first|infer_instance|fail)) (hP4:=(by first|infer_instance|fail)) (hP5:=(by first|infer_instance|fail)) (hl0:=(by first|infer_instance|fail)) (hl1:=(by first|infer_instance|fail)) (hl2:=(by first|infer_instance|fail)) (hl3:=(by first|infer_instance|fail)) (hl4:=(by first|infer_instance|fail)) (hl5:=(by first|infer_instance|fail)) ?_|refine b_build7 (by(conv=>lhs;whnf);done) (by(conv=>lhs;whnf);done) (by(conv=>lhs;whnf);done) (by(conv=>lhs;whnf);done) (by(conv=>lhs;whnf);done) (by(conv=>lhs;whnf);done) (by(conv=>lhs;whnf);done) (hC0:=(by first|infer_instance|fail)) (hC1:=(by first|infer_instance|fail)) (hC2:=(by first|infer_instance|fail)) (hC3:=(by first|infer_instance|fail)) (hC4:=(by first|infer_instance|fail)) (hC5:=(by first|infer_instance|fail)) (hC6:=(by first|infer_instance|fail)) (hP0:=(by first|infer_instance|fail)) (hP1:=(by first|infer_instance|fail)) (hP2:=(by first|infer_instance|fail)) (hP3:=(by first|infer_instance|fail)) (hP4:=(by first|infer_instance|fail)) (hP5:=(by first|infer_instance|fail)) (hP6:=(by first|infer_instance|fail)) (hl0:=(by first|infer_instance|fail)) (hl1:=(by first|infer_instance|fail)) (hl2:=(by first|infer_instance|fail)) (hl3:=(by first|infer_instance|fail)) (hl4:=(by first|infer_instance|fail)) (hl5:=(by first|infer_instance|fail)) (hl6:=(by first|infer_instance|fail)) ?_|refine b_build8 (by(conv=>lhs;whnf);done) (by(conv=>lhs;whnf);done) (by(conv=>lhs;whnf);done) (by(conv=>lhs;whnf);done) (by(conv=>lhs;whnf);done) (by(conv=>lhs;whnf);done) (by(conv=>lhs;whnf);done) (by(conv=>lhs;whnf);done) (hC0:=(by first|infer_instance|fail)) (hC1:=(by first|infer_instance|fail)) (hC2:=(by first|infer_instance|fail)) (hC3:=(by first|infer_instance|fail)) (hC4:=(by first|infer_instance|fail)) (hC5:=(by first|infer_instance|fail)) (hC6:=(by first|infer_instance|fail)) (hC7:=(by first|infer_instance|fail)) (hP0:=(by first|infer_instance|fail)) (hP1:=(by first|infer_instance|fail)) (hP2:=(by first|infer_instance|fail)) (hP3:=(by first|infer_instance|fail)) (hP4:=(by first|infer_instance|fail)) (hP5:=(by first|infer_instance|fail)) (hP6:=(by first|infer_instance|fail)) (hP7:=(by first|infer_instance|fail)) (hl0:=(by first|infer_instance|fail)) (hl1:=(by first|infer_instance|fail)) (hl2:=(by first|infer_instance|fail)) (hl3:=(by first|infer_instance|fail)) (hl4:=(by first|infer_instance|fail)) (hl5:=(by first|infer_instance|fail)) (hl6:=(by first|infer_instance|fail)) (hl7:=(by first|infer_instance|fail)) ?_)
   |(refine g_slice ?_;first|refine s_cutL (by rfl) (by rfl) (by omega) ?_|refine s_cutH (by rfl) (by rfl) (by omega) ?_|refine s_cutS (by(conv=>lhs;whnf);done) (by rfl) (by rfl) (jx:=(by first|infer_instance|fail)) (by omega) (by omega) (by omega) ?_|refine s_cutSL (by(conv=>lhs;whnf);done) (by rfl) (jx:=(by first|infer_instance|fail)) (by omega) (by omega) ?_|refine s_sliceD (by rfl) ?_)
   |(refine g_conv ?_;first|refine s_convB (by rfl) ?_|refine s_convW (by rfl) ?_|refine s_convU (by rfl) (by omega) ?_|refine s_strB (by rfl) ?_|refine s_strBox (by rfl) (by repeat(first|exact List.mem_cons_self|apply List.mem_cons_of_mem)) (hs:=(by first|infer_instance|fail)) ?_)
   |(refine g_index ?_;first|refine s_indexS (by(conv=>lhs;whnf);done) (by rfl) (jx:=(by first|infer_instance|fail)) (by omega) ?_)
   |(refine g_nck ?_;first|refine s_nilCheckP (by rfl) ?_)
   |refine pwp_seq ?_
   |refine pwp_region (by kernel_rfl) ?_
   |refine pwp_block ?_
   |refine pwp_skip ?_
   |refine pwp_ret ?_
   |refine pwp_exit ?_
   |refine pwp_drawQ (by decide+kernel) ?_
   |refine pwp_condT (by rfl) ?_
   |refine pwp_condF (by rfl) ?_)
  exact hB.out):A:=h ⟨k⟩
theorem walkt {A:Prop} {B:Tag→Prop} (k: ∀ t,B t) (h:WrapF B→A:=by
  intro hB
  refine walkx ?_
  refine s_bsT1 (by(conv=>lhs;whnf);done) (hC0:=(by first|infer_instance|fail)) (hf:=(by first|infer_instance|fail)) (by decide) fun t=>?_
  refine walk ?_
  exact hB.out t):A:=h ⟨k⟩
theorem walktp {A:Prop} {B:Tag→Prop} (k: ∀ t,B t) (h:WrapF B→A:=by
  intro hB
  refine walkt fun t=>?_
  exact hB.out t):A:=h ⟨k⟩
theorem holdsB {s:Nat} {v t:Bool} (h:ρ s= .raw (.bool v)) (e:v=t):ρ s= .raw (.bool t):=e ▸ h
end
end Go.Q
namespace Go.Proofs
open Go Go.Q
attribute [local irreducible] pwp pops PCalls OpN
def rFields (c:Chg):Int:=
 if c.kind < 1∨7 < c.kind then 8 else
 if rEmpty (rRest c)=false then 1 else
 if c.kind=1∧(c.type < 1∨4 < c.type)then 8 else
 if c.kind=2∧rName c.name=false then 5 else
 if c.kind=3∧(c.mode < 0∨511 < c.mode)then 2 else
 if 65536 < (c.data.length:Int)then 4 else
 if c.kind=5 then rLines c.lines else
 if c.kind=7∧(c.over.length:Int)=0 then 1 else
 if 400 < (c.over.length:Int)then 4 else
 if rAsc c.over=false then 9 else 0
set_option maxHeartbeats 1000000 in
instance fields_ct (c:Chg):FnC Tryz.prog 224 [.agg (eChg c)] (.raw (.int .i64 (rFields c))):=⟨by
 refine fn_of Tryz.func224 Tryz.ntmps224 rfl (rs:= [.tmp 2]) rfl rfl fun hb LF=>?_
 refine walkb fun b=>?_
 refine pops_cutE [(10,.raw (.bool (decide (c.kind < 1∨7 < c.kind)))),(1,.raw (.pointer (some ⟨b,0,none⟩)))] (.box b 119 (eChg c)::LF) ?_ ?_
 ·repeat' (first|(refine pwp_condD (fun h=>?_) (fun h=>?_)<;>refine walk ?_)|(refine pwp_condN (fun h=>?_) (fun h=>?_)<;>refine walk ?_)|(refine pwp_condB (fun h=>?_) (fun h=>?_)<;>refine walk ?_)|(refine pops_if (fun h=>?_) (fun h=>?_)<;>(have h2:=h;(try simp only[decide_eq_true_eq,decide_eq_false_iff_not,Bool.not_eq_true',Bool.not_eq_false']at h2);refine walkp ?_)))
  all_goals (refine⟨⟨holdsB (by rfl) ?_,rfl⟩,.refl _⟩;first|(simp_all;done)|(simp_all;omega)|grind)
 refine walk ?_
 refine pwp_condD (fun h1=>?_) (fun h1=>?_)
 ·refine walk ?_
  refine end1 (.of_eq ?_)
  rw[rFields,if_pos h1]
 refine walk ?_
 refine pwp_condB (fun h2=>?_) (fun h2=>?_)
 ·refine walk ?_
  refine end1 (.of_eq ?_)
  simp only[Bool.not_eq_true']at h2
  rw[rFields,if_neg h1,if_pos h2]
 replace h2: ¬rEmpty (rRest c)=false:=by simpa using h2
 refine walk ?_
 refine pops_cutE [(27,.raw (.bool (decide (c.kind=1∧(c.type < 1∨4 < c.type))))),(1,.raw (.pointer (some ⟨b,0,none⟩)))] (.box b 119 (eChg c)::LF) ?_ ?_
 ·repeat' (first|(refine pwp_condD (fun h=>?_) (fun h=>?_)<;>refine walk ?_)|(refine pwp_condN (fun h=>?_) (fun h=>?_)<;>refine walk ?_)|(refine pwp_condB (fun h=>?_) (fun h=>?_)<;>refine walk ?_)|(refine pops_if (fun h=>?_) (fun h=>?_)<;>(have h2:=h;(try simp only[decide_eq_true_eq,decide_eq_false_iff_not,Bool.not_eq_true',Bool.not_eq_false']at h2);refine walkp ?_)))
  all_goals (refine⟨⟨holdsB (by rfl) ?_,rfl⟩,.refl _⟩;first|(simp_all;done)|(simp_all;omega)|grind)
 refine walk ?_
 refine pwp_condD (fun h3=>?_) (fun h3=>?_)
 ·refine walk ?_
  refine end1 (.of_eq ?_)
  rw[rFields,if_neg h1,if_neg h2,if_pos h3]
 refine walk ?_
 refine pops_cutE [(36,.raw (.bool (decide (c.kind=2∧rName c.name=false)))),(1,.raw (.pointer (some ⟨b,0,none⟩)))] (.box b 119 (eChg c)::LF) ?_ ?_
 ·repeat' (first|(refine pwp_condD (fun h=>?_) (fun h=>?_)<;>refine walk ?_)|(refine pwp_condN (fun h=>?_) (fun h=>?_)<;>refine walk ?_)|(refine pwp_condB (fun h=>?_) (fun h=>?_)<;>refine walk ?_)|(refine pops_if (fun h=>?_) (fun h=>?_)<;>(have h2:=h;(try simp only[decide_eq_true_eq,decide_eq_false_iff_not,Bool.not_eq_true',Bool.not_eq_false']at h2);refine walkp ?_)))
  all_goals (refine⟨⟨holdsB (by rfl) ?_,rfl⟩,.refl _⟩;first|(simp_all;done)|(simp_all;omega)|grind)
 refine walk ?_
 refine pwp_condD (fun h4=>?_) (fun h4=>?_)
 ·refine walk ?_
  refine end1 (.of_eq ?_)
  rw[rFields,if_neg h1,if_neg h2,if_neg h3,if_pos h4]
 refine walk ?_
 refine pops_cutE [(49,.raw (.bool (decide (c.kind=3∧(c.mode < 0∨511 < c.mode))))),(1,.raw (.pointer (some ⟨b,0,none⟩)))] (.box b 119 (eChg c)::LF) ?_ ?_
 ·repeat' (first|(refine pwp_condD (fun h=>?_) (fun h=>?_)<;>refine walk ?_)|(refine pwp_condN (fun h=>?_) (fun h=>?_)<;>refine walk ?_)|(refine pwp_condB (fun h=>?_) (fun h=>?_)<;>refine walk ?_)|(refine pops_if (fun h=>?_) (fun h=>?_)<;>(have h2:=h;(try simp only[decide_eq_true_eq,decide_eq_false_iff_not,Bool.not_eq_true',Bool.not_eq_false']at h2);refine walkp ?_)))
  all_goals (refine⟨⟨holdsB (by rfl) ?_,rfl⟩,.refl _⟩;first|(simp_all;done)|(simp_all;omega)|grind)
 refine walk ?_
 refine pwp_condD (fun h5=>?_) (fun h5=>?_)
 ·refine walk ?_
  refine end1 (.of_eq ?_)
  rw[rFields,if_neg h1,if_neg h2,if_neg h3,if_neg h4,if_pos h5]
 refine walk ?_
 refine pwp_condD (fun h6=>?_) (fun h6=>?_)
 ·refine walk ?_
  refine end1 (.of_eq ?_)
  rw[rFields,if_neg h1,if_neg h2,if_neg h3,if_neg h4,if_neg h5,if_pos h6]
 refine walk ?_
 refine pwp_condD (fun h7=>?_) (fun h7=>?_)
 ·refine walk ?_
  refine end1 (.of_eq ?_)
  rw[rFields,if_neg h1,if_neg h2,if_neg h3,if_neg h4,if_neg h5,if_neg h6,if_pos h7]
 refine walk ?_
 refine pops_cutE [(68,.raw (.bool (decide (c.kind=7∧(c.over.length:Int)=0)))),(1,.raw (.pointer (some ⟨b,0,none⟩)))] (.box b 119 (eChg c)::LF) ?_ ?_
 ·repeat' (first|(refine pwp_condD (fun h=>?_) (fun h=>?_)<;>refine walk ?_)|(refine pwp_condN (fun h=>?_) (fun h=>?_)<;>refine walk ?_)|(refine pwp_condB (fun h=>?_) (fun h=>?_)<;>refine walk ?_)|(refine pops_if (fun h=>?_) (fun h=>?_)<;>(have h2:=h;(try simp only[decide_eq_true_eq,decide_eq_false_iff_not,Bool.not_eq_true',Bool.not_eq_false']at h2);refine walkp ?_)))
  all_goals (refine⟨⟨holdsB (by rfl) ?_,rfl⟩,.refl _⟩;first|(simp_all;done)|(simp_all;omega)|grind)
 refine walk ?_
 refine pwp_condD (fun h8=>?_) (fun h8=>?_)
 ·refine walk ?_
  refine end1 (.of_eq ?_)
  rw[rFields,if_neg h1,if_neg h2,if_neg h3,if_neg h4,if_neg h5,if_neg h6,if_neg h7,if_pos h8]
 refine walk ?_
 refine pwp_condD (fun h9=>?_) (fun h9=>?_)
 ·refine walk ?_
  refine end1 (.of_eq ?_)
  rw[rFields,if_neg h1,if_neg h2,if_neg h3,if_neg h4,if_neg h5,if_neg h6,if_neg h7,if_neg h8,if_pos h9]
 refine walk ?_
 refine pwp_condB (fun h=>?_) (fun h=>?_)
 ·refine walk ?_
  refine end1 (.of_eq ?_)
  simp only[Bool.not_eq_true']at h
  rw[rFields,if_neg h1,if_neg h2,if_neg h3,if_neg h4,if_neg h5,if_neg h6,if_neg h7,if_neg h8,if_neg h9,if_pos h]
 ·refine walk ?_
  refine end1 (.of_eq ?_)
  replace h: ¬rAsc c.over=false:=by simpa using h
  rw[rFields,if_neg h1,if_neg h2,if_neg h3,if_neg h4,if_neg h5,if_neg h6,if_neg h7,if_neg h8,if_neg h9,if_neg h]⟩
end Go.Proofs
namespace Go.Proofs
open Go Go.Q
attribute [local irreducible] pwp pops PCalls OpN
def firstErr {α:Type} (f:α→Int):List α→Int
 | []=>0
 |x::l=>if f x=0 then firstErr f l else f x
theorem firstErr_zero {α:Type} {f:α→Int}: ∀ {l:List α},(∀ i (h:i < l.length),f l[i]=0)→firstErr f l=0
 | [],_=>rfl
 |x::l,h=>by
  have h0:=h 0 (by simp)
  simp only[List.getElem_cons_zero]at h0
  rw[firstErr,if_pos h0]
  exact firstErr_zero fun i hi=>by have:=h (i+1) (by simpa using hi);simpa using this
theorem firstErr_at {α:Type} {f:α→Int}: ∀ {l:List α} {k:Nat} (hk:k < l.length),(∀ i (h:i < l.length),i < k→f l[i]=0)→f l[k]≠0→firstErr f l=f l[k]
 |x::l,0,hk,_,hn=>by simp only[List.getElem_cons_zero]at hn ⊢;rw[firstErr,if_neg hn]
 |x::l,k+1,hk,h,hn=>by
  have h0:=h 0 (by simp) (by omega)
  simp only[List.getElem_cons_zero]at h0
  simp only[List.getElem_cons_succ]at hn ⊢
  rw[firstErr,if_pos h0]
  exact firstErr_at (by simpa using hk) (fun i hi hik=>by have:=h (i+1) (by simpa using hi) (by omega);simpa using this) hn
theorem upto_succ0 {α:Type} {l:List α} {f:α→Int} {k:Nat} (he: ∀ i (h:i < l.length),i < k→f l[i]=0) (hk:k < l.length) (h:f l[k]=0): ∀ i (h:i < l.length),i < k+1→f l[i]=0:=fun i hi hik=>by
 rcases Nat.lt_or_ge i k with h'|h'
 ·exact he i hi h'
 ·have:i=k:=by omega
  subst this;exact h
def rRoot:Ident:=⟨Dig.zero,-1⟩
def rRefF (c:Chg) (own:List Atm):Int:=if 2≤c.kind∧c.kind≤6 then rOne c.file own (rFitsFile c.kind (rGet own c.file))else 0
def rRefP (c:Chg) (own:List Atm):Int:=if c.kind=2∧c.parent≠rRoot then rOne c.parent own (rDirectory (rGet own c.parent))else 0
def rRefE (c:Chg) (own:List Atm) (x:Ident):Int:=rOne x own (decide (x=c.file)||rFitsEnd c.file (rGet own x))
def rRefO (c:Chg) (own:List Atm) (x:Ident):Int:=rOne x own (rFitsOver c.kind c.file (rGet own x))
def rRefEs (c:Chg) (own:List Atm):Int:=if rText c.kind=true then firstErr (rRefE c own) [c.after,c.before]else 0
def rRefs (c:Chg) (own:List Atm):Int:=
 if rRefF c own≠0 then rRefF c own else if rRefP c own≠0 then rRefP c own else if rRefEs c own≠0 then rRefEs c own else
 if firstErr (rRefO c own) c.over≠0 then firstErr (rRefO c own) c.over else if c.kind=2∧c.parent=c.file then 20 else
 if(rText c.kind=true∧c.after=c.before)∧(c.kind=6∨c.after≠c.file)then 1 else 0
set_option maxHeartbeats 2000000 in
instance references_ct (c:Chg) (own:List Atm) (t:Tag):FnC Tryz.prog 225 [.agg (eChg c),.slice (own.map eAtm) t] (.raw (.int .i64 (rRefs c own))):=⟨by
 refine fn_of Tryz.func225 Tryz.ntmps225 rfl (rs:= [.tmp 4]) rfl rfl fun hb LF=>?_
 have hlen:c.over.length≤140737488355328:=((hb (.agg (eChg c)) (by simp)).agg_at (c:= .slice (c.over.map eIdent) .ro) (by simp[eChg])).slice_map
 refine walkb fun b=>?_
 refine pops_cutE [(20,.raw (.bool (decide (2≤c.kind∧c.kind≤6)))),(1,.slice (own.map eAtm) t),(2,.raw (.pointer (some ⟨b,0,none⟩)))] (.box b 119 (eChg c)::LF) ?_ ?_
 ·repeat' (first|(refine pwp_condD (fun h=>?_) (fun h=>?_)<;>refine walk ?_)|(refine pwp_condN (fun h=>?_) (fun h=>?_)<;>refine walk ?_)|(refine pwp_condB (fun h=>?_) (fun h=>?_)<;>refine walk ?_)|(refine pops_if (fun h=>?_) (fun h=>?_)<;>(have h2:=h;(try simp only[decide_eq_true_eq,decide_eq_false_iff_not,Bool.not_eq_true',Bool.not_eq_false']at h2);refine walkp ?_)))
  all_goals (refine⟨⟨holdsB (by rfl) ?_,rfl,rfl⟩,.refl _⟩;first|(simp_all;done)|(simp_all;omega)|grind)
 refine walk ?_
 refine pwp_join (rRefF c own=0) [(1,.slice (own.map eAtm) t),(2,.raw (.pointer (some ⟨b,0,none⟩)))] (.box b 119 (eChg c)::LF) ?_ fun hF=>?_
 ·refine pwp_condD (fun h=>?_) (fun h=>?_)
  ·refine walk ?_
   have e:rRefF c own=rOne c.file own (rFitsFile c.kind (rGet own c.file)):=by rw[rRefF,if_pos h]
   refine pwp_condN (fun h'=>?_) (fun h'=>?_)
   ·refine walk ?_
    refine end1 (.of_eq ?_)
    rw[rRefs,if_pos (by rw[e];exact h'),e]
   ·refine walk ?_
    exact⟨e.trans h',⟨rfl,rfl⟩,.refl _⟩
  ·refine walk ?_
   exact⟨by rw[rRefF,if_neg h],⟨rfl,rfl⟩,.refl _⟩
 refine walk ?_
 refine pops_cutE [(43,.raw (.bool (decide (c.kind=2∧c.parent≠rRoot)))),(1,.slice (own.map eAtm) t),(2,.raw (.pointer (some ⟨b,0,none⟩)))] (.box b 119 (eChg c)::LF) ?_ ?_
 ·repeat' (first|(refine pwp_condD (fun h=>?_) (fun h=>?_)<;>refine walk ?_)|(refine pwp_condN (fun h=>?_) (fun h=>?_)<;>refine walk ?_)|(refine pwp_condB (fun h=>?_) (fun h=>?_)<;>refine walk ?_)|(refine pops_if (fun h=>?_) (fun h=>?_)<;>(have h2:=h;(try simp only[decide_eq_true_eq,decide_eq_false_iff_not,Bool.not_eq_true',Bool.not_eq_false']at h2);refine walkp ?_)))
  all_goals (refine⟨⟨holdsB (by rfl) ?_,rfl,rfl⟩,.refl _⟩;simp_all[rRoot])
 refine walk ?_
 refine pwp_join (rRefP c own=0) [(1,.slice (own.map eAtm) t),(2,.raw (.pointer (some ⟨b,0,none⟩)))] (.box b 119 (eChg c)::LF) ?_ fun hP=>?_
 ·refine pwp_condD (fun h=>?_) (fun h=>?_)
  ·refine walkb fun b2=>?_
   have e:rRefP c own=rOne c.parent own (rDirectory (rGet own c.parent)):=by rw[rRefP,if_pos h]
   refine pops_if (fun hp=>?_) (fun hp=>?_)
   ·refine walkp ?_
    have e2:rDirectory (rGet own c.parent)=decide ((rGet own c.parent).type=4):=by rw[rDirectory,hp,Bool.true_and]
    rw[e2]at e
    refine pwp_condN (fun h'=>?_) (fun h'=>?_)
    ·refine walk ?_
     refine end1 (.of_eq ?_)
     rw[rRefs,if_neg (by simp[hF]),if_pos (by rw[e];exact h'),e]
    ·refine walk ?_
     exact⟨e.trans h',⟨rfl,rfl⟩,.cons _ (.refl _)⟩
   ·refine walkp ?_
    have e2:rDirectory (rGet own c.parent)=false:=by rw[rDirectory,hp,Bool.false_and]
    rw[e2]at e
    refine pwp_condN (fun h'=>?_) (fun h'=>?_)
    ·refine walk ?_
     refine end1 (.of_eq ?_)
     rw[rRefs,if_neg (by simp[hF]),if_pos (by rw[e];exact h'),e]
    ·refine walk ?_
     exact⟨e.trans h',⟨rfl,rfl⟩,.cons _ (.refl _)⟩
  ·refine walk ?_
   exact⟨by rw[rRefP,if_neg h],⟨rfl,rfl⟩,.refl _⟩
 refine walk ?_
 refine pwp_join (rRefEs c own=0) [(1,.slice (own.map eAtm) t),(2,.raw (.pointer (some ⟨b,0,none⟩)))] (.box b 119 (eChg c)::LF) ?_ fun hE=>?_
 ·refine pwp_condB (fun h=>?_) (fun h=>?_)
  ·refine walk ?_
   have e:rRefEs c own=firstErr (rRefE c own) [c.after,c.before]:=by rw[rRefEs,if_pos h]
   generalize hends: [c.after,c.before]=ends at e
   have hl2:ends.length=2:=by rw[←hends];rfl
   refine pwp_loopS (σ:=Nat) (fun k=>k≤2∧ ∀ i (h:i < ends.length),i < k→rRefE c own ends[i]=0) (fun k=>2 - k) (fun k=> [(1,.slice (own.map eAtm) t),(2,.raw (.pointer (some ⟨b,0,none⟩))),(8,.slice (ends.map eIdent) .ro),(9,.raw (.int .i64 k))]) (fun _=> .box b 119 (eChg c)::LF) 0 ⟨by simp,by simp⟩ ⟨rfl,rfl,by rw[←hends];rfl,rfl⟩ (.refl _) ?_
   rintro k ⟨hk,he⟩
   refine walk ?_
   refine pwp_condD (fun hc=>?_) (fun hc=>?_)
   ·have hlt:k < ends.length:=by omega
    refine walk ?_
    refine pops_if (fun hp=>?_) (fun hp=>?_)
    ·refine walkp ?_
     have e2:rRefE c own ends[k]=rOne ends[k] own true:=by rw[rRefE,hp,Bool.true_or]
     refine pwp_condN (fun h'=>?_) (fun h'=>?_)
     ·refine walk ?_
      refine end1 (.of_eq ?_)
      have e3:rRefEs c own=rOne ends[k] own true:=by rw[e,firstErr_at hlt he (by rw[e2];exact h'),e2]
      rw[rRefs,if_neg (by simp[hF]),if_neg (by simp[hP]),if_pos (by rw[e3];exact h'),e3]
     ·refine walk ?_
      exact⟨k+1,⟨by omega,upto_succ0 he hlt (e2.trans h')⟩,by dsimp only;omega,⟨rfl,rfl,rfl,rfl⟩,.refl _⟩
    ·refine walkp ?_
     have e2:rRefE c own ends[k]=rOne ends[k] own (rFitsEnd c.file (rGet own ends[k])):=by rw[rRefE,hp,Bool.false_or]
     refine pwp_condN (fun h'=>?_) (fun h'=>?_)
     ·refine walk ?_
      refine end1 (.of_eq ?_)
      have e3:rRefEs c own=rOne ends[k] own (rFitsEnd c.file (rGet own ends[k])):=by rw[e,firstErr_at hlt he (by rw[e2];exact h'),e2]
      rw[rRefs,if_neg (by simp[hF]),if_neg (by simp[hP]),if_pos (by rw[e3];exact h'),e3]
     ·refine walk ?_
      exact⟨k+1,⟨by omega,upto_succ0 he hlt (e2.trans h')⟩,by dsimp only;omega,⟨rfl,rfl,rfl,rfl⟩,.refl _⟩
   ·refine walk ?_
    exact⟨by rw[e,firstErr_zero fun i h=>he i h (by omega)],⟨rfl,rfl⟩,.refl _⟩
  ·refine walk ?_
   exact⟨by rw[rRefEs,if_neg (by simp[h])],⟨rfl,rfl⟩,.refl _⟩
 refine walk ?_
 refine pwp_loopS (σ:=Nat) (fun k=>k≤c.over.length∧ ∀ i (h:i < c.over.length),i < k→rRefO c own c.over[i]=0) (fun k=>c.over.length - k) (fun k=> [(1,.slice (own.map eAtm) t),(2,.raw (.pointer (some ⟨b,0,none⟩))),(11,.raw (.int .i64 k))]) (fun _=> .box b 119 (eChg c)::LF) 0 ⟨by simp,by simp⟩ ⟨rfl,rfl,rfl⟩ (.refl _) ?_
 rintro k ⟨hk,he⟩
 refine walk ?_
 refine pwp_condD (fun hc=>?_) (fun hc=>?_)
 ·have hlt:k < c.over.length:=by omega
  refine walk ?_
  refine pwp_condN (fun h'=>?_) (fun h'=>?_)
  ·refine walk ?_
   refine end1 (.of_eq ?_)
   have e3:firstErr (rRefO c own) c.over=rRefO c own c.over[k]:=firstErr_at hlt he h'
   rw[rRefs,if_neg (by simp[hF]),if_neg (by simp[hP]),if_neg (by simp[hE]),if_pos (by rw[e3];exact h'),e3];rfl
  ·refine walk ?_
   exact⟨k+1,⟨by omega,upto_succ0 he hlt h'⟩,by dsimp only;omega,⟨rfl,rfl,rfl⟩,.refl _⟩
 have hO:firstErr (rRefO c own) c.over=0:=firstErr_zero fun i h=>he i h (by omega)
 refine walk ?_
 refine pops_cutE [(140,.raw (.bool (decide (c.kind=2∧c.parent=c.file)))),(2,.raw (.pointer (some ⟨b,0,none⟩)))] (.box b 119 (eChg c)::LF) ?_ ?_
 ·repeat' (first|(refine pwp_condD (fun h=>?_) (fun h=>?_)<;>refine walk ?_)|(refine pwp_condN (fun h=>?_) (fun h=>?_)<;>refine walk ?_)|(refine pwp_condB (fun h=>?_) (fun h=>?_)<;>refine walk ?_)|(refine pops_if (fun h=>?_) (fun h=>?_)<;>(have h2:=h;(try simp only[decide_eq_true_eq,decide_eq_false_iff_not,Bool.not_eq_true',Bool.not_eq_false']at h2);refine walkp ?_)))
  all_goals (refine⟨⟨holdsB (by rfl) ?_,rfl⟩,.refl _⟩;first|(simp_all;done)|(simp_all;omega)|grind)
 refine walk ?_
 refine pwp_condD (fun h1=>?_) (fun h1=>?_)
 ·refine walk ?_
  refine end1 (.of_eq ?_)
  rw[rRefs,if_neg (by simp[hF]),if_neg (by simp[hP]),if_neg (by simp[hE]),if_neg (by simp[hO]),if_pos h1]
 refine walk ?_
 refine pops_cutE [(162,.raw (.bool (decide ((rText c.kind=true∧c.after=c.before)∧(c.kind=6∨c.after≠c.file))))),(2,.raw (.pointer (some ⟨b,0,none⟩)))] (.box b 119 (eChg c)::LF) ?_ ?_
 ·repeat' (first|(refine pwp_condD (fun h=>?_) (fun h=>?_)<;>refine walk ?_)|(refine pwp_condN (fun h=>?_) (fun h=>?_)<;>refine walk ?_)|(refine pwp_condB (fun h=>?_) (fun h=>?_)<;>refine walk ?_)|(refine pops_if (fun h=>?_) (fun h=>?_)<;>(have h2:=h;(try simp only[decide_eq_true_eq,decide_eq_false_iff_not,Bool.not_eq_true',Bool.not_eq_false']at h2);refine walkp ?_)))
  all_goals (refine⟨⟨holdsB (by rfl) ?_,rfl⟩,.refl _⟩;first|(simp_all;done)|(simp_all;omega)|grind)
 refine walk ?_
 refine pwp_condD (fun h2=>?_) (fun h2=>?_)
 ·refine walk ?_
  refine end1 (.of_eq ?_)
  rw[rRefs,if_neg (by simp[hF]),if_neg (by simp[hP]),if_neg (by simp[hE]),if_neg (by simp[hO]),if_neg h1,if_pos h2]
 ·refine walk ?_
  refine end1 (.of_eq ?_)
  rw[rRefs,if_neg (by simp[hF]),if_neg (by simp[hP]),if_neg (by simp[hE]),if_neg (by simp[hO]),if_neg h1,if_neg h2]⟩
end Go.Proofs
