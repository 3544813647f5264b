/- Contracts: the reference's groups of twins; whether lists of groups are equal. -/
import Derived.Test.YtjmpmjmobbofgaaGreatDoorUar
import Derived.Test.YtjmpmjmobbofgaaGreatDoorUah
import Derived.Test.YtjmpmjmobbofgaaGreatDoorUaq
import Derived.Test.YtjmpmjmobbofgaaGreatDoorUap
import Derived.Test.YtjmpmjmobbofgaaGreatDoorUam
set_option linter.unusedSimpArgs false
set_option linter.unusedVariables false
namespace Go.Proofs
open Go Go.Q
attribute [local irreducible] pwp pops pAny PCalls OpN
theorem takes_eq {α:Type} {l m:List α} {k:Nat} (h:l.take k=m.take k) (hl:k < l.length) (hm:k < m.length) (e:l[k]=m[k]):l.take (k+1)=m.take (k+1):=by
 rw[List.take_succ_eq_append_getElem hl,List.take_succ_eq_append_getElem hm,h,e]
theorem takes_all {α:Type} {l m:List α} (h:l.take l.length=m.take l.length) (hl:l.length=m.length):l=m:=by
 rw[List.take_length,hl,List.take_length]at h;exact h
set_option maxHeartbeats 1000000 in
instance twins37_ct (a b:Pat):FnC Tryz.prog 75 [.agg (ePat a),.agg (ePat b)] (.raw (.bool (decide (a.changes=b.changes)))):=⟨by
 refine fn_of Tryz.func75 Tryz.ntmps75 rfl (rs:= [.tmp 4]) rfl rfl fun hb LF=>?_
 have hla:a.changes.length≤140737488355328:=((hb (.agg (ePat a)) (by simp)).agg_at (c:= .slice (a.changes.map eChg) .ro) (by simp[ePat])).slice_map
 refine wf ?_
 refine pwp_condN (fun h=>?_) (fun h=>?_)
 ·refine wf ?_
  refine end1 (.of_eq ?_)
  rw[decide_eq_false fun e=>h (by rw[e])]
 have hlen:a.changes.length=b.changes.length:=by
  have h':(a.changes.length:Int)=b.changes.length:=by simpa using h
  omega
 refine wf ?_
 refine pwp_loopS (σ:=Nat) (fun i=>i≤a.changes.length∧a.changes.take i=b.changes.take i) (fun i=>a.changes.length - i) (fun i=> [(2,.pt (ePat a) 0),(3,.pt (ePat b) 0),(5,.raw (.int .i64 i))]) (fun _=>LF) 0 ⟨by simp,by simp⟩ ⟨rfl,rfl,rfl⟩ (.refl _) ?_
 rintro i ⟨hi,he⟩
 refine wf ?_
 refine pwp_condD (fun hc=>?_) (fun hc=>?_)
 ·have hlt:i < a.changes.length:=by omega
  have hltb:i < b.changes.length:=by omega
  refine wf ?_
  refine pwp_condN (fun h2=>?_) (fun h2=>?_)
  ·refine wf ?_
   refine end1 (.of_eq ?_)
   rw[decide_eq_false fun e=>h2 (List.getElem_of_eq e hlt)]
  ·have h2':a.changes[i]=b.changes[i]:=by simpa using h2
   refine wf ?_
   exact⟨i+1,⟨by omega,takes_eq he hlt hltb h2'⟩,by dsimp only;omega,⟨rfl,rfl,rfl⟩,.refl _⟩
 ·have hii:i=a.changes.length:=by omega
  subst hii
  refine wf ?_
  refine end1 (.of_eq ?_)
  rw[decide_eq_true (takes_all he hlen)]⟩
set_option maxHeartbeats 2000000 in
instance sameGroups_ct (a b:List (List Dig)) (t u:Tag):FnC Tryz.prog 32 [.slice (a.map eG) t,.slice (b.map eG) u] (.raw (.bool (decide (a=b)))):=⟨by
 refine fn_of Tryz.func32 Tryz.ntmps32 rfl (rs:= [.tmp 4]) rfl rfl fun hb LF=>?_
 have hbs:=hb (.slice (a.map eG) t) (by simp)
 have hla:a.length≤140737488355328:=hbs.slice_map
 have hlb: ∀ l∈a,l.length≤140737488355328:=fun l hl=>(hbs.slice_at hl (c:= .slice (l.map eDig) .ro) (by simp[eG])).slice_map
 refine wf ?_
 refine pwp_condN (fun h=>?_) (fun h=>?_)
 ·refine wf ?_
  refine end1 (.of_eq ?_)
  rw[decide_eq_false fun e=>h (by rw[e])]
 have hlen:a.length=b.length:=by
  have h':(a.length:Int)=b.length:=by simpa using h
  omega
 refine wf ?_
 refine pwp_loopS (σ:=Nat) (fun i=>i≤a.length∧a.take i=b.take i) (fun i=>a.length - i) (fun i=> [(0,.slice (a.map eG) t),(1,.slice (b.map eG) u),(5,.raw (.int .i64 i))]) (fun _=>LF) 0 ⟨by simp,by simp⟩ ⟨rfl,rfl,rfl⟩ (.refl _) ?_
 rintro i ⟨hi,he⟩
 refine wf ?_
 refine pwp_condD (fun hc=>?_) (fun hc=>?_)
 ·have hlt:i < a.length:=by omega
  have hltb:i < b.length:=by omega
  have hla2:=hlb _ (List.getElem_mem hlt)
  refine wf ?_
  refine pwp_condN (fun h2=>?_) (fun h2=>?_)
  ·refine wf ?_
   refine end1 (.of_eq ?_)
   rw[decide_eq_false fun e=>h2 (by rw[List.getElem_of_eq e hlt])]
  have hlen2:a[i].length=b[i].length:=by
   have h':(a[i].length:Int)=b[i].length:=by simpa using h2
   omega
  refine wf ?_
  refine pwp_loopS (σ:=Nat) (fun k=>k≤a[i].length∧a[i].take k=b[i].take k) (fun k=>a[i].length - k) (fun k=> [(0,.slice (a.map eG) t),(1,.slice (b.map eG) u),(5,.raw (.int .i64 i)),(6,.raw (.int .i64 k))]) (fun _=>LF) 0 ⟨by simp,by simp⟩ ⟨rfl,rfl,rfl,rfl⟩ (.refl _) ?_
  rintro k ⟨hk,he2⟩
  refine wf ?_
  refine pwp_condD (fun hc2=>?_) (fun hc2=>?_)
  ·have hlt2:k < a[i].length:=by omega
   have hltb2:k < b[i].length:=by omega
   refine wf ?_
   refine pwp_condN (fun h3=>?_) (fun h3=>?_)
   ·refine wf ?_
    refine end1 (.of_eq ?_)
    rw[decide_eq_false fun e=>h3 (by
     have e1:=List.getElem_of_eq e hlt
     exact List.getElem_of_eq e1 hlt2)]
   ·have h3':a[i][k]=b[i][k]:=by simpa using h3
    refine wf ?_
    exact⟨k+1,⟨by omega,takes_eq he2 hlt2 hltb2 h3'⟩,by dsimp only;omega,⟨rfl,rfl,rfl,rfl⟩,.refl _⟩
  ·have hkk:k=a[i].length:=by omega
   subst hkk
   have e0:=takes_all he2 hlen2
   refine wf ?_
   exact⟨i+1,⟨by omega,takes_eq he hlt hltb e0⟩,by dsimp only;omega,⟨rfl,rfl,rfl⟩,.refl _⟩
 ·have hii:i=a.length:=by omega
  subst hii
  refine wf ?_
  refine end1 (.of_eq ?_)
  rw[decide_eq_true (takes_all he hlen)]⟩
def chK (x:Sto):List Chg:=x.patch.changes
def grpI (s:List Sto) (i:Nat):List (List Dig):=((ordK chK s i).map (grK chK s s.length)).filter fun l=>decide (1 < l.length)
def fstK (s:List Sto) (i k:Nat):Bool:=(List.range k).all fun j=>decide (i≤j)||decide (chK (s.getD j Sto.zero)≠chK (s.getD i Sto.zero))
theorem fstK_succ {s:List Sto} {i k:Nat} (hi:i < s.length) (hk:k < s.length):fstK s i (k+1)=(fstK s i k&&(decide (i≤k)||decide (chK s[k]≠chK s[i]))):=by
 unfold fstK
 rw[List.range_succ,List.all_append]
 simp only[List.all_cons,List.all_nil,Bool.and_true]
 rw[show s.getD k Sto.zero=s[k] by simp[List.getD,hk],show s.getD i Sto.zero=s[i] by simp[List.getD,hi]]
theorem fstK_all {s:List Sto} {i:Nat} (hi:i < s.length):fstK s i s.length=frK chK s i:=by
 rw[Bool.eq_iff_iff,fstK,frK,List.all_eq_true,List.all_eq_true]
 constructor
 ·intro h j hj
  have hj:=List.mem_range.1 hj
  have:=h j (List.mem_range.2 (by omega))
  simp only[Bool.or_eq_true,decide_eq_true_eq]at this ⊢
  rcases this with h'|h'
  ·omega
  ·exact h'
 ·intro h j hj
  have hj:=List.mem_range.1 hj
  simp only[Bool.or_eq_true,decide_eq_true_eq]
  rcases Nat.lt_or_ge j i with h'|h'
  ·exact .inr (by simpa using h j (List.mem_range.2 h'))
  ·exact .inl h'
theorem grpI_succ {s:List Sto} {i:Nat} (hi:i < s.length):grpI s (i+1)=grpI s i++if frK chK s i=true∧1 < (grK chK s s.length (chK s[i])).length then [grK chK s s.length (chK s[i])]else []:=by
 unfold grpI
 rw[ordK_succ,show s.getD i Sto.zero=s[i] by simp[List.getD,hi],List.map_append,List.filter_append]
 congr 1
 by_cases h:frK chK s i=true
 ·rw[if_pos h]
  simp only[List.map_cons,List.map_nil,h,true_and]
  by_cases h1:1 < (grK chK s s.length (chK s[i])).length<;>simp[h1]
 ·rw[if_neg h,if_neg fun h'=>h h'.1];rfl
theorem grpI_len (s:List Sto) (i:Nat):(grpI s i).length≤i:=by
 unfold grpI
 refine Nat.le_trans (List.length_filter_le _ _) ?_
 rw[List.length_map]
 unfold ordK
 rw[List.length_map]
 refine Nat.le_trans (List.length_filter_le _ _) ?_
 rw[List.length_range];exact Nat.le_refl _
theorem grK_len2 (s:List Sto) (k:Nat) (key:List Chg):(grK chK s k key).length≤k:=by
 unfold grK
 rw[ids_len]
 refine Nat.le_trans (List.length_filter_le _ _) ?_
 rw[List.length_take];omega
set_option maxHeartbeats 4000000 in
theorem twins37R_fn (s:List Sto) (t:Tag) (hl:s.length≤1000):FnC Tryz.prog 34 [.slice (s.map eSto) t] (.slice ((rTwins s).map eG) .ro):=⟨by
 refine fn_of Tryz.func34 Tryz.ntmps34 rfl (rs:= [.tmp 2]) rfl rfl fun hb LF=>?_
 refine wf ?_
 refine pwp_tok 1 ?_
 refine pwp_loopS (σ:=Nat × Tag) (fun k=>k.1≤s.length) (fun k=>s.length - k.1) (fun k=> [(0,.slice (s.map eSto) t),(3,.slice ((grpI s k.1).map eG) k.2),(4,.raw (.int .i64 k.1))]) (fun k=> .tok k.2 (grpI s k.1).length 1::LF) (0,.nil) (by simp) ⟨rfl,rfl,rfl⟩ (.refl _) ?_
 rintro⟨i,wt⟩ hi
 dsimp only at hi ⊢
 refine wf ?_
 refine pwp_condD (fun hc=>?_) (fun hc=>?_)
 ·have hlt:i < s.length:=by omega
  have hgs:=grpI_succ hlt
  have hgl:=grpI_len s i
  have hfa:=fstK_all hlt
  generalize grpI s i=G at*
  refine wf ?_
  refine pwp_tok 32 ?_
  refine pwp_loopS (σ:=Nat × Tag) (fun k=>k.1≤s.length) (fun k=>s.length - k.1) (fun k=> [(0,.slice (s.map eSto) t),(3,.slice (G.map eG) wt),(4,.raw (.int .i64 i)),(5,.slice ((grK chK s k.1 (chK s[i])).map eDig) k.2),(6,.raw (.bool (fstK s i k.1))),(7,.raw (.int .i64 k.1))]) (fun k=> .tok k.2 (grK chK s k.1 (chK s[i])).length 32:: .tok wt G.length 1::LF) (0,.nil) (by simp) ⟨rfl,rfl,rfl,rfl,rfl,rfl⟩ (.refl _) ?_
  rintro⟨k,gt⟩ hk
  dsimp only at hk ⊢
  refine wf ?_
  refine pwp_condD (fun hc2=>?_) (fun hc2=>?_)
  ·have hltk:k < s.length:=by omega
   have hgk:=grK_succ chK hltk (chK s[i])
   have hgkl:=grK_len2 s k (chK s[i])
   have hfs:=fstK_succ hlt hltk
   generalize grK chK s k (chK s[i])=g at*
   generalize fstK s i k=f at*
   refine wf ?_
   refine pwp_condD (fun h=>?_) (fun h=>?_)
   ·have h':chK s[k]=chK s[i]:=h.symm
    rw[if_pos h']at hgk
    rw[show decide (chK s[k]≠chK s[i])=false by simp[h'],Bool.or_false]at hfs
    refine wfa fun gt'=>?_
    refine pops_cutE [(6,.raw (.bool (f&&decide (i≤k)))),(0,.slice (s.map eSto) t),(3,.slice (G.map eG) wt),(4,.raw (.int .i64 i)),(5,.slice ((g++ [s[k].id]).map eDig) gt'),(7,.raw (.int .i64 k))] (.tok gt' (g++ [s[k].id]).length 32:: .tok wt G.length 1::LF) ?_ ?_
    ·repeat' (first|(refine pwp_condD (fun h=>?_) (fun h=>?_)<;>refine wf ?_)|(refine pwp_condN (fun h=>?_) (fun h=>?_)<;>refine wf ?_)|(refine pwp_condB (fun h=>?_) (fun h=>?_)<;>refine wf ?_)|(refine pops_if (fun h=>?_) (fun h=>?_)<;>(have h2:=h;(try simp only[decide_eq_true_eq,decide_eq_false_iff_not,Bool.not_eq_true',Bool.not_eq_false']at h2);refine wf ?_)))
     all_goals (refine⟨⟨holdsB (by rfl) ?_,rfl,rfl,rfl,rfl,rfl⟩,.refl _⟩;first|(simp_all;done)|(simp_all;omega)|grind)
    refine wf ?_
    rw[←hgk,←hfs]
    exact⟨(k+1,gt'),by dsimp only;omega,by dsimp only;omega,⟨rfl,rfl,rfl,rfl,rfl,rfl⟩,.refl _⟩
   ·have h': ¬chK s[k]=chK s[i]:=fun e=>h e.symm
    rw[if_neg h',List.append_nil]at hgk
    rw[show decide (chK s[k]≠chK s[i])=true by simp[h'],Bool.or_true,Bool.and_true]at hfs
    refine wf ?_
    rw[←hgk,←hfs]
    exact⟨(k+1,gt),by dsimp only;omega,by dsimp only;omega,⟨rfl,rfl,rfl,rfl,rfl,rfl⟩,.refl _⟩
  ·have hkk:k=s.length:=by omega
   subst hkk
   rw[hfa]
   have hgl2:=grK_len2 s s.length (chK s[i])
   generalize grK chK s s.length (chK s[i])=g at*
   generalize frK chK s i=f at*
   refine wf ?_
   refine pops_cutE [(52,.raw (.bool (f&&decide (1 < g.length)))),(0,.slice (s.map eSto) t),(3,.slice (G.map eG) wt),(4,.raw (.int .i64 i)),(5,.slice (g.map eDig) gt)] (.tok gt g.length 32:: .tok wt G.length 1::LF) ?_ ?_
   ·repeat' (first|(refine pwp_condD (fun h=>?_) (fun h=>?_)<;>refine wf ?_)|(refine pwp_condN (fun h=>?_) (fun h=>?_)<;>refine wf ?_)|(refine pwp_condB (fun h=>?_) (fun h=>?_)<;>refine wf ?_)|(refine pops_if (fun h=>?_) (fun h=>?_)<;>(have h2:=h;(try simp only[decide_eq_true_eq,decide_eq_false_iff_not,Bool.not_eq_true',Bool.not_eq_false']at h2);refine wf ?_)))
    all_goals (refine⟨⟨holdsB (by rfl) ?_,rfl,rfl,rfl,rfl⟩,.refl _⟩;first|(simp_all;done)|(simp_all;omega)|grind)
   refine wf ?_
   refine pwp_condB (fun h=>?_) (fun h=>?_)
   ·have h':f=true∧1 < g.length:=by simpa using h
    rw[if_pos h']at hgs
    refine wfa fun wt'=>?_
    rw[←hgs]
    exact⟨(i+1,wt'),by dsimp only;omega,by dsimp only;omega,⟨rfl,rfl,rfl⟩,.cons _ (.refl _)⟩
   ·have h': ¬(f=true∧1 < g.length):=by
     intro h2;rw[h2.1,decide_eq_true h2.2]at h;exact absurd h (by simp)
    rw[if_neg h',List.append_nil]at hgs
    refine wf ?_
    rw[←hgs]
    exact⟨(i+1,wt),by dsimp only;omega,by dsimp only;omega,⟨rfl,rfl,rfl⟩,.cons _ (.refl _)⟩
 ·have hii:i=s.length:=by omega
  subst hii
  have e:grpI s s.length=rTwins s:=rfl
  rw[e]
  refine wf ?_
  exact end1 (.ro _ _)⟩
end Go.Proofs
namespace Go.Proofs
open Go Go.Q
def pw1:Dig:=⟨[244,227,209,166,127,50,142,190,141,147,186,198,250,254,176,130,81,121,182,253,58,114,101,230,50,166,161,234,221,1,19,75],rfl⟩
def pwB:Pat:=⟨[97,110,110],[],0,[aw0],[awF]⟩
def pw2S:List Sto:= [⟨aw0,awA⟩,⟨pw1,pwB⟩]
def pw3S:List Sto:= [⟨aw2,awC⟩,⟨aw0,awA⟩,⟨pw1,pwB⟩]
def pwT:List Sto:= [⟨aw2,awC⟩]
theorem pwAdd1:rAdd aw1S pwB=(pw2S,pw1,0):=by decide+kernel
theorem pwAdd2:rAdd pw2S awC=(pw3S,aw2,0):=by decide+kernel
theorem pwGreat:rGreat pwB=false:=by decide+kernel
theorem pwFine2:rFine pw2S=true:=by decide+kernel
theorem pwFine3:rFine pw3S=true:=by decide+kernel
theorem pwFineT:rFine pwT=true:=by decide+kernel
theorem pwKeep:keepS pw3S [aw2]=pwT:=by decide+kernel
theorem pwTake1:rTake pw3S pwT [pw1]=(pw3S,[aw0,pw1],0):=by decide+kernel
theorem pwTake2:rTake pw3S pw3S [pw1]=(pw3S,[],0):=by decide+kernel
theorem pwTwins:rTwins pw3S= [[aw2,aw0,pw1]]:=by decide+kernel
end Go.Proofs
namespace Go.Proofs
open Go Go.Q
attribute [local irreducible] pwp pops pAny PCalls OpN
instance (s:List Sto) (t:Tag):EncC (.slice (s.map eSto) t) eSS (s,.ro):=⟨.ro _ _⟩
set_option maxHeartbeats 4000000 in
instance awake37_ct:FnC Tryz.prog 35 [] (.raw (.bool true)):=⟨by
 have v0:Valid []:=valid_of awFine0
 have v1:Valid aw1S:=valid_of awFine1
 have v2:Valid pw2S:=valid_of pwFine2
 have v3:Valid pw3S:=valid_of pwFine3
 have vT:Valid pwT:=valid_of pwFineT
 have i0:Small (Valid []):=⟨v0⟩
 have i1:Small (Valid aw1S):=⟨v1⟩
 have i2:Small (Valid pw2S):=⟨v2⟩
 have g0:Small (rBig awA=false):=⟨big_of awGreat.1⟩
 have g1:Small (rBig pwB=false):=⟨big_of pwGreat⟩
 have g2:Small (rBig awC=false):=⟨big_of awGreat.2.2⟩
 have a0:=AddP_ct [] awA .nil
 have a1:=fun t=>AddP_ct aw1S pwB t
 have a2:=fun t=>AddP_ct pw2S awC t
 rw[awAdd0]at a0
 rw[pwAdd1]at a1
 rw[pwAdd2]at a2
 dsimp only at a0 a1 a2
 have kl:Small (pw3S.length≤1000000):=⟨by decide⟩
 have kk:=fun t u=>KeepP_ct pw3S [aw2] t u
 rw[pwKeep]at kk
 have p1:=fun t u y=>pickP_fn pw3S pwT t u [pw1] y v3 vT (by decide) (by decide)
 rw[pwTake1]at p1
 have p2:=fun t u y=>pickP_fn pw3S pw3S t u [pw1] y v3 v3 (by decide) (by decide)
 rw[pwTake2]at p2
 dsimp only at p1 p2
 have tw:=fun t=>twinsP_fn pw3S t v3 (by decide)
 rw[pwTwins]at tw
 have eq:=fun t u=>EqualD_ct [aw0,pw1] [aw0,pw1] t u
 rw[decide_eq_true (rfl: [aw0,pw1]= [aw0,pw1])]at eq
 refine fn_of Tryz.func35 Tryz.ntmps35 rfl (rs:= [.tmp 0]) rfl rfl fun hb LF=>?_
 repeat(refine pwp_seq ?_)
 refine pwp_region (by kernel_rfl) ?_
 refine wo ?_
 refine pops_nil ?_
 repeat(refine pwp_seq ?_)
 refine pwp_region (by kernel_rfl) ?_
 refine wo ?_
 refine pops_nil ?_
 refine pwp_env [(1,.slice ([awF].map eChg) .ro)] rfl (.refl _) ?_
 refine wf ?_
 refine s_callR (xs:= [.const (Value.slice none 0 0),.tmp 20]) [] LF (f:=42) (cs:= []) (le_func _) rfl rfl (.refl _) _ (PCalls.args (bs:= [.slice (([]:List Sto).map eSto) .nil,.agg (ePat awA)]) rfl (fun i g1 g2=>by
   match i,g1,g2 with
   |0,_,_=>exact le_nilS _ rfl
   |1,_,_=>exact .of_eq rfl
   |m+2,g1,_=>exact absurd g1 (by simp)) a0.out) fun r L' ⟨e1,e2⟩=>?_
 subst e1;rw[e2,List.nil_append]
 refine wf ?_
 refine s_alloc fun b3=>?_
 refine wo ?_
 refine pops_nil ?_
 refine pwp_freezeD 3 ?_
 refine pwp_env [(1,.slice ([awF].map eChg) .ro),(2,.slice (aw1S.map eSto) .ro),(3,.pt (eDig aw0) 0),(4,.raw (.int .i64 0))] ⟨rfl,rfl,rfl,rfl⟩ (.refl _) ?_
 refine wf ?_
 refine s_callR (xs:= [.tmp 26,.tmp 30]) [] LF (f:=42) (cs:= []) (le_func _) rfl rfl (.refl _) _ (PCalls.args (bs:= [.slice ((aw1S:List Sto).map eSto) .ro,.agg (ePat pwB)]) rfl (fun i g1 g2=>by
   match i,g1,g2 with
   |0,_,_=>exact .of_eq rfl
   |1,_,_=>exact .of_eq rfl
   |m+2,g1,_=>exact absurd g1 (by simp)) (a1 .ro).out) fun r L' ⟨e1,e2⟩=>?_
 subst e1;rw[e2,List.nil_append]
 refine wf ?_
 refine s_alloc fun b5=>?_
 refine wo ?_
 refine pops_nil ?_
 refine pwp_freezeD 5 ?_
 refine pwp_env [(1,.slice ([awF].map eChg) .ro),(2,.slice (pw2S.map eSto) .ro),(3,.pt (eDig aw0) 0),(4,.raw (.int .i64 0)),(5,.pt (eDig pw1) 0),(6,.raw (.int .i64 0))] ⟨rfl,rfl,rfl,rfl,rfl,rfl⟩ (.refl _) ?_
 refine wf ?_
 refine s_callR (xs:= [.tmp 36,.tmp 38]) [] LF (f:=42) (cs:= []) (le_func _) rfl rfl (.refl _) _ (PCalls.args (bs:= [.slice ((pw2S:List Sto).map eSto) .ro,.agg (ePat awC)]) rfl (fun i g1 g2=>by
   match i,g1,g2 with
   |0,_,_=>exact .of_eq rfl
   |1,_,_=>exact .of_eq rfl
   |m+2,g1,_=>exact absurd g1 (by simp)) (a2 .ro).out) fun r L' ⟨e1,e2⟩=>?_
 subst e1;rw[e2,List.nil_append]
 refine wf ?_
 refine s_alloc fun b7=>?_
 refine wo ?_
 refine pops_nil ?_
 refine pwp_freezeD 7 ?_
 refine pwp_env [(2,.slice (pw3S.map eSto) .ro),(3,.pt (eDig aw0) 0),(4,.raw (.int .i64 0)),(5,.pt (eDig pw1) 0),(6,.raw (.int .i64 0)),(7,.pt (eDig aw2) 0),(8,.raw (.int .i64 0))] ⟨rfl,rfl,rfl,rfl,rfl,rfl,rfl⟩ (.refl _) ?_
 refine wf ?_
 refine end1 (.of_eq ?_)
 rfl⟩
end Go.Proofs
namespace Go.Proofs
open Go Go.Q
attribute [local irreducible] pwp pops pAny PCalls OpN
end Go.Proofs
