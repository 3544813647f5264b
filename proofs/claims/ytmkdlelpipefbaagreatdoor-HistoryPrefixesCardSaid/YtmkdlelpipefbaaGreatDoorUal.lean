/- Plain laws: the questions of a search; how many there can be. No program in sight. -/
import Derived.Test.YtmkdlelpipefbaaGreatDoorUak
import Derived.Test.YtmkdlelpipefbaaGreatDoorUae
import Derived.Test.YtmkdlelpipefbaaGreatDoorUag
import Derived.Shelf.SlSortCmp.NoneTotal
set_option linter.unusedSimpArgs false
set_option linter.unusedVariables false
namespace Go.Q
open Go
section
variable (clo:Dig→List Dig)
end
end Go.Q
namespace Go.Proofs
open Go Go.Q
attribute [local irreducible] pwp pops PCalls OpN
def rIds (c:Chg):List Ident:= [c.file,c.parent,c.after,c.before]++c.over
def rForeign (l:List Ident):List Dig:=(l.filter fun x=>!decide (x.patch=Dig.zero)).map (·.patch)
def rNeedsC (m:List Dig) (c:Chg):List Dig:=withAll m (rForeign (rIds c))
def rNeeds (p:Pat):List Dig:=if(rEncodeP p).2≠0 then []else p.changes.foldl rNeedsC (withAll [] p.deps)
theorem withAll_snoc (l m:List Dig) (d:Dig):withAll l (m++ [d])=withD (withAll l m) d:=by
 unfold withAll;rw[List.foldl_append];rfl
theorem rForeign_len (l:List Ident):(rForeign l).length≤l.length:=by
 unfold rForeign;rw[List.length_map];exact List.length_filter_le _ _
theorem rForeign_take {l:List Ident} {k:Nat} (h:k < l.length):rForeign (l.take (k+1))=rForeign (l.take k)++(if l[k].patch=Dig.zero then []else [l[k].patch]):=by
 unfold rForeign
 rw[List.take_succ_eq_append_getElem h,List.filter_append,List.map_append]
 by_cases hz:l[k].patch=Dig.zero<;>simp[hz]
set_option maxHeartbeats 2000000 in
instance Needs_ct (p:Pat) [hs:Small (rBig p=false)]:FnC Tryz.prog 38 [.agg (ePat p)] (.slice ((rNeeds p).map eDig) .ro):=⟨by
 obtain⟨_,_,hd,hch,hcs⟩:=big_facts hs.out
 refine fn_of Tryz.func38 Tryz.ntmps38 rfl (rs:= [.tmp 2]) rfl rfl fun hb LF=>?_
 refine walkb fun b=>?_
 refine pwp_condN (fun h=>?_) (fun h=>?_)
 ·refine walk ?_
  refine end1 ?_
  rw[rNeeds,if_pos h]
  exact .ro _ _
 rw[rNeeds,if_neg (by simp[h])]
 refine walk ?_
 refine pwp_loopS (σ:=Nat × List Dig × Tag) (fun k=>k.1≤p.deps.length∧k.2.1=withAll [] (p.deps.take k.1)) (fun k=>p.deps.length - k.1) (fun k=> [(1,.raw (.pointer (some ⟨b,0,none⟩))),(3,.slice (k.2.1.map eDig) k.2.2),(4,.raw (.int .i64 k.1))]) (fun _=> .box b 44 (ePat p)::LF) (0,[],.nil) ⟨by simp,by simp[withAll]⟩ ⟨rfl,rfl,rfl⟩ (.refl _) ?_
 rintro⟨k,out,t⟩ ⟨hk,ho⟩
 dsimp only at hk ho ⊢
 have hol:out.length≤200:=by
  rw[ho]
  have:=withAll_len (m:=p.deps.take k) (l:= [])
  simp only[List.length_take,List.length_nil]at this;omega
 refine walk ?_
 refine pwp_condD (fun hc=>?_) (fun hc=>?_)
 ·have hlt:k < p.deps.length:=by omega
  have:Small (out.length≤1000000):=⟨by omega⟩
  refine walk ?_
  refine⟨(k+1,withD out p.deps[k],.ro),⟨by dsimp only;omega,by dsimp only;rw[List.take_succ_eq_append_getElem hlt,withAll_snoc,ho]⟩,by dsimp only;omega,⟨rfl,rfl,rfl⟩,.refl _⟩
 rw[List.take_of_length_le (by omega)]at ho
 refine walk ?_
 refine pwp_loopS (σ:=Nat × List Dig × Tag) (fun k=>k.1≤p.changes.length∧k.2.1.length≤200+k.1*44∧k.2.1=(p.changes.take k.1).foldl rNeedsC (withAll [] p.deps)) (fun k=>p.changes.length - k.1) (fun k=> [(1,.raw (.pointer (some ⟨b,0,none⟩))),(3,.slice (k.2.1.map eDig) k.2.2),(5,.raw (.int .i64 k.1))]) (fun _=> .box b 44 (ePat p)::LF) (0,out,t) ⟨by simp,by simp;omega,by simp[ho]⟩ ⟨rfl,rfl,rfl⟩ (.refl _) ?_
 clear ho hol hk hc k out t
 rintro⟨k,out,t⟩ ⟨hk,hol,ho⟩
 dsimp only at hk hol ho ⊢
 refine walk ?_
 refine pwp_condD (fun hc=>?_) (fun hc=>?_)
 ·have hlt:k < p.changes.length:=by omega
  have hov:=(hcs _ (List.getElem_mem hlt)).over
  refine walkbt4 fun b2 t2=>?_
  refine walkap fun t3=>?_
  generalize hl: [p.changes[k].file,p.changes[k].parent,p.changes[k].after,p.changes[k].before]++p.changes[k].over=l
  have hll:l.length≤44:=by rw[←hl];simp only[List.length_append,List.length_cons,List.length_nil];omega
  refine pwp_loopS (σ:=Nat × List Dig × Tag) (fun j=>j.1≤l.length∧j.2.1=withAll out (rForeign (l.take j.1))) (fun j=>l.length - j.1) (fun j=> [(1,.raw (.pointer (some ⟨b,0,none⟩))),(3,.slice (j.2.1.map eDig) j.2.2),(5,.raw (.int .i64 k)),(7,.slice (l.map eIdent) t3),(8,.raw (.int .i64 j.1))]) (fun _=> .box b 44 (ePat p)::LF) (0,out,t) ⟨by simp,by simp[rForeign,withAll]⟩ ⟨rfl,rfl,rfl,rfl,rfl⟩ (.cons _ (.cons _ (.refl _))) ?_
  rintro⟨j,m,u⟩ ⟨hj,hm⟩
  dsimp only at hj hm ⊢
  have hml:m.length≤200+k*44+44:=by
   rw[hm]
   have h1:=withAll_len (m:=rForeign (l.take j)) (l:=out)
   have h2:=rForeign_len (l.take j)
   have h3:(l.take j).length≤44:=by rw[List.length_take];omega
   omega
  refine walk ?_
  refine pwp_condD (fun hc2=>?_) (fun hc2=>?_)
  ·have hlt2:j < l.length:=by omega
   have e:=rForeign_take hlt2
   refine walk ?_
   refine pwp_condN (fun hz=>?_) (fun hz=>?_)
   ·have:Small (m.length≤1000000):=⟨by omega⟩
    refine walk ?_
    rw[if_neg hz]at e
    refine⟨(j+1,withD m l[j].patch,.ro),⟨by dsimp only;omega,by dsimp only;rw[e,withAll_snoc,hm]⟩,by dsimp only;omega,⟨rfl,rfl,rfl,rfl,rfl⟩,.refl _⟩
   ·refine walk ?_
    rw[if_pos hz,List.append_nil]at e
    refine⟨(j+1,m,u),⟨by dsimp only;omega,by dsimp only;rw[e,hm]⟩,by dsimp only;omega,⟨rfl,rfl,rfl,rfl,rfl⟩,.refl _⟩
  ·refine walk ?_
   rw[List.take_of_length_le (by omega)]at hm
   have e:(p.changes.take (k+1)).foldl rNeedsC (withAll [] p.deps)=m:=by
    rw[List.take_succ_eq_append_getElem hlt,List.foldl_append,←ho,hm,←hl];rfl
   refine⟨(k+1,m,u),⟨by dsimp only;omega,by dsimp only;omega,e.symm⟩,by dsimp only;omega,⟨rfl,rfl,rfl⟩,.refl _⟩
 ·refine walk ?_
  refine end1 ?_
  rw[List.take_of_length_le (by omega)]at ho
  rw[←ho]
  exact .ro _ _⟩
end Go.Proofs
namespace Go.Proofs
open Go Go.Q
attribute [local irreducible] pwp pops PCalls OpN
def rHv (x:Sto):Nat:=(x.patch.changes.map rHvC).sum
def rGreatS (s:List Sto):Bool:=(s.take 9).any (fun x=>rGreat x.patch)||decide (8 < (s.length:Int))||decide (300 < (((s.take 9).map rHv).sum:Int))
theorem rHvC_le {c:Chg} (h:chgOk c):rHvC c≤81:=by have:=h.lines;have:=h.over;unfold rHvC;omega
set_option maxHeartbeats 1000000 in
instance Heavy_ct (s:List Sto) (t:Tag):FnC Tryz.prog 63 [.slice (s.map eSto) t,.raw (.int .i64 8)] (.raw (.bool (rGreatS s))):=⟨by
 refine fn_of Tryz.func63 Tryz.ntmps63 rfl (rs:= [.tmp 4]) rfl rfl fun hb LF=>?_
 have hlen:s.length≤140737488355328:=(hb (.slice (s.map eSto) t) (by simp)).slice_map
 refine walk ?_
 refine pwp_loopS (σ:=Nat × Nat) (fun k=>k.1≤s.length∧k.1≤9∧(∀ i (h:i < s.length),i < k.1→rGreat s[i].patch=false)∧k.2≤k.1*1620∧k.2=((s.take k.1).map rHv).sum) (fun k=>s.length - k.1) (fun k=> [(0,.slice (s.map eSto) t),(1,.raw (.int .i64 8)),(5,.raw (.int .i64 (k.2:Int))),(6,.raw (.int .i64 (k.1:Int)))]) (fun _=>LF) (0,0) ⟨by simp,by simp,by simp,by simp,by simp⟩ ⟨rfl,rfl,rfl,rfl⟩ (.refl _) ?_
 rintro⟨i,n⟩ ⟨hi,hi9,hg,hn,hs⟩
 dsimp only at hi hi9 hg hn hs ⊢
 have fin:(i:Int) < s.length∧(i:Int)≤8∨ ¬((i:Int) < s.length∧(i:Int)≤8):=Classical.em _
 refine walk ?_
 refine pops_cutE [(16,.raw (.bool (decide ((i:Int) < s.length∧(i:Int)≤8)))),(0,.slice (s.map eSto) t),(1,.raw (.int .i64 8)),(5,.raw (.int .i64 (n:Int))),(6,.raw (.int .i64 (i:Int)))] (LF) ?_ ?_
 ·repeat' (first|(refine pwp_condD (fun h=>?_) (fun h=>?_)<;>refine walk ?_)|(refine pwp_condN (fun h=>?_) (fun h=>?_)<;>refine walk ?_)|(refine pwp_condB (fun h=>?_) (fun h=>?_)<;>refine walk ?_)|(refine pops_if (fun h=>?_) (fun h=>?_)<;>(have h2:=h;(try simp only[decide_eq_true_eq,decide_eq_false_iff_not,Bool.not_eq_true',Bool.not_eq_false']at h2);refine walkp ?_)))
  all_goals (refine⟨⟨holdsB (by rfl) ?_,rfl,rfl,rfl,rfl⟩,.refl _⟩;first|(simp_all;done)|(simp_all;omega)|grind)
 refine walk ?_
 clear fin
 refine pwp_condD (fun hc=>?_) (fun hc=>?_)
 ·have hlt:i < s.length:=by omega
  refine walk ?_
  refine pwp_condB (fun h=>?_) (fun h=>?_)
  ·refine walk ?_
   refine end1 (.of_eq ?_)
   have:(s.take 9).any (fun x=>rGreat x.patch)=true:=by
    rw[List.any_eq_true]
    exact⟨s[i],List.mem_iff_getElem.2 ⟨i,by rw[List.length_take];omega,by simp⟩,h⟩
   rw[rGreatS,this];rfl
  obtain⟨_,_,_,hch,hcs⟩:=great_facts h
  refine walk ?_
  refine pwp_loopS (σ:=Nat × Nat) (fun j=>j.1≤s[i].patch.changes.length∧j.2≤n+j.1*81∧j.2=n+((s[i].patch.changes.take j.1).map rHvC).sum) (fun j=>s[i].patch.changes.length - j.1) (fun j=> [(0,.slice (s.map eSto) t),(1,.raw (.int .i64 8)),(5,.raw (.int .i64 (j.2:Int))),(6,.raw (.int .i64 (i:Int))),(7,.raw (.int .i64 (j.1:Int)))]) (fun _=>LF) (0,n) ⟨by simp,by simp,by simp⟩ ⟨rfl,rfl,rfl,rfl,rfl⟩ (.refl _) ?_
  rintro⟨j,m⟩ ⟨hj,hm,hms⟩
  dsimp only at hj hm hms ⊢
  refine walk ?_
  refine pwp_condD (fun hc2=>?_) (fun hc2=>?_)
  ·have hlt2:j < s[i].patch.changes.length:=by omega
   have hco:=hcs _ (List.getElem_mem hlt2)
   have h81:=rHvC_le hco
   have hl40:=hco.lines
   have ho40:=hco.over
   have e:=sum_map_take (f:=rHvC) hlt2
   have e2:rHvC s[i].patch.changes[j]=1+s[i].patch.changes[j].lines.length+s[i].patch.changes[j].over.length:=rfl
   refine walk ?_
   refine⟨(j+1,m+rHvC s[i].patch.changes[j]),⟨by dsimp only;omega,by dsimp only;omega,by dsimp only;omega⟩,by dsimp only;omega,⟨rfl,rfl,?_,rfl,rfl⟩,.refl _⟩
   show PV.raw (Value.int .i64 _)=PV.raw (Value.int .i64 _)
   congr 2;dsimp only;omega
  ·refine walk ?_
   rw[List.take_of_length_le (by omega)]at hms
   have e:=sum_map_take (f:=rHv) hlt
   refine⟨(i+1,m),⟨by dsimp only;omega,by dsimp only;omega,fun x hx hxi=>?_,by dsimp only;omega,?_⟩,by dsimp only;omega,⟨rfl,rfl,rfl,rfl⟩,.refl _⟩
   ·rcases Nat.lt_or_ge x i with h'|h'
    ·exact hg x hx h'
    ·have:x=i:=by dsimp only at hxi;omega
     subst this;exact h
   ·dsimp only;rw[e,←hs];exact hms
 ·refine walk ?_
  have hany:(s.take 9).any (fun x=>rGreat x.patch)=false:=by
   rw[List.any_eq_false];intro x hx
   obtain⟨j,hj,rfl⟩:=List.mem_iff_getElem.1 hx
   rw[List.length_take]at hj
   simp only[List.getElem_take]
   rw[hg j (by omega) (by omega)];simp
  have htk:s.take i=s.take 9:=by
   by_cases h9:i=9
   ·rw[h9]
   ·rw[List.take_of_length_le (by omega),List.take_of_length_le (by omega)]
  rw[htk]at hs
  have key:rGreatS s=(decide (8 < (s.length:Int))||decide (300 < (n:Int))):=by rw[rGreatS,hany,Bool.false_or,←hs]
  rw[key]
  clear key hany hs htk hg
  repeat' (first|(refine pwp_condD (fun h=>?_) (fun h=>?_)<;>refine walk ?_)|(refine pwp_condN (fun h=>?_) (fun h=>?_)<;>refine walk ?_)|(refine pwp_condB (fun h=>?_) (fun h=>?_)<;>refine walk ?_)|(refine pops_if (fun h=>?_) (fun h=>?_)<;>(have h2:=h;(try simp only[decide_eq_true_eq,decide_eq_false_iff_not,Bool.not_eq_true',Bool.not_eq_false']at h2);refine walkp ?_)))
  all_goals (refine end1 (.of_eq ?_);first|(simp_all;done)|grind)⟩
instance GreatS_ct (s:List Sto) (t:Tag):FnC Tryz.prog 31 [.slice (s.map eSto) t] (.raw (.bool (rGreatS s))):=⟨by
 refine fn_of Tryz.func31 Tryz.ntmps31 rfl (rs:= [.tmp 2]) rfl rfl fun hb LF=>?_
 refine walk ?_
 exact end1 (.refl _)⟩
def goodS (s:List Sto):Prop:=s.length≤40∧ ∀ x∈s,rBig x.patch=false
def rBetter (s:List Sto) (out:List Dig) (k:Int) (i:Nat):Int:=
 if(¬(s.getD i Sto.zero).id∈out∧allIn out (rNeeds (s.getD i Sto.zero).patch)=true)∧(k < 0∨cmpD (s.getD i Sto.zero).id (s.getD k.toNat Sto.zero).id < 0)then(i:Int)else k
def rPick (s:List Sto) (out:List Dig):Int:=(List.range s.length).foldl (rBetter s out) (-1)
def rOrd (s:List Sto):Nat→List Dig→List Dig
 |0,out=>out
 |n+1,out=>if rPick s out < 0 then out else rOrd s n (out++ [(s.getD (rPick s out).toNat Sto.zero).id])
def rOrder (s:List Sto):List Dig:=rOrd s s.length []
theorem rBetter_range {s:List Sto} {out:List Dig} (n:Nat): -1≤(List.range n).foldl (rBetter s out) (-1)∧(List.range n).foldl (rBetter s out) (-1) < n:=by
 induction n with
 |zero=>simp
 |succ n ih=>
  rw[foldl_range_succ]
  generalize (List.range n).foldl (rBetter s out) (-1)=k at ih
  unfold rBetter
  split<;>omega
set_option maxHeartbeats 2000000 in
instance Order_ct (s:List Sto) (t:Tag) [hs:Small (goodS s)]:FnC Tryz.prog 36 [.slice (s.map eSto) t] (.slice ((rOrder s).map eDig) .ro):=⟨by
 obtain⟨hl8,hgr⟩:=hs.out
 refine fn_of Tryz.func36 Tryz.ntmps36 rfl (rs:= [.tmp 2]) rfl rfl fun hb LF=>?_
 refine walk ?_
 refine pwp_tok 32 ?_
 refine pwp_loopS (σ:=Nat × List Dig × Tag) (fun k=>k.1≤s.length∧k.2.1.length+k.1=s.length∧rOrder s=rOrd s k.1 k.2.1) (fun k=>k.1) (fun k=> [(0,.slice (s.map eSto) t),(3,.slice (k.2.1.map eDig) k.2.2)]) (fun k=> .tok k.2.2 k.2.1.length 32::LF) (s.length,[],.nil) ⟨by simp,by simp,rfl⟩ ⟨rfl,rfl⟩ (.refl _) ?_
 rintro⟨n,out,u⟩ ⟨hn,hol,ho⟩
 dsimp only at hn hol ho ⊢
 refine walk ?_
 refine pwp_condD (fun hc=>?_) (fun hc=>?_)
 ·obtain⟨m,rfl⟩: ∃ m,n=m+1:=⟨n - 1,by omega⟩
  rw[rOrd]at ho
  have hpr:=rBetter_range (s:=s) (out:=out) s.length
  refine walk ?_
  refine pwp_loopS (σ:=Nat) (fun i=>i≤s.length) (fun i=>s.length - i) (fun i=> [(0,.slice (s.map eSto) t),(3,.slice (out.map eDig) u),(4,.raw (.int .i64 ((List.range i).foldl (rBetter s out) (-1)))),(5,.raw (.int .i64 (i:Int)))]) (fun _=> .tok u out.length 32::LF) 0 (by simp) ⟨rfl,rfl,rfl,rfl⟩ (.refl _) ?_
  intro i hi
  have hkr:=rBetter_range (s:=s) (out:=out) i
  have hsucc:=foldl_range_succ (rBetter s out) (-1) i
  generalize hkk:(List.range i).foldl (rBetter s out) (-1)=k at hkr hsucc ⊢
  refine walk ?_
  refine pwp_condD (fun hc2=>?_) (fun hc2=>?_)
  ·have hlt:i < s.length:=by omega
   have i1:Small (rBig s[i].patch=false):=⟨hgr _ (List.getElem_mem hlt)⟩
   have e0:s.getD i Sto.zero=s[i]:=by simp[List.getD,hlt]
   rw[rBetter,e0]at hsucc
   refine walk ?_
   refine pops_cutE [(53,.raw (.bool (decide ((¬s[i].id∈out∧allIn out (rNeeds s[i].patch)=true)∧(k < 0∨cmpD s[i].id (s.getD k.toNat Sto.zero).id < 0))))),(0,.slice (s.map eSto) t),(3,.slice (out.map eDig) u),(4,.raw (.int .i64 k)),(5,.raw (.int .i64 (i:Int)))] (.tok u out.length 32::LF) ?_ ?_
   ·repeat' (first|(refine pwp_condD (fun h=>?_) (fun h=>?_)<;>refine walk ?_)|(refine pwp_condN (fun h=>?_) (fun h=>?_)<;>refine walk ?_)|(refine pwp_condB (fun h=>?_) (fun h=>?_)<;>refine walk ?_)|(refine pops_if (fun h=>?_) (fun h=>?_)<;>(have h2:=h;(try simp only[decide_eq_true_eq,decide_eq_false_iff_not,Bool.not_eq_true',Bool.not_eq_false']at h2);refine walkp ?_)))
    all_goals (refine⟨⟨holdsB (by rfl) ?_,rfl,rfl,rfl,rfl⟩,.refl _⟩;first|(simp_all;done)|(have hkl:k.toNat < s.length:=(by omega);simp_all[List.getD];done)|grind)
   refine walk ?_
   refine pwp_condD (fun h=>?_) (fun h=>?_)
   ·refine walk ?_
    rw[if_pos h]at hsucc
    refine⟨i+1,by omega,by dsimp only;omega,⟨rfl,rfl,?_,rfl⟩,.refl _⟩
    rw[hsucc];rfl
   ·refine walk ?_
    rw[if_neg h]at hsucc
    refine⟨i+1,by omega,by dsimp only;omega,⟨rfl,rfl,?_,rfl⟩,.refl _⟩
    rw[hsucc];rfl
  ·have hii:i=s.length:=by omega
   subst hii
   have hpk:rPick s out=k:=hkk
   rw[hpk]at ho
   refine walk ?_
   refine pwp_condD (fun h=>?_) (fun h=>?_)
   ·refine walk ?_
    rw[if_pos h]at ho
    refine end1 ?_
    rw[ho];exact .ro _ _
   ·rw[if_neg h]at ho
    have hkl:k.toNat < s.length:=by omega
    have e0:s.getD k.toNat Sto.zero=s[k.toNat]:=by simp[List.getD,hkl]
    rw[e0]at ho
    refine walka fun u'=>?_
    refine⟨(m,out++ [s[k.toNat].id],u'),⟨by dsimp only;omega,by dsimp only;rw[List.length_append,List.length_singleton];omega,ho⟩,by dsimp only;omega,⟨rfl,rfl⟩,.refl _⟩
 ·refine walk ?_
  have hn0:n=0:=by omega
  subst hn0
  refine end1 ?_
  rw[ho];exact .ro _ _⟩
end Go.Proofs
namespace Go.Proofs
open Go Go.Q
attribute [local irreducible] pwp pops PCalls OpN
theorem great_zero:rBig Pat.zero=false:=by simp[rBig,Pat.zero,rTot]
theorem needs_zero:rNeeds Pat.zero= []:=by
 have h:(rEncodeP Pat.zero).2≠0:=by simp[rEncodeP,rCheckP,rName,Pat.zero]
 rw[rNeeds,if_pos h]
theorem getS_mem {s:List Sto} {d:Dig} {p:Pat} (h:getS s d=some p): ∃ x∈s,x.id=d∧x.patch=p:=by
 induction s with
 |nil=>cases h
 |cons y s ih=>
  unfold getS at h
  split at h
  ·rename_i he
   exact⟨y,by simp,he,by simpa using h⟩
  ·obtain⟨x,hx,h1⟩:=ih h
   exact⟨x,by simp[hx],h1⟩
def ndS (s:List Sto) (d:Dig):List Dig:=rNeeds ((getS s d).getD Pat.zero)
def closeS (s:List Sto):Prop:=goodS s∧ ∀ x∈s,∀ d∈rNeeds x.patch,d∈ids s
theorem closeS.great {s:List Sto} (h:closeS s) (d:Dig):rBig ((getS s d).getD Pat.zero)=false:=by
 cases hg:getS s d with
 |none=>exact great_zero
 |some p=>
  obtain⟨x,hx,_,rfl⟩:=getS_mem hg
  exact h.1.2 x hx
theorem closeS.nd {s:List Sto} (h:closeS s) (x:Dig): ∀ d∈ndS s x,d∈ids s:=by
 unfold ndS
 cases hg:getS s x with
 |none=>rw[Option.getD_none,needs_zero];intro d hd;cases hd
 |some p=>
  obtain⟨y,hy,_,rfl⟩:=getS_mem hg
  exact h.2 y hy
theorem ids_len (s:List Sto):(ids s).length=s.length:=by simp[ids]
theorem closeS.small {s:List Sto} (h:closeS s) {l:List Dig} (ha:Asc l) (hl: ∀ d∈l,d∈ids s):l.length≤40:=by
 have h1:=nodup_len ha.nodup hl
 have h2:=h.1.1
 rw[ids_len]at h1;omega
def rClosure (s:List Sto) (l:List Dig):List Dig × Int:=if allIn (ids s) l=false then([],7)else(iterC (ndS s) s.length (withAll [] l),0)
end Go.Proofs
namespace Go.Proofs
open Go Go.Q
attribute [local irreducible] pwp pops PCalls OpN
def cloS (s:List Sto) (p:Dig):List Dig:=(rClosure s [p]).1
end Go.Proofs
namespace Go.Proofs
open Go Go.Q
attribute [local irreducible] pwp pops PCalls OpN
def insI:List Ident→Ident→List Ident
 | [],d=> [d]
 |x::xs,d=>if cmpI x d < 0 then x::insI xs d else if x=d then x::xs else d::x::xs
theorem insI_at: ∀ {l:List Ident} {d:Ident} {k:Nat},k≤l.length→(∀ i (h:i < l.length),i < k→cmpI l[i] d < 0)→(∀ h:k < l.length,¬cmpI l[k] d < 0)→
  insI l d=if ∃ h:k < l.length,l[k]=d then l else l.take k++d::l.drop k
 | [],d,k,hk,_,_=>by simp[insI]
 |x::xs,d,0,_,_,hk=>by
  have:=hk (by simp)
  simp only[List.getElem_cons_zero]at this
  simp[insI,this]
 |x::xs,d,k+1,hl,h1,h2=>by
  have h0:=h1 0 (by simp) (by omega)
  simp only[List.getElem_cons_zero]at h0
  have ih:=insI_at (l:=xs) (d:=d) (k:=k) (by simpa using hl) (fun i h hi=>by have:=h1 (i+1) (by simpa using h) (by omega);simpa using this) (fun h=>by have:=h2 (by simpa using h);simpa using this)
  simp only[insI,h0,if_true,ih]
  simp only[List.length_cons,Nat.add_lt_add_iff_right,List.getElem_cons_succ,List.take_succ_cons,List.drop_succ_cons]
  split<;>rfl
theorem insI_len (l:List Ident) (d:Ident):(insI l d).length≤l.length+1:=by
 induction l with
 |nil=>simp[insI]
 |cons y l ih=>
  unfold insI
  split
  ·simp only[List.length_cons];omega
  ·split<;>simp only[List.length_cons]<;>omega
set_option maxHeartbeats 1000000 in
instance Insert_ct (l:List Ident) (d:Ident) (t:Tag) [hs:Small (l.length≤1000000)]:FnC Tryz.prog 225 [.slice (l.map eIdent) t,.agg (eIdent d)] (.slice ((insI l d).map eIdent) .ro):=⟨by
 refine fn_of Tryz.func225 Tryz.ntmps225 rfl (rs:= [.tmp 4]) rfl rfl fun hb LF=>?_
 have hlen:l.length≤1000000:=hs.out
 refine walkb fun b=>?_
 refine pwp_loopS (σ:=Nat) (fun k=>k≤l.length∧ ∀ i (h:i < l.length),i < k→cmpI l[i] d < 0) (fun k=>l.length - k) (fun k=> [(0,.slice (l.map eIdent) t),(3,.raw (.pointer (some ⟨b,0,none⟩))),(5,.raw (.int .i64 k))]) (fun _=> .box b 84 (eIdent d)::LF) 0 ⟨by simp,by simp⟩ ⟨rfl,rfl,rfl⟩ (.refl _) ?_
 rintro k ⟨hk,hne⟩
 refine walk ?_
 refine pops_if (fun hp=>?_) (fun hp=>?_)
 ·have hc:(k:Int) < l.length:=of_decide_eq_true hp
  refine walkp ?_
  refine pwp_condD (fun h1=>?_) (fun h1=>?_)
  ·refine walk ?_
   refine⟨k+1,⟨by omega,fun i h hi=>?_⟩,by dsimp only;omega,⟨rfl,rfl,rfl⟩,.refl _⟩
   rcases Nat.lt_or_ge i k with h'|h'
   ·exact hne i h h'
   ·have:i=k:=by omega
    subst this;exact h1
  ·refine walk ?_
   refine pwp_condD (fun h2=>?_) (fun h2=>?_)
   ·refine walk ?_
    refine end1 (.ros ?_)
    rw[insI_at hk hne (fun _=>h1),if_pos ⟨by omega,h2⟩]
   ·refine walka fun t1=>?_
    refine walkap fun t2=>?_
    refine walkap fun t3=>?_
    refine end1 (.ros ?_)
    rw[insI_at hk hne (fun _=>h1),if_neg (fun⟨_,e⟩=>h2 e)]
    simp
 ·have hc: ¬(k:Int) < l.length:=of_decide_eq_false hp
  refine walkp ?_
  refine walkap fun t1=>?_
  refine walkap fun t2=>?_
  refine walkap fun t3=>?_
  refine end1 (.ros ?_)
  rw[insI_at hk hne (fun h=>absurd (show(k:Int) < l.length by omega) hc),if_neg (fun⟨h,_⟩=>hc (by omega))]
  simp⟩
def rOverF (d:Dig) (l:List Ident):List Ident:=l.foldl (fun m y=>insI m (rWhole y d)) []
def rFull1 (d:Dig) (a:Atm):Atm:={ a with id:={ a.id with patch:=d } }
def rFull2 (d:Dig) (a:Atm):Atm:=if a.kind≠7 then { a with file:=rWhole a.file d }else a
def rFull3 (d:Dig) (a:Atm):Atm:=if a.kind=2 then { a with parent:=rWhole a.parent d }else a
def rFull4 (d:Dig) (a:Atm):Atm:=if a.kind=6 then { a with src:=rWhole a.src d,dst:=rWhole a.dst d }else a
def rFull5 (d:Dig) (a:Atm):Atm:={ a with over:=rOverF d a.over }
def rFull (d:Dig) (a:Atm):Atm:=rFull5 d (rFull4 d (rFull3 d (rFull2 d (rFull1 d a))))
theorem rFull4_over (d:Dig) (a:Atm):(rFull4 d (rFull3 d (rFull2 d (rFull1 d a)))).over=a.over:=by
 unfold rFull4 rFull3 rFull2 rFull1
 repeat' split
 all_goals rfl
theorem rOverF_len (d:Dig) (l:List Ident) (k:Nat):((l.take k).foldl (fun m y=>insI m (rWhole y d)) []).length≤k:=by
 induction k with
 |zero=>simp
 |succ k ih=>
  by_cases h:k < l.length
  ·rw[List.take_succ_eq_append_getElem h,List.foldl_append]
   have:=insI_len ((l.take k).foldl (fun m y=>insI m (rWhole y d)) []) (rWhole l[k] d)
   simp only[List.foldl_cons,List.foldl_nil];omega
  ·rw[List.take_of_length_le (by omega)]at ih ⊢;omega
def rAtoms (p:Pat):List Atm × Int:=if(rId p).2≠0 then([],(rId p).2)else((rCheckP p).1.map (rFull (rId p).1),0)
theorem rMade_over {c:Chg} {first:Int} (h:c.over.length≤40): ∀ a∈rMade c first,a.over.length≤40:=by
 intro a ha
 unfold rMade at ha
 repeat' split at ha
 all_goals simp only[List.mem_singleton,List.mem_append,List.mem_map]at ha
 all_goals first
  |(subst ha;first|exact h|(show([]:List Ident).length≤40;decide))
  |(rcases ha with ⟨_,_,rfl⟩|⟨_,_,rfl⟩<;>(show([]:List Ident).length≤40;decide))
theorem rChanges_facts: ∀ (l:List Chg) (own:List Atm),(∀ c∈l,chgOk c)→(∀ a∈own,a.over.length≤40)→(rChanges l own).1.length≤own.length+l.length*81∧ ∀ a∈(rChanges l own).1,a.over.length≤40
 | [],own,_,h=>⟨by simp[rChanges],by simpa [rChanges]using h⟩
 |c::l,own,hc,ho=>by
  unfold rChanges
  split
  ·exact⟨by simp,by simp⟩
  ·split
   ·exact⟨by simp,by simp⟩
   ·have hcc:=hc c (by simp)
    have h1:=rMade_len c own.length
    have h2:=rMade_over (first:=own.length) hcc.over
    have h3:=hcc.lines
    have ih:=rChanges_facts l (own++rMade c own.length) (fun x hx=>hc x (by simp[hx])) (fun a ha=>by
     rcases List.mem_append.1 ha with h|h
     ·exact ho a h
     ·exact h2 a h)
    rw[List.length_append]at ih
    refine⟨?_,ih.2⟩
    have:=ih.1
    simp only[List.length_cons,Nat.add_mul];omega
theorem rCheckP_facts {p:Pat} (h:rBig p=false):(rCheckP p).1.length≤16200∧ ∀ a∈(rCheckP p).1,a.over.length≤40:=by
 obtain⟨_,_,_,hch,hcs⟩:=big_facts h
 unfold rCheckP
 repeat' split
 all_goals first
  |exact⟨by simp,by simp⟩
  |(have:=rChanges_facts p.changes [] hcs (by simp)
    exact⟨by have h1:=this.1;simp only[List.length_nil]at h1;omega,this.2⟩)
end Go.Proofs
namespace Go.Proofs
open Go Go.Q
attribute [local irreducible] pwp pops PCalls OpN
set_option maxHeartbeats 2000000 in
instance Atoms_ct (p:Pat) [hs:Small (rBig p=false)]:FnC Tryz.prog 188 [.agg (ePat p)] (.tuple [.slice ((rAtoms p).1.map eAtm) .ro,.raw (.int .i64 (rAtoms p).2)]):=⟨by
 obtain⟨hal,hao⟩:=rCheckP_facts hs.out
 refine fn_of Tryz.func188 Tryz.ntmps188 rfl (rs:= [.tmp 2,.tmp 3]) rfl rfl fun hb LF=>?_
 refine walkb fun b1=>?_
 refine walkbp fun b4=>?_
 refine pwp_condN (fun h=>?_) (fun h=>?_)
 ·refine walk ?_
  refine end2 ?_
  rw[rAtoms,if_pos h]
  exact .tuple2 (.ro _ _) (.refl _)
 rw[rAtoms,if_neg (by simp[h])]
 refine walk ?_
 generalize (rId p).1=d
 generalize (rCheckP p).1=own at hal hao
 refine pwp_tok 172 ?_
 refine pwp_loopS (σ:=Nat × List Atm × Tag) (fun k=>k.1≤own.length∧k.2.1=(own.take k.1).map (rFull d)) (fun k=>own.length - k.1) (fun k=> [(4,.raw (.pointer (some ⟨b4,0,none⟩))),(6,.slice (own.map eAtm) .ro),(8,.slice (k.2.1.map eAtm) k.2.2),(9,.raw (.int .i64 k.1))]) (fun k=> .tok k.2.2 k.2.1.length 172:: .box b4 25 (eDig d)::LF) (0,[],.nil) ⟨by simp,by simp⟩ ⟨rfl,rfl,rfl,rfl⟩ (.cons_cons _ (.cons_cons _ (.cons _ (.refl _)))) ?_
 rintro⟨i,out,v⟩ ⟨hi,ho⟩
 dsimp only at hi ho ⊢
 have hol:out.length=i:=by rw[ho];simp;omega
 refine walk ?_
 refine pwp_condD (fun hc=>?_) (fun hc=>?_)
 ·have hlt:i < own.length:=by omega
  have hov:=hao _ (List.getElem_mem hlt)
  refine walkb fun b10=>?_
  refine pwp_joinG (σ:=Unit) (fun _=>True) (fun _=> [(4,.raw (.pointer (some ⟨b4,0,none⟩))),(6,.slice (own.map eAtm) .ro),(8,.slice (out.map eAtm) v),(9,.raw (.int .i64 i)),(10,.raw (.pointer (some ⟨b10,0,none⟩)))]) (fun _=> .box b10 125 (eAtm (rFull2 d (rFull1 d own[i]))):: .tok v out.length 172:: .box b4 25 (eDig d)::LF) ?_ ?_
  ·refine pwp_condN (fun h7=>?_) (fun h7=>?_)
   ·refine walk ?_
    refine⟨(),trivial,⟨rfl,rfl,rfl,rfl,rfl⟩,?_⟩
    have h7':(rFull1 d own[i]).kind≠7:=h7
    rw[rFull2,if_pos h7'];exact .refl _
   ·refine walk ?_
    refine⟨(),trivial,⟨rfl,rfl,rfl,rfl,rfl⟩,?_⟩
    have h7':(rFull1 d own[i]).kind=7:=h7
    rw[rFull2,if_neg (by simp[h7'])];exact .refl _
  rintro _ _
  generalize ha2:rFull2 d (rFull1 d own[i])=a2
  refine walk ?_
  refine pwp_joinG (σ:=Unit) (fun _=>True) (fun _=> [(4,.raw (.pointer (some ⟨b4,0,none⟩))),(6,.slice (own.map eAtm) .ro),(8,.slice (out.map eAtm) v),(9,.raw (.int .i64 i)),(10,.raw (.pointer (some ⟨b10,0,none⟩)))]) (fun _=> .box b10 125 (eAtm (rFull3 d a2)):: .tok v out.length 172:: .box b4 25 (eDig d)::LF) ?_ ?_
  ·refine pwp_condD (fun h7=>?_) (fun h7=>?_)
   ·refine walk ?_
    refine⟨(),trivial,⟨rfl,rfl,rfl,rfl,rfl⟩,?_⟩
    rw[rFull3,if_pos h7];exact .refl _
   ·refine walk ?_
    refine⟨(),trivial,⟨rfl,rfl,rfl,rfl,rfl⟩,?_⟩
    rw[rFull3,if_neg h7];exact .refl _
  rintro _ _
  generalize ha3:rFull3 d a2=a3
  refine walk ?_
  refine pwp_joinG (σ:=Unit) (fun _=>True) (fun _=> [(4,.raw (.pointer (some ⟨b4,0,none⟩))),(6,.slice (own.map eAtm) .ro),(8,.slice (out.map eAtm) v),(9,.raw (.int .i64 i)),(10,.raw (.pointer (some ⟨b10,0,none⟩)))]) (fun _=> .box b10 125 (eAtm (rFull4 d a3)):: .tok v out.length 172:: .box b4 25 (eDig d)::LF) ?_ ?_
  ·refine pwp_condD (fun h7=>?_) (fun h7=>?_)
   ·refine walkn ?_
    refine pwp_draw [false,false,false,false,false,false,false,false,false,true,false,true] ?_ ?_
    ·decide+kernel
    refine walkp ?_
    refine⟨(),trivial,⟨rfl,rfl,rfl,rfl,rfl⟩,?_⟩
    rw[rFull4,if_pos h7];exact .refl _
   ·refine walk ?_
    refine⟨(),trivial,⟨rfl,rfl,rfl,rfl,rfl⟩,?_⟩
    rw[rFull4,if_neg h7];exact .refl _
  rintro _ _
  have hover:(rFull4 d a3).over=own[i].over:=by rw[←ha3,←ha2];exact rFull4_over d own[i]
  generalize ha4:rFull4 d a3=a4 at hover
  have hov4:a4.over.length≤40:=by rw[hover];exact hov
  refine walk ?_
  refine pwp_loopS (σ:=Nat × List Ident × Tag) (fun j=>j.1≤a4.over.length∧j.2.1=(a4.over.take j.1).foldl (fun m y=>insI m (rWhole y d)) []) (fun j=>a4.over.length - j.1) (fun j=> [(4,.raw (.pointer (some ⟨b4,0,none⟩))),(6,.slice (own.map eAtm) .ro),(8,.slice (out.map eAtm) v),(9,.raw (.int .i64 i)),(10,.raw (.pointer (some ⟨b10,0,none⟩))),(11,.slice (j.2.1.map eIdent) j.2.2),(12,.raw (.int .i64 j.1))]) (fun _=> .box b10 125 (eAtm a4):: .tok v out.length 172:: .box b4 25 (eDig d)::LF) (0,[],.nil) ⟨by simp,by simp⟩ ⟨rfl,rfl,rfl,rfl,rfl,rfl,rfl⟩ (.refl _) ?_
  rintro⟨j,m,z⟩ ⟨hj,hm⟩
  dsimp only at hj hm ⊢
  have hml:m.length≤j:=by rw[hm];exact rOverF_len d a4.over j
  refine walk ?_
  refine pwp_condD (fun hc2=>?_) (fun hc2=>?_)
  ·have hlt2:j < a4.over.length:=by omega
   have:Small (m.length≤1000000):=⟨by omega⟩
   refine walk ?_
   refine⟨(j+1,insI m (rWhole a4.over[j] d),.ro),⟨by dsimp only;omega,?_⟩,by dsimp only;omega,⟨rfl,rfl,rfl,rfl,rfl,rfl,rfl⟩,.refl _⟩
   dsimp only
   rw[List.take_succ_eq_append_getElem hlt2,List.foldl_append,←hm];rfl
  ·rw[List.take_of_length_le (by omega)]at hm
   refine walka fun v'=>?_
   have e:rFull d own[i]= { a4 with over:=m }:=by rw[rFull,ha2,ha3,ha4,rFull5,rOverF,←hm]
   refine⟨(i+1,out++ [{ a4 with over:=m }],v'),⟨by dsimp only;omega,?_⟩,by dsimp only;omega,⟨rfl,rfl,rfl,rfl⟩,.cons _ (.refl _)⟩
   dsimp only
   rw[List.take_succ_eq_append_getElem hlt,List.map_append,←ho,List.map_cons,e];rfl
 ·rw[List.take_of_length_le (by omega)]at ho
  refine walk ?_
  refine end2 ?_
  rw[ho]
  exact .tuple2 (.ro _ _) (.refl _)⟩
end Go.Proofs
namespace Go.Proofs
open Go Go.Q
attribute [local irreducible] pwp pops PCalls OpN
theorem nfalse {b:Bool} (h:(!b)=false): ¬b=false:=by cases b<;>simp_all
theorem ntrue {b:Bool} (h:(!b)=true):b=false:=by cases b<;>simp_all
theorem goodS.great {s:List Sto} (h:goodS s) (d:Dig):rBig ((getS s d).getD Pat.zero)=false:=by
 cases hg:getS s d with
 |none=>exact great_zero
 |some p=>
  obtain⟨x,hx,_,rfl⟩:=getS_mem hg
  exact h.2 x hx
def rAtomsOf (s:List Sto) (d:Dig):List Atm:=(rAtoms ((getS s d).getD Pat.zero)).1
def rAtom (s:List Sto) (x:Ident):Option Atm:=if x.n < 0∨((rAtomsOf s x.patch).length:Int)≤x.n then none else(rAtomsOf s x.patch)[x.n.toNat]?
instance atom17_ct (s:List Sto) (x:Ident) (t:Tag) [hs:Small (goodS s)]:FnC Tryz.prog 147 [.slice (s.map eSto) t,.agg (eIdent x)] (.tuple [.agg (eAtm ((rAtom s x).getD Atm.zero)),.raw (.bool (rAtom s x).isSome)]):=⟨by
 have i1:Small (rBig ((getS s x.patch).getD Pat.zero)=false):=⟨hs.out.great _⟩
 refine fn_of Tryz.func147 Tryz.ntmps147 rfl (rs:= [.cell 4 125,.tmp 5]) rfl rfl fun hb LF=>?_
 refine walkb fun b3=>?_
 refine walkbp fun b4=>?_
 refine walkbp fun b6=>?_
 have e0:(rAtoms ((getS s x.patch).getD Pat.zero)).1=rAtomsOf s x.patch:=rfl
 rw[e0]
 refine pops_cutE [(31,.raw (.bool (decide (x.n < 0∨((rAtomsOf s x.patch).length:Int)≤x.n)))),(3,.raw (.pointer (some ⟨b3,0,none⟩))),(4,.raw (.pointer (some ⟨b4,0,none⟩))),(8,.slice ((rAtomsOf s x.patch).map eAtm) .ro)] (.box b6 44 (ePat ((getS s x.patch).getD Pat.zero)):: .box b4 125 (eAtm Atm.zero):: .box b3 84 (eIdent x)::LF) ?_ ?_
 ·repeat' (first|(refine pwp_condD (fun h=>?_) (fun h=>?_)<;>refine walk ?_)|(refine pwp_condN (fun h=>?_) (fun h=>?_)<;>refine walk ?_)|(refine pwp_condB (fun h=>?_) (fun h=>?_)<;>refine walk ?_)|(refine pops_if (fun h=>?_) (fun h=>?_)<;>(have h2:=h;(try simp only[decide_eq_true_eq,decide_eq_false_iff_not,Bool.not_eq_true',Bool.not_eq_false']at h2);refine walkp ?_)))
  all_goals (refine⟨⟨holdsB (by rfl) ?_,rfl,rfl,rfl⟩,.refl _⟩;first|(simp_all;done)|(simp_all;omega)|grind)
 refine walk ?_
 refine pwp_condD (fun h=>?_) (fun h=>?_)
 ·refine walk ?_
  refine endC1 rfl (.of_eq ?_)
  rw[rAtom,if_pos h];rfl
 ·refine walk ?_
  refine endC1 rfl (.of_eq ?_)
  have hlt:x.n.toNat < (rAtomsOf s x.patch).length:=by omega
  rw[rAtom,if_neg h,List.getElem?_eq_getElem hlt];rfl⟩
def rRefOk (o:Option Atm) (fits:Atm→Bool):Int:=if o.isSome=false then 7 else if fits (o.getD Atm.zero)=false then 8 else 0
def rEndE (s:List Sto) (x file:Ident) (id:Dig):Int:=if rOther x=false∨x=file then 0 else rRefOk (rAtom s x) (rFitsEnd (rComplete file id))
set_option maxHeartbeats 1000000 in
instance end17_ct (s:List Sto) (x file:Ident) (id:Dig) (t:Tag) [hs:Small (goodS s)]:FnC Tryz.prog 150 [.slice (s.map eSto) t,.agg (eIdent x),.agg (eIdent file),.agg (eDig id)] (.raw (.int .i64 (rEndE s x file id))):=⟨by
 refine fn_of Tryz.func150 Tryz.ntmps150 rfl (rs:= [.tmp 8]) rfl rfl fun hb LF=>?_
 refine walkb fun b5=>?_
 refine walkbp fun b6=>?_
 refine walkbp fun b7=>?_
 refine pops_cutE [(18,.raw (.bool (decide (rOther x=false∨x=file)))),(0,.slice (s.map eSto) t),(5,.raw (.pointer (some ⟨b5,0,none⟩))),(6,.raw (.pointer (some ⟨b6,0,none⟩))),(7,.raw (.pointer (some ⟨b7,0,none⟩)))] (.box b7 25 (eDig id):: .box b6 84 (eIdent file):: .box b5 84 (eIdent x)::LF) ?_ ?_
 ·repeat' (first|(refine pwp_condD (fun h=>?_) (fun h=>?_)<;>refine walk ?_)|(refine pwp_condN (fun h=>?_) (fun h=>?_)<;>refine walk ?_)|(refine pwp_condB (fun h=>?_) (fun h=>?_)<;>refine walk ?_)|(refine pops_if (fun h=>?_) (fun h=>?_)<;>(have h2:=h;(try simp only[decide_eq_true_eq,decide_eq_false_iff_not,Bool.not_eq_true',Bool.not_eq_false']at h2);refine walkp ?_)))
  all_goals (refine⟨⟨holdsB (by rfl) ?_,rfl,rfl,rfl,rfl⟩,.refl _⟩;first|(simp_all;done)|(simp_all;omega)|grind)
 refine walk ?_
 refine pwp_condD (fun h=>?_) (fun h=>?_)
 ·refine walk ?_
  refine end1 (.of_eq ?_)
  rw[rEndE,if_pos h]
 rw[rEndE,if_neg h]
 refine walkb fun b9=>?_
 refine pwp_condB (fun h2=>?_) (fun h2=>?_)
 ·refine walk ?_
  refine end1 (.of_eq ?_)
  rw[rRefOk,if_pos (ntrue h2)]
 refine walk ?_
 refine pwp_condB (fun h3=>?_) (fun h3=>?_)
 ·refine walk ?_
  refine end1 (.of_eq ?_)
  rw[rRefOk,if_neg (nfalse h2),if_pos (ntrue h3)]
 ·refine walk ?_
  refine end1 (.of_eq ?_)
  rw[rRefOk,if_neg (nfalse h2),if_neg (nfalse h3)]⟩
def rChgF (s:List Sto) (c:Chg):Int:=if rOther c.file=true then rRefOk (rAtom s c.file) (rFitsFile c.kind)else 0
def rChgP (s:List Sto) (c:Chg):Int:=if rOther c.parent=true then rRefOk (rAtom s c.parent) rDirectory else 0
def rChgO (s:List Sto) (c:Chg) (id:Dig) (x:Ident):Int:=if rOther x=false then 0 else rRefOk (rAtom s x) (rFitsOver c.kind (rComplete c.file id))
def rChgE (s:List Sto) (c:Chg) (id:Dig):Int:=
 if rChgF s c≠0 then rChgF s c else if rChgP s c≠0 then rChgP s c else if rEndE s c.after c.file id≠0 then rEndE s c.after c.file id else
 if rEndE s c.before c.file id≠0 then rEndE s c.before c.file id else firstErr (rChgO s c id) c.over
set_option maxHeartbeats 2000000 in
instance change17_ct (s:List Sto) (c:Chg) (id:Dig) (t:Tag) [hs:Small (goodS s)]:FnC Tryz.prog 106 [.slice (s.map eSto) t,.agg (eChg c),.agg (eDig id)] (.raw (.int .i64 (rChgE s c id))):=⟨by
 refine fn_of Tryz.func106 Tryz.ntmps106 rfl (rs:= [.tmp 6]) rfl rfl fun hb LF=>?_
 have hlen:c.over.length≤140737488355328:=((hb (.agg (eChg c)) (by simp)).agg_at (c:= .slice (c.over.map eIdent) .ro) (by simp[eChg])).slice_map
 refine walkb fun b4=>?_
 refine walkbp fun b5=>?_
 refine pwp_joinG (σ:=Unit) (fun _=>rChgF s c=0) (fun _=> [(0,.slice (s.map eSto) t),(4,.raw (.pointer (some ⟨b4,0,none⟩))),(5,.raw (.pointer (some ⟨b5,0,none⟩)))]) (fun _=> .box b5 25 (eDig id):: .box b4 88 (eChg c)::LF) ?_ ?_
 ·refine pwp_condB (fun h=>?_) (fun h=>?_)
  ·have e:rChgF s c=rRefOk (rAtom s c.file) (rFitsFile c.kind):=by rw[rChgF,if_pos h]
   refine walkb fun b7=>?_
   refine pwp_condB (fun h2=>?_) (fun h2=>?_)
   ·refine walk ?_
    refine end1 (.of_eq ?_)
    rw[rRefOk,if_pos (ntrue h2)]at e
    rw[rChgE,if_pos (by rw[e];decide),e]
   refine walk ?_
   refine pwp_condB (fun h3=>?_) (fun h3=>?_)
   ·refine walk ?_
    refine end1 (.of_eq ?_)
    rw[rRefOk,if_neg (nfalse h2),if_pos (ntrue h3)]at e
    rw[rChgE,if_pos (by rw[e];decide),e]
   ·refine walk ?_
    rw[rRefOk,if_neg (nfalse h2),if_neg (nfalse h3)]at e
    exact⟨(),e,⟨rfl,rfl,rfl⟩,.cons _ (.refl _)⟩
  ·refine walk ?_
   exact⟨(),by rw[rChgF,if_neg (by simp[h])],⟨rfl,rfl,rfl⟩,.refl _⟩
 rintro _ hF
 refine walk ?_
 refine pwp_joinG (σ:=Unit) (fun _=>rChgP s c=0) (fun _=> [(0,.slice (s.map eSto) t),(4,.raw (.pointer (some ⟨b4,0,none⟩))),(5,.raw (.pointer (some ⟨b5,0,none⟩)))]) (fun _=> .box b5 25 (eDig id):: .box b4 88 (eChg c)::LF) ?_ ?_
 ·refine pwp_condB (fun h=>?_) (fun h=>?_)
  ·have e:rChgP s c=rRefOk (rAtom s c.parent) rDirectory:=by rw[rChgP,if_pos h]
   refine walkb fun b7=>?_
   refine pwp_condB (fun h2=>?_) (fun h2=>?_)
   ·refine walk ?_
    refine end1 (.of_eq ?_)
    rw[rRefOk,if_pos (ntrue h2)]at e
    rw[rChgE,if_neg (by simp[hF]),if_pos (by rw[e];decide),e]
   refine walk ?_
   refine pwp_condB (fun h3=>?_) (fun h3=>?_)
   ·refine walk ?_
    refine end1 (.of_eq ?_)
    rw[rRefOk,if_neg (nfalse h2),if_pos (ntrue h3)]at e
    rw[rChgE,if_neg (by simp[hF]),if_pos (by rw[e];decide),e]
   ·refine walk ?_
    rw[rRefOk,if_neg (nfalse h2),if_neg (nfalse h3)]at e
    exact⟨(),e,⟨rfl,rfl,rfl⟩,.cons _ (.refl _)⟩
  ·refine walk ?_
   exact⟨(),by rw[rChgP,if_neg (by simp[h])],⟨rfl,rfl,rfl⟩,.refl _⟩
 rintro _ hP
 rw[rChgE,if_neg (by simp[hF]),if_neg (by simp[hP])]
 refine walk ?_
 refine pwp_condN (fun h1=>?_) (fun h1=>?_)
 ·refine walk ?_
  refine end1 (.of_eq ?_)
  rw[if_pos h1]
 rw[if_neg (by simp[h1])]
 refine walk ?_
 refine pwp_condN (fun h2=>?_) (fun h2=>?_)
 ·refine walk ?_
  refine end1 (.of_eq ?_)
  rw[if_pos h2]
 rw[if_neg (by simp[h2])]
 refine walk ?_
 refine pwp_loopS (σ:=Nat) (fun k=>k≤c.over.length∧ ∀ i (h:i < c.over.length),i < k→rChgO s c id c.over[i]=0) (fun k=>c.over.length - k) (fun k=> [(0,.slice (s.map eSto) t),(4,.raw (.pointer (some ⟨b4,0,none⟩))),(5,.raw (.pointer (some ⟨b5,0,none⟩))),(13,.raw (.int .i64 k))]) (fun _=> .box b5 25 (eDig id):: .box b4 88 (eChg c)::LF) 0 ⟨by simp,by simp⟩ ⟨rfl,rfl,rfl,rfl⟩ (.refl _) ?_
 rintro k ⟨hk,he⟩
 refine walk ?_
 refine pwp_condD (fun hc=>?_) (fun hc=>?_)
 ·have hlt:k < c.over.length:=by omega
  refine walk ?_
  refine pwp_condB (fun h=>?_) (fun h=>?_)
  ·refine walk ?_
   exact⟨k+1,⟨by omega,upto_succ0 he hlt (by rw[rChgO,if_pos (ntrue h)])⟩,by dsimp only;omega,⟨rfl,rfl,rfl,rfl⟩,.refl _⟩
  have e:rChgO s c id c.over[k]=rRefOk (rAtom s c.over[k]) (rFitsOver c.kind (rComplete c.file id)):=by rw[rChgO,if_neg (nfalse h)]
  refine walkb fun b14=>?_
  refine pwp_condB (fun h3=>?_) (fun h3=>?_)
  ·refine walk ?_
   refine end1 (.of_eq ?_)
   rw[rRefOk,if_pos (ntrue h3)]at e
   rw[firstErr_at hlt he (by rw[e];decide),e]
  refine walk ?_
  refine pwp_condB (fun h4=>?_) (fun h4=>?_)
  ·refine walk ?_
   refine end1 (.of_eq ?_)
   rw[rRefOk,if_neg (nfalse h3),if_pos (ntrue h4)]at e
   rw[firstErr_at hlt he (by rw[e];decide),e]
  ·refine walk ?_
   rw[rRefOk,if_neg (nfalse h3),if_neg (nfalse h4)]at e
   exact⟨k+1,⟨by omega,upto_succ0 he hlt e⟩,by dsimp only;omega,⟨rfl,rfl,rfl,rfl⟩,.cons _ (.refl _)⟩
 ·refine walk ?_
  refine end1 (.of_eq ?_)
  rw[firstErr_zero fun i h=>he i h (by omega)]⟩
def rRefsS (s:List Sto) (p:Pat) (id:Dig):Int:=firstErr (fun c=>rChgE s c id) p.changes
instance references17_ct (s:List Sto) (p:Pat) (id:Dig) (t:Tag) [hs:Small (goodS s)]:FnC Tryz.prog 68 [.slice (s.map eSto) t,.agg (ePat p),.agg (eDig id)] (.raw (.int .i64 (rRefsS s p id))):=⟨by
 refine fn_of Tryz.func68 Tryz.ntmps68 rfl (rs:= [.tmp 6]) rfl rfl fun hb LF=>?_
 have hlen:p.changes.length≤140737488355328:=((hb (.agg (ePat p)) (by simp)).agg_at (c:= .slice (p.changes.map eChg) .ro) (by simp[ePat])).slice_map
 refine walkb fun b4=>?_
 refine walkbp fun b5=>?_
 refine pwp_loopS (σ:=Nat) (fun k=>k≤p.changes.length∧ ∀ i (h:i < p.changes.length),i < k→rChgE s p.changes[i] id=0) (fun k=>p.changes.length - k) (fun k=> [(0,.slice (s.map eSto) t),(4,.raw (.pointer (some ⟨b4,0,none⟩))),(5,.raw (.pointer (some ⟨b5,0,none⟩))),(7,.raw (.int .i64 k))]) (fun _=> .box b5 25 (eDig id):: .box b4 44 (ePat p)::LF) 0 ⟨by simp,by simp⟩ ⟨rfl,rfl,rfl,rfl⟩ (.refl _) ?_
 rintro k ⟨hk,he⟩
 refine walk ?_
 refine pwp_condD (fun hc=>?_) (fun hc=>?_)
 ·have hlt:k < p.changes.length:=by omega
  refine walk ?_
  refine pwp_condN (fun h=>?_) (fun h=>?_)
  ·refine walk ?_
   refine end1 (.of_eq ?_)
   rw[rRefsS,firstErr_at hlt he h]
  ·refine walk ?_
   exact⟨k+1,⟨by omega,upto_succ0 (f:=fun c=>rChgE s c id) he hlt h⟩,by dsimp only;omega,⟨rfl,rfl,rfl,rfl⟩,.refl _⟩
 ·refine walk ?_
  refine end1 (.of_eq ?_)
  rw[rRefsS,firstErr_zero fun i h=>he i h (by omega)]⟩
end Go.Proofs
namespace Go.Proofs
open Go Go.Q
attribute [local irreducible] pwp pops PCalls OpN
theorem nnot {b:Bool} (h:(!b)=false):b=true:=by cases b<;>simp_all
def rChkE (s:List Sto) (i:Nat):Int:=
 if(rId (s.getD i Sto.zero).patch).2≠0 then(rId (s.getD i Sto.zero).patch).2 else if(rId (s.getD i Sto.zero).patch).1≠(s.getD i Sto.zero).id then 13 else
 if 0 < (i:Int)∧0≤cmpD (s.getD (i - 1) Sto.zero).id (rId (s.getD i Sto.zero).patch).1 then 9 else 0
def rCheckS (s:List Sto):Int:=
 if 400 < (s.length:Int)then 4 else if firstErr (rChkE s) (List.range s.length)≠0 then firstErr (rChkE s) (List.range s.length)else
 if s.all (fun x=>allIn (ids s) (rNeeds x.patch))=false then 19 else if((rOrder s).length:Int) < s.length then 20 else firstErr (fun(x:Sto)=>rRefsS s x.patch x.id) s
set_option maxHeartbeats 400000 in
instance CheckS_ct (s:List Sto) (t:Tag) [hs:Small (goodS s)]:FnC Tryz.prog 32 [.slice (s.map eSto) t] (.raw (.int .i64 (rCheckS s))):=⟨by
 obtain⟨hl8,hgr⟩:=hs.out
 refine fn_of Tryz.func32 Tryz.ntmps32 rfl (rs:= [.tmp 2]) rfl rfl fun hb LF=>?_
 refine walk ?_
 refine pwp_condD (fun h1=>?_) (fun h1=>?_)
 ·omega
 rw[rCheckS,if_neg h1]
 refine walk ?_
 refine pwp_loopS (σ:=Nat) (fun k=>k≤s.length∧ ∀ i (h:i < (List.range s.length).length),i < k→rChkE s (List.range s.length)[i]=0) (fun k=>s.length - k) (fun k=> [(0,.slice (s.map eSto) t),(3,.raw (.int .i64 k))]) (fun _=>LF) 0 ⟨by simp,by simp⟩ ⟨rfl,rfl⟩ (.refl _) ?_
 rintro k ⟨hk,he⟩
 refine walk ?_
 refine pwp_condD (fun hc=>?_) (fun hc=>?_)
 ·have hlt:k < s.length:=by omega
  have hltr:k < (List.range s.length).length:=by simpa using hlt
  have ek:(List.range s.length)[k]=k:=by simp
  have e0:s.getD k Sto.zero=s[k]:=by simp[List.getD,hlt]
  have i1:Small (rBig s[k].patch=false):=⟨hgr _ (List.getElem_mem hlt)⟩
  refine walkb fun b=>?_
  refine pwp_condN (fun h2=>?_) (fun h2=>?_)
  ·refine walk ?_
   refine end1 (.of_eq ?_)
   have e:rChkE s (List.range s.length)[k]=(rId s[k].patch).2:=by rw[ek,rChkE,e0,if_pos h2]
   have f:=firstErr_at hltr he (by rw[e];exact h2)
   rw[if_pos (by rw[f,e];exact h2),f,e]
  refine walk ?_
  refine pwp_condN (fun h3=>?_) (fun h3=>?_)
  ·refine walk ?_
   refine end1 (.of_eq ?_)
   have e:rChkE s (List.range s.length)[k]=13:=by rw[ek,rChkE,e0,if_neg (by simp[h2]),if_pos h3]
   have f:=firstErr_at hltr he (by rw[e];decide)
   rw[if_pos (by rw[f,e];decide),f,e]
  refine walk ?_
  refine pops_if (fun hp=>?_) (fun hp=>?_)
  ·have hp':0 < (k:Int):=of_decide_eq_true hp
   refine walkp ?_
   have e1:s.getD (k - 1) Sto.zero=s[((k:Int) - 1).toNat]:=by
    have:((k:Int) - 1).toNat=k - 1:=by omega
    simp only[this]
    have h':k - 1 < s.length:=by omega
    simp[List.getD,h']
   refine pwp_condD (fun h4=>?_) (fun h4=>?_)
   ·refine walk ?_
    refine end1 (.of_eq ?_)
    have e:rChkE s (List.range s.length)[k]=9:=by rw[ek,rChkE,e0,e1,if_neg (by simp[h2]),if_neg (by simp[h3]),if_pos ⟨hp',h4⟩]
    have f:=firstErr_at hltr he (by rw[e];decide)
    rw[if_pos (by rw[f,e];decide),f,e]
   ·refine walk ?_
    have e:rChkE s (List.range s.length)[k]=0:=by rw[ek,rChkE,e0,e1,if_neg (by simp[h2]),if_neg (by simp[h3]),if_neg (fun h=>h4 h.2)]
    exact⟨k+1,⟨by omega,upto_succ0 he hltr e⟩,by dsimp only;omega,⟨rfl,rfl⟩,.cons _ (.refl _)⟩
  ·have hp': ¬0 < (k:Int):=of_decide_eq_false hp
   refine walkp ?_
   have e:rChkE s (List.range s.length)[k]=0:=by rw[ek,rChkE,e0,if_neg (by simp[h2]),if_neg (by simp[h3]),if_neg (fun h=>hp' h.1)]
   exact⟨k+1,⟨by omega,upto_succ0 he hltr e⟩,by dsimp only;omega,⟨rfl,rfl⟩,.cons _ (.refl _)⟩
 have hA:firstErr (rChkE s) (List.range s.length)=0:=firstErr_zero fun i h=>he i h (by simp at h;omega)
 rw[if_neg (by simp[hA])]
 clear he hA hk hc
 refine walk ?_
 refine pwp_loopS (σ:=Nat) (fun k=>k≤s.length∧ ∀ i (h:i < s.length),i < k→allIn (ids s) (rNeeds s[i].patch)=true) (fun k=>s.length - k) (fun k=> [(0,.slice (s.map eSto) t),(6,.slice ((ids s).map eDig) .ro),(7,.raw (.int .i64 k))]) (fun _=>LF) 0 ⟨by simp,by simp⟩ ⟨rfl,rfl,rfl⟩ (.refl _) ?_
 rintro k ⟨hk,he⟩
 refine walk ?_
 refine pwp_condD (fun hc=>?_) (fun hc=>?_)
 ·have hlt:k < s.length:=by omega
  have i1:Small (rBig s[k].patch=false):=⟨hgr _ (List.getElem_mem hlt)⟩
  refine walk ?_
  refine pwp_condB (fun h=>?_) (fun h=>?_)
  ·refine walk ?_
   refine end1 (.of_eq ?_)
   have hx:allIn (ids s) (rNeeds s[k].patch)=false:=ntrue h
   have hy:s.all (fun x=>allIn (ids s) (rNeeds x.patch))=false:=all_false_of hlt hx
   rw[if_pos hy]
  ·refine walk ?_
   have hx:allIn (ids s) (rNeeds s[k].patch)=true:=nnot h
   have hy: ∀ i (h:i < s.length),i < k+1→allIn (ids s) (rNeeds s[i].patch)=true:=fun i hi hik=>by
    rcases Nat.lt_or_ge i k with h'|h'
    ·exact he i hi h'
    ·have e:i=k:=by omega
     subst e;exact hx
   exact⟨k+1,⟨by omega,hy⟩,by dsimp only;omega,⟨rfl,rfl,rfl⟩,.refl _⟩
 have hB:s.all (fun x=>allIn (ids s) (rNeeds x.patch))=true:=all_true_of fun i h=>he i h (by omega)
 rw[if_neg (by simp[hB])]
 clear he hB hk hc
 refine walk ?_
 refine pwp_condD (fun h=>?_) (fun h=>?_)
 ·refine walk ?_
  refine end1 (.of_eq ?_)
  rw[if_pos h]
 rw[if_neg h]
 refine walk ?_
 refine pwp_loopS (σ:=Nat) (fun k=>k≤s.length∧ ∀ i (h:i < s.length),i < k→rRefsS s s[i].patch s[i].id=0) (fun k=>s.length - k) (fun k=> [(0,.slice (s.map eSto) t),(8,.raw (.int .i64 k))]) (fun _=>LF) 0 ⟨by simp,by simp⟩ ⟨rfl,rfl⟩ (.refl _) ?_
 rintro k ⟨hk,he⟩
 refine walk ?_
 refine pwp_condD (fun hc=>?_) (fun hc=>?_)
 ·have hlt:k < s.length:=by omega
  refine walk ?_
  refine pwp_condN (fun h2=>?_) (fun h2=>?_)
  ·refine walk ?_
   refine end1 (.of_eq ?_)
   rw[firstErr_at (f:=fun(x:Sto)=>rRefsS s x.patch x.id) hlt he h2]
  ·refine walk ?_
   exact⟨k+1,⟨by omega,upto_succ0 (f:=fun(x:Sto)=>rRefsS s x.patch x.id) he hlt h2⟩,by dsimp only;omega,⟨rfl,rfl⟩,.refl _⟩
 ·refine walk ?_
  refine end1 (.of_eq ?_)
  rw[firstErr_zero (f:=fun(x:Sto)=>rRefsS s x.patch x.id) fun i h=>he i h (by omega)]⟩
theorem goodS_of {s:List Sto} (h:rGreatS s=false):goodS s:=by
 unfold rGreatS at h
 simp only[Bool.or_eq_false_iff,decide_eq_false_iff_not,List.any_eq_false]at h
 obtain⟨⟨h1,h2⟩,_⟩:=h
 refine⟨by omega,fun x hx=>?_⟩
 have:=h1 x (by rw[List.take_of_length_le (by omega)];exact hx)
 exact big_of (by simpa using this)
def rFine (s:List Sto):Bool:=!rGreatS s&&decide (rCheckS s=0)
instance Fine_ct (s:List Sto) (t:Tag):FnC Tryz.prog 10 [.slice (s.map eSto) t] (.raw (.bool (rFine s))):=⟨by
 refine fn_of Tryz.func10 Tryz.ntmps10 rfl (rs:= [.tmp 2]) rfl rfl fun hb LF=>?_
 refine walk ?_
 refine pops_if (fun hp=>?_) (fun hp=>?_)
 ·have i1:Small (goodS s):=⟨goodS_of (by simpa using hp)⟩
  refine walkp ?_
  refine end1 (.of_eq ?_)
  rw[rFine,hp,Bool.true_and]
 ·refine walkp ?_
  refine end1 (.of_eq ?_)
  rw[rFine,hp,Bool.false_and]⟩
end Go.Proofs
namespace Go.Proofs
open Go Go.Q
attribute [local irreducible] pwp pops PCalls OpN
def putS (s:List Sto) (x:Sto):List Sto:=s.takeWhile (fun y=>decide (cmpD y.id x.id < 0))++x::s.dropWhile (fun y=>decide (cmpD y.id x.id < 0))
end Go.Proofs
namespace Go.Proofs
open Go Go.Q
attribute [local irreducible] pwp pops PCalls OpN
theorem endTCT {P:Program} {ρ:Env} {L LF:List Res} {X:PV} {t u s T n b T':Nat} {cs:List PV} {x z:PV} [hT:TAgg P T n] (h:ρ u= .raw (.pointer (some ⟨b,0,none⟩))) (hX:Le (.tuple [x,.agg cs,z]) X) (hx:ρ t=x:=by conv=>lhs;whnf) (hz:ρ s=z:=by conv=>lhs;whnf) (hm:Res.box b T' cs∈L:=by repeat(first|exact List.mem_cons_self|apply List.mem_cons_of_mem)) (hn:cs.length=n:=by simp) (hs:LF.Sublist L:=by repeat(first|exact List.Sublist.refl _|apply List.Sublist.cons)):
  Ret P [.tmp t,.cell u T,.tmp s] (fun r L'=>Le r X∧L'= []) LF .ret ρ L:=⟨trivial,_,[],.cons (.tmp t) (.cons (.cell u T h hm hT.out hn) (.cons (.tmp s) .nil)),hs,by subst hx;subst hz;exact hX,rfl⟩
def rAdd (s:List Sto) (p:Pat):List Sto × Dig × Int:=
 if(rId p).2≠0 then([],Dig.zero,(rId p).2)else
 if(getS s (rId p).1).isSome=true then(if p=(getS s (rId p).1).getD Pat.zero then([],Dig.zero,6)else([],Dig.zero,14))else
 if allIn (ids s) (rNeeds p)=false then([],Dig.zero,19)else if rRefsS s p (rId p).1≠0 then([],Dig.zero,rRefsS s p (rId p).1)else
 if 400≤(s.length:Int)then([],Dig.zero,4)else(putS s ⟨(rId p).1,p⟩,(rId p).1,0)
end Go.Proofs
namespace Go.Proofs
open Go Go.Q
theorem firstErr_eq_zero {α:Type} {f:α→Int} {l:List α} (h:firstErr f l=0): ∀ x∈l,f x=0:=by
 induction l with
 |nil=>intro x hx;cases hx
 |cons y l ih=>
  unfold firstErr at h
  split at h
  ·rename_i h0
   intro x hx
   rcases List.mem_cons.1 hx with rfl|hx
   ·exact h0
   ·exact ih h x hx
  ·rename_i h0;exact absurd h h0
structure Valid (s:List Sto):Prop where
 close:closeS s
 id: ∀ x∈s,(rId x.patch).2=0∧(rId x.patch).1=x.id
 asc:Asc (ids s)
 order:s.length≤(rOrder s).length
 refs: ∀ x∈s,rRefsS s x.patch x.id=0
theorem asc_of_steps: ∀ {l:List Dig},(∀ i (h:i+1 < l.length),Dig.lt l[i] l[i+1])→Asc l
 | [],_=> .nil
 | [x],_=>List.pairwise_singleton _ _
 |x::y::l,h=>by
  have ih:Asc (y::l):=asc_of_steps fun i hi=>by have:=h (i+1) (by simpa using hi);simpa using this
  have h0:=h 0 (by simp)
  simp only[List.getElem_cons_zero,List.getElem_cons_succ]at h0
  refine List.pairwise_cons.2 ⟨fun z hz=>?_,ih⟩
  rcases List.mem_cons.1 hz with rfl|hz
  ·exact h0
  ·exact Dig.lt_trans h0 ((List.pairwise_cons.1 ih).1 z hz)
theorem valid_of {s:List Sto} (h:rFine s=true):Valid s:=by
 unfold rFine at h
 simp only[Bool.and_eq_true,Bool.not_eq_true',decide_eq_true_eq]at h
 obtain⟨hg,hc⟩:=h
 have hgood:=goodS_of hg
 have hl:=hgood.1
 unfold rCheckS at hc
 rw[if_neg (by omega)]at hc
 split at hc
 ·rename_i h0;exact absurd hc h0
 rename_i h1
 have h1:firstErr (rChkE s) (List.range s.length)=0:=Classical.not_not.1 h1
 split at hc
 ·omega
 rename_i h2
 split at hc
 ·omega
 rename_i h3
 have hall: ∀ x∈s,allIn (ids s) (rNeeds x.patch)=true:=by
  have:s.all (fun x=>allIn (ids s) (rNeeds x.patch))=true:=by simpa using h2
  exact fun x hx=>List.all_eq_true.1 this x hx
 have hchk: ∀ i (hi:i < s.length),(rId s[i].patch).2=0∧(rId s[i].patch).1=s[i].id∧(∀ h:0 < i,cmpD (s[i - 1]'(by omega)).id s[i].id < 0):=by
  intro i hi
  have h4:=firstErr_eq_zero h1 i (List.mem_range.2 hi)
  have e0:s.getD i Sto.zero=s[i]:=by simp[List.getD,hi]
  unfold rChkE at h4
  rw[e0]at h4
  split at h4
  ·rename_i h5;exact absurd h4 h5
  rename_i h5
  split at h4
  ·omega
  rename_i h6
  split at h4
  ·omega
  rename_i h7
  have h6:(rId s[i].patch).1=s[i].id:=Classical.not_not.1 h6
  refine⟨Classical.not_not.1 h5,h6,fun hp=>?_⟩
  have e1:s.getD (i - 1) Sto.zero=s[i - 1]'(by omega):=by
   have h':i - 1 < s.length:=by omega
   simp[List.getD,h']
  rw[e1,h6]at h7
  have: ¬0≤cmpD (s[i - 1]'(by omega)).id s[i].id:=fun h8=>h7 ⟨by omega,h8⟩
  omega
 refine⟨⟨hgood,fun x hx d hd=>?_⟩,fun x hx=>?_,?_,by omega,fun x hx=>firstErr_eq_zero hc x hx⟩
 ·have:=List.all_eq_true.1 (hall x hx) d hd
  simpa using this
 ·obtain⟨i,hi,rfl⟩:=List.mem_iff_getElem.1 hx
  exact⟨(hchk i hi).1,(hchk i hi).2.1⟩
 ·refine asc_of_steps fun i hi=>?_
  rw[ids_len]at hi
  have:=(hchk (i+1) hi).2.2 (by omega)
  simpa [ids,Dig.lt]using this
def Ordered (s:List Sto) (out:List Dig):Prop:= ∀ k (h:k < out.length),∃ x∈s,x.id=out[k]∧(∀ d∈rNeeds x.patch,d∈out.take k)∧out[k]∉out.take k
theorem pick_ready {s:List Sto} {out:List Dig}: ∀ (n:Nat),n≤s.length→0≤(List.range n).foldl (rBetter s out) (-1)→
  ∃ x∈s,s.getD ((List.range n).foldl (rBetter s out) (-1)).toNat Sto.zero=x∧ ¬x.id∈out∧allIn out (rNeeds x.patch)=true
 |0,_,h=>by simp at h
 |n+1,hn,h=>by
  rw[foldl_range_succ]at h ⊢
  generalize hk:(List.range n).foldl (rBetter s out) (-1)=k at h ⊢
  unfold rBetter at h ⊢
  split at h
  ·rename_i hc
   rw[if_pos hc]
   have e:s.getD n Sto.zero=s[n]:=by simp[List.getD,show n < s.length by omega]
   rw[e]at hc
   exact⟨s[n],List.getElem_mem _,by simpa using e,hc.1⟩
  ·rename_i hc
   rw[if_neg hc]
   have:=pick_ready (s:=s) (out:=out) n (by omega) (by rw[hk];exact h)
   rw[hk]at this;exact this
theorem rOrd_ordered {s:List Sto}: ∀ (n:Nat) (out:List Dig),Ordered s out→Ordered s (rOrd s n out)
 |0,_,h=>h
 |n+1,out,h=>by
  unfold rOrd
  split
  ·exact h
  ·rename_i hp
   refine rOrd_ordered n _ ?_
   obtain⟨x,hx,e,h1,h2⟩:=pick_ready (s:=s) (out:=out) s.length (Nat.le_refl _) (by unfold rPick at hp;omega)
   have e':s.getD (rPick s out).toNat Sto.zero=x:=e
   rw[e']
   intro k hk
   rw[List.length_append,List.length_singleton]at hk
   by_cases hko:k < out.length
   ·obtain⟨y,hy,q1,q2,q3⟩:=h k hko
    refine⟨y,hy,by rw[List.getElem_append_left hko];exact q1,?_,?_⟩
    ·rw[List.take_append_of_le_length (by omega)];exact q2
    ·rw[List.getElem_append_left hko,List.take_append_of_le_length (by omega)];exact q3
   ·have hke:k=out.length:=by omega
    subst hke
    refine⟨x,hx,by simp,?_,?_⟩
    ·intro d hd
     have:=List.all_eq_true.1 h2 d hd
     simpa using this
    ·simpa using h1
theorem Ordered.nodup {s:List Sto} {out:List Dig} (h:Ordered s out):out.Nodup:=by
 refine List.pairwise_iff_getElem.2 fun i j hi hj hij e=>?_
 obtain⟨_,_,_,_,h3⟩:=h j hj
 exact h3 (e ▸ List.mem_take_iff_getElem.2 ⟨i,by omega,rfl⟩)
theorem ids_nodup {s:List Sto} (h:Asc (ids s)):(ids s).Nodup:=h.nodup
theorem sto_unique {s:List Sto} (h:Asc (ids s)) {x y:Sto} (hx:x∈s) (hy:y∈s) (e:x.id=y.id):x=y:=by
 obtain⟨i,hi,rfl⟩:=List.mem_iff_getElem.1 hx
 obtain⟨j,hj,rfl⟩:=List.mem_iff_getElem.1 hy
 have hn:=ids_nodup h
 have hi':i < (ids s).length:=by rw[ids_len];exact hi
 have hj':j < (ids s).length:=by rw[ids_len];exact hj
 have:(ids s)[i]=(ids s)[j]:=by simpa [ids]using e
 have hp:=List.pairwise_iff_getElem.1 hn
 rcases Nat.lt_trichotomy i j with hij|hij|hij
 ·exact absurd this (hp i j hi' hj' hij)
 ·subst hij;rfl
 ·exact absurd this.symm (hp j i hj' hi' hij)
theorem Ordered.sub {s:List Sto} {out:List Dig} (h:Ordered s out): ∀ d∈out,d∈ids s:=fun d hd=>by
 obtain⟨k,hk,rfl⟩:=List.mem_iff_getElem.1 hd
 obtain⟨x,hx,e,_⟩:=h k hk
 exact List.mem_map.2 ⟨x,hx,e⟩
theorem rOrder_ordered (s:List Sto):Ordered s (rOrder s):=rOrd_ordered _ _ (fun k hk=>absurd hk (Nat.not_lt_zero _))
theorem Valid.mem_order {s:List Sto} (v:Valid s) {d:Dig} (hd:d∈ids s):d∈rOrder s:=by
 by_cases h:d∈rOrder s
 ·exact h
 ·have hn:(d::rOrder s).Nodup:=List.nodup_cons.2 ⟨h,(rOrder_ordered s).nodup⟩
  have:=nodup_len hn (m:=ids s) fun y hy=>by
   rcases List.mem_cons.1 hy with rfl|hy
   ·exact hd
   ·exact(rOrder_ordered s).sub y hy
  have h2:=v.order
  rw[ids_len]at this
  simp only[List.length_cons]at this
  omega
theorem idxOf_le_of {l:List Dig} {i:Nat} (h:i < l.length):l.idxOf l[i]≤i:=by
 induction l generalizing i with
 |nil=>simp at h
 |cons x l ih=>
  cases i with
  |zero=>simp
  |succ i=>
   simp only[List.getElem_cons_succ,List.idxOf_cons]
   have:=ih (by simpa using h)
   cases hb:(x==l[i]'(by simpa using h))with
   |true=>simp
   |false=>simp;omega
def rankS (s:List Sto) (d:Dig):Nat:=(rOrder s).idxOf d
theorem Valid.rank {s:List Sto} (v:Valid s) {x:Sto} (hx:x∈s) {d:Dig} (hd:d∈rNeeds x.patch):rankS s d < rankS s x.id:=by
 have hm:=v.mem_order (List.mem_map.2 ⟨x,hx,rfl⟩)
 have hk:(rOrder s).idxOf x.id < (rOrder s).length:=List.idxOf_lt_length_of_mem hm
 obtain⟨y,hy,e,h1,_⟩:=rOrder_ordered s _ hk
 rw[List.getElem_idxOf]at e
 have:=sto_unique v.asc hy hx e
 subst this
 obtain⟨i,hi,rfl⟩:=List.mem_take_iff_getElem.1 (h1 d hd)
 have h2:=idxOf_le_of (l:=rOrder s) (i:=i) (by omega)
 unfold rankS
 omega
theorem Valid.getS {s:List Sto} (v:Valid s) {x:Sto} (hx:x∈s):getS s x.id=some x.patch:=by
 cases hg:Go.Proofs.getS s x.id with
 |none=>
  exfalso
  have: ∀ (l:List Sto),x∈l→Go.Proofs.getS l x.id≠none:=by
   intro l
   induction l with
   |nil=>intro h;cases h
   |cons y l ih=>
    intro h
    unfold Go.Proofs.getS
    split
    ·simp
    ·rename_i hne
     rcases List.mem_cons.1 h with rfl|h
     ·exact absurd rfl hne
     ·exact ih h
  exact this s hx hg
 |some p=>
  obtain⟨y,hy,e,rfl⟩:=getS_mem hg
  rw[sto_unique v.asc hy hx e]
theorem Valid.ndS {s:List Sto} (v:Valid s) {x:Sto} (hx:x∈s):ndS s x.id=rNeeds x.patch:=by
 unfold Go.Proofs.ndS;rw[v.getS hx];rfl
theorem Valid.mem_clo {s:List Sto} (v:Valid s) {p:Dig} (hp:p∈ids s) (d:Dig):d∈cloS s p↔Q.Reach (Go.Proofs.ndS s) [p] d:=by
 have ha:allIn (ids s) [p]=true:=by simp[allIn,hp]
 unfold cloS rClosure
 rw[if_neg (by simp[ha])]
 exact mem_iterC (U:=ids s) (fun x _ d hd=>v.close.nd x d hd) (fun d hd=>by rw[List.mem_singleton.1 hd];exact hp) (Nat.le_of_eq (ids_len s))
end Go.Proofs
namespace Go.Proofs
open Go Go.Q
attribute [local irreducible] pwp pops PCalls OpN PYield
theorem rMade_ids (c:Chg) (first:Int): ∀ j (h:j < (rMade c first).length),((rMade c first)[j]).id=⟨Dig.zero,first+j⟩:=by
 intro j h
 have key:(∃ x:Atm,rMade c first= [x]∧x.id=⟨Dig.zero,first⟩)∨rMade c first=(List.range c.lines.length).map (rLineA c first)++(List.range (c.lines.length+1)).map (rEdgeA c first):=by
  unfold rMade
  repeat' split
  all_goals first|exact .inl ⟨_,rfl,rfl⟩|exact .inr rfl
 rcases key with ⟨x,e,hx⟩|e
 ·have hj:j=0:=by rw[e]at h;simpa using h
  subst hj
  simp only[e,List.getElem_cons_zero,hx]
  simp
 ·have h2:=h
  simp only[e]at h2 ⊢
  rw[List.getElem_append]
  split
  ·simp[rLineA]
  ·rename_i h3
   simp only[List.length_map,List.length_range]at h3
   simp only[List.getElem_map,List.getElem_range,rEdgeA,List.length_map,List.length_range]
   congr 1
   omega
theorem idsOk_made {own:List Atm} (c:Chg) (h:idsOk own):idsOk (own++rMade c own.length):=by
 intro i hi
 rw[List.getElem_append]
 split
 ·exact h i _
 ·rename_i h3
  rw[rMade_ids]
  congr 1
  omega
theorem rFields_kind {c:Chg} (h:rFields c=0):1≤c.kind∧c.kind≤7:=by
 unfold rFields at h
 split at h
 ·omega
 ·omega
theorem rDeps_nz {l:List Dig} (h:rDeps l=0): ∀ d∈l,d≠Dig.zero:=by
 intro d hd e
 unfold rDeps at h
 split at h
 ·omega
 obtain⟨i,hi,rfl⟩:=List.mem_iff_getElem.1 hd
 have h0:=firstErr_eq_zero h i (by simpa using hi)
 rw[rDepE,if_pos (by simp[List.getD,hi,e])]at h0
 omega
def rEx (p:Pat):List Atm × Str × Int:=if(rCheckP p).2≠0 then([],[],(rCheckP p).2)else if 65536 < ((rEnc p).length:Int)then([],[],4)else((rCheckP p).1,rEnc p,0)
theorem rCheckP_ok {p:Pat} (h:rHead p=0):rCheckP p=rChanges p.changes []:=by rw[checkP_head,if_neg (by simp[h])]
theorem rHead_deps {p:Pat} (h:rHead p=0):rDeps p.deps=0:=by
 unfold rHead at h
 split at h
 ·omega
 split at h
 ·omega
 split at h
 ·omega
 split at h
 ·rename_i h4;exact absurd h h4
 ·rename_i h4;simpa using h4
def box6 (b:Nat) (s:Tag × List Atm) (LF:List Res):List Res:= .box b 120 [.slice (s.2.map eAtm) s.1]:: .tok s.1 s.2.length 172::LF
set_option maxHeartbeats 2000000 in
instance examine_ct (p:Pat) [hs:Small (rBig p=false)]:FnC Tryz.prog 82 [.agg (ePat p)] (.tuple [.slice ((rEx p).1.map eAtm) .ro,.str (rEx p).2.1,.raw (.int .i64 (rEx p).2.2)]):=⟨by
 obtain⟨hg1,hg2,hg3,hg4,hg5⟩:=big_facts hs.out
 refine fn_of Tryz.func82 Tryz.ntmps82 rfl (rs:= [.tmp 2,.tmp 3,.tmp 4]) rfl rfl fun hb LF=>?_
 refine wf ?_
 refine pwp_condN (fun h1=>?_) (fun h1=>?_)
 ·refine wf ?_
  refine end3 ?_
  have e:rCheckP p=([],rHead p):=by rw[checkP_head,if_pos h1]
  have e2:rEx p=([],[],rHead p):=by rw[rEx,e,if_pos h1]
  rw[e2]
  exact .tuple3 (.ros rfl) (.refl _) (.refl _)
 have hH:=rCheckP_ok h1
 refine wfb fun b6=>?_
 refine pwp_tok 172 ?_
 refine pwp_perm (.swap _ _ _) ?_
 refine pwp_loopS (σ:=Nat × Tag × List Atm) (fun k=>k.1≤p.changes.length∧k.2.2.length≤k.1*81∧idsOk k.2.2∧(∀ c∈p.changes.take k.1,1≤c.kind∧c.kind≤7)∧rCheckP p=rChanges (p.changes.drop k.1) k.2.2) (fun k=>p.changes.length - k.1) (fun k=> [(1,.pt (ePat p) 0),(6,.raw (.pointer (some ⟨b6,0,none⟩))),(20,.slice (p.changes.map eChg) .ro),(21,.raw (.int .i64 p.changes.length)),(22,.raw (.int .i64 k.1))]) (fun k=>box6 b6 k.2 LF) (0,.nil,[]) ⟨by simp,by simp,fun i h=>absurd h (by simp),by simp,hH⟩ ⟨rfl,rfl,rfl,rfl,rfl⟩ (.refl _) ?_
 rintro⟨k,v,own⟩ ⟨hk,hlen,hid,hkd,he⟩
 dsimp only at hk hlen hid hkd he
 rw[show box6 b6 (k,v,own).2 LF= .box b6 120 [.slice (own.map eAtm) v]:: .tok v own.length 172::LF from rfl]
 refine wf ?_
 refine pwp_condD (fun hc=>?_) (fun hc=>?_)
 ·have hlt:k < p.changes.length:=by omega
  rw[rChanges_step hlt]at he
  refine wz fun b8=>?_
  refine pwp_freezeD 8 ?_
  refine wf ?_
  refine pwp_condN (fun h2=>?_) (fun h2=>?_)
  ·refine wf ?_
   rw[if_pos h2]at he
   have e2:rEx p=([],[],rFields p.changes[k]):=by rw[rEx,he,if_pos h2]
   refine end3 ?_
   rw[e2]
   exact .tuple3 (.ros rfl) (.refl _) (.refl _)
  rw[if_neg (by simp[h2])]at he
  have hll:p.changes[k].lines.length≤2000:=rFields_lines h2
  have hkk:1≤p.changes[k].kind∧p.changes[k].kind≤7:=rFields_kind h2
  have hmm:=rMade_len p.changes[k] own.length
  have hl40:=(hg5 _ (List.getElem_mem hlt)).lines
  have i1:Small (rFields p.changes[k]=0∧own.length≤100000∧idsOk own):=⟨h2,by omega,hid⟩
  refine wf ?_
  refine pwp_condN (fun h3=>?_) (fun h3=>?_)
  ·refine wf ?_
   rw[if_pos h3]at he
   have e2:rEx p=([],[],rRefs p.changes[k] own):=by rw[rEx,he,if_pos h3]
   refine end3 ?_
   rw[e2]
   exact .tuple3 (.ros rfl) (.refl _) (.refl _)
  rw[if_neg (by simp[h3])]at he
  refine wf ?_
  refine pwp_rangeFunc (made_iter p.changes[k] own.length hkk ⟨hll,by omega,by omega⟩) [41] (σ:=Tag × List Atm) (fun pre s=>s.2=own++pre) (fun _ _=>False) (fun s LF'=>box6 b6 s LF') (v,own) LF ?_ rfl (fun _=>rfl) (by simp) (fun _ _=>rfl) (.refl _) (by simp) ?_ ?_ (fun _ _ h=>h.elim)
  ·exact .refl _
  ·rintro pre x ⟨v1,own1⟩ LF' hpre hI
   dsimp only at hI
   have hpl:=hpre.length_le
   have hol:own1.length≤90000:=by
    rw[hI,List.length_append]
    rw[List.length_append,List.length_singleton]at hpl
    omega
   rw[show box6 b6 (v1,own1) LF'= .box b6 120 [.slice (own1.map eAtm) v1]:: .tok v1 own1.length 172::LF' from rfl]
   refine wz fun b11=>?_
   refine pwp_freezeD 11 ?_
   refine wfa fun v2=>?_
   exact⟨(v2,own1++ [x]),by dsimp only;rw[hI,List.append_assoc],.refl _⟩
  ·rintro⟨v1,own1⟩ hI
   dsimp only at hI
   refine wf ?_
   refine⟨(k+1,v1,own1),⟨by dsimp only;omega,?_,?_,?_,?_⟩,by dsimp only;omega,⟨rfl,rfl,rfl,rfl,rfl⟩,.refl _⟩
   ·dsimp only
    rw[hI,List.length_append];omega
   ·dsimp only
    rw[hI];exact idsOk_made _ hid
   ·dsimp only
    intro c hcm
    rw[List.take_succ_eq_append_getElem hlt]at hcm
    rcases List.mem_append.1 hcm with h|h
    ·exact hkd c h
    ·rw[List.mem_singleton.1 h];exact hkk
   ·dsimp only
    rw[hI];exact he
 have hkk:k=p.changes.length:=by omega
 rw[List.drop_eq_nil_of_le (by omega)]at he
 rw[List.take_of_length_le (by omega)]at hkd
 have he':rCheckP p=(own,0):=he
 have i1:Small (encOkP p):=⟨⟨encOk_of hs.out,rDeps_nz (rHead_deps h1),hkd⟩⟩
 refine wf ?_
 have h0: ¬(rCheckP p).2≠0:=by rw[he'];simp
 refine pwp_condD (fun h=>?_) (fun h=>?_)
 ·refine wf ?_
  have e2:rEx p=([],[],4):=by rw[rEx,if_neg h0,if_pos h]
  refine end3 ?_
  rw[e2]
  exact .tuple3 (.ros rfl) (.refl _) (.refl _)
 ·refine wf ?_
  have e2:rEx p=(own,rEnc p,0):=by rw[rEx,if_neg h0,if_neg h,he']
  refine end3 ?_
  rw[e2]
  exact .tuple3 (.ros rfl) (.refl _) (.refl _)⟩
end Go.Proofs
namespace Go.Proofs
open Go Go.Q
attribute [local irreducible] pwp pops PCalls OpN
theorem rEx_err (p:Pat):(rEx p).2.2=(rEncodeP p).2:=by
 unfold rEx rEncodeP rEncode
 split
 ·rfl
 ·split<;>rfl
theorem rEx_str (p:Pat):(rEx p).2.1=(rEncodeP p).1:=by
 unfold rEx rEncodeP rEncode
 split
 ·rfl
 ·split<;>rfl
instance CheckPP_ct (p:Pat) [hs:Small (rBig p=false)]:FnC Tryz.prog 47 [.agg (ePat p)] (.raw (.int .i64 (rEncodeP p).2)):=⟨by
 refine fn_of Tryz.func47 Tryz.ntmps47 rfl (rs:= [.tmp 2]) rfl rfl fun hb LF=>?_
 refine wf ?_
 refine end1 (.of_eq ?_)
 rw[←rEx_err]⟩
instance EncodePP_ct (p:Pat) [hs:Small (rBig p=false)]:FnC Tryz.prog 96 [.agg (ePat p)] (.tuple [.str (rEncodeP p).1,.raw (.int .i64 (rEncodeP p).2)]):=⟨by
 refine fn_of Tryz.func96 Tryz.ntmps96 rfl (rs:= [.tmp 2,.tmp 3]) rfl rfl fun hb LF=>?_
 refine wf ?_
 refine end2 ?_
 rw[←rEx_err,←rEx_str]
 exact .refl _⟩
end Go.Proofs
namespace Go.Proofs
open Go Go.Q
attribute [local irreducible] pwp pops PCalls OpN
def vDig (d:Dig):List Value:=bcs d.bs
instance :RawE eDig vDig:=⟨fun d=>by simp[eDig,vDig,bcs,eU8];intro a _;rfl,fun d x hx=>by
 obtain⟨b,_,rfl⟩:=List.mem_map.1 hx;rfl⟩
instance :TRw Tryz.prog 31 25 32 32:=⟨by
 have h2:(Tryz.prog.info? 25).map (fun i=>(i.size,i.bytes,i.zero.isSome,(i.zero.getD undef).cells.size))=some (32,32,true,32):=by kernel_rfl
 obtain⟨i,hi,e⟩:=Option.map_eq_some_iff.1 h2
 simp only[Prod.mk.injEq]at e
 obtain⟨e1,e2,e3,e4⟩:=e
 obtain⟨z,hz⟩:=Option.isSome_iff_exists.1 e3
 rw[hz]at e4
 exact⟨i,z,by kernel_rfl,hi,e1,e2,hz,e4,by decide,by decide⟩⟩
abbrev DRow (v:Value) (l:List Dig) (R:List Res):Prop:=RowL vDig 25 32 v l R
theorem cloneD_fn (l:List Dig) (t:Tag) (hl:l.length≤1000000):PCalls Tryz.prog 48 [.slice (l.map eDig) t] [] (fun r L'=> ∃ v,r= .raw v∧DRow v l L'):=by
 refine pcalls_bd Tryz.func48 rfl Tryz.ntmps48 (rs:= [.tmp 2]) rfl rfl fun hb LF=>?_
 rw[List.nil_append]
 refine wf ?_
 refine s_eqNil rfl fun b hnil=>?_
 refine wf ?_
 refine pwp_condB (fun h=>?_) (fun h=>?_)
 ·have h0:l= []:=by simpa using hnil h
  subst h0
  refine pwp_seq ?_
  refine pwp_region (by kernel_rfl) ?_
  refine s_assign ?_
  refine pops_nil ?_
  refine wf ?_
  exact⟨trivial,_,[],.cons (.tmp 2) .nil,.refl _,_,rfl,.nil none (by simp)⟩
 refine pwp_skip ?_
 refine pwp_seq ?_
 refine pwp_region (by kernel_rfl) ?_
 refine s_bsRow (vf:=vDig) fun v0 hv0=>?_
 refine wf ?_
 refine s_appRow (f:=eDig) (R:= []) (LF:=LF) (fun R'=>R'++LF) rfl rfl hv0 (.refl _) (fun R'=> .refl _) (by simp only[List.length_nil];omega) (by simp only[List.length_nil];omega) fun v R' hv=>?_
 refine wf ?_
 refine wf ?_
 rw[List.nil_append]at hv
 exact⟨trivial,_,R',.cons (.tmp 2) .nil,.refl _,v,rfl,hv⟩
end Go.Proofs
namespace Go.Proofs
open Go Go.Q
attribute [local irreducible] pwp pops PCalls OpN
def dStep (acc:List Dig) (x:Dig):List Dig:=if acc.getLast? =some x then acc else acc++ [x]
def ded (l:List Dig):List Dig:=l.foldl dStep []
theorem ded_snoc (l:List Dig) (x:Dig):ded (l++ [x])=if(ded l).getLast? =some x then ded l else ded l++ [x]:=by rw[ded,List.foldl_append];rfl
theorem ded_last (l:List Dig):(ded l).getLast? =l.getLast?:=by
 rcases List.eq_nil_or_concat l with rfl|⟨m,x,rfl⟩
 ·rfl
 ·rw[List.concat_eq_append,ded_snoc]
  split
  ·rename_i h;rw[h];simp
  ·simp
theorem ded_take {l:List Dig} {j:Nat} (h0:0 < j) (h:j < l.length):ded (l.take (j+1))=if l[j]=l[j - 1]then ded (l.take j)else ded (l.take j)++ [l[j]]:=by
 rw[List.take_succ_eq_append_getElem h,ded_snoc,ded_last]
 have:(l.take j).getLast? =some l[j - 1]:=by
  rw[List.getLast?_eq_getElem?,List.length_take,Nat.min_eq_left (by omega),List.getElem?_take,if_pos (by omega)]
  simp
 rw[this]
 by_cases e:l[j]=l[j - 1]
 ·rw[if_pos (by rw[e]),if_pos e]
 ·rw[if_neg (fun h=>e (by injection h with h;exact h.symm)),if_neg e]
theorem vDig_len (d:Dig):(vDig d).length=32:=by
 have:(eDig d).length=32:=by simp
 rw[(inferInstance:RawE eDig vDig).out]at this
 simpa using this
theorem zero37: ∀ i z,Tryz.prog.info? 25=some i→i.zero=some z→ ∀ x∈z.cells,x.oneCell'=true:=by
 have h:(Tryz.prog.info? 25).map (fun i=>(i.zero.getD undef).cells.all (·.oneCell'))=some true:=by kernel_rfl
 intro i z hi hz x hx
 rw[hi]at h
 simp only[Option.map_some,hz,Option.getD_some,Option.some.injEq,Array.all_eq_true_iff_forall_mem]at h
 exact h x hx
theorem take_rows (l:List Dig) (k:Nat) (h:k≤l.length) (rest:List Value):(l.flatMap vDig++rest).take (k*32)=(l.take k).flatMap vDig:=by
 have e:(l.flatMap vDig++rest)=(l.take k).flatMap vDig++((l.drop k).flatMap vDig++rest):=by
  rw[←List.append_assoc,←List.flatMap_append,List.take_append_drop]
 rw[e]
 refine List.take_left' ?_
 rw[len_raws (f:=eDig) (sz:=32),List.length_take,Nat.min_eq_left h]
set_option maxHeartbeats 2000000 in
theorem compact_fn (l:List Dig) (v:Value) (R:List Res) (hv:DRow v l R) (hl:l.length≤1000000):PCalls Tryz.prog 53 [.raw v] R (fun r L'=>r= .slice ((ded l).map eDig) .ro∧L'= []):=by
 refine pcalls_bd Tryz.func53 rfl Tryz.ntmps53 (rs:= [.tmp 2]) rfl rfl fun hb LF=>?_
 have hmx: ∀ m:List Dig,m.length≤l.length→m.length≤maxN∧m.length*32≤maxN:=fun m h=>by
  have:maxN=140737488355328:=rfl
  omega
 obtain⟨o,c,rfl⟩:=hv.slice
 refine wf ?_
 refine s_lenR rfl ?_
 refine wf ?_
 refine pwp_condD (fun h1=>?_) (fun h1=>?_)
 ·refine pwp_seq ?_
  refine pwp_region (by kernel_rfl) ?_
  refine s_moveN (by(conv=>lhs;whnf);done) ?_
  refine s_assign ?_
  refine pops_nil ?_
  have e:ded l=l:=by
   match l,h1 with
   | [],_=>rfl
   | [x],_=>rfl
   |_::_::_,h=>simp at h;omega
  refine pwp_freezeRow (f:=eDig) 2 hv (hmx l (Nat.le_refl _)) (.refl _) rfl ?_
  refine wf ?_
  exact⟨trivial,_,[],.cons (.tmp 2) .nil,.refl _,by rw[e];exact⟨rfl,rfl⟩⟩
 have hne:l≠ []:=fun e=>by subst e;exact h1 (by simp)
 obtain⟨_,r,cur,rest,rfl,rfl,hcur,hsz,hlc⟩:=hv.inv hne
 refine wf ?_
 refine pwp_loopS (σ:=Nat) (fun k=>1≤k∧k≤l.length∧ded (l.take k)=l.take k) (fun k=>l.length - k) (fun k=> [(0,.raw (.slice (some ⟨r,0,none⟩) l.length c)),(3,.raw (.int .i64 (k:Int)))]) (fun _=> [.raw r (.cells cur 25 (0,0))]++LF) 1 ⟨by omega,by omega,?_⟩ ⟨rfl,rfl⟩ (.refl _) ?_
 ·match l,h1 with
  | [],_=>rfl
  |x::_,_=>rfl
 rintro k ⟨hk1,hk,he⟩
 refine wf ?_
 refine s_lenR rfl ?_
 refine wf ?_
 refine pwp_condD (fun hc=>?_) (fun hc=>?_)
 ·have hlt:k < l.length:=by omega
  refine wn ?_
  refine pwp_drawN 10 ?_ ?_
  ·decide+kernel
  refine wf ?_
  refine s_ixRow (k:=k) rfl rfl hlt ?_
  refine s_ldRow (f:=eDig) (a0:=l[k]) rfl List.mem_cons_self (by rw[hcur,Nat.zero_add];exact row_at vDig_len l k hlt rest) (by omega) ?_
  refine wf ?_
  refine s_ixRow (k:=k - 1) rfl (by show PV.raw (Value.int .i64 ((k:Int) - 1))=PV.raw (Value.int .i64 ((k - 1:Nat):Int));congr 2;omega) (by omega) ?_
  refine s_ldRow (f:=eDig) (a0:=l[k - 1]) rfl List.mem_cons_self (by rw[hcur,Nat.zero_add];exact row_at vDig_len l (k - 1) (by omega) rest) (by omega) ?_
  refine wf ?_
  have hd:=ded_take (l:=l) (j:=k) (by omega) hlt
  refine pwp_condD (fun h2=>?_) (fun h2=>?_)
  ·rw[if_pos h2]at hd
   refine pwp_seq ?_
   refine pwp_region (by kernel_rfl) ?_
   refine s_moveN (by(conv=>lhs;whnf);done) ?_
   refine s_moveN (by(conv=>lhs;whnf);done) ?_
   refine s_cutRow k l.length rfl (by omega) (Nat.le_refl _) (by omega) hlc (fun o e=>by cases e;exact⟨_,rfl⟩) (by simp) (by simp) (fun _=>rfl) ?_
   refine wf ?_
   refine pwp_loopS (σ:=Nat × Nat × List Dig × Array Value) (fun j=>1≤j.1∧k+j.1≤l.length∧1≤j.2.1∧j.2.1+1≤k+j.1∧j.2.2.1.length=l.length∧j.2.2.1.take j.2.1=ded (l.take (k+j.1))∧(∀ i,k+j.1≤i+1→j.2.2.1[i]? =l[i]?)∧j.2.2.2.toList=j.2.2.1.flatMap vDig++rest∧j.2.2.2.size=c*32) (fun j=>l.length - k - j.1) (fun j=> [(0,.raw (.slice (some ⟨r,0,none⟩) l.length c)),(3,.raw (.int .i64 (j.2.1:Int))),(4,.raw (.slice (some ⟨r,0+k*32,none⟩) (l.length - k) (c - k))),(5,.raw (.int .i64 (j.1:Int)))]) (fun j=> [.raw r (.cells j.2.2.2 25 (0,0))]++LF) (1,k,l,cur) ⟨by omega,by dsimp only;omega,by dsimp only;omega,by dsimp only;omega,rfl,by dsimp only;rw[hd,he],fun _ _=>rfl,hcur,hsz⟩ ⟨rfl,rfl,rfl,rfl⟩ (.refl _) ?_
   rintro⟨k2,kk,l1,cur1⟩ ⟨i1,i2,i3,i4,i5,i6,i7,i8,i9⟩
   dsimp only at i1 i2 i3 i4 i5 i6 i7 i8 i9 ⊢
   refine wf ?_
   refine s_lenR rfl ?_
   refine wf ?_
   refine pwp_condD (fun hc2=>?_) (fun hc2=>?_)
   ·have hlt2:k+k2 < l.length:=by omega
    have g1:l1[k+k2]'(by omega)=l[k+k2]:=by
     have:=i7 (k+k2) (by omega)
     rw[List.getElem?_eq_getElem (by omega),List.getElem?_eq_getElem hlt2]at this
     exact Option.some.inj this
    have g2:l1[k+(k2 - 1)]'(by omega)=l[k+k2 - 1]:=by
     have:=i7 (k+(k2 - 1)) (by omega)
     rw[List.getElem?_eq_getElem (by omega),List.getElem?_eq_getElem (by omega)]at this
     have e:=Option.some.inj this
     rw[e]
     congr 1
     omega
    have hd2:=ded_take (l:=l) (j:=k+k2) (by omega) hlt2
    refine wn ?_
    refine pwp_drawN 10 ?_ ?_
    ·decide+kernel
    refine wf ?_
    refine s_ixRow (k:=k2) rfl rfl (by omega) ?_
    refine s_ldRow (f:=eDig) (a0:=l[k+k2]) rfl List.mem_cons_self (by rw[i8,show 0+k*32+k2*32=(k+k2)*32 by omega,row_at vDig_len l1 (k+k2) (by omega) rest,g1]) (by omega) ?_
    refine wf ?_
    refine s_ixRow (k:=k2 - 1) rfl (by show PV.raw (Value.int .i64 ((k2:Int) - 1))=PV.raw (Value.int .i64 ((k2 - 1:Nat):Int));congr 2;omega) (by omega) ?_
    refine s_ldRow (f:=eDig) (a0:=l[k+k2 - 1]) rfl List.mem_cons_self (by rw[i8,show 0+k*32+(k2 - 1)*32=(k+(k2 - 1))*32 by omega,row_at vDig_len l1 (k+(k2 - 1)) (by omega) rest,g2]) (by omega) ?_
    refine wf ?_
    refine pwp_condN (fun h3=>?_) (fun h3=>?_)
    ·rw[if_neg h3]at hd2
     refine wf ?_
     refine s_ixRow (k:=k2) rfl rfl (by omega) ?_
     refine s_ldRow (f:=eDig) (a0:=l[k+k2]) rfl List.mem_cons_self (by rw[i8,show 0+k*32+k2*32=(k+k2)*32 by omega,row_at vDig_len l1 (k+k2) (by omega) rest,g1]) (by omega) ?_
     refine wf ?_
     refine s_ixRow (k:=kk) rfl rfl (by omega) ?_
     refine s_stRow (f:=eDig) (a0:=l[k+k2]) (E:=25) (cur:=cur1) (L':=LF) (fun x=> [x]++LF) rfl rfl (vDig_len _) (by omega) (.refl _) (fun _=> .refl _) ?_
     refine wf ?_
     refine wf ?_
     have hset:(l1.set kk l[k+k2]).take (kk+1)=l1.take kk++ [l[k+k2]]:=by
      rw[List.take_succ_eq_append_getElem (by simp;omega)]
      congr 1
      ·rw[List.take_set_of_le (by omega)]
      ·simp
     have hcl:(cur1.toList.take (0+kk*32)++vDig l[k+k2]++cur1.toList.drop (0+kk*32+32))=(l1.set kk l[k+k2]).flatMap vDig++rest:=by
      rw[i8,Nat.zero_add];exact flat_set vDig_len l1 kk (by omega) _ rest
     refine⟨(k2+1,kk+1,l1.set kk l[k+k2],(cur1.toList.take (0+kk*32)++vDig l[k+k2]++cur1.toList.drop (0+kk*32+32)).toArray),⟨by dsimp only;omega,by dsimp only;omega,by dsimp only;omega,by dsimp only;omega,by dsimp only;rw[List.length_set];exact i5,by dsimp only;rw[hset,i6,←Nat.add_assoc,hd2],fun i hi=>?_,hcl,?_⟩,by dsimp only;omega,⟨rfl,rfl,rfl,rfl⟩,.refl _⟩
     ·dsimp only at hi ⊢
      rw[List.getElem?_set_ne (by omega)]
      exact i7 i (by omega)
     ·dsimp only
      have hv32:=vDig_len l[k+k2]
      simp only[List.size_toArray,List.length_append,List.length_take,List.length_drop,Array.length_toList,hv32]
      omega
    ·rw[if_pos h3]at hd2
     refine wf ?_
     refine⟨(k2+1,kk,l1,cur1),⟨by dsimp only;omega,by dsimp only;omega,i3,by dsimp only;omega,i5,by dsimp only;rw[i6,←Nat.add_assoc,hd2],fun i hi=>i7 i (by dsimp only at hi;omega),i8,i9⟩,by dsimp only;omega,⟨rfl,rfl,rfl,rfl⟩,.refl _⟩
   have hkk:k+k2=l.length:=by omega
   rw[hkk,List.take_of_length_le (Nat.le_refl _)]at i6
   refine wf ?_
   refine s_cutRow kk l.length rfl (by omega) (Nat.le_refl _) (by omega) hlc (fun o e=>by cases e;exact⟨_,rfl⟩) (by simp) (by simp) (fun _=>rfl) ?_
   refine s_clearRow (E:=25) (cur:=cur1) (L':=LF) zero37 (fun x=> [x]++LF) rfl (by omega) (by omega) (.refl _) (fun _=> .refl _) fun zs hzs=>?_
   refine pops_nil ?_
   refine pwp_seq ?_
   refine pwp_region (by kernel_rfl) ?_
   refine s_moveN (by(conv=>lhs;whnf);done) ?_
   refine s_moveN (by(conv=>lhs;whnf);done) ?_
   refine s_cutRow 0 kk rfl (by omega) (by omega) (by omega) hlc (by simp) (fun _=>rfl) (fun o e=>by cases e;exact⟨_,rfl⟩) (by simp) ?_
   refine s_assign ?_
   refine pops_nil ?_
   have hlk:(l1.take kk).length=kk:=by rw[List.length_take,Nat.min_eq_left (by omega)]
   have hrow:RowL vDig 25 32 (.slice (some ⟨r,0,none⟩) (l1.take kk).length c) (l1.take kk) [.raw r (.cells (cur1.toList.take (0+kk*32)++zs++cur1.toList.drop (0+kk*32+(l.length - kk)*32)).toArray 25 (0,0))]:=by
    refine RowL.mk (rest:=zs++cur1.toList.drop (0+kk*32+(l.length - kk)*32)) vDig_len ?_ ?_ (by rw[hlk];omega)
    ·simp only[List.append_assoc]
     rw[Nat.zero_add,i8,take_rows l1 kk (by omega)]
    ·simp only[List.size_toArray,List.length_append,List.length_take,List.length_drop,Array.length_toList,hzs]
     omega
   refine pwp_freezeRow (f:=eDig) 2 hrow (hmx _ (by rw[hlk];omega)) (.refl _) (by
    show PV.raw (Value.slice (some ⟨r,0+0*32,none⟩) (kk - 0) (c - 0))=_
    rw[hlk];simp) ?_
   refine wf ?_
   exact⟨trivial,_,[],.cons (.tmp 2) .nil,.refl _,by rw[←i6];exact⟨rfl,rfl⟩⟩
  ·rw[if_neg h2]at hd
   refine wf ?_
   refine⟨k+1,⟨by omega,by omega,?_⟩,by dsimp only;omega,⟨rfl,rfl⟩,.refl _⟩
   rw[hd,he,←List.take_succ_eq_append_getElem hlt]
 have hkk:k=l.length:=by omega
 rw[List.take_of_length_le (by omega)]at he
 refine pwp_exit ?_
 refine pwp_seq ?_
 refine pwp_region (by kernel_rfl) ?_
 refine s_moveN (by(conv=>lhs;whnf);done) ?_
 refine s_assign ?_
 refine pops_nil ?_
 refine pwp_freezeRow (f:=eDig) 2 hv (hmx l (Nat.le_refl _)) (.refl _) rfl ?_
 refine wf ?_
 exact⟨trivial,_,[],.cons (.tmp 2) .nil,.refl _,by rw[he];exact⟨rfl,rfl⟩⟩
end Go.Proofs
namespace Go.Q
open Go Go.Proofs Go.Sort
theorem flatMap_at {α:Type} {k:Nat} (hk0:0 < k) {enc:α→List Value} (hk: ∀ x,(enc x).length=k): ∀ (l:List α) (t:Nat),(l.flatMap enc)[t]? =(l[t / k]?).bind fun x=>(enc x)[t % k]?
 | [],t=>by simp
 |x::l,t=>by
  rw[List.flatMap_cons]
  by_cases h:t < k
  ·rw[List.getElem?_append_left (by rw[hk];exact h),Nat.div_eq_of_lt h,Nat.mod_eq_of_lt h]
   simp
  ·rw[List.getElem?_append_right (by rw[hk];omega),hk,flatMap_at hk0 hk l (t - k)]
   have e1:t / k=(t - k) / k+1:=by
    rw[Nat.div_eq_sub_div hk0 (by omega)]
   have e2:t % k=(t - k) % k:=Nat.mod_eq_sub_mod (by omega)
   rw[e1,e2]
   simp
theorem flatK_eq {α:Type} [Inhabited α] {k:Nat} (hk0:0 < k) {enc:α→List Value} (hk: ∀ x,(enc x).length=k) (l:List α):(flatK enc k l.toArray).toList=l.flatMap enc:=by
 refine List.ext_getElem? fun t=>?_
 rw[flatMap_at hk0 hk]
 by_cases h:t < l.length*k
 ·have h1:t / k < l.length:=Nat.div_lt_of_lt_mul (by rw[Nat.mul_comm];exact h)
  have h2:t % k < k:=Nat.mod_lt _ hk0
  have h3:t < (flatK enc k l.toArray).toList.length:=by simpa using h
  rw[List.getElem?_eq_getElem h3,List.getElem?_eq_getElem h1]
  simp only[Option.bind_some]
  rw[List.getElem?_eq_getElem (by rw[hk];exact h2)]
  congr 1
  have:=get_flatK enc k l.toArray t (by simpa using h)
  simp only[Array.getElem_toList]
  rw[getElem!_pos _ t (by simpa using h)]at this
  rw[this]
  simp[h1,getElem!_pos,hk,h2]
 ·rw[List.getElem?_eq_none (by simpa using h)]
  have: ¬t / k < l.length:=fun h'=>h (by
   have:=Nat.lt_mul_of_div_lt h' hk0
   first|exact this|(rw[Nat.mul_comm];exact this))
  rw[List.getElem?_eq_none (by omega)]
  rfl
section
variable {α:Type} [Inhabited α] {enc:α→List Value} {k:Nat} {w:World} {r:Nat} {cur:Array Value} {E:Nat}
theorem sortWorld_row (h:w.heap[r]? =some (.cells cur E (0,0))) (m:Nat) (dk:Array α) (os:Array Obj):(sortWorldK enc k w r 0 m dk os).heap[r]? =some (.cells (putCells id 0 (flatK enc k dk) cur) E (0,0)):=by
 have hlt:=(Array.getElem?_eq_some_iff.1 h).1
 show((w.heap.modify r (onCells (putCells id 0 (flatK enc k dk))))++os)[r]? =_
 rw[Array.getElem?_append_left (by simpa using hlt),Array.getElem?_modify,if_pos rfl,h]
 rfl
theorem sortWorld_other (m:Nat) (dk:Array α) (os:Array Obj): ∀ b,b < w.heap.size→b≠r→(sortWorldK enc k w r 0 m dk os).heap[b]? =w.heap[b]?:=fun b hb hn=>by
 show((w.heap.modify r (onCells (putCells id 0 (flatK enc k dk))))++os)[b]? =_
 rw[Array.getElem?_append_left (by simpa using hb),Array.getElem?_modify,if_neg (Ne.symm hn)]
theorem sortWorld_size (m:Nat) (dk:Array α) (os:Array Obj):w.heap.size≤(sortWorldK enc k w r 0 m dk os).heap.size:=by
 show _≤((w.heap.modify r (onCells (putCells id 0 (flatK enc k dk))))++os).size
 simp
theorem putCells_take (F:Array Value) (h:F.size≤cur.size):(putCells id 0 F cur).toList.take F.size=F.toList:=by
 refine List.ext_getElem (by simp[putCells];omega) fun j h1 h2=>?_
 have hj:j < F.size:=by simpa using h2
 simp[putCells,hj]
end
theorem Inv.laterBut {w w':World} {g:Gh} {L:List Res} {r:Nat} (hi:Inv w g L) (hH: ∀ o,g.H r o=none) (hM:g.M r=none) (hr:r∉blocks L) (hk: ∀ k,k < w.heap.size→k≠r→w'.heap[k]? =w.heap[k]?):Inv w' g L:=by
 refine⟨fun b i v h=>?_,fun b z h=>(hi.satM b z h).congr (hk b (hi.satM b z h).lt (fun e=>by rw[e,hM]at h;cases h)),fun r' hr'=>?_,hi.nodup,hi.glob⟩
 ·have h0:=hi.sat b i v h
  have hb:b < w.heap.size:=by
   rcases Nat.lt_or_ge b w.heap.size with h'|h'
   ·exact h'
   ·simp[World.cell?,Array.getElem?_eq_none h']at h0
  simp only[World.cell?]at h0 ⊢
  rw[hk b hb (fun e=>by rw[e,hH]at h;cases h)];exact h0
 ·exact Res.holds_kept (.refl g) (hi.res r' hr') fun b hb=>⟨hk b (hi.lt (List.mem_filterMap.2 ⟨r',hr',hb⟩)) (fun e=>hr (List.mem_filterMap.2 ⟨r',hr',by rw[hb,e]⟩)),fun _=>rfl,rfl⟩
theorem grown_eq {w w':World} (h1:w'.os=w.os) (h2:w'.tape=w.tape) (h3:w'.output=w.output) (h4:w.drawn≤w'.drawn) (h5:w.heap.size≤w'.heap.size) (hk: ∀ k,k < w.heap.size→w'.heap[k]? =w.heap[k]?): ∃ q os,w'=grow (w.drewN q) os:=by
 refine⟨w'.drawn - w.drawn,w'.heap.extract w.heap.size w'.heap.size,?_⟩
 have hh:w'.heap=w.heap++w'.heap.extract w.heap.size w'.heap.size:=by
  refine Array.ext_getElem? fun i=>?_
  by_cases hi:i < w.heap.size
  ·rw[Array.getElem?_append_left hi,hk i hi]
  ·rw[Array.getElem?_append_right (by omega)]
   by_cases h6:i < w'.heap.size
   ·rw[Array.getElem?_eq_getElem h6,Array.getElem?_eq_getElem (by simp;omega)]
    simp
    congr 1
    omega
   ·rw[Array.getElem?_eq_none (by omega),Array.getElem?_eq_none (by simp;omega)]
 have hd:w'.drawn=w.drawn+(w'.drawn - w.drawn):=by omega
 obtain⟨⟩:=w'
 obtain⟨⟩:=w
 simp only at h1 h2 h3 hh hd
 subst h1 h2 h3
 simp only[grow,World.drewN]
 rw[←hh,←hd]
end Go.Q
