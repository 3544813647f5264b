/- Contracts of the program: slices.SortFunc on a row of digests. -/
import Derived.Test.YtmkdlelpipefbaaGreatDoorUal
import Derived.Test.YtmkdlelpipefbaaGreatDoorUai
import Derived.Test.YtmkdlelpipefbaaGreatDoorUaj
import Derived.Shelf.SlGeneric
import Derived.Ground.SlsfProg
import Derived.Test.YtmkdlelpipefbaaGreatDoorUag
import Derived.Maps.RangeRun
set_option linter.unusedSimpArgs false
set_option linter.unusedVariables false
namespace Go.Proofs
open Go Go.Q Go.Shelf Go.Sort
attribute [local irreducible] pwp pops OpN
instance :Inhabited Dig:=⟨Dig.zero⟩
theorem swoD:SWO (ltOf cmpD) where
 irrefl x:=by
  unfold ltOf
  exact decide_eq_false (fun h=>Dig.lt_irrefl x h)
 trans x y z h1 h2:=by
  unfold ltOf at*
  exact decide_eq_true (Dig.lt_trans (of_decide_eq_true h1) (of_decide_eq_true h2))
 ntrans x y z h1 h2:=by
  unfold ltOf at*
  refine decide_eq_false fun h=>?_
  have h1:=of_decide_eq_false h1
  have h2:=of_decide_eq_false h2
  rcases Dig.tri x y with h'|h'|h'
  ·exact h1 h'
  ·subst h';exact h2 h
  ·rcases Dig.tri y z with h3|h3|h3
   ·exact h2 h3
   ·subst h3;exact h1 h
   ·exact Dig.lt_irrefl x (Dig.lt_trans h (Dig.lt_trans h3 h'))
def sortD (l:List Dig):List Dig:=l.mergeSort fun x y=>!(ltOf cmpD) y x
theorem cmp_lays {w:World} {g:Gh} {r n E:Nat} {cur:Array Value} (hi:Inv w g []) (h1:w.heap[r]? =some (.cells cur E (0,0))) (h2: ∀ o,g.H r o=none) (h3:g.M r=none):CmpLays Tryz.prog 52 #[] vDig 32 cmpD r 0 n w:=by
 intro m os dk hdk x y
 have hI:Inv (sortWorldK vDig 32 w r 0 m dk os) g []:=hi.laterBut h2 h3 (by simp[blocks]) (fun k hk hn=>sortWorld_other m dk os k hk hn)
 have hv:VRl g [.agg (vDig x).toArray,.agg (vDig y).toArray] [.agg (eDig x),.agg (eDig y)]:=by
  have e: ∀ d:Dig,VR g (.agg (vDig d).toArray) (.agg (eDig d)):=fun d=>by
   rw[(inferInstance:RawE eDig vDig).out]
   have:VRl g (vDig d) ((vDig d).map PV.raw):=⟨by simp,fun i h1 h2=>by simp;exact .raw _⟩
   exact this.agg
  exact .cons (e x) (.cons (e y) (.nil g))
 have:=(pCompare_ct x y).out _ (sortWorldK vDig 32 w r 0 m dk os) g [] hv hI
 refine Calls.mono this ?_
 rintro e w' ⟨v,x',g',L',rfl,k1,k2,k3,k4,rfl,rfl⟩
 refine⟨by rw[k1.raw_inv],?_⟩
 exact grown_eq k3.os k3.tape k3.output.1 k3.output.2 k3.size (fun k hk=>k3.keep k hk (by simp[blocks]))
theorem sort_fn (l:List Dig) (v:Value) (R:List Res) (hv:DRow v l R) (hl:l.length≤1000000):PCalls Tryz.prog 51 [.raw v,.raw (.func (.func 52) #[] #[])] R (fun _ L'=> ∃ v',v'=v∧DRow v' (sortD l) L'):=fun vs w g LF hvs hi=>by
 obtain⟨v1,v2,rfl⟩: ∃ a b,vs= [a,b]:=by
  have:=hvs.len
  match vs,this with
  | [a,b],_=>exact⟨a,b,rfl⟩
 rw[hvs.uncons.1.raw_inv,hvs.uncons.2.uncons.1.raw_inv]
 obtain⟨o,c,rfl⟩:=hv.slice
 by_cases hne:l= []
 ·subst hne
  refine(AnyF.slices_SortFunc_none Tryz.sortD o c _ w).mono ?_
  rintro e w' ⟨rfl,rfl⟩
  exact⟨_,.raw (.tuple #[]),g,R,rfl,.raw _,hi,.refl _ _ _,.refl _ _,_,rfl,by simpa [sortD]using hv⟩
 obtain⟨_,r,cur,rest,rfl,rfl,hcur,hsz,hlc⟩:=hv.inv hne
 obtain⟨k1,k2,k3,k4,k5⟩:=hi.rawHead
 have hlt:r < w.heap.size:=(Array.getElem?_eq_some_iff.1 k1).1
 have hF:(flatK vDig 32 l.toArray).toList=l.flatMap vDig:=flatK_eq (by decide) vDig_len l
 have hH:HoldsK vDig 32 w r 0 l.toArray:=fun j hj=>by
  have hj2:j < l.length*32:=by simpa using hj
  refine⟨?_,by simp[World.frozen?,k1]⟩
  have hj3:j < cur.size:=by omega
  simp only[World.cell?,k1,Option.isSome_none,Bool.false_eq_true,if_false,Nat.zero_add]
  rw[getElem!_pos _ j hj]
  have e1:cur.toList[j]? =(flatK vDig 32 l.toArray).toList[j]?:=by
   rw[hcur,hF,List.getElem?_append_left (by rw[len_raws (f:=eDig) (sz:=32)];exact hj2)]
  rw[Array.getElem?_toList,Array.getElem?_toList,Array.getElem?_eq_getElem hj]at e1
  exact e1
 refine(AnyQ.slices_SortFunc_total Tryz.sortD 32 (fun w=>?_) (fun w=>TSz.run (inferInstance:TSz Tryz.prog 25 32 32) w) vDig vDig_len (fun x v h=>(inferInstance:RawE eDig vDig).one x v h) cmpD swoD 52 #[] r 0 c l.toArray w (fun args w=>(inferInstance:TFun Tryz.prog 52).out args w) (cmp_lays (hi.sub (List.nil_sublist _)) k1 k2 k3) hH hlt (by simp;omega) ?_).mono ?_
 ·have hu:Tryz.prog.underlying 25=some (.array 32 5):=by kernel_rfl
  show(isAgg 25).run Tryz.prog w=_
  simp[isAgg,run_underlying hu]
 ·intro x y h1 h2
  unfold ltOf at h1 h2
  have h1:=of_decide_eq_false h1
  have h2:=of_decide_eq_false h2
  rcases Dig.tri x y with h'|h'|h'
  ·exact absurd h' h1
  ·exact h'
  ·exact absurd h' h2
 ·rintro e w' ⟨rfl,n,os,rfl⟩
  have hlen:(sortD l).length=l.length:=List.length_mergeSort _
  have hFs:(flatK vDig 32 (sortD l).toArray).toList=(sortD l).flatMap vDig:=flatK_eq (by decide) vDig_len (sortD l)
  have hFz:(flatK vDig 32 (sortD l).toArray).size=l.length*32:=by simp[hlen]
  have htk:=putCells_take (cur:=cur) (flatK vDig 32 (sortD l).toArray) (by omega)
  have hrow:RowL vDig 25 32 (.slice (some ⟨r,0,none⟩) (sortD l).length c) (sortD l) [.raw r (.cells (putCells id 0 (flatK vDig 32 (sortD l).toArray) cur) 25 (0,0))]:=by
   refine RowL.mk (rest:=(putCells id 0 (flatK vDig 32 (sortD l).toArray) cur).toList.drop (l.length*32)) vDig_len ?_ (by simp[putCells,hsz]) (by omega)
   rw[←hFs,←htk,hFz,List.take_append_drop]
  rw[hlen]at hrow
  refine⟨_,.raw (.tuple #[]),g,[.raw r (.cells (putCells id 0 (flatK vDig 32 (sortD l).toArray) cur) 25 (0,0))],rfl,.raw _,?_,⟨rfl,rfl,⟨rfl,Nat.le_add_right _ _⟩,sortWorld_size n _ os,fun b hb hn=>sortWorld_other n _ os b hb (fun e=>hn (by rw[e];simp[blocks,Res.block])),.refl g,fun _ _ _=>⟨fun _=>rfl,rfl⟩⟩,fun b hb _=>by simpa [blocks,Res.block]using hb,_,rfl,hrow⟩
  exact(k5.laterBut k2 k3 k4 (fun k hk hn=>sortWorld_other n _ os k hk hn)).addRaw (sortWorld_row k1 n _ os) k2 k3 k4
end Go.Proofs
namespace Go.Proofs
open Go Go.Q
attribute [local irreducible] pwp pops PCalls OpN
def fgn (rs:List Rfc):List Dig:=(rs.filter fun r=>!decide (r.id.patch=Dig.zero)).map (·.id.patch)
theorem fgn_append (a b:List Rfc):fgn (a++b)=fgn a++fgn b:=by simp[fgn]
theorem fgn_take {rs:List Rfc} {j:Nat} (h:j < rs.length):fgn (rs.take (j+1))=fgn (rs.take j)++(if rs[j].id.patch=Dig.zero then []else [rs[j].id.patch]):=by
 rw[List.take_succ_eq_append_getElem h,fgn_append]
 congr 1
 unfold fgn
 by_cases e:rs[j].id.patch=Dig.zero<;>simp[e]
def nList (p:Pat):List Dig:=p.deps++p.changes.flatMap fun c=>fgn (refsP c)
def nP (p:Pat):List Dig:=if(rEncodeP p).2≠0 then []else ded (sortD (nList p))
set_option maxHeartbeats 1000000 in
theorem needsP_fn (p:Pat) [hs:Small (rBig p=false)]:FnC Tryz.prog 22 [.agg (ePat p)] (.slice ((nP p).map eDig) .ro):=⟨by
 obtain⟨hg1,hg2,hg3,hg4,hg5⟩:=big_facts hs.out
 refine fn_of Tryz.func22 Tryz.ntmps22 rfl (rs:= [.tmp 2]) rfl rfl fun hb LF=>?_
 refine wf ?_
 refine pwp_condN (fun h1=>?_) (fun h1=>?_)
 ·refine wf ?_
  refine end1 (.ros ?_)
  rw[nP,if_pos h1];rfl
 refine wf ?_
 refine s_callR (xs:= [.tmp 12]) [] LF (f:=48) (cs:= []) (le_func _) rfl rfl (.refl _) _ (cloneD_fn p.deps .ro (by omega)) fun r L1 ⟨v0,hr,hv0⟩=>?_
 subst hr
 refine wf ?_
 refine wf ?_
 refine pwp_loopS (σ:=Nat × Value × List Dig × List Res) (fun k=>k.1≤p.changes.length∧k.2.2.1.length≤200+k.1*404∧k.2.2.1=p.deps++(p.changes.take k.1).flatMap (fun c=>fgn (refsP c))∧DRow k.2.1 k.2.2.1 k.2.2.2) (fun k=>p.changes.length - k.1) (fun k=> [(3,.raw k.2.1),(15,.slice (p.changes.map eChg) .ro),(16,.raw (.int .i64 p.changes.length)),(17,.raw (.int .i64 k.1))]) (fun k=>k.2.2.2++LF) (0,v0,p.deps,L1) ⟨by simp,by simpa using hg3,by simp,hv0⟩ ⟨rfl,rfl,rfl,rfl⟩ (.refl _) ?_
 rintro⟨k,v,l,R⟩ ⟨hk,hlen,hl,hv⟩
 dsimp only at hk hlen hl hv
 refine wf ?_
 refine pwp_condD (fun hc=>?_) (fun hc=>?_)
 ·have hlt:k < p.changes.length:=by omega
  have hov:=(hg5 _ (List.getElem_mem hlt)).over
  have i1:Small (p.changes[k].over.length≤400):=⟨by omega⟩
  have hrl:=refsP_len (c:=p.changes[k]) (by omega)
  refine wz fun b5=>?_
  refine pwp_freezeD 5 ?_
  refine wf ?_
  refine pwp_loopS (σ:=Nat × Value × List Dig × List Res) (fun j=>j.1≤(refsP p.changes[k]).length∧j.2.2.1.length≤200+k*404+j.1∧j.2.2.1=l++fgn ((refsP p.changes[k]).take j.1)∧DRow j.2.1 j.2.2.1 j.2.2.2) (fun j=>(refsP p.changes[k]).length - j.1) (fun j=> [(3,.raw j.2.1),(15,.slice (p.changes.map eChg) .ro),(16,.raw (.int .i64 p.changes.length)),(17,.raw (.int .i64 k)),(22,.slice ((refsP p.changes[k]).map eRfc) .ro),(23,.raw (.int .i64 (refsP p.changes[k]).length)),(24,.raw (.int .i64 j.1))]) (fun j=>j.2.2.2++LF) (0,v,l,R) ⟨by simp,by simpa using hlen,by simp[fgn],hv⟩ ⟨rfl,rfl,rfl,rfl,rfl,rfl,rfl⟩ (.refl _) ?_
  rintro⟨j,v1,l1,R1⟩ ⟨hj,hlen1,hl1,hv1⟩
  dsimp only at hj hlen1 hl1 hv1
  refine wf ?_
  refine pwp_condD (fun hd=>?_) (fun hd=>?_)
  ·have hjt:j < (refsP p.changes[k]).length:=by omega
   have ht:=fgn_take hjt
   refine wz fun b7=>?_
   refine pwp_freezeD 7 ?_
   refine wf ?_
   refine pwp_condN (fun h2=>?_) (fun h2=>?_)
   ·rw[if_neg h2]at ht
    refine wf ?_
    refine s_appRow (f:=eDig) (m:= [(refsP p.changes[k])[j].id.patch]) (R:=R1) (LF:=LF) (fun R'=>R'++LF) rfl rfl hv1 (.refl _) (fun R'=> .refl _) (by simp only[List.length_cons,List.length_nil];omega) (by simp only[List.length_cons,List.length_nil];omega) fun v2 R2 hv2=>?_
    refine wf ?_
    refine wf ?_
    refine⟨(j+1,v2,l1++ [(refsP p.changes[k])[j].id.patch],R2),⟨by dsimp only;omega,by simp only[List.length_append,List.length_cons,List.length_nil];omega,?_,hv2⟩,by dsimp only;omega,⟨rfl,rfl,rfl,rfl,rfl,rfl,rfl⟩,.refl _⟩
    dsimp only
    rw[ht,←List.append_assoc,hl1]
   ·rw[if_pos h2,List.append_nil]at ht
    refine wf ?_
    refine⟨(j+1,v1,l1,R1),⟨by dsimp only;omega,by dsimp only;omega,?_,hv1⟩,by dsimp only;omega,⟨rfl,rfl,rfl,rfl,rfl,rfl,rfl⟩,.refl _⟩
    dsimp only
    rw[ht,hl1]
  ·rw[List.take_of_length_le (by omega)]at hl1
   refine wf ?_
   refine⟨(k+1,v1,l1,R1),⟨by dsimp only;omega,by dsimp only;omega,?_,hv1⟩,by dsimp only;omega,⟨rfl,rfl,rfl,rfl⟩,.refl _⟩
   dsimp only
   rw[hl1,hl,List.take_succ_eq_append_getElem hlt,List.flatMap_append,List.append_assoc]
   simp
 rw[List.take_of_length_le (by omega)]at hl
 have hl':l=nList p:=hl
 have hsl:(sortD l).length=l.length:=List.length_mergeSort _
 refine wf ?_
 refine s_callR (xs:= [.tmp 40,.func 52]) R LF (f:=51) (cs:= []) (le_func _) rfl rfl (.refl _) _ (sort_fn l v R hv (by omega)) fun r L2 ⟨v2,e2,hv2⟩=>?_
 subst e2
 refine wf ?_
 refine wf ?_
 refine s_callR (xs:= [.tmp 42]) L2 LF (f:=53) (cs:= []) (le_func _) rfl rfl (.refl _) _ (compact_fn (sortD l) v2 L2 hv2 (by omega)) fun r L3 ⟨hr,hL3⟩=>?_
 subst hr
 subst hL3
 refine wf ?_
 refine wf ?_
 refine end1 (.ros ?_)
 rw[nP,if_neg (by simp[h1]),←hl']⟩
end Go.Proofs
namespace Go.Proofs
open Go Go.Q Go.Sort
theorem sortD_sorted (l:List Dig):(sortD l).Pairwise fun x y=> ¬Dig.lt y x:=by
 have h:=List.pairwise_mergeSort (le:=fun x y=>!(ltOf cmpD) y x) (fun a b c h1 h2=>by
  simp only[Bool.not_eq_true',ltOf,decide_eq_false_iff_not]at h1 h2 ⊢
  intro h3
  have h1: ¬Dig.lt b a:=h1
  have h2: ¬Dig.lt c b:=h2
  have h3:Dig.lt c a:=h3
  rcases Dig.tri a b with h|h|h
  ·exact h2 (Dig.lt_trans h3 h)
  ·subst h;exact h2 h3
  ·exact h1 h) (fun a b=>by
  simp only[Bool.or_eq_true,Bool.not_eq_true',ltOf,decide_eq_false_iff_not]
  by_cases h:Dig.lt b a
  ·exact .inr (Dig.lt_asymm h)
  ·exact .inl h) l
 refine h.imp fun {a b} hab=>?_
 simp only[Bool.not_eq_true',ltOf,decide_eq_false_iff_not]at hab
 exact hab
theorem ded_facts {l:List Dig} (h:l.Pairwise fun x y=> ¬Dig.lt y x): ∀ j,j≤l.length→Asc (ded (l.take j))∧ ∀ d,d∈ded (l.take j)↔d∈l.take j:=by
 intro j
 induction j with
 |zero=>intro _;exact⟨Asc.nil,fun d=>by simp[ded]⟩
 |succ j ih=>
  intro hj
  obtain⟨i1,i2⟩:=ih (by omega)
  have hlt:j < l.length:=by omega
  by_cases h0:j=0
  ·subst h0
   have e:l.take 1= [l[0]]:=by
    rw[List.take_succ_eq_append_getElem hlt];rfl
   rw[e]
   exact⟨List.pairwise_singleton _ _,fun d=>Iff.rfl⟩
  rw[ded_take (by omega) hlt]
  by_cases e:l[j]=l[j - 1]
  ·rw[if_pos e]
   refine⟨i1,fun d=>?_⟩
   rw[i2,List.take_succ_eq_append_getElem hlt]
   simp only[List.mem_append,List.mem_singleton]
   refine⟨.inl,fun h=>h.elim id fun h=>?_⟩
   rw[h,e]
   exact List.mem_take_iff_getElem.2 ⟨j - 1,by omega,rfl⟩
  ·rw[if_neg e]
   refine⟨?_,fun d=>?_⟩
   ·refine List.pairwise_append.2 ⟨i1,List.pairwise_singleton _ _,fun a ha b hb=>?_⟩
    rw[List.mem_singleton.1 hb]
    obtain⟨i,hi,rfl⟩:=List.mem_take_iff_getElem.1 ((i2 a).1 ha)
    have hp:=List.pairwise_iff_getElem.1 h
    have h3: ¬Dig.lt l[j] l[j - 1]:=hp (j - 1) j (by omega) hlt (by omega)
    have h4:Dig.lt l[j - 1] l[j]:=by
     rcases Dig.tri l[j - 1] l[j]with h'|h'|h'
     ·exact h'
     ·exact absurd h'.symm e
     ·exact absurd h' h3
    by_cases h5:i=j - 1
    ·subst h5;exact h4
    ·have h6: ¬Dig.lt l[j - 1] l[i]:=hp i (j - 1) (by omega) (by omega) (by omega)
     rcases Dig.tri l[i] l[j - 1]with h'|h'|h'
     ·exact Dig.lt_trans h' h4
     ·rw[h'];exact h4
     ·exact absurd h' h6
   ·rw[List.take_succ_eq_append_getElem hlt]
    simp only[List.mem_append,i2]
theorem nS_asc (l:List Dig):Asc (ded (sortD l)):=by
 have:=(ded_facts (sortD_sorted l) (sortD l).length (Nat.le_refl _)).1
 rwa [List.take_length]at this
theorem nS_mem (l:List Dig) (d:Dig):d∈ded (sortD l)↔d∈l:=by
 have:=(ded_facts (sortD_sorted l) (sortD l).length (Nat.le_refl _)).2 d
 rw[List.take_length]at this
 rw[this]
 exact List.mem_mergeSort
theorem mem_rForeign {l:List Ident} {d:Dig}:d∈rForeign l↔ ∃ x∈l,x.patch≠Dig.zero∧x.patch=d:=by
 unfold rForeign
 simp only[List.mem_map,List.mem_filter,Bool.not_eq_true',decide_eq_false_iff_not]
 constructor
 ·rintro⟨x,⟨h1,h2⟩,h3⟩;exact⟨x,h1,h2,h3⟩
 ·rintro⟨x,h1,h2,h3⟩;exact⟨x,⟨h1,h2⟩,h3⟩
theorem fgn_eq (rs:List Rfc):fgn rs=rForeign (rs.map Rfc.id):=by
 unfold fgn rForeign
 rw[List.filter_map,List.map_map]
 rfl
theorem unused {c:Chg} (h:rFields c=0):(¬(2≤c.kind∧c.kind≤6)→c.file=Ident.zero)∧(c.kind≠2→c.parent=Ident.zero)∧(¬(c.kind=5∨c.kind=6)→c.after=Ident.zero∧c.before=Ident.zero):=by
 unfold rFields at h
 split at h
 ·omega
 split at h
 ·omega
 rename_i h2
 simp only[Bool.not_eq_false,rEmpty,Bool.and_eq_true,decide_eq_true_eq]at h2
 obtain⟨⟨⟨⟨⟨⟨⟨⟨⟨a1,_⟩,a2⟩,_⟩,_⟩,_⟩,a3⟩,a4⟩,_⟩,_⟩:=h2
 refine⟨fun h=>?_,fun h=>?_,fun h=>⟨?_,?_⟩⟩
 ·have a:(if 2≤c.kind∧c.kind≤6 then Ident.zero else c.file)=Ident.zero:=a1
  rwa [if_neg h]at a
 ·have a:(if c.kind=2 then Ident.zero else c.parent)=Ident.zero:=a2
  rwa [if_neg h]at a
 ·have a:(if c.kind=5∨c.kind=6 then Ident.zero else c.after)=Ident.zero:=a3
  rwa [if_neg h]at a
 ·have a:(if c.kind=5∨c.kind=6 then Ident.zero else c.before)=Ident.zero:=a4
  rwa [if_neg h]at a
theorem refs_mem {c:Chg} (h:rFields c=0) (d:Dig):d∈fgn (refsP c)↔d∈rForeign (rIds c):=by
 obtain⟨u1,u2,u3⟩:=unused h
 have hz:Ident.zero.patch=Dig.zero:=rfl
 rw[fgn_eq,mem_rForeign,mem_rForeign]
 have key: ∀ x:Ident,x.patch≠Dig.zero→(x∈(refsP c).map Rfc.id↔x∈rIds c):=fun x hx=>by
  have hk:=rFields_kind h
  have e4: ∀ l:List Ident,(refs4 c l).map Rfc.id=l:=fun l=>by
   rw[refs4,List.map_map]
   show l.map (fun x=>x)=l
   simp
  unfold refsP rIds
  simp only[List.map_append,e4,List.mem_append,List.mem_cons,List.not_mem_nil,or_false]
  have n1:x=Ident.zero→False:=fun e=>hx (by rw[e];rfl)
  have n2:x=⟨Dig.zero,-1⟩→False:=fun e=>hx (by rw[e])
  rcases kinds hk with k|k|k|k|k|k|k<;>simp only[refs1,refs2,refs3,k]at u1 u2 u3 ⊢ <;>simp<;>grind
 constructor
 ·rintro⟨x,h1,h2,h3⟩;exact⟨x,(key x h2).1 h1,h2,h3⟩
 ·rintro⟨x,h1,h2,h3⟩;exact⟨x,(key x h2).2 h1,h2,h3⟩
theorem rChanges_fields: ∀ (l:List Chg) (own:List Atm),(rChanges l own).2=0→ ∀ c∈l,rFields c=0
 | [],_,_,c,hc=>by cases hc
 |x::l,own,h,c,hc=>by
  rw[rChanges]at h
  split at h
  ·rename_i h1;exact absurd h h1
  rename_i h1
  split at h
  ·rename_i h2;exact absurd h h2
  rcases List.mem_cons.1 hc with rfl|hc
  ·simpa using h1
  ·exact rChanges_fields l _ h c hc
theorem needs_mem: ∀ (cs:List Chg) (m:List Dig) (d:Dig),d∈cs.foldl rNeedsC m↔d∈m∨ ∃ c∈cs,d∈rForeign (rIds c)
 | [],m,d=>by simp
 |c::cs,m,d=>by
  rw[List.foldl_cons,needs_mem cs,rNeedsC,mem_withAll]
  simp only[List.mem_cons,exists_eq_or_imp,or_assoc]
theorem needs_asc: ∀ (cs:List Chg) (m:List Dig),Asc m→Asc (cs.foldl rNeedsC m)
 | [],m,h=>h
 |c::cs,m,h=>needs_asc cs _ (withAll_asc h)
theorem nP_eq (p:Pat):nP p=rNeeds p:=by
 unfold nP rNeeds
 by_cases h:(rEncodeP p).2≠0
 ·rw[if_pos h,if_pos h]
 rw[if_neg h,if_neg h]
 have h0:(rCheckP p).2=0:=by
  by_cases h1:(rCheckP p).2≠0
  ·rw[rEncodeP,if_pos h1]at h;exact absurd h1 h
  ·simpa using h1
 have hF: ∀ c∈p.changes,rFields c=0:=by
  rw[checkP_head]at h0
  split at h0
  ·rename_i h1;exact absurd h0 h1
  ·exact rChanges_fields _ _ h0
 refine Asc.ext (nS_asc _) (needs_asc _ _ (withAll_asc Asc.nil)) fun d=>?_
 rw[nS_mem,needs_mem,mem_withAll,nList]
 simp only[List.mem_append,List.mem_flatMap,List.not_mem_nil,false_or]
 constructor
 ·rintro(h|⟨c,hc,h⟩)
  ·exact .inl h
  ·exact .inr ⟨c,hc,(refs_mem (hF c hc) d).1 h⟩
 ·rintro(h|⟨c,hc,h⟩)
  ·exact .inl h
  ·exact .inr ⟨c,hc,(refs_mem (hF c hc) d).2 h⟩
instance NeedsP_ct (p:Pat) [hs:Small (rBig p=false)]:FnC Tryz.prog 22 [.agg (ePat p)] (.slice ((rNeeds p).map eDig) .ro):=nP_eq p ▸ needsP_fn p
end Go.Proofs
namespace Go.Proofs
open Go Go.Q
attribute [local irreducible] pwp pops PCalls OpN
def gr (s:List Sto):List (Dig × List Dig):=s.foldl (fun m x=>mSet x.id (rNeeds x.patch) m) []
theorem gr_take {s:List Sto} {k:Nat} (h:k < s.length):gr (s.take (k+1))=mSet s[k].id (rNeeds s[k].patch) (gr (s.take k)):=by
 rw[List.take_succ_eq_append_getElem h,gr,List.foldl_append];rfl
instance graphOf_ct (s:List Sto) (t:Tag) [hs:Small (goodS s)]:FnC Tryz.prog 39 [.slice (s.map eSto) t] (.fmap (eMap kDig (vSl eDig) (gr s))):=⟨by
 have hs:=hs.out
 refine fn_of Tryz.func39 Tryz.ntmps39 rfl (rs:= [.tmp 2]) rfl rfl fun hb LF=>?_
 refine wfm fun b=>?_
 refine pwp_loopS (σ:=Nat) (fun k=>k≤s.length) (fun k=>s.length - k) (fun k=> [(3,.raw (.map (some b))),(7,.slice (s.map eSto) t),(8,.raw (.int .i64 s.length)),(9,.raw (.int .i64 k))]) (fun k=> .map b (eMap kDig (vSl eDig) (gr (s.take k)))::LF) 0 (by simp) ⟨rfl,rfl,rfl,rfl⟩ (.refl _) ?_
 intro k hk
 refine wf ?_
 refine pwp_condD (fun hc=>?_) (fun hc=>?_)
 ·have hlt:k < s.length:=by omega
  have h8:=hs.1
  have:Small (rBig s[k].patch=false):=⟨hs.2 _ (List.getElem_mem hlt)⟩
  refine wz fun b5=>?_
  refine pwp_freezeD 5 ?_
  refine wn ?_
  refine pwp_drawN 6 ?_ ?_
  ·decide+kernel
  refine wf ?_
  refine⟨k+1,by omega,by dsimp only;omega,⟨rfl,rfl,rfl,rfl⟩,?_⟩
  dsimp only
  rw[gr_take hlt]
  exact .refl _
 ·refine pwp_exit ?_
  rw[List.take_of_length_le (by omega)]
  refine pwp_freezeM [(3,.fmap (eMap kDig (vSl eDig) (gr s)))] (.inr ⟨rfl,rfl⟩) (.refl _) ?_
  refine wf ?_
  exact end1 (.refl _)⟩
end Go.Proofs
namespace Go.Proofs
open Go Go.Q
attribute [local irreducible] pwp pops PCalls OpN
def addO (out l:List Dig):List Dig:=l.foldl (fun o d=>if d∈o then o else o++ [d]) out
theorem addO_take {out l:List Dig} {k:Nat} (h:k < l.length):addO out (l.take (k+1))=if l[k]∈addO out (l.take k)then addO out (l.take k)else addO out (l.take k)++ [l[k]]:=by
 rw[List.take_succ_eq_append_getElem h,addO,List.foldl_append];rfl
theorem addO_len (out:List Dig): ∀ l:List Dig,(addO out l).length≤out.length+l.length:=by
 intro l
 induction l generalizing out with
 |nil=>simp[addO]
 |cons x l ih=>
  have:=ih (if x∈out then out else out++ [x])
  rw[addO,List.foldl_cons]
  refine Nat.le_trans this ?_
  split<;>simp<;>omega
def MetOk (met:List (Dig × Bool)) (out:List Dig):Prop:= ∀ d,(mGet d met).getD false=decide (d∈out)
theorem MetOk.add {met:List (Dig × Bool)} {out:List Dig} (h:MetOk met out) (d:Dig):MetOk (mSet d true met) (out++ [d]):=fun x=>by
 rw[mGet_mSet]
 by_cases e:x=d
 ·subst e;simp
 ·rw[if_neg e,h x];simp[e]
def Coll (b6 m b7:Nat) (out:List Dig) (L:List Res):Prop:= ∃ met v R,MetOk met out∧DRow v out R∧L= .box b6 68 [.raw (.map (some m))]:: .map m (eMap kDig vBool met):: .box b7 31 [.raw v]::R
theorem perm_three {a b c:Res} {L LF:List Res}:(a::b::c::(L++LF)).Perm (L++(a::b::c::LF)):=((List.perm_middle (l₁:=L)).trans (.cons a ((List.perm_middle (l₁:=L)).trans (.cons b List.perm_middle)))).symm
def allG (G:List (Dig × List Dig)) (l:List Dig):Bool:=l.all fun d=>(mGet d G).isSome
set_option maxHeartbeats 400000 in
theorem coll_fn (G:List (Dig × List Dig)) (l:List Dig) (t:Tag) (b6 m b7:Nat) (out:List Dig) (L:List Res) (hL:Coll b6 m b7 out L) (hb:out.length+l.length≤1000):
  PCalls Tryz.prog 79 [.slice (l.map eDig) t,.pt [.fmap (eMap kDig (vSl eDig) G)] 0,.raw (.pointer (some ⟨b6,0,none⟩)),.raw (.pointer (some ⟨b7,0,none⟩))] L (fun r L'=>r= .raw (.bool (allG G l))∧ ∃ out',Coll b6 m b7 out' L'∧(allG G l=true→out'=addO out l)):=by
 refine pcalls_bd Tryz.func79 rfl Tryz.ntmps79 (rs:= [.tmp 5]) rfl rfl fun hbd LF=>?_
 refine wf ?_
 refine pwp_loopS (σ:=Nat × List Res) (fun k=>k.1≤l.length∧(∀ i (h:i < l.length),i < k.1→(mGet l[i] G).isSome=true)∧Coll b6 m b7 (addO out (l.take k.1)) k.2) (fun k=>l.length - k.1) (fun k=> [(1,.pt [.fmap (eMap kDig (vSl eDig) G)] 0),(2,.raw (.pointer (some ⟨b6,0,none⟩))),(3,.raw (.pointer (some ⟨b7,0,none⟩))),(10,.slice (l.map eDig) t),(11,.raw (.int .i64 l.length)),(12,.raw (.int .i64 k.1))]) (fun k=>k.2++LF) (0,L) ⟨by simp,by simp,hL⟩ ⟨rfl,rfl,rfl,rfl,rfl,rfl⟩ (.refl _) ?_
 rintro⟨k,L1⟩ ⟨hk,hall,met,v,R,hm,hv,rfl⟩
 dsimp only at hk hall hm hv ⊢
 refine wf ?_
 refine pwp_condD (fun hc=>?_) (fun hc=>?_)
 ·have hlt:k < l.length:=by omega
  refine wz fun b=>?_
  refine pwp_freezeD 7 ?_
  refine wf ?_
  refine pwp_condB (fun h=>?_) (fun h=>?_)
  ·have h0:(mGet l[k] G).isSome=false:=by simpa using h
   have hA:allG G l=false:=by
    unfold allG
    exact List.all_eq_false.2 ⟨l[k],List.getElem_mem hlt,by simp[h0]⟩
   refine wf ?_
   exact⟨trivial,_,_,.cons (.tmp 5) .nil,.refl _,by rw[hA];exact rfl,_,⟨met,v,R,hm,hv,rfl⟩,fun h=>by rw[hA]at h;cases h⟩
  have hi:(mGet l[k] G).isSome=true:=by simpa using h
  have hall': ∀ i (h:i < l.length),i < k+1→(mGet l[i] G).isSome=true:=fun i hi' hik=>by
   rcases Nat.lt_or_ge i k with h'|h'
   ·exact hall i hi' h'
   ·have e:i=k:=by omega
    subst e;exact hi
  refine wf ?_
  have hml:=hm l[k]
  have ht:=addO_take (out:=out) hlt
  refine pwp_condB (fun h=>?_) (fun h=>?_)
  ·have hno:l[k]∉addO out (l.take k):=by
    rw[hml]at h;simpa using h
   rw[if_neg hno]at ht
   have hol:=addO_len out (l.take k)
   rw[List.length_take]at hol
   refine wf ?_
   refine s_mapUpd (κ:=Dig) (ek:=kDig) (ev:=vBool) (k0:=l[k]) (x0:=true) (L':= .box b6 68 [.raw (.map (some m))]:: .box b7 31 [.raw v]::(R++LF)) rfl (.swap _ _ _) (.refl _) (.refl _) ?_
   refine pops_nil ?_
   refine pwp_perm (.swap _ _ _) ?_
   refine wf ?_
   refine s_appRow (f:=eDig) (m:= [l[k]]) (R:=R) (LF:= .box b6 68 [.raw (.map (some m))]:: .map m (eMap kDig vBool (mSet l[k] true met)):: .box b7 31 [.raw v]::LF) (fun R'=> .box b6 68 [.raw (.map (some m))]:: .map m (eMap kDig vBool (mSet l[k] true met)):: .box b7 31 [.raw v]::(R'++LF)) rfl rfl hv perm_three (fun R'=>perm_three.symm) (by simp only[List.length_cons,List.length_nil];omega) (by simp only[List.length_cons,List.length_nil];omega) fun v2 R2 hv2=>?_
   refine wf ?_
   refine s_storeV [.raw v2] rfl rfl hv2.one rfl (by simp) ?_
   refine wf ?_
   refine wf ?_
   refine⟨(k+1,_),⟨by dsimp only;omega,hall',mSet l[k] true met,v2,R2,?_,?_,rfl⟩,by dsimp only;omega,⟨rfl,rfl,rfl,rfl,rfl,rfl⟩,.refl _⟩
   ·dsimp only;rw[ht];exact hm.add _
   ·dsimp only;rw[ht];exact hv2
  ·have hyes:l[k]∈addO out (l.take k):=by
    rw[hml]at h;simpa using h
   rw[if_pos hyes]at ht
   refine wf ?_
   exact⟨(k+1,_),⟨by dsimp only;omega,hall',met,v,R,by dsimp only;rw[ht];exact hm,by dsimp only;rw[ht];exact hv,rfl⟩,by dsimp only;omega,⟨rfl,rfl,rfl,rfl,rfl,rfl⟩,.refl _⟩
 ·have hA:allG G l=true:=by
   unfold allG
   refine List.all_eq_true.2 fun d hd=>?_
   obtain⟨i,hi,rfl⟩:=List.mem_iff_getElem.1 hd
   exact hall i hi (by omega)
  refine wf ?_
  rw[List.take_of_length_le (by omega)]at hm hv
  exact⟨trivial,_,_,.cons (.tmp 5) .nil,.refl _,by rw[hA];exact rfl,_,⟨met,v,R,hm,hv,rfl⟩,fun _=>rfl⟩
end Go.Proofs
namespace Go.Proofs
open Go Go.Q
def ndG (G:List (Dig × List Dig)) (d:Dig):List Dig:=(mGet d G).getD []
theorem addO_cons (out:List Dig) (x:Dig) (l:List Dig):addO out (x::l)=addO (if x∈out then out else out++ [x]) l:=rfl
theorem mem_addO: ∀ {l out:List Dig} {d:Dig},d∈addO out l↔d∈out∨d∈l
 | [],out,d=>by simp[addO]
 |x::l,out,d=>by
  rw[addO_cons,mem_addO]
  split
  ·rename_i h
   constructor
   ·rintro(h1|h1)
    ·exact .inl h1
    ·exact .inr (List.mem_cons_of_mem _ h1)
   ·rintro(h1|h1)
    ·exact .inl h1
    ·rcases List.mem_cons.1 h1 with rfl|h1
     ·exact .inl h
     ·exact .inr h1
  ·simp[or_assoc]
theorem addO_nodup: ∀ {l out:List Dig},out.Nodup→(addO out l).Nodup
 | [],_,h=>h
 |x::l,out,h=>by
  rw[addO_cons]
  refine addO_nodup ?_
  split
  ·exact h
  ·rename_i hx
   refine List.pairwise_append.2 ⟨h,List.pairwise_singleton _ _,fun a ha b hb=>?_⟩
   rw[List.mem_singleton.1 hb]
   rintro rfl
   exact hx ha
theorem addO_prefix: ∀ {l out:List Dig},out <+:addO out l
 | [],_=>List.prefix_refl _
 |x::l,out=>by
  rw[addO_cons]
  refine List.IsPrefix.trans ?_ addO_prefix
  split
  ·exact List.prefix_refl _
  ·exact List.prefix_append _ _
structure ClI (nd:Dig→List Dig) (l out:List Dig) (i:Nat):Prop where
 nodup:out.Nodup
 sub: ∀ d∈l,d∈out
 reach: ∀ d∈out,Q.Reach nd l d
 done: ∀ j (h:j < out.length),j < i→ ∀ d∈nd out[j],d∈out
theorem ClI.start (nd:Dig→List Dig) (l:List Dig):ClI nd l (addO [] l) 0:=
 ⟨addO_nodup .nil,fun d hd=>mem_addO.2 (.inr hd),fun d hd=> .base ((mem_addO.1 hd).elim (fun h=>absurd h (by simp)) id),fun _ _ h=>absurd h (by omega)⟩
theorem ClI.step {nd:Dig→List Dig} {l out:List Dig} {i:Nat} (h:ClI nd l out i) (hi:i < out.length):ClI nd l (addO out (nd out[i])) (i+1):=by
 refine⟨addO_nodup h.nodup,fun d hd=>mem_addO.2 (.inl (h.sub d hd)),fun d hd=>?_,fun j hj hji d hd=>?_⟩
 ·rcases mem_addO.1 hd with h1|h1
  ·exact h.reach d h1
  ·exact .step (h.reach _ (List.getElem_mem hi)) h1
 ·have hjo:j < out.length:=by omega
  have e:(addO out (nd out[i]))[j]=out[j]:=(addO_prefix.getElem hjo).symm
  rw[e]at hd
  by_cases hj2:j < i
  ·exact mem_addO.2 (.inl (h.done j hjo hj2 d hd))
  ·have hje:j=i:=by omega
   subst hje
   exact mem_addO.2 (.inr hd)
theorem ClI.fin {nd:Dig→List Dig} {l out:List Dig} {i:Nat} (h:ClI nd l out i) (hi:out.length≤i) (d:Dig):d∈out↔Q.Reach nd l d:=by
 refine⟨h.reach d,fun hr=>?_⟩
 induction hr with
 |base hd=>exact h.sub _ hd
 |step _ hd ih=>
  obtain⟨j,hj,rfl⟩:=List.mem_iff_getElem.1 ih
  exact h.done j hj (by omega) _ hd
theorem ClI.len {nd:Dig→List Dig} {l out U:List Dig} {i:Nat} (h:ClI nd l out i) (hU: ∀ x∈U,∀ d∈nd x,d∈U) (hl: ∀ d∈l,d∈U):out.length≤U.length:=
 nodup_len h.nodup fun d hd=>(h.reach d hd).in_ hU hl
theorem sortD_asc {l:List Dig} (h:l.Nodup):Asc (sortD l):=by
 have h2:(sortD l).Nodup:=(List.mergeSort_perm l _).nodup_iff.2 h
 refine List.pairwise_iff_getElem.2 fun i j hi hj hij=>?_
 have a:=List.pairwise_iff_getElem.1 (sortD_sorted l) i j hi hj hij
 have b:=List.pairwise_iff_getElem.1 h2 i j hi hj hij
 rcases Dig.tri (sortD l)[i] (sortD l)[j]with h'|h'|h'
 ·exact h'
 ·exact absurd h' b
 ·exact absurd h' a
theorem sortD_mem {l:List Dig} {d:Dig}:d∈sortD l↔d∈l:=List.mem_mergeSort
theorem gr_is: ∀ (s:List Sto) (m:List (Dig × List Dig)) (d:Dig),(mGet d (s.foldl (fun m x=>mSet x.id (rNeeds x.patch) m) m)).isSome=(decide (d∈ids s)||(mGet d m).isSome)
 | [],m,d=>by simp[ids]
 |x::s,m,d=>by
  rw[List.foldl_cons,gr_is s,mGet_mSet]
  by_cases e:d=x.id<;>simp[ids,e]
theorem gr_val: ∀ (s:List Sto) (m:List (Dig × List Dig)) (d:Dig) (r:List Dig),mGet d (s.foldl (fun m x=>mSet x.id (rNeeds x.patch) m) m)=some r→(∃ x∈s,x.id=d∧r=rNeeds x.patch)∨mGet d m=some r
 | [],m,d,r,h=> .inr h
 |x::s,m,d,r,h=>by
  rw[List.foldl_cons]at h
  rcases gr_val s _ d r h with ⟨y,hy,h1,h2⟩|h1
  ·exact .inl ⟨y,List.mem_cons_of_mem _ hy,h1,h2⟩
  ·rw[mGet_mSet]at h1
   split at h1
   ·rename_i e
    exact .inl ⟨x,List.mem_cons_self,e.symm,(Option.some.inj h1).symm⟩
   ·exact .inr h1
theorem gr_some (s:List Sto) (d:Dig):(mGet d (gr s)).isSome=decide (d∈ids s):=by
 rw[gr,gr_is];simp[mGet]
theorem Valid.ndG {s:List Sto} (v:Valid s):Go.Proofs.ndG (gr s)=Go.Proofs.ndS s:=by
 funext d
 have h1:=gr_some s d
 unfold Go.Proofs.ndG
 cases hg:mGet d (gr s)with
 |none=>
  rw[hg]at h1
  have hd: ¬d∈ids s:=by simpa using h1
  have hn:Go.Proofs.getS s d=none:=by
   cases hs:Go.Proofs.getS s d with
   |none=>rfl
   |some p=>
    obtain⟨x,hx,e,_⟩:=getS_mem hs
    exact absurd (List.mem_map.2 ⟨x,hx,e⟩) hd
  rw[Go.Proofs.ndS,hn,Option.getD_none,Option.getD_none,needs_zero]
 |some r=>
  rcases gr_val s [] d r hg with ⟨x,hx,e,rfl⟩|h2
  ·subst e
   rw[v.ndS hx];rfl
  ·simp[mGet]at h2
end Go.Proofs
namespace Go.Proofs
open Go Go.Q
attribute [local irreducible] pwp pops PCalls OpN
def clG (G:List (Dig × List Dig)) (U l:List Dig):List Dig × Bool:=if allG G l=false then([],false)else(iterC (ndG G) U.length (withAll [] l),true)
structure GrOk (G:List (Dig × List Dig)) (U:List Dig):Prop where
 is: ∀ d,(mGet d G).isSome=decide (d∈U)
 len:U.length≤100
 cl: ∀ x∈U,∀ d∈ndG G x,d∈U
 nd: ∀ x,(ndG G x).length≤400
theorem GrOk.all {G:List (Dig × List Dig)} {U l:List Dig} (h:GrOk G U):allG G l=true↔ ∀ d∈l,d∈U:=by
 unfold allG
 rw[List.all_eq_true]
 exact⟨fun k d hd=>by have:=k d hd;rw[h.is]at this;exact of_decide_eq_true this,fun k d hd=>by rw[h.is];exact decide_eq_true (k d hd)⟩
theorem zeroRow:ZeroE Tryz.prog 31 [.raw (.slice none 0 0)]:=zero1 (v:= .slice none 0 0) (by kernel_rfl) rfl fun _=> .raw _
set_option maxHeartbeats 1000000 in
theorem reached_fn (G:List (Dig × List Dig)) (U:List Dig) (hG:GrOk G U) (l:List Dig) (t:Tag) (hl:l.length≤400):FnC Tryz.prog 40 [.fmap (eMap kDig (vSl eDig) G),.slice (l.map eDig) t] (.tuple [.slice ((clG G U l).1.map eDig) .ro,.raw (.bool (clG G U l).2)]):=⟨by
 refine fn_of Tryz.func40 Tryz.ntmps40 rfl (rs:= [.tmp 4,.tmp 5]) rfl rfl fun hb LF=>?_
 refine wf ?_
 refine j_makeMap fun m=>?_
 refine s_alloc fun b6=>?_
 refine wf ?_
 refine s_alloc (hZ:=zeroRow) fun b7=>?_
 refine wf ?_
 refine s_callR (xs:= [.tmp 13]) [.box b6 68 [.raw (.map (some m))],.map m (eMap kDig vBool []),.box b7 31 [.raw (.slice none 0 0)]] LF (f:=79) (cs:= [.pt [.fmap (eMap kDig (vSl eDig) G)] 0,.raw (.pointer (some ⟨b6,0,none⟩)),.raw (.pointer (some ⟨b7,0,none⟩))]) (.refl _) rfl rfl (List.perm_middle (l₁:= [_,_])).symm _ (coll_fn G l t b6 m b7 [] _ ⟨[],.slice none 0 0,[],fun d=>by simp[mGet],.nil none (by simp),rfl⟩ (by simp;omega)) fun r L1 ⟨hr,out0,hC,ho⟩=>?_
 subst hr
 refine wf ?_
 refine pwp_condB (fun h=>?_) (fun h=>?_)
 ·have h0:allG G l=false:=by simpa using h
  refine wf ?_
  refine end2 (hs:=List.sublist_append_right _ _) ?_
  rw[clG,if_pos h0]
  exact .tuple2 (.ro _ _) (.refl _)
 have h1:allG G l=true:=by simpa using h
 have hlU:=hG.all.1 h1
 rw[clG,if_neg (by simp[h1])]
 have ho:=ho h1
 subst ho
 refine wf ?_
 refine pwp_loopS (σ:=Nat × List Dig × List Res) (fun k=>k.1≤k.2.1.length∧ClI (ndG G) l k.2.1 k.1∧Coll b6 m b7 k.2.1 k.2.2) (fun k=>U.length - k.1) (fun k=> [(2,.pt [.fmap (eMap kDig (vSl eDig) G)] 0),(7,.raw (.pointer (some ⟨b7,0,none⟩))),(8,.clo 79 [.pt [.fmap (eMap kDig (vSl eDig) G)] 0,.raw (.pointer (some ⟨b6,0,none⟩)),.raw (.pointer (some ⟨b7,0,none⟩))]),(9,.raw (.int .i64 k.1))]) (fun k=>k.2.2++LF) (0,addO [] l,L1) ⟨by simp,ClI.start _ _,hC⟩ ⟨rfl,rfl,rfl,rfl⟩ (.refl _) ?_
 rintro⟨k,out,L2⟩ ⟨hk,hI,met,v,R,hm,hv,rfl⟩
 dsimp only at hk hI hm hv ⊢
 have hol:=hI.len hG.cl hlU
 have hUl:=hG.len
 obtain⟨o,c,rfl⟩:=hv.slice
 refine wf ?_
 refine s_lenR rfl ?_
 refine wf ?_
 refine pwp_condD (fun hc=>?_) (fun hc=>?_)
 ·have hlt:k < out.length:=by omega
  have hne:out≠ []:=fun e=>by subst e;simp at hlt
  obtain⟨_,r,cur,rest,rfl,rfl,hcur,hsz,hlc⟩:=hv.inv hne
  refine wn ?_
  refine pwp_drawN 7 ?_ ?_
  ·decide+kernel
  refine wf ?_
  refine s_ixRow (k:=k) rfl rfl hlt ?_
  refine s_ldRow (f:=eDig) (a0:=out[k]) rfl (List.mem_append_left _ (List.mem_cons_of_mem _ (List.mem_cons_of_mem _ (List.mem_cons_of_mem _ List.mem_cons_self)))) (by rw[hcur,Nat.zero_add];exact row_at vDig_len out k hlt rest) (by omega) ?_
  refine wf ?_
  have hin:out[k]∈U:=(hI.reach _ (List.getElem_mem hlt)).in_ hG.cl hlU
  have hA:allG G (ndG G out[k])=true:=hG.all.2 (hG.cl _ hin)
  have hnd:=hG.nd out[k]
  refine s_callR (xs:= [.tmp 28]) (.box b6 68 [.raw (.map (some m))]:: .map m (eMap kDig vBool met):: .box b7 31 [.raw (.slice (some ⟨r,0,none⟩) out.length c)]:: [.raw r (.cells cur 25 (0,0))]) LF (f:=79) (cs:= [.pt [.fmap (eMap kDig (vSl eDig) G)] 0,.raw (.pointer (some ⟨b6,0,none⟩)),.raw (.pointer (some ⟨b7,0,none⟩))]) (.refl _) rfl rfl (.refl _) _ (coll_fn G (ndG G out[k]) .ro b6 m b7 out _ ⟨met,_,_,hm,hv,rfl⟩ (by omega)) fun r L3 ⟨hr,out1,hC1,ho1⟩=>?_
  have ho1:=ho1 hA
  subst ho1
  refine wf ?_
  refine wf ?_
  have hpl:=(addO_prefix (out:=out) (l:=ndG G out[k])).length_le
  exact⟨(k+1,addO out (ndG G out[k]),L3),⟨by dsimp only;omega,hI.step hlt,hC1⟩,by dsimp only;omega,⟨rfl,rfl,rfl,rfl⟩,.refl _⟩
 have hfin:=hI.fin (by omega)
 have hmx:(sortD out).length≤maxN∧(sortD out).length*32≤maxN:=by
  have:maxN=140737488355328:=rfl
  have h2:(sortD out).length=out.length:=List.length_mergeSort _
  omega
 refine wf ?_
 refine s_callR (xs:= [.tmp 30,.func 52]) R (.box b6 68 [.raw (.map (some m))]:: .map m (eMap kDig vBool met):: .box b7 31 [.raw (.slice o out.length c)]::LF) (f:=51) (cs:= []) (le_func _) rfl rfl perm_three _ (sort_fn out _ R hv (by omega)) fun r L3 ⟨v2,e2,hv2⟩=>?_
 subst e2
 refine pops_nil ?_
 refine pwp_perm perm_three.symm ?_
 refine pwp_seq ?_
 refine pwp_region (by kernel_rfl) ?_
 refine wo ?_
 refine pops_nil ?_
 refine pwp_freezeRow (f:=eDig) 4 hv2 hmx perm_three rfl ?_
 refine wf ?_
 refine end2 ?_
 have e:sortD out=iterC (ndG G) U.length (withAll [] l):=by
  refine Asc.ext (sortD_asc hI.nodup) (iterC_asc (withAll_asc .nil)) fun d=>?_
  rw[sortD_mem,hfin]
  exact(mem_iterC hG.cl hlU (Nat.le_refl _)).symm
 rw[e]
 exact .refl _⟩
theorem rNeeds_asc (p:Pat):Asc (rNeeds p):=by
 unfold rNeeds
 split
 ·exact .nil
 ·exact needs_asc _ _ (withAll_asc .nil)
theorem ndS_asc (s:List Sto) (d:Dig):Asc (ndS s d):=rNeeds_asc _
theorem Valid.grOk {s:List Sto} (v:Valid s):GrOk (gr s) (ids s):=by
 have h8:=v.close.1.1
 refine⟨gr_some s,by rw[ids_len];omega,fun x _ d hd=>?_,fun x=>?_⟩
 ·rw[v.ndG]at hd
  exact v.close.nd x d hd
 ·rw[v.ndG]
  have:=v.close.small (ndS_asc s x) (v.close.nd x)
  omega
theorem Valid.clG {s:List Sto} (v:Valid s) (l:List Dig):(Go.Proofs.clG (gr s) (ids s) l).1=(rClosure s l).1∧(rClosure s l).2=if(Go.Proofs.clG (gr s) (ids s) l).2=false then 7 else 0:=by
 have h1:allG (gr s) l=allIn (ids s) l:=by
  unfold allG allIn
  congr 1
  funext d
  exact gr_some s d
 unfold Go.Proofs.clG rClosure
 rw[h1,v.ndG,ids_len]
 split<;>simp
instance ClosureP_ct (s:List Sto) (l:List Dig) (t u:Tag) [hs:Small (Valid s)] [hl:Small (l.length≤400)]:FnC Tryz.prog 14 [.slice (s.map eSto) t,.slice (l.map eDig) u] (.tuple [.slice ((rClosure s l).1.map eDig) .ro,.raw (.int .i64 (rClosure s l).2)]):=⟨by
 have v:=hs.out
 have i1:Small (goodS s):=⟨v.close.1⟩
 have i2:=fun t=>reached_fn (gr s) (ids s) v.grOk l t hl.out
 refine fn_of Tryz.func14 Tryz.ntmps14 rfl (rs:= [.tmp 4,.tmp 5]) rfl rfl fun hb LF=>?_
 obtain⟨e1,e2⟩:=v.clG l
 refine wf ?_
 refine pwp_condB (fun h=>?_) (fun h=>?_)
 ·have h0:(clG (gr s) (ids s) l).2=false:=by simpa using h
  rw[if_pos h0]at e2
  have e3:(rClosure s l).1= []:=by
   unfold rClosure at e2 ⊢
   split
   ·rfl
   ·rename_i h3
    rw[if_neg h3]at e2
    simp at e2
  refine wf ?_
  refine end2 ?_
  rw[e2,e3]
  exact .tuple2 (.ro _ _) (.refl _)
 ·have h0:(clG (gr s) (ids s) l).2=true:=by simpa using h
  rw[h0]at e2
  simp at e2
  refine wf ?_
  refine end2 ?_
  rw[e2,←e1]
  exact .refl _⟩
end Go.Proofs
namespace Go.Proofs
open Go Go.Q
attribute [local irreducible] pwp pops PCalls OpN
def cm (l:List Dig):List (Dig × Bool):=l.foldl (fun m x=>mSet x true m) []
def cM (s l:List Sto):List (Dig × List (Dig × Bool)):=l.foldl (fun m x=>mSet x.id (cm (cloS s x.id)) m) []
def eSea (s:List Sto):List PV:= [.slice (s.map eSto) .ro]++ [.fmap (eMap kDig (vMap kDig vBool) (cM s s))]
@[simp] theorem len_eSea (s:List Sto):(eSea s).length=2:=rfl
instance put2_0 {a b c:PV}:Put [a,b] 0 [c] [c,b]:=put_here (a:= [a]) (b:= [b]) (new:= [c]) rfl
instance put2_1 {a b c:PV}:Put [a,b] 1 [c] [a,c]:=put_skip (a:= [a]) (n:=1) (off:=0) rfl (put_last (a:= [b]) (new:= [c]) rfl)
instance {b:Option Nat}:CellsC (.raw (.map b)) [.raw (.map b)]:=⟨.one (Flat.out)⟩
end Go.Proofs
namespace Go.Proofs
open Go Go.Q
structure Turned (nd:Dig→List Dig) (U:List Dig) (T:List (Dig × List Dig)):Prop where
 is: ∀ d,(mGet d T).isSome=decide (d∈U)
 mem: ∀ x y,y∈ndG T x↔y∈U∧x∈nd y
 len: ∀ x,(ndG T x).length≤400
def rKnows (s:List Sto) (p q:Dig):Bool:=decide ((rClosure s [p]).2=0)&&(decide (q∈ids s)&&decide (q∈(rClosure s [p]).1))
theorem Valid.knows {s:List Sto} (v:Valid s) (p q:Dig):rKnows s p q=(decide ((rClosure s [p]).2=0)&&decide (q∈(rClosure s [p]).1)):=by
 unfold rKnows
 by_cases h:(rClosure s [p]).2=0
 ·by_cases hq:q∈(rClosure s [p]).1
  ·have hp:p∈ids s:=by
    unfold rClosure at h
    by_cases h1:allIn (ids s) [p]=false
    ·rw[if_pos h1]at h;exact absurd h (by decide)
    ·simpa [allIn]using h1
   have e:(rClosure s [p]).1=cloS s p:=rfl
   rw[e]at hq ⊢
   have hin:q∈ids s:=by
    have h:=(v.mem_clo hp q).1 hq
    exact h.in_ (fun x _ d hd=>v.close.nd x d hd) (ids:= [p]) (fun y hy=>by rw[List.mem_singleton.1 hy];exact hp)
   simp[h,hq,hin]
  ·simp[hq]
 ·simp[h]
end Go.Proofs
namespace Go.Q
open Go
section
variable {P:Program} {N:Nat} {all:Array Oper} {K:Env→List Res→Prop} {fl:List Bool} {os:List Oper} {ρ:Env} {L:List Res} {Q:PPost} {c:Code} {d:Nat} {ty:TypeId} {pos:String} {af:Array Edge} {T KT ET:Nat}
theorem Stamped.inj {es:Array MapEntry} {c i j:Nat} (hS:Stamped es c) (hi:i < es.size) (hj:j < es.size) (e:es[i].born=es[j].born):i=j:=by
 have hp:=List.pairwise_iff_getElem.1 hS.nd
 have hi':i < (es.toList.map (·.born)).length:=by simpa using hi
 have hj':j < (es.toList.map (·.born)).length:=by simpa using hj
 have e':(es.toList.map (·.born))[i]=(es.toList.map (·.born))[j]:=by simpa using e
 rcases Nat.lt_trichotomy i j with h|h|h
 ·exact absurd e' (hp i j hi' hj' h)
 ·exact h
 ·exact absurd e'.symm (hp j i hj' hi' h)
end
end Go.Q
namespace Go.Q
open Go
theorem kIdx_append_none {κ:Type} [DecidableEq κ] {k:κ}: ∀ {l:List κ},kIdx k l=none→kIdx k (l++ [k])=some l.length
 | [],_=>by simp[kIdx]
 |a::l,h=>by
  simp only[kIdx]at h
  by_cases e:k=a
  ·simp[e]at h
  ·simp only[e,if_false,Option.map_eq_none_iff]at h
   simp[kIdx,e,kIdx_append_none h]
theorem mSet_mSet {κ α:Type} [DecidableEq κ] (k:κ) (x y:α): ∀ l:List (κ × α),mSet k x (mSet k y l)=mSet k x l
 | []=>by simp[mSet]
 |(a,z)::l=>by
  by_cases e:k=a
  ·subst e;simp[mSet]
  ·simp[mSet,e,mSet_mSet k x y l]
structure OpenAt {κ α:Type} [DecidableEq κ] (es:Array MapEntry) (cl:Nat) (l:List (κ × α)) (k0:κ) (i:Nat) (n:Int):Prop where
 st:Stamped es cl
 idx:kIdx k0 (l.map (·.1))=some i
 len:es.size=l.length
 born: ∀ h:i < es.size,(es[i].born:Int)=n
def kvsKnow (es:Array MapEntry) (kvs:List (PV × PV)):Res:= .know (es.toList.map (·.key)++es.toList.map (·.val)) (kvs.map (·.1)++kvs.map (·.2))
theorem Entries.know {g:Gh} {es:Array MapEntry} {kvs:List (PV × PV)} (h:Entries g es kvs):VRl g (es.toList.map (·.key)++es.toList.map (·.val)) (kvs.map (·.1)++kvs.map (·.2)):=by
 have hl:=h.len
 refine VRl.append ⟨by simp[hl],fun i h1 h2=>?_⟩ ⟨by simp[hl],fun i h1 h2=>?_⟩
 ·simpa using h.key i (by simpa using h1) (by simpa using h2)
 ·simpa using h.val i (by simpa using h1) (by simpa using h2)
theorem Entries.of_know {g:Gh} {es:Array MapEntry} {kvs:List (PV × PV)} (hl:es.size=kvs.length) (h:VRl g (es.toList.map (·.key)++es.toList.map (·.val)) (kvs.map (·.1)++kvs.map (·.2))):Entries g es kvs:=by
 refine⟨hl,fun i h1 h2=>?_,fun i h1 h2=>?_⟩
 ·have:=h.at_ i (by simp;omega) (by simp;omega)
  rw[List.getElem_append_left (by simpa using h1),List.getElem_append_left (by simpa using h2)]at this
  simpa using this
 ·have:=h.at_ (es.size+i) (by simp;omega) (by simp;omega)
  rw[List.getElem_append_right (by simp),List.getElem_append_right (by simp;omega)]at this
  simpa [hl]using this
section
variable {P:Program} {N:Nat} {all:Array Oper} {K:Env→List Res→Prop} {fl:List Bool} {os:List Oper} {ρ:Env} {L:List Res} {d:Nat} {ty:TypeId} {pos:String} {af:Array Edge}
variable {κ α:Type} [DecidableEq κ] {ek:κ→PV} {ev:α→PV} {T KT ET:Nat}
theorem s_mapEntry [hT:TMap P T KT ET] [hK:TKey P KT ek] {a0:α} [hz:ZV P ET ev a0] {x y:Operand} {b:Nat} {l:List (κ × α)} {k0:κ} {L':List Res} (hx:ρ.ev x= .raw (.map (some b))) (hp:L.Perm (.map b (eMap ek ev l)::L')) (hk:Le (ρ.ev y) (ek k0))
  (k: ∀ es cl i n,OpenAt es cl (mSet k0 ((mGet k0 l).getD a0) l) k0 i n→pops P N all K fl.tail os (upd ρ d (.tuple [ev ((mGet k0 l).getD a0),.raw (.int .i64 n)])) (.raw b (.map es cl)::kvsKnow es (eMap ek ev (mSet k0 ((mGet k0 l).getD a0) l))::L')) (hd:Nat.blt d N=true:=by rfl) (hfl:fl.headD true=true:=by rfl):
  pops P N all K fl (⟨some d,.mapEntry T x y,ty,pos,af,none⟩::os) ρ L:=
 pops_n rfl (dlt hd) hfl (OpN.perm hp fun a w g ha hi=>by
  have h1:=evRaw ha (x:=x) (by simp[Op.operands]) hx
  have h2:=hk g _ (ha y (by simp[Op.operands]))
  obtain⟨es,cl,hb,hE,hH,hM,hS⟩:=hi.res _ (List.mem_cons_self)
  have hl:es.size=l.length:=by simpa [eMap]using hE.len
  have hf:=hK.out.find g (a.eval y) k0 es.toList (l.map (·.1)) w h2 (by simpa using hl) (fun i h h'=>by
   have:=hE.key i (by simpa using h) (by simpa [eMap]using h')
   simpa [eMap]using this)
  have hlt:b < w.heap.size:=(Array.getElem?_eq_some_iff.1 hb).1
  have hnd:=hi.nodup
  simp only[blocks,List.filterMap_cons,Res.block]at hnd
  have hrest:Inv w g L':=hi.sub (List.sublist_cons_self _ _)
  have fin: ∀ (es':Array MapEntry) (cl' i:Nat) (n:Int) (u:Value),Entries g es' (eMap ek ev (mSet k0 ((mGet k0 l).getD a0) l))→OpenAt es' cl' (mSet k0 ((mGet k0 l).getD a0) l) k0 i n→VR g u (ev ((mGet k0 l).getD a0))→(Instr.mapEntry T (a.eval x) (a.eval y)).run P w= .ok (.tuple #[u,goInt n]) (w.putObj b (.map es' cl'))→
    Oper.wq P ⟨some d,.mapEntry T x y,ty,pos,af,none⟩ a w (fun a' w'=> ∃ v x g' L'',a'=a.put (some d) v∧VR g' v x∧Inv w' g' L''∧Step (blocks (.map b (eMap ek ev l)::L')) w g w' g'∧Within w (.map b (eMap ek ev l)::L') L''∧pops P N all K fl.tail os (upd ρ d x) L''):=fun es' cl' i n u hE' hO hu hr=>by
   have hr':(execOp a.eval ⟨some d,.mapEntry T x y,ty,pos,af,none⟩).run P w= .ok (.value (.tuple #[u,goInt n])) (w.putObj b (.map es' cl')):=by
    simp only[execOp,hr,Sem.run_bind,Result.andThen_ok,Sem.run_pure]
   refine Oper.wq_of_run hr' ?_
   have i2:=hrest.put (.map es' cl') hH hM (List.nodup_cons.1 hnd).1
   refine⟨_,.tuple [ev ((mGet k0 l).getD a0),.raw (.int .i64 n)],g,.raw b (.map es' cl')::kvsKnow es' (eMap ek ev (mSet k0 ((mGet k0 l).getD a0) l))::L',rfl,VRl.tuple (.cons hu (.cons (.raw _) (.nil g))),⟨i2.sat,i2.satM,fun r hr=>?_,?_,hi.glob⟩,.put _ (by simp[blocks,Res.block]),fun b' hb' _=>?_,k es' cl' i n hO⟩
   ·rcases List.mem_cons.1 hr with rfl|hr
    ·exact⟨World.putObj_heap_same hlt,hH,hM⟩
    ·rcases List.mem_cons.1 hr with rfl|hr
     ·exact hE'.know
     ·exact i2.res r hr
   ·simpa only[blocks,List.filterMap_cons,Res.block,kvsKnow]using hnd
   ·simpa only[blocks,List.filterMap_cons,Res.block,kvsKnow]using hb'
  cases hi':kIdx k0 (l.map (·.1))with
  |none=>
   rw[hi']at hf
   obtain⟨i0,z,z1,z2,z3⟩:=hz.out
   have e0:(mGet k0 l).getD a0=a0:=by rw[mGet_none k0 hi'];rfl
   rw[e0]at fin
   rw[mSet_keys_new k0 a0 hi']at fin
   refine fin (es.push { key:=a.eval y,val:=z,born:=cl }) (cl+1) l.length cl z ?_ ⟨hS.push rfl,?_,by simp[hl],fun h=>?_⟩ (z3 g) ?_
   ·rw[eMap,List.map_append]
    refine⟨by simp[hl],fun i j1 j2=>?_,fun i j1 j2=>?_⟩
    ·by_cases hi2:i < es.size
     ·rw[Array.getElem_push_lt hi2,List.getElem_append_left (by simp;omega)]
      exact hE.key i hi2 (by simp[eMap];omega)
     ·have e:i=es.size:=by simp at j1;omega
      subst e
      rw[List.getElem_append_right (by simp[hl])]
      rw[Array.getElem_push_eq];simpa [hl]using h2
    ·by_cases hi2:i < es.size
     ·rw[Array.getElem_push_lt hi2,List.getElem_append_left (by simp;omega)]
      exact hE.val i hi2 (by simp[eMap];omega)
     ·have e:i=es.size:=by simp at j1;omega
      subst e
      rw[List.getElem_append_right (by simp[hl])]
      rw[Array.getElem_push_eq];simpa [hl]using z3 g
   ·rw[List.map_append]
    have:=kIdx_append_none hi'
    simpa using this
   ·simp[←hl]
   ·unfold Instr.mapEntry
    simp only[Sem.run_bind,run_underlying hT.out,Result.andThen_ok,h1,MapKept.run_getObj_map hb,hK.out.check false g _ k0 w h2,hf,Option.bind_none,zeroValue,typeInfo,run_program,z1,z2,Sem.run_pure,MapKept.run_setObj_map _ hb]
    rfl
  |some i=>
   rw[hi']at hf
   obtain⟨y0,e1,e2,e3⟩:=mSet_keys_old k0 ((mGet k0 l).getD a0) hi'
   have hli:i < l.length:=(List.getElem?_eq_some_iff.1 e1).1
   have hli':i < es.size:=by omega
   have hy0:l[i]=(k0,y0):=(List.getElem?_eq_some_iff.1 e1).2
   have e0:(mGet k0 l).getD a0=y0:=by rw[e3];rfl
   rw[e0]at e2 fin
   have e4:l.set i (k0,y0)=l:=by rw[←hy0];exact List.set_getElem_self hli
   rw[e4]at e2
   rw[e2]at fin
   have hkey:VR g es[i].key (ek k0):=by
    have:=hE.key i hli' (by simp[eMap];exact hli)
    simpa [eMap,hy0]using this
   have hval:VR g es[i].val (ev y0):=by
    have:=hE.val i hli' (by simp[eMap];exact hli)
    simpa [eMap,hy0]using this
   have hsame:=hK.out.same g _ _ k0 hkey h2
   refine fin (es.modify i fun e=>{ e with key:=a.eval y }) cl i es[i].born es[i].val ?_ ⟨hS.modify fun _=>rfl,hi',by simpa using hl,fun h=>by simp[Array.getElem_modify]⟩ hval ?_
   ·refine⟨by simp[eMap,hl],fun j j1 j2=>?_,fun j j1 j2=>?_⟩
    ·simp only[Array.size_modify]at j1
     rw[Array.getElem_modify (by simpa using j1)]
     by_cases hj:i=j
     ·subst hj
      simp[eMap,hy0];exact h2
     ·simp only[hj,if_false]
      exact hE.key j j1 j2
    ·simp only[Array.size_modify]at j1
     rw[Array.getElem_modify (by simpa using j1)]
     by_cases hj:i=j
     ·subst hj
      simp[eMap,hy0];exact hval
     ·simp only[hj,if_false]
      exact hE.val j j1 j2
   ·have hf2:(Instr.findKey KT (a.eval y) es.toList).run P w= .ok (some (i,es[i].val)) w:=by rw[hf];simp[hli']
    have hst:(Instr.keyThatStays es[i].key (a.eval y)).run P w= .ok (a.eval y) w:=by unfold Instr.keyThatStays;rw[if_pos hsame];rfl
    unfold Instr.mapEntry
    simp only[Sem.run_bind,run_underlying hT.out,Result.andThen_ok,h1,MapKept.run_getObj_map hb,hK.out.check false g _ k0 w h2,hf2,Array.getElem?_eq_getElem hli',Option.map_some,Option.getD_some,hst,MapKept.run_setObj_map _ hb]
    rfl)
theorem s_entryStore {es:Array MapEntry} {cl i:Nat} {n:Int} {x y z:Operand} {b:Nat} {l:List (κ × α)} {k0:κ} {x0:α} {L':List Res} (hO:OpenAt es cl l k0 i n) (hx:ρ.ev x= .raw (.map (some b))) (hy:ρ.ev y= .raw (.int .i64 n)) (hz:Le (ρ.ev z) (ev x0)) (hp:L.Perm (.raw b (.map es cl)::kvsKnow es (eMap ek ev l)::L'))
  (k:pops P N all K fl.tail os ρ (.map b (eMap ek ev (mSet k0 x0 l))::L')) (hfl:fl.headD true=true:=by rfl):pops P N all K fl (⟨none,.entryStore T x y z,ty,pos,af,none⟩::os) ρ L:=
 pops_n rfl (fun _ e=>by cases e) hfl (OpN.perm hp fun a w g ha hi=>by
  have h1:=evRaw ha (x:=x) (by simp[Op.operands]) hx
  have h2:=evRaw ha (x:=y) (by simp[Op.operands]) hy
  have h3:=hz g _ (ha z (by simp[Op.operands]))
  obtain⟨hb,hH,hM⟩:=hi.res _ (List.mem_cons_self)
  have hkn:=hi.res _ (List.mem_cons_of_mem _ List.mem_cons_self)
  have hE:Entries g es (eMap ek ev l):= .of_know (by simpa [eMap]using hO.len) hkn
  obtain⟨y0,e1,e2,_⟩:=mSet_keys_old k0 x0 hO.idx
  have hli:i < l.length:=(List.getElem?_eq_some_iff.1 e1).1
  have hli':i < es.size:=by have:=hO.len;omega
  have hy0:l[i]=(k0,y0):=(List.getElem?_eq_some_iff.1 e1).2
  have hlt:b < w.heap.size:=(Array.getElem?_eq_some_iff.1 hb).1
  have hbn:=hO.born hli'
  have hnd:=hi.nodup
  simp only[blocks,List.filterMap_cons,Res.block,kvsKnow]at hnd
  have hrest:Inv w g L':=hi.sub ((List.sublist_cons_self _ _).trans (List.sublist_cons_self _ _))
  have hfi:es.findIdx? (fun e=>(e.born:Int)==n)=some i:=by
   rw[Array.findIdx?_eq_some_iff_getElem]
   refine⟨hli',by simpa using hbn,fun j hj=>?_⟩
   have hj':j < es.size:=by omega
   intro h
   have:(es[j].born:Int)=n:=by simpa using h
   have:=hO.st.inj hj' hli' (by omega)
   omega
  have hr:(Instr.entryStore T (a.eval x) (a.eval y) (a.eval z)).run P w= .ok () (w.putObj b (.map (es.modify i fun e=>{ e with val:=a.eval z }) cl)):=by
   unfold Instr.entryStore
   simp only[Sem.run_bind,h1,h2,MapKept.run_getObj_map hb,asInt,asIntOf,Sem.run_pure,Result.andThen_ok,hfi,MapKept.run_setObj_map _ hb]
   rfl
  have hr':(execOp a.eval ⟨none,.entryStore T x y z,ty,pos,af,none⟩).run P w= .ok .skip (w.putObj b (.map (es.modify i fun e=>{ e with val:=a.eval z }) cl)):=by
   simp only[execOp,hr,Sem.run_bind,Result.andThen_ok,Sem.run_pure]
  refine Oper.wq_of_run hr' ?_
  have i2:=hrest.put (.map (es.modify i fun e=>{ e with val:=a.eval z }) cl) hH hM (List.nodup_cons.1 hnd).1
  refine⟨undef,.raw undef,g,.map b (eMap ek ev (mSet k0 x0 l))::L',rfl,.raw _,⟨i2.sat,i2.satM,fun r hr=>?_,?_,hi.glob⟩,.put _ (by simp[blocks,Res.block]),fun b' hb' _=>?_,k⟩
  ·rcases List.mem_cons.1 hr with rfl|hr
   ·refine⟨_,cl,World.putObj_heap_same hlt,?_,hH,hM,hO.st.modify fun _=>rfl⟩
    rw[e2]
    refine⟨by simp[eMap,hO.len],fun j j1 j2=>?_,fun j j1 j2=>?_⟩
    ·simp only[Array.size_modify]at j1
     have j3:j < l.length:=by have:=hO.len;omega
     rw[Array.getElem_modify (by simpa using j1)]
     have:=hE.key j j1 (by simp[eMap];exact j3)
     by_cases hj:i=j
     ·subst hj
      simpa [eMap,hy0]using this
     ·simp only[hj,if_false]
      simpa [eMap,List.getElem_set_ne hj]using this
    ·simp only[Array.size_modify]at j1
     have j3:j < l.length:=by have:=hO.len;omega
     rw[Array.getElem_modify (by simpa using j1)]
     by_cases hj:i=j
     ·subst hj
      simp[eMap];exact h3
     ·simp only[hj,if_false]
      have:=hE.val j j1 (by simp[eMap];exact j3)
      simpa [eMap,List.getElem_set_ne hj]using this
   ·exact i2.res r hr
  ·simpa only[blocks,List.filterMap_cons,Res.block]using hnd
  ·simpa only[blocks,List.filterMap_cons,Res.block,kvsKnow]using hb')
end
end Go.Q
namespace Go.Proofs
open Go Go.Q
attribute [local irreducible] pwp pops PCalls OpN
end Go.Proofs
namespace Go.Proofs
open Go Go.Q
attribute [local irreducible] pwp pops PCalls OpN
end Go.Proofs
namespace Go.Proofs
open Go Go.Q
attribute [local irreducible] pwp pops PCalls OpN PYield
end Go.Proofs
namespace Go.Proofs
open Go Go.Q
attribute [local irreducible] pwp pops PCalls OpN
def idxD (l:List Dig) (d:Dig):Int:=if d∈l then(l.idxOf d:Int)else -1
theorem idxOf_first {l:List Dig} {d:Dig} {k:Nat} (hk:k < l.length) (hn:d∉l.take k) (e:d=l[k]):l.idxOf d=k:=by
 induction l generalizing k with
 |nil=>simp at hk
 |cons x l ih=>
  cases k with
  |zero=>simp at e;subst e;simp
  |succ k=>
   simp only[List.take_succ_cons,List.mem_cons,not_or]at hn
   have:=ih (k:=k) (by simpa using hk) hn.2 (by simpa using e)
   rw[List.idxOf_cons,beq_eq_false_iff_ne.2 (Ne.symm hn.1),cond_false,this]
instance IndexD_ct (l:List Dig) (d:Dig) (t:Tag):FnC Tryz.prog 95 [.slice (l.map eDig) t,.agg (eDig d)] (.raw (.int .i64 (idxD l d))):=⟨by
 refine fn_of Tryz.func95 Tryz.ntmps95 rfl (rs:= [.tmp 4]) rfl rfl fun hb LF=>?_
 have hlen:l.length≤140737488355328:=(hb (.slice (l.map eDig) t) (by simp)).slice_map
 refine wf ?_
 refine pwp_loopS (σ:=Nat) (fun k=>k≤l.length∧d∉l.take k) (fun k=>l.length - k) (fun k=> [(0,.slice (l.map eDig) t),(3,.pt (eDig d) 0),(7,.raw (.int .i64 l.length)),(8,.raw (.int .i64 k))]) (fun _=>LF) 0 ⟨by simp,by simp⟩ ⟨rfl,rfl,rfl,rfl⟩ (.refl _) ?_
 rintro k ⟨hk,hn⟩
 refine wf ?_
 refine pwp_condD (fun hc=>?_) (fun hc=>?_)
 ·have hlt:k < l.length:=by omega
  refine wf ?_
  refine pwp_condD (fun h=>?_) (fun h=>?_)
  ·refine wf ?_
   refine end1 (.of_eq ?_)
   rw[idxD,if_pos (h ▸ List.getElem_mem hlt),idxOf_first hlt hn h]
  ·refine wf ?_
   refine⟨k+1,⟨by omega,?_⟩,by dsimp only;omega,⟨rfl,rfl,rfl,rfl⟩,.refl _⟩
   rw[List.take_succ_eq_append_getElem hlt,List.mem_append,List.mem_singleton]
   rintro(h'|h')
   ·exact hn h'
   ·exact h h'
 ·refine wf ?_
  refine end1 (.of_eq ?_)
  rw[List.take_of_length_le (by omega)]at hn
  rw[idxD,if_neg hn]⟩
instance ContainsD_ct (l:List Dig) (d:Dig) (t:Tag):FnC Tryz.prog 55 [.slice (l.map eDig) t,.agg (eDig d)] (.raw (.bool (decide (d∈l)))):=⟨by
 refine fn_of Tryz.func55 Tryz.ntmps55 rfl (rs:= [.tmp 4]) rfl rfl fun hb LF=>?_
 refine wf ?_
 refine end1 (.of_eq ?_)
 by_cases h:d∈l<;>simp[idxD,h]⟩
instance KeepP_ct (s:List Sto) (l:List Dig) (t u:Tag) [hs:Small (s.length≤1000000)]:FnC Tryz.prog 44 [.slice (s.map eSto) t,.slice (l.map eDig) u] (.slice ((keepS s l).map eSto) .ro):=⟨by
 refine fn_of Tryz.func44 Tryz.ntmps44 rfl (rs:= [.tmp 4]) rfl rfl fun hb LF=>?_
 have hlen:s.length≤1000000:=hs.out
 refine wf ?_
 refine pwp_tok 37 ?_
 refine pwp_loopS (σ:=Nat × Tag) (fun k=>k.1≤s.length) (fun k=>s.length - k.1) (fun k=> [(1,.slice (l.map eDig) u),(5,.slice ((keepS (s.take k.1) l).map eSto) k.2),(8,.slice (s.map eSto) t),(9,.raw (.int .i64 s.length)),(10,.raw (.int .i64 k.1))]) (fun k=> .tok k.2 (keepS (s.take k.1) l).length 37::LF) (0,.nil) (by simp) ⟨rfl,rfl,rfl,rfl,rfl⟩ (.refl _) ?_
 rintro⟨k,v⟩ hk
 dsimp only at hk
 refine wf ?_
 refine pwp_condD (fun hc=>?_) (fun hc=>?_)
 ·have hl:(keepS (s.take k) l).length≤k:=Nat.le_trans (List.length_filter_le _ _) (by simp;omega)
  have e:keepS (s.take (k+1)) l=keepS (s.take k) l++keepS [s[k]] l:=by
   rw[List.take_succ_eq_append_getElem (by omega)];simp only[keepS,List.filter_append]
  refine wz fun b7=>?_
  refine pwp_freezeD 7 ?_
  refine wf ?_
  refine pwp_condD (fun h=>?_) (fun h=>?_)
  ·refine wfa fun v'=>?_
   have e2:keepS [s[k]] l= [s[k]]:=by simp[keepS,h]
   rw[e2]at e
   refine⟨(k+1,v'),by dsimp only;omega,by dsimp only;omega,⟨rfl,by dsimp only;rw[e];rfl,rfl,rfl,rfl⟩,by dsimp only;rw[e];exact .refl _⟩
  ·refine wf ?_
   have e2:keepS [s[k]] l= []:=by simp[keepS,h]
   rw[e2,List.append_nil]at e
   refine⟨(k+1,v),by dsimp only;omega,by dsimp only;omega,⟨rfl,by dsimp only;rw[e];rfl,rfl,rfl,rfl⟩,by dsimp only;rw[e];exact .refl _⟩
 ·refine wf ?_
  refine end1 (.ros ?_)
  rw[List.take_of_length_le (by omega)]⟩
end Go.Proofs
namespace Go.Proofs
open Go Go.Q
end Go.Proofs
namespace Go.Proofs
open Go Go.Q
attribute [local irreducible] pwp pops PCalls OpN
end Go.Proofs
namespace Go.Proofs
open Go Go.Q
attribute [local irreducible] pwp pops PCalls OpN
def idxF {α:Type} (p:α→Bool) (l:List α):Int:=if l.any p=true then(l.findIdx p:Int)else -1
theorem findIdx_first {α:Type} {p:α→Bool} {l:List α} {k:Nat} (hk:k < l.length) (hn:(l.take k).any p=false) (e:p l[k]=true):l.findIdx p=k:=by
 refine List.findIdx_eq hk |>.2 ⟨e,fun j hj=>?_⟩
 have:=List.any_eq_false.1 hn (l[j]) (List.mem_take_iff_getElem.2 ⟨j,by omega,rfl⟩)
 simpa using this
theorem indexD_fn (F:Nat) (cs:List PV) (p:Dig→Bool) [hF:TFun Tryz.prog F] [hp: ∀ d,FnC Tryz.prog F (.agg (eDig d)::cs) (.raw (.bool (p d)))] (l:List Dig) (t:Tag):
  FnC Tryz.prog 111 [.slice (l.map eDig) t,.clo F cs] (.raw (.int .i64 (idxF p l))):=⟨by
 refine fn_of Tryz.func111 Tryz.ntmps111 rfl (rs:= [.tmp 4]) rfl rfl fun hb LF=>?_
 have hlen:l.length≤140737488355328:=(hb (.slice (l.map eDig) t) (by simp)).slice_map
 refine wf ?_
 refine pwp_loopS (σ:=Nat) (fun k=>k≤l.length∧(l.take k).any p=false) (fun k=>l.length - k) (fun k=> [(0,.slice (l.map eDig) t),(1,.clo F cs),(7,.raw (.int .i64 l.length)),(8,.raw (.int .i64 k))]) (fun _=>LF) 0 ⟨by simp,by simp⟩ ⟨rfl,rfl,rfl,rfl⟩ (.refl _) ?_
 rintro k ⟨hk,hn⟩
 refine wf ?_
 refine pwp_condD (fun hc=>?_) (fun hc=>?_)
 ·have hlt:k < l.length:=by omega
  refine wf ?_
  refine pwp_condB (fun h=>?_) (fun h=>?_)
  ·refine wf ?_
   refine end1 (.of_eq ?_)
   have e:l.any p=true:=List.any_eq_true.2 ⟨l[k],List.getElem_mem hlt,h⟩
   rw[idxF,if_pos e,findIdx_first hlt hn h]
  ·refine wf ?_
   refine⟨k+1,⟨by omega,?_⟩,by dsimp only;omega,⟨rfl,rfl,rfl,rfl⟩,.refl _⟩
   rw[List.take_succ_eq_append_getElem hlt,List.any_append,hn]
   simp[h]
 ·refine wf ?_
  refine end1 (.of_eq ?_)
  rw[List.take_of_length_le (by omega)]at hn
  rw[idxF,if_neg (by simp[hn])]⟩
theorem containsD_fn (F:Nat) (cs:List PV) (p:Dig→Bool) [hF:TFun Tryz.prog F] [hp: ∀ d,FnC Tryz.prog F (.agg (eDig d)::cs) (.raw (.bool (p d)))] (l:List Dig) (t:Tag):
  FnC Tryz.prog 74 [.slice (l.map eDig) t,.clo F cs] (.raw (.bool (l.any p))):=⟨by
 have i1: ∀ t,FnC Tryz.prog 111 [.slice (l.map eDig) t,.clo F cs] (.raw (.int .i64 (idxF p l))):=indexD_fn F cs p l
 refine fn_of Tryz.func74 Tryz.ntmps74 rfl (rs:= [.tmp 4]) rfl rfl fun hb LF=>?_
 refine wf ?_
 refine end1 (.of_eq ?_)
 cases h:l.any p<;>simp[idxF,h]⟩
theorem indexS_fn (F:Nat) (cs:List PV) (p:Sto→Bool) [hF:TFun Tryz.prog F] [hp: ∀ d,FnC Tryz.prog F (.agg (eSto d)::cs) (.raw (.bool (p d)))] (l:List Sto) (t:Tag):
  FnC Tryz.prog 45 [.slice (l.map eSto) t,.clo F cs] (.raw (.int .i64 (idxF p l))):=⟨by
 refine fn_of Tryz.func45 Tryz.ntmps45 rfl (rs:= [.tmp 4]) rfl rfl fun hb LF=>?_
 have hlen:l.length≤140737488355328:=(hb (.slice (l.map eSto) t) (by simp)).slice_map
 refine wf ?_
 refine pwp_loopS (σ:=Nat) (fun k=>k≤l.length∧(l.take k).any p=false) (fun k=>l.length - k) (fun k=> [(0,.slice (l.map eSto) t),(1,.clo F cs),(7,.raw (.int .i64 l.length)),(8,.raw (.int .i64 k))]) (fun _=>LF) 0 ⟨by simp,by simp⟩ ⟨rfl,rfl,rfl,rfl⟩ (.refl _) ?_
 rintro k ⟨hk,hn⟩
 refine wf ?_
 refine pwp_condD (fun hc=>?_) (fun hc=>?_)
 ·have hlt:k < l.length:=by omega
  refine wf ?_
  refine pwp_condB (fun h=>?_) (fun h=>?_)
  ·refine wf ?_
   refine end1 (.of_eq ?_)
   have e:l.any p=true:=List.any_eq_true.2 ⟨l[k],List.getElem_mem hlt,h⟩
   rw[idxF,if_pos e,findIdx_first hlt hn h]
  ·refine wf ?_
   refine⟨k+1,⟨by omega,?_⟩,by dsimp only;omega,⟨rfl,rfl,rfl,rfl⟩,.refl _⟩
   rw[List.take_succ_eq_append_getElem hlt,List.any_append,hn]
   simp[h]
 ·refine wf ?_
  refine end1 (.of_eq ?_)
  rw[List.take_of_length_le (by omega)]at hn
  rw[idxF,if_neg (by simp[hn])]⟩
end Go.Proofs
