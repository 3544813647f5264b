/- Contracts of the program: slices.DeleteFunc on rows of digests and of patches. -/
import Derived.Test.YtaibdmankdppkaaGreatDoorUar
import Derived.Test.YtaibdmankdppkaaGreatDoorUam
import Derived.Test.YtaibdmankdppkaaGreatDoorUan
import Derived.Test.YtaibdmankdppkaaGreatDoorUaq
import Derived.Test.YtaibdmankdppkaaGreatDoorUao
import Derived.Test.YtaibdmankdppkaaGreatDoorUal
set_option linter.unusedSimpArgs false
set_option linter.unusedVariables false
set_option maxHeartbeats 8000000
namespace Go.Proofs
open Go Go.Q
attribute [local irreducible] Eb AV BG Fu
theorem me: ∀ i z,Tryz.prog.info? 59=some i→i.zero=some z→ ∀ x∈z.cells,x.oneCell'=true:=by
 have h:(Tryz.prog.info? 59).map (fun i=>(i.zero.getD undef).cells.all (·.oneCell'))=some true:=by kernel_rfl
 intro i z hi hz x hx
 rw[hi]at h
 simp only[H6,hz,CA,Iw,HC]at h
 exact h x hx
theorem cH (F:Nat) (cs:List PV) (p:Sto→Bool) [hF:B1 Tryz.prog F] [hp: ∀ d,C6 Tryz.prog F (.agg (eSto d)::cs) (.raw (.bool (p d)))] (l:List Sto) (v:Value) (R:List Res) (hv:GM 59 37 v (l.map eSto) R) (hl:l.length≤1000000):
  BG Tryz.prog 100 [.raw v,.clo F cs] R (fun r L'=> ∃ v',r= .raw v'∧GM 59 37 v' ((l.filter fun d=>!p d).map eSto) L'):=by
 refine C7 Tryz.func100 rfl Tryz.ntmps100 (rs:= [.tmp 4]) rfl rfl fun hb LF=>?_
 have hsz: ∀ (m:List Sto),∀ e∈m.map eSto,e.length=37:=fun m e he=>by obtain⟨a,_,rfl⟩:=AQ.1 he;simp
 have hmx:(l.map eSto).length≤maxN∧(l.map eSto).length*37≤maxN:=by
  have:maxN=140737488355328:=rfl
  rw[AU];omega
 refine wf ?_
 refine CK (xs:= [.tmp 8,.tmp 9]) R LF (f:=51) (cs:= []) (Bx _) rfl rfl (.refl _) _ (GM.lend hv [] [.clo F cs] hmx (Vp F cs p l .ro).out) fun r L' ⟨e1,e2⟩=>?_
 subst e1 e2
 refine wf ?_
 refine A7 (fun h1=>?_) (fun h1=>?_)
 ·have hn:l.any p=false:=by
   cases h:l.any p with
   |false=>rfl
   |true=>have:=(Pq p l).2.2 h;omega
  have e:(l.filter fun d=>!p d)=l:=by
   rw[aN]
   intro x hx
   have:=Bl.1 hn x hx
   simpa using this
  refine wf ?_
  exact⟨trivial,_,_,.cons (.tmp 4) .nil,.refl _,v,rfl,by rw[e];exact hv⟩
 have ha:l.any p=true:=by
  cases h:l.any p with
  |true=>rfl
  |false=>exact absurd (by rw[Fo,if_neg (by simp[h])]) h1
 have hi0:l.findIdx p < l.length:=Lk.2 (Bo.1 ha)
 have hix:Fo p l=(l.findIdx p:Nat):=by rw[Fo,if_pos ha]
 have hf0:(l.take (l.findIdx p))=(l.take (l.findIdx p+1)).filter fun d=>!p d:=by
  have hlast:p l[l.findIdx p]=true:=List.findIdx_getElem
  rw[A6 hi0,DU,E1 (by simp[hlast]),Ue,BQ,aN.2]
  intro x hx
  obtain⟨k,hk,rfl⟩:=De.1 hx
  have:=zq (p:=p) (xs:=l) (i:=k) (by omega)
  simpa using this
 rw[hix]
 generalize hg:l.findIdx p=i0 at hi0 hf0
 obtain⟨⟨o,c,rfl⟩,_⟩:=hv.slice
 obtain⟨r,rest,rfl,rfl,_,hlc,_,hcl⟩:=hv.inv (by rw[AU];omega)
 rw[AU]at hlc ⊢
 refine wf ?_
 refine AZ (σ:=Nat × Nat × List Sto) (fun k=>k.2.1 < k.1∧k.1≤l.length∧k.2.2.length=l.length∧k.2.2.take k.2.1=(l.take k.1).filter (fun d=>!p d)∧ ∀ t,k.1≤t→k.2.2[t]? =l[t]?) (fun k=>l.length - k.1) (fun k=> [(0,.raw (.slice (some ⟨r,0,none⟩) l.length c)),(1,.clo F cs),(5,.raw (.int .i64 k.2.1)),(6,.raw (.int .i64 k.1))]) (fun k=> .box r 59 ((k.2.2.map eSto).flatten++rest)::LF) (i0+1,i0,l) ⟨by dsimp only;omega,by dsimp only;omega,rfl,hf0,fun _ _=>rfl⟩ ⟨rfl,rfl,rfl,rfl⟩ (.refl _) ?_
 rintro⟨j,i,l1⟩ ⟨hij,hj,hl1,ht,hr⟩
 dsimp only at hij hj hl1 ht hr ⊢
 refine wf ?_
 refine Ia rfl ?_
 refine wf ?_
 refine A7 (fun hc=>?_) (fun hc=>?_)
 ·have hlt:j < l.length:=by omega
  have ej:l1[j]'(by omega)=l[j]:=by
   have:=hr j (An _)
   rw[AY (by omega),AY hlt]at this
   exact Cr this
  have isub:Q4 ((l1.map eSto).flatten++rest) (0+j*37) 37 (eSto l[j]):=by
   have:=OD (rest:=rest) (hsz l1) (i:=j) (by rw[AU];omega)
   rwa [B4,ej]at this
  refine wf ?_
  refine Dh (k:=j) rfl rfl hlt ?_
  refine YW rfl AI (hs:=isub) ?_
  refine wf ?_
  refine Bw fun b7=>?_
  refine wo ?_
  refine AE ?_
  refine Au 7 ?_
  refine wf ?_
  refine AO (fun h=>?_) (fun h=>?_)
  ·have hpj:p l[j]=false:=by simpa using h
   have iput:FA ((l1.map eSto).flatten++rest) (0+i*37) (eSto l[j]) (((l1.set i l[j]).map eSto).flatten++rest):=by
    have:=UB (rest:=rest) (new:=eSto l[j]) (hsz l1) (i:=i) (by rw[AU];omega) (by simp)
    rwa [←zt]at this
   refine wf ?_
   refine Dh (k:=i) rfl rfl (by omega) ?_
   refine wf ?_
   refine⟨(j+1,i+1,l1.set i l[j]),⟨by dsimp only;omega,by dsimp only;omega,by dsimp only;rw[Ct];exact hl1,?_,fun t h2=>?_⟩,by dsimp only;omega,⟨rfl,rfl,rfl,rfl⟩,.refl _⟩
   ·dsimp only
    rw[A6 hlt,DU,E0 (by simp[hpj]),Ue,←ht,A6 (by rw[Ct];omega),List.take_set_of_le (An _),List.getElem_set_self]
   ·dsimp only at h2 ⊢
    rw[Xy (by omega)]
    exact hr t (by omega)
  ·have hpj:p l[j]=true:=by simpa using h
   refine wf ?_
   refine⟨(j+1,i,l1),⟨by dsimp only;omega,by dsimp only;omega,hl1,?_,fun t h2=>hr t (by dsimp only at h2;omega)⟩,by dsimp only;omega,⟨rfl,rfl,rfl,rfl⟩,.refl _⟩
   dsimp only
   rw[A6 hlt,DU,E1 (by simp[hpj]),Ue,BQ]
   exact ht
 have hjl:j=l.length:=by omega
 subst hjl
 rw[EI]at ht
 have hfl:(l1.map eSto).flatten.length=l.length*37:=by rw[DR (hsz l1),AU,hl1]
 have hfl0:(l.map eSto).flatten.length=l.length*37:=by rw[DR (hsz l),AU]
 refine wf ?_
 refine Nt i l.length rfl (by omega) (An _) (by omega) hlc (fun o e=>by cases e;exact⟨_,rfl⟩) (by simp) (by simp) (fun _=>rfl) ?_
 refine jO (E:=59) (sz:=37) (L':=LF) me (fun x=> [x]++LF) rfl (by omega) (by rw[AD,hfl];omega) (.refl _) (fun _=> .refl _) fun zs hzs=>?_
 refine AE ?_
 refine wf ?_
 refine Nt 0 i rfl (by omega) (by omega) (by omega) hlc (by simp) (fun _=>rfl) (fun o e=>by cases e;exact⟨_,rfl⟩) (by simp) ?_
 refine wf ?_
 have e0:=(Pv (hsz l1) (i:=i) (by rw[AU];omega))
 have etk:((l1.map eSto).flatten++rest).take (0+i*37)=((l1.take i).map eSto).flatten:=by
  rw[BN,IC (by rw[hfl];omega),yD]
  have h2:=e0.2
  conv=>lhs;rw[e0.1]
  exact GJ h2
 have hlt:(l1.take i).length=i:=by rw[Ab];omega
 have hti:((l1.take i).map eSto).flatten.length=i*37:=by rw[DR (hsz _),AU,hlt]
 refine⟨trivial,_,_,.cons (.tmp 4) .nil,.refl _,.slice (some ⟨r,0,none⟩) i c,?_,?_⟩
 ·show PV.raw (Value.slice (some ⟨r,0+0*37,none⟩) (i - 0) (c - 0))=_
  simp
 ·rw[←ht,etk,AX]
  refine .row (by rw[AU,hlt]) (by omega) (hsz _) ?_
  rw[AD,B8,AD,hzs,hfl,hti]
  rw[hfl0]at hcl
  omega
attribute [local irreducible] Ga
instance vC (s:List Sto) (t:C9) (d:Dig):C6 Tryz.prog 96 [.agg (eDig d),.pt [.slice (s.map eSto) t] 0] (.raw (.bool (!(getS s d).isSome))):=⟨by
 refine Av Tryz.func96 Tryz.ntmps96 rfl (rs:= [.tmp 3]) rfl rfl fun hb LF=>?_
 refine wz fun b4=>?_
 refine wf ?_
 exact Ax (.refl _)⟩
instance vB (s:List Sto) (t u:C9) (l:List Dig):C6 Tryz.prog 47 [.slice (l.map eDig) u,.clo 96 [.pt [.slice (s.map eSto) t] 0]] (.raw (.bool (l.any fun d=>!(getS s d).isSome))):=KI _ _ _ l u
theorem NB: ∀ (s:List Sto) (d:Dig),(getS s d).isSome=decide (d∈ids s)
 | [],_=>by simp[getS,ids]
 |x::s,d=>by
  unfold getS
  by_cases h:x.id=d
  ·rw[if_pos h];simp[ids,h]
  ·rw[if_neg h,NB s d,decide_eq_decide]
   unfold ids
   rw[Ar,AF]
   exact⟨.inr,fun k=>k.elim (fun e=>absurd e.symm h) id⟩
theorem gj (s:List Sto) (l:List Dig):(!(l.any fun d=>!(getS s d).isSome))=CW (ids s) l:=by
 unfold CW
 induction l with
 |nil=>rfl
 |cons d l ih=>
  rw[aU,aV,Bool.not_or,ih,Bool.not_not,NB]
instance wE (s:List Sto) (l:List Dig) (t u:C9):C6 Tryz.prog 36 [.slice (s.map eSto) t,.slice (l.map eDig) u] (.raw (.bool (CW (ids s) l))):=⟨by
 refine Av Tryz.func36 Tryz.ntmps36 rfl (rs:= [.tmp 4]) rfl rfl fun hb LF=>?_
 refine wf ?_
 refine Ax (.of_eq ?_)
 rw[←gj s l]⟩
instance nI (b l:List Dig) (t u:C9) (d:Dig):C6 Tryz.prog 48 [.agg (eDig d),.pt [.slice (b.map eDig) t] 0,.pt [.slice (l.map eDig) u] 0] (.raw (.bool (decide (d∈b)&&!decide (d∈l)))):=⟨by
 refine Av Tryz.func48 Tryz.ntmps48 rfl (rs:= [.tmp 4]) rfl rfl fun hb LF=>?_
 refine wf ?_
 repeat' (first|(refine A7 (fun h=>?_) (fun h=>?_)<;>refine wf ?_)|(refine AR (fun h=>?_) (fun h=>?_)<;>refine wf ?_)|(refine AO (fun h=>?_) (fun h=>?_)<;>refine wf ?_)|(refine Aq (fun h=>?_) (fun h=>?_)<;>(have h2:=h;(try simp only[AB,A8,AH,AK]at h2);refine wf ?_)))
 all_goals (refine Ax (.of_eq ?_);simp_all)⟩
instance nH (a b l:List Dig) (v t u:C9):C6 Tryz.prog 47 [.slice (a.map eDig) v,.clo 48 [.pt [.slice (b.map eDig) t] 0,.pt [.slice (l.map eDig) u] 0]] (.raw (.bool (a.any fun d=>decide (d∈b)&&!decide (d∈l)))):=KI _ _ _ a v
instance YF (s:List Sto) (l:List Dig) (t u:C9) [hs:Aw (Bc s)] [hl:Aw (l.length≤400)]:C6 Tryz.prog 15 [.slice (s.map eSto) t,.slice (l.map eDig) u] (.raw (.bool (mW s l))):=⟨by
 refine Av Tryz.func15 Tryz.ntmps15 rfl (rs:= [.tmp 4]) rfl rfl fun hb LF=>?_
 refine wf ?_
 unfold mW
 refine AO (fun h=>?_) (fun h=>?_)
 ·refine wf ?_
  refine Ax (.of_eq ?_)
  simp_all
 ·refine wz fun b7=>?_
  refine Au 7 ?_
  refine wf ?_
  refine Ax (.of_eq ?_)
  simp_all⟩
instance mG (l:List Dig) (u:C9) (d:Dig):C6 Tryz.prog 99 [.agg (eDig d),.pt [.slice (l.map eDig) u] 0] (.raw (.bool (decide (d∈l)))):=⟨by
 refine Av Tryz.func99 Tryz.ntmps99 rfl (rs:= [.tmp 3]) rfl rfl fun hb LF=>?_
 refine wf ?_
 exact Ax (.refl _)⟩
instance nG (a l:List Dig) (t u:C9):C6 Tryz.prog 47 [.slice (a.map eDig) t,.clo 99 [.pt [.slice (l.map eDig) u] 0]] (.raw (.bool (a.any fun d=>decide (d∈l)))):=KI _ _ _ a t
theorem We (l:List Dig) (u:C9) (x:Sto) (hx:E6 x.patch=false):C6 Tryz.prog 98 [.agg (eSto x),.pt [.slice (l.map eDig) u] 0] (.raw (.bool (!decide (x.id∈l)&&(BB x.patch).any fun d=>decide (d∈l)))):=⟨by
 have i1:Aw (E6 x.patch=false):=⟨hx⟩
 refine Av Tryz.func98 Tryz.ntmps98 rfl (rs:= [.tmp 3]) rfl rfl fun hb LF=>?_
 refine wf ?_
 repeat' (first|(refine A7 (fun h=>?_) (fun h=>?_)<;>refine wf ?_)|(refine AR (fun h=>?_) (fun h=>?_)<;>refine wf ?_)|(refine AO (fun h=>?_) (fun h=>?_)<;>refine wf ?_)|(refine Aq (fun h=>?_) (fun h=>?_)<;>(have h2:=h;(try simp only[AB,A8,AH,AK]at h2);refine wf ?_)))
 all_goals (refine Ax (.of_eq ?_);simp_all)⟩
instance qU (s:List Sto) (l:List Dig) (t u:C9) [hs:Aw (GQ s)]:C6 Tryz.prog 37 [.slice (s.map eSto) t,.slice (l.map eDig) u] (.raw (.bool (Kd s l))):=⟨by
 have c1: ∀ t,C6 Tryz.prog 97 [.slice (s.map eSto) t,.clo 98 [.pt [.slice (l.map eDig) .ro] 0]] (.raw (.bool (s.any fun x=>!decide (x.id∈l)&&(BB x.patch).any fun d=>decide (d∈l)))):=fun t=>Uu _ _ _ s t fun x hx=>We l .ro x (hs.out.2 x hx)
 refine Av Tryz.func37 Tryz.ntmps37 rfl (rs:= [.tmp 4]) rfl rfl fun hb LF=>?_
 refine wf ?_
 refine Ax (.of_eq ?_)
 rfl⟩
instance nF (l:List Dig) (u:C9) (x:Sto):C6 Tryz.prog 101 [.agg (eSto x),.pt [.slice (l.map eDig) u] 0] (.raw (.bool (decide (x.id∈l)))):=⟨by
 refine Av Tryz.func101 Tryz.ntmps101 rfl (rs:= [.tmp 3]) rfl rfl fun hb LF=>?_
 refine wf ?_
 exact Ax (.refl _)⟩
instance qT (s:List Sto) (l:List Dig) (t u:C9) [hs:Aw (s.length≤1000)]:C6 Tryz.prog 38 [.slice (s.map eSto) t,.slice (l.map eDig) u] (.slice ((FG s l).map eSto) .ro):=⟨by
 refine Av Tryz.func38 Tryz.ntmps38 rfl (rs:= [.tmp 4]) rfl rfl fun hb LF=>?_
 have hl:=hs.out
 refine wf ?_
 refine CK (xs:= [.tmp 5]) [] LF (f:=95) (cs:= []) (Bx _) rfl rfl (.refl _) _ (Rz s t (by omega)) fun r R0 ⟨v0,e1,hv0⟩=>?_
 subst e1
 refine wf ?_
 refine CK (xs:= [.tmp 6,.tmp 7]) R0 LF (f:=100) (cs:= []) (Bx _) rfl rfl (.refl _) _ (cH 101 _ (fun x=>decide (x.id∈l)) s v0 R0 hv0 (by omega)) fun r R1 ⟨v1,e1,hv1⟩=>?_
 subst e1
 refine wo ?_
 refine AE ?_
 have e:(s.filter fun d=>!decide (d.id∈l))=FG s l:=by
  unfold FG
  exact gw fun x _=>by simp
 rw[e]at hv1
 have hol:(FG s l).length≤s.length:=CX _ _
 refine Jc 4 hv1 ⟨by rw[AU];unfold maxN;omega,by rw[AU];unfold maxN;omega⟩ (.refl _) rfl ?_
 refine wf ?_
 exact Ax (.ros rfl)⟩
instance wC (x:Ident):C6 Tryz.prog 104 [.agg (eIdent x)] (.raw (.bool (Ef x))):=⟨by
 refine Av Tryz.func104 Tryz.ntmps104 rfl (rs:= [.tmp 2]) rfl rfl fun hb LF=>?_
 unfold Ef
 refine wf ?_
 repeat' (first|(refine A7 (fun h=>?_) (fun h=>?_)<;>refine wf ?_)|(refine AR (fun h=>?_) (fun h=>?_)<;>refine wf ?_)|(refine AO (fun h=>?_) (fun h=>?_)<;>refine wf ?_)|(refine Aq (fun h=>?_) (fun h=>?_)<;>(have h2:=h;(try simp only[AB,A8,AH,AK]at h2);refine wf ?_)))
 all_goals (refine Ax (.of_eq ?_);simp_all)⟩
theorem Yz {a b:Res} {R L M:List Res}:(a::b::(R++(L++M))).Perm (L++(a::b::(R++M))):=((List.perm_append_comm_assoc R L M).cons b |>.cons a).trans Ao
def EL (c:Chg):List Ident:=(if 2≤c.kind∧c.kind≤6 then [c.file]else [])++(if c.kind=2 then [c.parent]else [])++(if c.kind=5∨c.kind=6 then [c.after,c.before]else [])
theorem cu (c:Chg):Cw c=EL c++c.over:=rfl
def Fy (f:Ident→Ident) (c:Chg):Chg:={ c with file:=if 2≤c.kind∧c.kind≤6 then f c.file else c.file,parent:=if c.kind=2 then f c.parent else c.parent,after:=if c.kind=5∨c.kind=6 then f c.after else c.after,before:=if c.kind=5∨c.kind=6 then f c.before else c.before }
theorem tc (f:Ident→Ident) (c:Chg):Gb f c= { Fy f c with over:=sortI (c.over.map f) }:=rfl
theorem Rh (F:Nat) (cs:List PV) {St:Type} (Lf:St→List Res) (f:Ident→Ident) (g:St→Ident→St) (c:Chg) [hF:B1 Tryz.prog F]
  (hp: ∀ st,∀ x∈Cw c,BG Tryz.prog F (.agg (eIdent x)::cs) (Lf st) (fun r L'=>r= .agg (eIdent (f x))∧L'=Lf (g st x))) (ho:c.over.length≤1000) (st:St):
  BG Tryz.prog 102 [.agg (eChg c),.clo F cs] (Lf st) (fun r L'=>r= .agg (eChg (Gb f c))∧L'=Lf ((Cw c).foldl g st)):=by
 refine C7 Tryz.func102 rfl Tryz.ntmps102 (rs:= [.cell 4 73]) rfl rfl fun hb LF=>?_
 refine sF fun b2=>?_
 refine Bw fun b4=>?_
 refine AE ?_
 refine ws ?_
 refine Cx (σ:=Unit) (fun _=>True) (fun _=> [(1,.clo F cs),(2,.raw (.pointer (some ⟨b2,0,none⟩))),(4,.raw (.pointer (some ⟨b4,0,none⟩)))]) (fun _=> .box b4 73 (eChg Chg.zero):: .box b2 73 (eChg (Fy f c))::(Lf ((EL c).foldl g st)++LF)) ?_ fun _ _=>?_
 ·refine wf ?_
  refine A7 (fun hk=>?_) (fun hk2=>?_)
  ·refine wn ?_
   refine GP [2,6,3,7,9,11] (by decide+kernel) ?_
   refine B3 0 ?_
   refine B3 1 ?_
   refine B3 4 ?_
   refine B3 5 ?_
   refine C4 (fuel:=7) [2,6] (by decide+kernel) (by simp) fun i hi=>?_
   simp only[AF,Aa,or_false]at hi
   rcases hi with rfl|rfl
   ·refine⟨_,rfl,?_⟩
    refine wo ?_
    refine AE ?_
    refine C4 (fuel:=6) [3,6] (by decide+kernel) (by simp) fun i hi=>?_
    simp only[AF,Aa,or_false]at hi
    rcases hi with rfl|rfl
    ·refine⟨_,rfl,?_⟩
     refine C0 (xs:= [.tmp 14]) (Lf st) (.box b4 73 (eChg Chg.zero):: .box b2 73 (eChg c)::LF) (fun L=> .box b4 73 (eChg Chg.zero):: .box b2 73 (eChg c)::(L++LF)) (f:=F) (cs:=cs) (.refl _) rfl rfl Ao _ (hp st c.file (by simp[Cw,hk])) (fun _=>Ao.symm) fun r L' ⟨e1,e2⟩=>?_
     subst e1 e2
     refine AE ?_
     refine Ad 5 6 ?_
     refine wo ?_
     refine AE ?_
     refine B3 8 ?_
     refine Ad 3 7 ?_
     refine C0 (xs:= [.tmp 18]) (Lf (g st c.file)) (.box b4 73 (eChg Chg.zero):: .box b2 73 (eChg c)::LF) (fun L=> .box b4 73 (eChg Chg.zero):: .box b2 73 (eChg c)::(L++LF)) (f:=F) (cs:=cs) (.refl _) rfl rfl Ao _ (hp (g st c.file) c.parent (by simp[Cw,hk])) (fun _=>Ao.symm) fun r L' ⟨e1,e2⟩=>?_
     subst e1 e2
     refine AE ?_
     refine Ad 2 9 ?_
     refine wo ?_
     refine AE ?_
     refine B3 10 ?_
     refine Ad 0 11 ?_
     refine wo ?_
     refine AE ?_
     refine CR (by decide+kernel) ?_
     rw[show Fy f c= { c with file:=f c.file,parent:=f c.parent } by unfold Fy;simp[hk],show(EL c).foldl g st=g (g st c.file) c.parent by unfold EL;simp[hk]]
     exact⟨(),trivial,⟨rfl,rfl,rfl⟩,.refl _⟩
    ·refine⟨_,rfl,?_⟩
     refine wo ?_
     refine AE ?_
     refine Ad 5 3 ?_
     refine C0 (xs:= [.tmp 14]) (Lf st) (.box b4 73 (eChg Chg.zero):: .box b2 73 (eChg c)::LF) (fun L=> .box b4 73 (eChg Chg.zero):: .box b2 73 (eChg c)::(L++LF)) (f:=F) (cs:=cs) (.refl _) rfl rfl Ao _ (hp st c.file (by simp[Cw,hk])) (fun _=>Ao.symm) fun r L' ⟨e1,e2⟩=>?_
     subst e1 e2
     refine AE ?_
     refine B3 8 ?_
     refine Ad 3 7 ?_
     refine C0 (xs:= [.tmp 18]) (Lf (g st c.file)) (.box b4 73 (eChg Chg.zero):: .box b2 73 (eChg c)::LF) (fun L=> .box b4 73 (eChg Chg.zero):: .box b2 73 (eChg c)::(L++LF)) (f:=F) (cs:=cs) (.refl _) rfl rfl Ao _ (hp (g st c.file) c.parent (by simp[Cw,hk])) (fun _=>Ao.symm) fun r L' ⟨e1,e2⟩=>?_
     subst e1 e2
     refine AE ?_
     refine Ad 2 9 ?_
     refine wo ?_
     refine AE ?_
     refine B3 10 ?_
     refine Ad 0 11 ?_
     refine wo ?_
     refine AE ?_
     refine CR (by decide+kernel) ?_
     rw[show Fy f c= { c with file:=f c.file,parent:=f c.parent } by unfold Fy;simp[hk],show(EL c).foldl g st=g (g st c.file) c.parent by unfold EL;simp[hk]]
     exact⟨(),trivial,⟨rfl,rfl,rfl⟩,.refl _⟩
   ·refine⟨_,rfl,?_⟩
    refine wo ?_
    refine AE ?_
    refine Ad 6 2 ?_
    refine wo ?_
    refine AE ?_
    refine Ad 5 3 ?_
    refine C0 (xs:= [.tmp 14]) (Lf st) (.box b4 73 (eChg Chg.zero):: .box b2 73 (eChg c)::LF) (fun L=> .box b4 73 (eChg Chg.zero):: .box b2 73 (eChg c)::(L++LF)) (f:=F) (cs:=cs) (.refl _) rfl rfl Ao _ (hp st c.file (by simp[Cw,hk])) (fun _=>Ao.symm) fun r L' ⟨e1,e2⟩=>?_
    subst e1 e2
    refine AE ?_
    refine B3 8 ?_
    refine Ad 3 7 ?_
    refine C0 (xs:= [.tmp 18]) (Lf (g st c.file)) (.box b4 73 (eChg Chg.zero):: .box b2 73 (eChg c)::LF) (fun L=> .box b4 73 (eChg Chg.zero):: .box b2 73 (eChg c)::(L++LF)) (f:=F) (cs:=cs) (.refl _) rfl rfl Ao _ (hp (g st c.file) c.parent (by simp[Cw,hk])) (fun _=>Ao.symm) fun r L' ⟨e1,e2⟩=>?_
    subst e1 e2
    refine AE ?_
    refine Ad 2 9 ?_
    refine wo ?_
    refine AE ?_
    refine B3 10 ?_
    refine Ad 0 11 ?_
    refine wo ?_
    refine AE ?_
    refine CR (by decide+kernel) ?_
    rw[show Fy f c= { c with file:=f c.file,parent:=f c.parent } by unfold Fy;simp[hk],show(EL c).foldl g st=g (g st c.file) c.parent by unfold EL;simp[hk]]
    exact⟨(),trivial,⟨rfl,rfl,rfl⟩,.refl _⟩
  ·refine wf ?_
   refine Cx (σ:=Unit) (fun _=>True) (fun _=> [(1,.clo F cs),(2,.raw (.pointer (some ⟨b2,0,none⟩))),(4,.raw (.pointer (some ⟨b4,0,none⟩))),(9,.raw (.int .i64 c.kind)),(22,.raw (.bool (decide (c.kind=3∨c.kind=4))))]) (fun _=> .box b4 73 (eChg Chg.zero):: .box b2 73 (eChg c)::(Lf st++LF)) ?_ fun _ _=>?_
   ·refine A7 (fun h=>?_) (fun h=>?_)
    ·refine wf ?_
     exact⟨(),trivial,⟨rfl,rfl,rfl,rfl,by show PV.raw (.bool (decide (c.kind=3)))=_;simp[h]⟩,.refl _⟩
    ·refine wf ?_
     exact⟨(),trivial,⟨rfl,rfl,rfl,rfl,by show PV.raw (.bool (decide (c.kind=4)))=_;simp[h]⟩,.refl _⟩
   refine A7 (fun h=>?_) (fun h3=>?_)
   ·have hk: ¬c.kind=2∧(2≤c.kind∧c.kind≤6)∧ ¬(c.kind=5∨c.kind=6):=by omega
    refine wf ?_
    refine C0 (xs:= [.tmp 27]) (Lf st) (.box b4 73 (eChg Chg.zero):: .box b2 73 (eChg c)::LF) (fun L=> .box b4 73 (eChg Chg.zero):: .box b2 73 (eChg c)::(L++LF)) (f:=F) (cs:=cs) (.refl _) rfl rfl Ao _ (hp st c.file (by simp[Cw,hk])) (fun _=>Ao.symm) fun r L' ⟨e1,e2⟩=>?_
    subst e1 e2
    refine wf ?_
    rw[show Fy f c= { c with file:=f c.file } by unfold Fy;simp[hk],show(EL c).foldl g st=g st c.file by unfold EL;simp[hk]]
    exact⟨(),trivial,⟨rfl,rfl,rfl⟩,.refl _⟩
   ·refine wf ?_
    refine Cx (σ:=Unit) (fun _=>True) (fun _=> [(1,.clo F cs),(2,.raw (.pointer (some ⟨b2,0,none⟩))),(4,.raw (.pointer (some ⟨b4,0,none⟩))),(30,.raw (.bool (decide (c.kind=5∨c.kind=6))))]) (fun _=> .box b4 73 (eChg Chg.zero):: .box b2 73 (eChg c)::(Lf st++LF)) ?_ fun _ _=>?_
    ·refine A7 (fun h=>?_) (fun h=>?_)
     ·refine wf ?_
      exact⟨(),trivial,⟨rfl,rfl,rfl,by show PV.raw (.bool (decide (c.kind=5)))=_;simp[h]⟩,.refl _⟩
     ·refine wf ?_
      exact⟨(),trivial,⟨rfl,rfl,rfl,by show PV.raw (.bool (decide (c.kind=6)))=_;simp[h]⟩,.refl _⟩
    refine A7 (fun h=>?_) (fun h5=>?_)
    ·have hk: ¬c.kind=2∧(2≤c.kind∧c.kind≤6)∧(c.kind=5∨c.kind=6):=by omega
     refine wn ?_
     refine GP [2,6,10,3,7,11,13,15,17] (by decide+kernel) ?_
     refine B3 0 ?_
     refine B3 1 ?_
     refine B3 4 ?_
     refine B3 5 ?_
     refine B3 8 ?_
     refine B3 9 ?_
     refine C4 (fuel:=11) [2,6,10] (by decide+kernel) (by simp) fun i hi=>?_
     simp only[AF,Aa,or_false]at hi
     rcases hi with rfl|rfl|rfl
     ·refine⟨_,rfl,?_⟩
      refine wo ?_
      refine AE ?_
      refine C4 (fuel:=10) [3,6,10] (by decide+kernel) (by simp) fun i hi=>?_
      simp only[AF,Aa,or_false]at hi
      rcases hi with rfl|rfl|rfl
      ·refine⟨_,rfl,?_⟩
       refine C0 (xs:= [.tmp 35]) (Lf st) (.box b4 73 (eChg Chg.zero):: .box b2 73 (eChg c)::LF) (fun L=> .box b4 73 (eChg Chg.zero):: .box b2 73 (eChg c)::(L++LF)) (f:=F) (cs:=cs) (.refl _) rfl rfl Ao _ (hp st c.file (by simp[Cw,hk])) (fun _=>Ao.symm) fun r L' ⟨e1,e2⟩=>?_
       subst e1 e2
       refine AE ?_
       refine C4 (fuel:=9) [6,10] (by decide+kernel) (by simp) fun i hi=>?_
       simp only[AF,Aa,or_false]at hi
       rcases hi with rfl|rfl
       ·refine⟨_,rfl,?_⟩
        refine wo ?_
        refine AE ?_
        refine C4 (fuel:=8) [7,10] (by decide+kernel) (by simp) fun i hi=>?_
        simp only[AF,Aa,or_false]at hi
        rcases hi with rfl|rfl
        ·refine⟨_,rfl,?_⟩
         refine C0 (xs:= [.tmp 39]) (Lf (g st c.file)) (.box b4 73 (eChg Chg.zero):: .box b2 73 (eChg c)::LF) (fun L=> .box b4 73 (eChg Chg.zero):: .box b2 73 (eChg c)::(L++LF)) (f:=F) (cs:=cs) (.refl _) rfl rfl Ao _ (hp (g st c.file) c.after (by simp[Cw,hk])) (fun _=>Ao.symm) fun r L' ⟨e1,e2⟩=>?_
         subst e1 e2
         refine AE ?_
         refine Ad 7 10 ?_
         refine wo ?_
         refine AE ?_
         refine B3 12 ?_
         refine Ad 5 11 ?_
         refine C0 (xs:= [.tmp 43]) (Lf (g (g st c.file) c.after)) (.box b4 73 (eChg Chg.zero):: .box b2 73 (eChg c)::LF) (fun L=> .box b4 73 (eChg Chg.zero):: .box b2 73 (eChg c)::(L++LF)) (f:=F) (cs:=cs) (.refl _) rfl rfl Ao _ (hp (g (g st c.file) c.after) c.before (by simp[Cw,hk])) (fun _=>Ao.symm) fun r L' ⟨e1,e2⟩=>?_
         subst e1 e2
         refine AE ?_
         refine Ad 4 13 ?_
         refine wo ?_
         refine AE ?_
         refine B3 14 ?_
         refine Ad 2 15 ?_
         refine wo ?_
         refine AE ?_
         refine B3 16 ?_
         refine Ad 0 17 ?_
         refine wo ?_
         refine AE ?_
         refine CR (by decide+kernel) ?_
         rw[show Fy f c= { c with file:=f c.file,after:=f c.after,before:=f c.before } by unfold Fy;simp[hk],show(EL c).foldl g st=g (g (g st c.file) c.after) c.before by unfold EL;simp[hk]]
         exact⟨(),trivial,⟨rfl,rfl,rfl⟩,.refl _⟩
        ·refine⟨_,rfl,?_⟩
         refine wo ?_
         refine AE ?_
         refine B3 12 ?_
         refine Ad 6 7 ?_
         refine C0 (xs:= [.tmp 39]) (Lf (g st c.file)) (.box b4 73 (eChg Chg.zero):: .box b2 73 (eChg c)::LF) (fun L=> .box b4 73 (eChg Chg.zero):: .box b2 73 (eChg c)::(L++LF)) (f:=F) (cs:=cs) (.refl _) rfl rfl Ao _ (hp (g st c.file) c.after (by simp[Cw,hk])) (fun _=>Ao.symm) fun r L' ⟨e1,e2⟩=>?_
         subst e1 e2
         refine AE ?_
         refine Ad 5 11 ?_
         refine C0 (xs:= [.tmp 43]) (Lf (g (g st c.file) c.after)) (.box b4 73 (eChg Chg.zero):: .box b2 73 (eChg c)::LF) (fun L=> .box b4 73 (eChg Chg.zero):: .box b2 73 (eChg c)::(L++LF)) (f:=F) (cs:=cs) (.refl _) rfl rfl Ao _ (hp (g (g st c.file) c.after) c.before (by simp[Cw,hk])) (fun _=>Ao.symm) fun r L' ⟨e1,e2⟩=>?_
         subst e1 e2
         refine AE ?_
         refine Ad 4 13 ?_
         refine wo ?_
         refine AE ?_
         refine B3 14 ?_
         refine Ad 2 15 ?_
         refine wo ?_
         refine AE ?_
         refine B3 16 ?_
         refine Ad 0 17 ?_
         refine wo ?_
         refine AE ?_
         refine CR (by decide+kernel) ?_
         rw[show Fy f c= { c with file:=f c.file,after:=f c.after,before:=f c.before } by unfold Fy;simp[hk],show(EL c).foldl g st=g (g (g st c.file) c.after) c.before by unfold EL;simp[hk]]
         exact⟨(),trivial,⟨rfl,rfl,rfl⟩,.refl _⟩
       ·refine⟨_,rfl,?_⟩
        refine wo ?_
        refine AE ?_
        refine Ad 8 6 ?_
        refine wo ?_
        refine AE ?_
        refine B3 12 ?_
        refine Ad 6 7 ?_
        refine C0 (xs:= [.tmp 39]) (Lf (g st c.file)) (.box b4 73 (eChg Chg.zero):: .box b2 73 (eChg c)::LF) (fun L=> .box b4 73 (eChg Chg.zero):: .box b2 73 (eChg c)::(L++LF)) (f:=F) (cs:=cs) (.refl _) rfl rfl Ao _ (hp (g st c.file) c.after (by simp[Cw,hk])) (fun _=>Ao.symm) fun r L' ⟨e1,e2⟩=>?_
        subst e1 e2
        refine AE ?_
        refine Ad 5 11 ?_
        refine C0 (xs:= [.tmp 43]) (Lf (g (g st c.file) c.after)) (.box b4 73 (eChg Chg.zero):: .box b2 73 (eChg c)::LF) (fun L=> .box b4 73 (eChg Chg.zero):: .box b2 73 (eChg c)::(L++LF)) (f:=F) (cs:=cs) (.refl _) rfl rfl Ao _ (hp (g (g st c.file) c.after) c.before (by simp[Cw,hk])) (fun _=>Ao.symm) fun r L' ⟨e1,e2⟩=>?_
        subst e1 e2
        refine AE ?_
        refine Ad 4 13 ?_
        refine wo ?_
        refine AE ?_
        refine B3 14 ?_
        refine Ad 2 15 ?_
        refine wo ?_
        refine AE ?_
        refine B3 16 ?_
        refine Ad 0 17 ?_
        refine wo ?_
        refine AE ?_
        refine CR (by decide+kernel) ?_
        rw[show Fy f c= { c with file:=f c.file,after:=f c.after,before:=f c.before } by unfold Fy;simp[hk],show(EL c).foldl g st=g (g (g st c.file) c.after) c.before by unfold EL;simp[hk]]
        exact⟨(),trivial,⟨rfl,rfl,rfl⟩,.refl _⟩
      ·refine⟨_,rfl,?_⟩
       refine wo ?_
       refine AE ?_
       refine C4 (fuel:=9) [3,10] (by decide+kernel) (by simp) fun i hi=>?_
       simp only[AF,Aa,or_false]at hi
       rcases hi with rfl|rfl
       ·refine⟨_,rfl,?_⟩
        refine C0 (xs:= [.tmp 35]) (Lf st) (.box b4 73 (eChg Chg.zero):: .box b2 73 (eChg c)::LF) (fun L=> .box b4 73 (eChg Chg.zero):: .box b2 73 (eChg c)::(L++LF)) (f:=F) (cs:=cs) (.refl _) rfl rfl Ao _ (hp st c.file (by simp[Cw,hk])) (fun _=>Ao.symm) fun r L' ⟨e1,e2⟩=>?_
        subst e1 e2
        refine AE ?_
        refine C4 (fuel:=8) [7,10] (by decide+kernel) (by simp) fun i hi=>?_
        simp only[AF,Aa,or_false]at hi
        rcases hi with rfl|rfl
        ·refine⟨_,rfl,?_⟩
         refine C0 (xs:= [.tmp 39]) (Lf (g st c.file)) (.box b4 73 (eChg Chg.zero):: .box b2 73 (eChg c)::LF) (fun L=> .box b4 73 (eChg Chg.zero):: .box b2 73 (eChg c)::(L++LF)) (f:=F) (cs:=cs) (.refl _) rfl rfl Ao _ (hp (g st c.file) c.after (by simp[Cw,hk])) (fun _=>Ao.symm) fun r L' ⟨e1,e2⟩=>?_
         subst e1 e2
         refine AE ?_
         refine Ad 7 10 ?_
         refine wo ?_
         refine AE ?_
         refine B3 12 ?_
         refine Ad 5 11 ?_
         refine C0 (xs:= [.tmp 43]) (Lf (g (g st c.file) c.after)) (.box b4 73 (eChg Chg.zero):: .box b2 73 (eChg c)::LF) (fun L=> .box b4 73 (eChg Chg.zero):: .box b2 73 (eChg c)::(L++LF)) (f:=F) (cs:=cs) (.refl _) rfl rfl Ao _ (hp (g (g st c.file) c.after) c.before (by simp[Cw,hk])) (fun _=>Ao.symm) fun r L' ⟨e1,e2⟩=>?_
         subst e1 e2
         refine AE ?_
         refine Ad 4 13 ?_
         refine wo ?_
         refine AE ?_
         refine B3 14 ?_
         refine Ad 2 15 ?_
         refine wo ?_
         refine AE ?_
         refine B3 16 ?_
         refine Ad 0 17 ?_
         refine wo ?_
         refine AE ?_
         refine CR (by decide+kernel) ?_
         rw[show Fy f c= { c with file:=f c.file,after:=f c.after,before:=f c.before } by unfold Fy;simp[hk],show(EL c).foldl g st=g (g (g st c.file) c.after) c.before by unfold EL;simp[hk]]
         exact⟨(),trivial,⟨rfl,rfl,rfl⟩,.refl _⟩
        ·refine⟨_,rfl,?_⟩
         refine wo ?_
         refine AE ?_
         refine B3 12 ?_
         refine Ad 6 7 ?_
         refine C0 (xs:= [.tmp 39]) (Lf (g st c.file)) (.box b4 73 (eChg Chg.zero):: .box b2 73 (eChg c)::LF) (fun L=> .box b4 73 (eChg Chg.zero):: .box b2 73 (eChg c)::(L++LF)) (f:=F) (cs:=cs) (.refl _) rfl rfl Ao _ (hp (g st c.file) c.after (by simp[Cw,hk])) (fun _=>Ao.symm) fun r L' ⟨e1,e2⟩=>?_
         subst e1 e2
         refine AE ?_
         refine Ad 5 11 ?_
         refine C0 (xs:= [.tmp 43]) (Lf (g (g st c.file) c.after)) (.box b4 73 (eChg Chg.zero):: .box b2 73 (eChg c)::LF) (fun L=> .box b4 73 (eChg Chg.zero):: .box b2 73 (eChg c)::(L++LF)) (f:=F) (cs:=cs) (.refl _) rfl rfl Ao _ (hp (g (g st c.file) c.after) c.before (by simp[Cw,hk])) (fun _=>Ao.symm) fun r L' ⟨e1,e2⟩=>?_
         subst e1 e2
         refine AE ?_
         refine Ad 4 13 ?_
         refine wo ?_
         refine AE ?_
         refine B3 14 ?_
         refine Ad 2 15 ?_
         refine wo ?_
         refine AE ?_
         refine B3 16 ?_
         refine Ad 0 17 ?_
         refine wo ?_
         refine AE ?_
         refine CR (by decide+kernel) ?_
         rw[show Fy f c= { c with file:=f c.file,after:=f c.after,before:=f c.before } by unfold Fy;simp[hk],show(EL c).foldl g st=g (g (g st c.file) c.after) c.before by unfold EL;simp[hk]]
         exact⟨(),trivial,⟨rfl,rfl,rfl⟩,.refl _⟩
       ·refine⟨_,rfl,?_⟩
        refine wo ?_
        refine AE ?_
        refine Ad 8 3 ?_
        refine C0 (xs:= [.tmp 35]) (Lf st) (.box b4 73 (eChg Chg.zero):: .box b2 73 (eChg c)::LF) (fun L=> .box b4 73 (eChg Chg.zero):: .box b2 73 (eChg c)::(L++LF)) (f:=F) (cs:=cs) (.refl _) rfl rfl Ao _ (hp st c.file (by simp[Cw,hk])) (fun _=>Ao.symm) fun r L' ⟨e1,e2⟩=>?_
        subst e1 e2
        refine AE ?_
        refine B3 12 ?_
        refine Ad 6 7 ?_
        refine C0 (xs:= [.tmp 39]) (Lf (g st c.file)) (.box b4 73 (eChg Chg.zero):: .box b2 73 (eChg c)::LF) (fun L=> .box b4 73 (eChg Chg.zero):: .box b2 73 (eChg c)::(L++LF)) (f:=F) (cs:=cs) (.refl _) rfl rfl Ao _ (hp (g st c.file) c.after (by simp[Cw,hk])) (fun _=>Ao.symm) fun r L' ⟨e1,e2⟩=>?_
        subst e1 e2
        refine AE ?_
        refine Ad 5 11 ?_
        refine C0 (xs:= [.tmp 43]) (Lf (g (g st c.file) c.after)) (.box b4 73 (eChg Chg.zero):: .box b2 73 (eChg c)::LF) (fun L=> .box b4 73 (eChg Chg.zero):: .box b2 73 (eChg c)::(L++LF)) (f:=F) (cs:=cs) (.refl _) rfl rfl Ao _ (hp (g (g st c.file) c.after) c.before (by simp[Cw,hk])) (fun _=>Ao.symm) fun r L' ⟨e1,e2⟩=>?_
        subst e1 e2
        refine AE ?_
        refine Ad 4 13 ?_
        refine wo ?_
        refine AE ?_
        refine B3 14 ?_
        refine Ad 2 15 ?_
        refine wo ?_
        refine AE ?_
        refine B3 16 ?_
        refine Ad 0 17 ?_
        refine wo ?_
        refine AE ?_
        refine CR (by decide+kernel) ?_
        rw[show Fy f c= { c with file:=f c.file,after:=f c.after,before:=f c.before } by unfold Fy;simp[hk],show(EL c).foldl g st=g (g (g st c.file) c.after) c.before by unfold EL;simp[hk]]
        exact⟨(),trivial,⟨rfl,rfl,rfl⟩,.refl _⟩
      ·refine⟨_,rfl,?_⟩
       refine wo ?_
       refine AE ?_
       refine C4 (fuel:=9) [3,6] (by decide+kernel) (by simp) fun i hi=>?_
       simp only[AF,Aa,or_false]at hi
       rcases hi with rfl|rfl
       ·refine⟨_,rfl,?_⟩
        refine C0 (xs:= [.tmp 35]) (Lf st) (.box b4 73 (eChg Chg.zero):: .box b2 73 (eChg c)::LF) (fun L=> .box b4 73 (eChg Chg.zero):: .box b2 73 (eChg c)::(L++LF)) (f:=F) (cs:=cs) (.refl _) rfl rfl Ao _ (hp st c.file (by simp[Cw,hk])) (fun _=>Ao.symm) fun r L' ⟨e1,e2⟩=>?_
        subst e1 e2
        refine AE ?_
        refine Ad 8 6 ?_
        refine wo ?_
        refine AE ?_
        refine B3 12 ?_
        refine Ad 6 7 ?_
        refine C0 (xs:= [.tmp 39]) (Lf (g st c.file)) (.box b4 73 (eChg Chg.zero):: .box b2 73 (eChg c)::LF) (fun L=> .box b4 73 (eChg Chg.zero):: .box b2 73 (eChg c)::(L++LF)) (f:=F) (cs:=cs) (.refl _) rfl rfl Ao _ (hp (g st c.file) c.after (by simp[Cw,hk])) (fun _=>Ao.symm) fun r L' ⟨e1,e2⟩=>?_
        subst e1 e2
        refine AE ?_
        refine Ad 5 11 ?_
        refine C0 (xs:= [.tmp 43]) (Lf (g (g st c.file) c.after)) (.box b4 73 (eChg Chg.zero):: .box b2 73 (eChg c)::LF) (fun L=> .box b4 73 (eChg Chg.zero):: .box b2 73 (eChg c)::(L++LF)) (f:=F) (cs:=cs) (.refl _) rfl rfl Ao _ (hp (g (g st c.file) c.after) c.before (by simp[Cw,hk])) (fun _=>Ao.symm) fun r L' ⟨e1,e2⟩=>?_
        subst e1 e2
        refine AE ?_
        refine Ad 4 13 ?_
        refine wo ?_
        refine AE ?_
        refine B3 14 ?_
        refine Ad 2 15 ?_
        refine wo ?_
        refine AE ?_
        refine B3 16 ?_
        refine Ad 0 17 ?_
        refine wo ?_
        refine AE ?_
        refine CR (by decide+kernel) ?_
        rw[show Fy f c= { c with file:=f c.file,after:=f c.after,before:=f c.before } by unfold Fy;simp[hk],show(EL c).foldl g st=g (g (g st c.file) c.after) c.before by unfold EL;simp[hk]]
        exact⟨(),trivial,⟨rfl,rfl,rfl⟩,.refl _⟩
       ·refine⟨_,rfl,?_⟩
        refine wo ?_
        refine AE ?_
        refine Ad 8 3 ?_
        refine C0 (xs:= [.tmp 35]) (Lf st) (.box b4 73 (eChg Chg.zero):: .box b2 73 (eChg c)::LF) (fun L=> .box b4 73 (eChg Chg.zero):: .box b2 73 (eChg c)::(L++LF)) (f:=F) (cs:=cs) (.refl _) rfl rfl Ao _ (hp st c.file (by simp[Cw,hk])) (fun _=>Ao.symm) fun r L' ⟨e1,e2⟩=>?_
        subst e1 e2
        refine AE ?_
        refine B3 12 ?_
        refine Ad 6 7 ?_
        refine C0 (xs:= [.tmp 39]) (Lf (g st c.file)) (.box b4 73 (eChg Chg.zero):: .box b2 73 (eChg c)::LF) (fun L=> .box b4 73 (eChg Chg.zero):: .box b2 73 (eChg c)::(L++LF)) (f:=F) (cs:=cs) (.refl _) rfl rfl Ao _ (hp (g st c.file) c.after (by simp[Cw,hk])) (fun _=>Ao.symm) fun r L' ⟨e1,e2⟩=>?_
        subst e1 e2
        refine AE ?_
        refine Ad 5 11 ?_
        refine C0 (xs:= [.tmp 43]) (Lf (g (g st c.file) c.after)) (.box b4 73 (eChg Chg.zero):: .box b2 73 (eChg c)::LF) (fun L=> .box b4 73 (eChg Chg.zero):: .box b2 73 (eChg c)::(L++LF)) (f:=F) (cs:=cs) (.refl _) rfl rfl Ao _ (hp (g (g st c.file) c.after) c.before (by simp[Cw,hk])) (fun _=>Ao.symm) fun r L' ⟨e1,e2⟩=>?_
        subst e1 e2
        refine AE ?_
        refine Ad 4 13 ?_
        refine wo ?_
        refine AE ?_
        refine B3 14 ?_
        refine Ad 2 15 ?_
        refine wo ?_
        refine AE ?_
        refine B3 16 ?_
        refine Ad 0 17 ?_
        refine wo ?_
        refine AE ?_
        refine CR (by decide+kernel) ?_
        rw[show Fy f c= { c with file:=f c.file,after:=f c.after,before:=f c.before } by unfold Fy;simp[hk],show(EL c).foldl g st=g (g (g st c.file) c.after) c.before by unfold EL;simp[hk]]
        exact⟨(),trivial,⟨rfl,rfl,rfl⟩,.refl _⟩
     ·refine⟨_,rfl,?_⟩
      refine wo ?_
      refine AE ?_
      refine C4 (fuel:=10) [2,10] (by decide+kernel) (by simp) fun i hi=>?_
      simp only[AF,Aa,or_false]at hi
      rcases hi with rfl|rfl
      ·refine⟨_,rfl,?_⟩
       refine wo ?_
       refine AE ?_
       refine C4 (fuel:=9) [3,10] (by decide+kernel) (by simp) fun i hi=>?_
       simp only[AF,Aa,or_false]at hi
       rcases hi with rfl|rfl
       ·refine⟨_,rfl,?_⟩
        refine C0 (xs:= [.tmp 35]) (Lf st) (.box b4 73 (eChg Chg.zero):: .box b2 73 (eChg c)::LF) (fun L=> .box b4 73 (eChg Chg.zero):: .box b2 73 (eChg c)::(L++LF)) (f:=F) (cs:=cs) (.refl _) rfl rfl Ao _ (hp st c.file (by simp[Cw,hk])) (fun _=>Ao.symm) fun r L' ⟨e1,e2⟩=>?_
        subst e1 e2
        refine AE ?_
        refine C4 (fuel:=8) [7,10] (by decide+kernel) (by simp) fun i hi=>?_
        simp only[AF,Aa,or_false]at hi
        rcases hi with rfl|rfl
        ·refine⟨_,rfl,?_⟩
         refine C0 (xs:= [.tmp 39]) (Lf (g st c.file)) (.box b4 73 (eChg Chg.zero):: .box b2 73 (eChg c)::LF) (fun L=> .box b4 73 (eChg Chg.zero):: .box b2 73 (eChg c)::(L++LF)) (f:=F) (cs:=cs) (.refl _) rfl rfl Ao _ (hp (g st c.file) c.after (by simp[Cw,hk])) (fun _=>Ao.symm) fun r L' ⟨e1,e2⟩=>?_
         subst e1 e2
         refine AE ?_
         refine Ad 7 10 ?_
         refine wo ?_
         refine AE ?_
         refine B3 12 ?_
         refine Ad 5 11 ?_
         refine C0 (xs:= [.tmp 43]) (Lf (g (g st c.file) c.after)) (.box b4 73 (eChg Chg.zero):: .box b2 73 (eChg c)::LF) (fun L=> .box b4 73 (eChg Chg.zero):: .box b2 73 (eChg c)::(L++LF)) (f:=F) (cs:=cs) (.refl _) rfl rfl Ao _ (hp (g (g st c.file) c.after) c.before (by simp[Cw,hk])) (fun _=>Ao.symm) fun r L' ⟨e1,e2⟩=>?_
         subst e1 e2
         refine AE ?_
         refine Ad 4 13 ?_
         refine wo ?_
         refine AE ?_
         refine B3 14 ?_
         refine Ad 2 15 ?_
         refine wo ?_
         refine AE ?_
         refine B3 16 ?_
         refine Ad 0 17 ?_
         refine wo ?_
         refine AE ?_
         refine CR (by decide+kernel) ?_
         rw[show Fy f c= { c with file:=f c.file,after:=f c.after,before:=f c.before } by unfold Fy;simp[hk],show(EL c).foldl g st=g (g (g st c.file) c.after) c.before by unfold EL;simp[hk]]
         exact⟨(),trivial,⟨rfl,rfl,rfl⟩,.refl _⟩
        ·refine⟨_,rfl,?_⟩
         refine wo ?_
         refine AE ?_
         refine B3 12 ?_
         refine Ad 6 7 ?_
         refine C0 (xs:= [.tmp 39]) (Lf (g st c.file)) (.box b4 73 (eChg Chg.zero):: .box b2 73 (eChg c)::LF) (fun L=> .box b4 73 (eChg Chg.zero):: .box b2 73 (eChg c)::(L++LF)) (f:=F) (cs:=cs) (.refl _) rfl rfl Ao _ (hp (g st c.file) c.after (by simp[Cw,hk])) (fun _=>Ao.symm) fun r L' ⟨e1,e2⟩=>?_
         subst e1 e2
         refine AE ?_
         refine Ad 5 11 ?_
         refine C0 (xs:= [.tmp 43]) (Lf (g (g st c.file) c.after)) (.box b4 73 (eChg Chg.zero):: .box b2 73 (eChg c)::LF) (fun L=> .box b4 73 (eChg Chg.zero):: .box b2 73 (eChg c)::(L++LF)) (f:=F) (cs:=cs) (.refl _) rfl rfl Ao _ (hp (g (g st c.file) c.after) c.before (by simp[Cw,hk])) (fun _=>Ao.symm) fun r L' ⟨e1,e2⟩=>?_
         subst e1 e2
         refine AE ?_
         refine Ad 4 13 ?_
         refine wo ?_
         refine AE ?_
         refine B3 14 ?_
         refine Ad 2 15 ?_
         refine wo ?_
         refine AE ?_
         refine B3 16 ?_
         refine Ad 0 17 ?_
         refine wo ?_
         refine AE ?_
         refine CR (by decide+kernel) ?_
         rw[show Fy f c= { c with file:=f c.file,after:=f c.after,before:=f c.before } by unfold Fy;simp[hk],show(EL c).foldl g st=g (g (g st c.file) c.after) c.before by unfold EL;simp[hk]]
         exact⟨(),trivial,⟨rfl,rfl,rfl⟩,.refl _⟩
       ·refine⟨_,rfl,?_⟩
        refine wo ?_
        refine AE ?_
        refine Ad 8 3 ?_
        refine C0 (xs:= [.tmp 35]) (Lf st) (.box b4 73 (eChg Chg.zero):: .box b2 73 (eChg c)::LF) (fun L=> .box b4 73 (eChg Chg.zero):: .box b2 73 (eChg c)::(L++LF)) (f:=F) (cs:=cs) (.refl _) rfl rfl Ao _ (hp st c.file (by simp[Cw,hk])) (fun _=>Ao.symm) fun r L' ⟨e1,e2⟩=>?_
        subst e1 e2
        refine AE ?_
        refine B3 12 ?_
        refine Ad 6 7 ?_
        refine C0 (xs:= [.tmp 39]) (Lf (g st c.file)) (.box b4 73 (eChg Chg.zero):: .box b2 73 (eChg c)::LF) (fun L=> .box b4 73 (eChg Chg.zero):: .box b2 73 (eChg c)::(L++LF)) (f:=F) (cs:=cs) (.refl _) rfl rfl Ao _ (hp (g st c.file) c.after (by simp[Cw,hk])) (fun _=>Ao.symm) fun r L' ⟨e1,e2⟩=>?_
        subst e1 e2
        refine AE ?_
        refine Ad 5 11 ?_
        refine C0 (xs:= [.tmp 43]) (Lf (g (g st c.file) c.after)) (.box b4 73 (eChg Chg.zero):: .box b2 73 (eChg c)::LF) (fun L=> .box b4 73 (eChg Chg.zero):: .box b2 73 (eChg c)::(L++LF)) (f:=F) (cs:=cs) (.refl _) rfl rfl Ao _ (hp (g (g st c.file) c.after) c.before (by simp[Cw,hk])) (fun _=>Ao.symm) fun r L' ⟨e1,e2⟩=>?_
        subst e1 e2
        refine AE ?_
        refine Ad 4 13 ?_
        refine wo ?_
        refine AE ?_
        refine B3 14 ?_
        refine Ad 2 15 ?_
        refine wo ?_
        refine AE ?_
        refine B3 16 ?_
        refine Ad 0 17 ?_
        refine wo ?_
        refine AE ?_
        refine CR (by decide+kernel) ?_
        rw[show Fy f c= { c with file:=f c.file,after:=f c.after,before:=f c.before } by unfold Fy;simp[hk],show(EL c).foldl g st=g (g (g st c.file) c.after) c.before by unfold EL;simp[hk]]
        exact⟨(),trivial,⟨rfl,rfl,rfl⟩,.refl _⟩
      ·refine⟨_,rfl,?_⟩
       refine wo ?_
       refine AE ?_
       refine Ad 9 2 ?_
       refine wo ?_
       refine AE ?_
       refine Ad 8 3 ?_
       refine C0 (xs:= [.tmp 35]) (Lf st) (.box b4 73 (eChg Chg.zero):: .box b2 73 (eChg c)::LF) (fun L=> .box b4 73 (eChg Chg.zero):: .box b2 73 (eChg c)::(L++LF)) (f:=F) (cs:=cs) (.refl _) rfl rfl Ao _ (hp st c.file (by simp[Cw,hk])) (fun _=>Ao.symm) fun r L' ⟨e1,e2⟩=>?_
       subst e1 e2
       refine AE ?_
       refine B3 12 ?_
       refine Ad 6 7 ?_
       refine C0 (xs:= [.tmp 39]) (Lf (g st c.file)) (.box b4 73 (eChg Chg.zero):: .box b2 73 (eChg c)::LF) (fun L=> .box b4 73 (eChg Chg.zero):: .box b2 73 (eChg c)::(L++LF)) (f:=F) (cs:=cs) (.refl _) rfl rfl Ao _ (hp (g st c.file) c.after (by simp[Cw,hk])) (fun _=>Ao.symm) fun r L' ⟨e1,e2⟩=>?_
       subst e1 e2
       refine AE ?_
       refine Ad 5 11 ?_
       refine C0 (xs:= [.tmp 43]) (Lf (g (g st c.file) c.after)) (.box b4 73 (eChg Chg.zero):: .box b2 73 (eChg c)::LF) (fun L=> .box b4 73 (eChg Chg.zero):: .box b2 73 (eChg c)::(L++LF)) (f:=F) (cs:=cs) (.refl _) rfl rfl Ao _ (hp (g (g st c.file) c.after) c.before (by simp[Cw,hk])) (fun _=>Ao.symm) fun r L' ⟨e1,e2⟩=>?_
       subst e1 e2
       refine AE ?_
       refine Ad 4 13 ?_
       refine wo ?_
       refine AE ?_
       refine B3 14 ?_
       refine Ad 2 15 ?_
       refine wo ?_
       refine AE ?_
       refine B3 16 ?_
       refine Ad 0 17 ?_
       refine wo ?_
       refine AE ?_
       refine CR (by decide+kernel) ?_
       rw[show Fy f c= { c with file:=f c.file,after:=f c.after,before:=f c.before } by unfold Fy;simp[hk],show(EL c).foldl g st=g (g (g st c.file) c.after) c.before by unfold EL;simp[hk]]
       exact⟨(),trivial,⟨rfl,rfl,rfl⟩,.refl _⟩
     ·refine⟨_,rfl,?_⟩
      refine wo ?_
      refine AE ?_
      refine C4 (fuel:=10) [2,6] (by decide+kernel) (by simp) fun i hi=>?_
      simp only[AF,Aa,or_false]at hi
      rcases hi with rfl|rfl
      ·refine⟨_,rfl,?_⟩
       refine wo ?_
       refine AE ?_
       refine C4 (fuel:=9) [3,6] (by decide+kernel) (by simp) fun i hi=>?_
       simp only[AF,Aa,or_false]at hi
       rcases hi with rfl|rfl
       ·refine⟨_,rfl,?_⟩
        refine C0 (xs:= [.tmp 35]) (Lf st) (.box b4 73 (eChg Chg.zero):: .box b2 73 (eChg c)::LF) (fun L=> .box b4 73 (eChg Chg.zero):: .box b2 73 (eChg c)::(L++LF)) (f:=F) (cs:=cs) (.refl _) rfl rfl Ao _ (hp st c.file (by simp[Cw,hk])) (fun _=>Ao.symm) fun r L' ⟨e1,e2⟩=>?_
        subst e1 e2
        refine AE ?_
        refine Ad 8 6 ?_
        refine wo ?_
        refine AE ?_
        refine B3 12 ?_
        refine Ad 6 7 ?_
        refine C0 (xs:= [.tmp 39]) (Lf (g st c.file)) (.box b4 73 (eChg Chg.zero):: .box b2 73 (eChg c)::LF) (fun L=> .box b4 73 (eChg Chg.zero):: .box b2 73 (eChg c)::(L++LF)) (f:=F) (cs:=cs) (.refl _) rfl rfl Ao _ (hp (g st c.file) c.after (by simp[Cw,hk])) (fun _=>Ao.symm) fun r L' ⟨e1,e2⟩=>?_
        subst e1 e2
        refine AE ?_
        refine Ad 5 11 ?_
        refine C0 (xs:= [.tmp 43]) (Lf (g (g st c.file) c.after)) (.box b4 73 (eChg Chg.zero):: .box b2 73 (eChg c)::LF) (fun L=> .box b4 73 (eChg Chg.zero):: .box b2 73 (eChg c)::(L++LF)) (f:=F) (cs:=cs) (.refl _) rfl rfl Ao _ (hp (g (g st c.file) c.after) c.before (by simp[Cw,hk])) (fun _=>Ao.symm) fun r L' ⟨e1,e2⟩=>?_
        subst e1 e2
        refine AE ?_
        refine Ad 4 13 ?_
        refine wo ?_
        refine AE ?_
        refine B3 14 ?_
        refine Ad 2 15 ?_
        refine wo ?_
        refine AE ?_
        refine B3 16 ?_
        refine Ad 0 17 ?_
        refine wo ?_
        refine AE ?_
        refine CR (by decide+kernel) ?_
        rw[show Fy f c= { c with file:=f c.file,after:=f c.after,before:=f c.before } by unfold Fy;simp[hk],show(EL c).foldl g st=g (g (g st c.file) c.after) c.before by unfold EL;simp[hk]]
        exact⟨(),trivial,⟨rfl,rfl,rfl⟩,.refl _⟩
       ·refine⟨_,rfl,?_⟩
        refine wo ?_
        refine AE ?_
        refine Ad 8 3 ?_
        refine C0 (xs:= [.tmp 35]) (Lf st) (.box b4 73 (eChg Chg.zero):: .box b2 73 (eChg c)::LF) (fun L=> .box b4 73 (eChg Chg.zero):: .box b2 73 (eChg c)::(L++LF)) (f:=F) (cs:=cs) (.refl _) rfl rfl Ao _ (hp st c.file (by simp[Cw,hk])) (fun _=>Ao.symm) fun r L' ⟨e1,e2⟩=>?_
        subst e1 e2
        refine AE ?_
        refine B3 12 ?_
        refine Ad 6 7 ?_
        refine C0 (xs:= [.tmp 39]) (Lf (g st c.file)) (.box b4 73 (eChg Chg.zero):: .box b2 73 (eChg c)::LF) (fun L=> .box b4 73 (eChg Chg.zero):: .box b2 73 (eChg c)::(L++LF)) (f:=F) (cs:=cs) (.refl _) rfl rfl Ao _ (hp (g st c.file) c.after (by simp[Cw,hk])) (fun _=>Ao.symm) fun r L' ⟨e1,e2⟩=>?_
        subst e1 e2
        refine AE ?_
        refine Ad 5 11 ?_
        refine C0 (xs:= [.tmp 43]) (Lf (g (g st c.file) c.after)) (.box b4 73 (eChg Chg.zero):: .box b2 73 (eChg c)::LF) (fun L=> .box b4 73 (eChg Chg.zero):: .box b2 73 (eChg c)::(L++LF)) (f:=F) (cs:=cs) (.refl _) rfl rfl Ao _ (hp (g (g st c.file) c.after) c.before (by simp[Cw,hk])) (fun _=>Ao.symm) fun r L' ⟨e1,e2⟩=>?_
        subst e1 e2
        refine AE ?_
        refine Ad 4 13 ?_
        refine wo ?_
        refine AE ?_
        refine B3 14 ?_
        refine Ad 2 15 ?_
        refine wo ?_
        refine AE ?_
        refine B3 16 ?_
        refine Ad 0 17 ?_
        refine wo ?_
        refine AE ?_
        refine CR (by decide+kernel) ?_
        rw[show Fy f c= { c with file:=f c.file,after:=f c.after,before:=f c.before } by unfold Fy;simp[hk],show(EL c).foldl g st=g (g (g st c.file) c.after) c.before by unfold EL;simp[hk]]
        exact⟨(),trivial,⟨rfl,rfl,rfl⟩,.refl _⟩
      ·refine⟨_,rfl,?_⟩
       refine wo ?_
       refine AE ?_
       refine Ad 9 2 ?_
       refine wo ?_
       refine AE ?_
       refine Ad 8 3 ?_
       refine C0 (xs:= [.tmp 35]) (Lf st) (.box b4 73 (eChg Chg.zero):: .box b2 73 (eChg c)::LF) (fun L=> .box b4 73 (eChg Chg.zero):: .box b2 73 (eChg c)::(L++LF)) (f:=F) (cs:=cs) (.refl _) rfl rfl Ao _ (hp st c.file (by simp[Cw,hk])) (fun _=>Ao.symm) fun r L' ⟨e1,e2⟩=>?_
       subst e1 e2
       refine AE ?_
       refine B3 12 ?_
       refine Ad 6 7 ?_
       refine C0 (xs:= [.tmp 39]) (Lf (g st c.file)) (.box b4 73 (eChg Chg.zero):: .box b2 73 (eChg c)::LF) (fun L=> .box b4 73 (eChg Chg.zero):: .box b2 73 (eChg c)::(L++LF)) (f:=F) (cs:=cs) (.refl _) rfl rfl Ao _ (hp (g st c.file) c.after (by simp[Cw,hk])) (fun _=>Ao.symm) fun r L' ⟨e1,e2⟩=>?_
       subst e1 e2
       refine AE ?_
       refine Ad 5 11 ?_
       refine C0 (xs:= [.tmp 43]) (Lf (g (g st c.file) c.after)) (.box b4 73 (eChg Chg.zero):: .box b2 73 (eChg c)::LF) (fun L=> .box b4 73 (eChg Chg.zero):: .box b2 73 (eChg c)::(L++LF)) (f:=F) (cs:=cs) (.refl _) rfl rfl Ao _ (hp (g (g st c.file) c.after) c.before (by simp[Cw,hk])) (fun _=>Ao.symm) fun r L' ⟨e1,e2⟩=>?_
       subst e1 e2
       refine AE ?_
       refine Ad 4 13 ?_
       refine wo ?_
       refine AE ?_
       refine B3 14 ?_
       refine Ad 2 15 ?_
       refine wo ?_
       refine AE ?_
       refine B3 16 ?_
       refine Ad 0 17 ?_
       refine wo ?_
       refine AE ?_
       refine CR (by decide+kernel) ?_
       rw[show Fy f c= { c with file:=f c.file,after:=f c.after,before:=f c.before } by unfold Fy;simp[hk],show(EL c).foldl g st=g (g (g st c.file) c.after) c.before by unfold EL;simp[hk]]
       exact⟨(),trivial,⟨rfl,rfl,rfl⟩,.refl _⟩
    ·have hk: ¬c.kind=2∧ ¬(2≤c.kind∧c.kind≤6)∧ ¬(c.kind=5∨c.kind=6):=by omega
     refine wf ?_
     rw[show Fy f c=c by unfold Fy;simp[hk],show(EL c).foldl g st=st by unfold EL;simp[hk]]
     exact⟨(),trivial,⟨rfl,rfl,rfl⟩,.refl _⟩
 have o2:(Fy f c).over=c.over:=rfl
 generalize hc2:Fy f c=c2 at o2 ⊢
 have ho2:c2.over.length≤1000:=by rw[o2];exact ho
 refine wf ?_
 refine wJ (vf:=vIdn) (c:=c2.over.length) rfl rfl (by omega) (by omega) fun v0 R0 hv0=>?_
 refine wo ?_
 refine AE ?_
 refine EO Ao.symm ?_
 refine wf ?_
 refine AZ (σ:=Nat × St × Value × List Res) (fun k=>k.1≤c2.over.length∧k.2.1=(c2.over.take k.1).foldl g ((EL c).foldl g st)∧py k.2.2.1 ((c2.over.take k.1).map f) k.2.2.2) (fun k=>c2.over.length - k.1) (fun k=> [(1,.clo F cs),(2,.raw (.pointer (some ⟨b2,0,none⟩))),(4,.raw (.pointer (some ⟨b4,0,none⟩))),(5,.raw k.2.2.1),(53,.slice (c2.over.map eIdent) .ro),(54,.raw (.int .i64 c2.over.length)),(55,.raw (.int .i64 k.1))]) (fun k=> .box b4 73 (eChg Chg.zero):: .box b2 73 (eChg c2)::(k.2.2.2++(Lf k.2.1++LF))) (0,(EL c).foldl g st,v0,R0) ⟨by simp,rfl,hv0⟩ ⟨rfl,rfl,rfl,rfl,rfl,rfl,rfl⟩ (.refl _) ?_
 rintro⟨k,s,v,R⟩ ⟨hk,hs,hI⟩
 dsimp only at hk hs hI ⊢
 refine wf ?_
 refine A7 (fun hc=>?_) (fun hc=>?_)
 ·have hlt:k < c2.over.length:=by omega
  refine wz fun b7=>?_
  refine Au 7 ?_
  refine wf ?_
  refine C0 (xs:= [.tmp 61]) (Lf s) (.box b4 73 (eChg Chg.zero):: .box b2 73 (eChg c2)::(R++LF)) (fun L=> .box b4 73 (eChg Chg.zero):: .box b2 73 (eChg c2)::(R++(L++LF))) (f:=F) (cs:=cs) (.refl _) rfl rfl Yz _ (hp s c2.over[k] (by rw[cu,Ah];exact .inr (o2 ▸ AG hlt))) (fun _=>Yz.symm) fun r L' ⟨e1,e2⟩=>?_
  subst e1 e2
  refine wf ?_
  refine Ib (f:=eIdent) (m:= [f c2.over[k]]) (R:=R) (LF:= .box b4 73 (eChg Chg.zero):: .box b2 73 (eChg c2)::(Lf (g s c2.over[k])++LF)) (fun R'=> .box b4 73 (eChg Chg.zero):: .box b2 73 (eChg c2)::(R'++(Lf (g s c2.over[k])++LF))) rfl rfl hI Ao (fun R'=>Ao.symm) (by simp only[AU,Ab,AN,Af];omega) (by simp only[AU,Ab,AN,Af];omega) fun v3 R3 h3=>?_
  refine wf ?_
  refine wf ?_
  refine⟨(k+1,_,v3,R3),⟨by dsimp only;omega,?_,?_⟩,by dsimp only;omega,⟨rfl,rfl,rfl,rfl,rfl,rfl,rfl⟩,.refl _⟩
  ·dsimp only
   rw[A6 hlt,Bk,←hs];rfl
  ·dsimp only
   rw[A6 hlt,Al]
   exact h3
 ·rw[AA (by omega)]at hI hs
  have hms:(sortI (c2.over.map f)).length≤maxN∧(sortI (c2.over.map f)).length*33≤maxN:=by
   have h1:maxN=140737488355328:=rfl
   have h2:(sortI (c2.over.map f)).length=c2.over.length:=by rw[sortI,DZ,AU]
   omega
  have hfin:Gb f c= { c2 with over:=sortI (c2.over.map f) }:=by rw[tc,hc2,o2]
  have hst:(Cw c).foldl g st=s:=by rw[cu,Bk,hs,o2]
  refine wf ?_
  refine C0 (xs:= [.tmp 66,.func 159]) R (.box b4 73 (eChg Chg.zero):: .box b2 73 (eChg c2)::(Lf s++LF)) (fun R'=> .box b4 73 (eChg Chg.zero):: .box b2 73 (eChg c2)::(R'++(Lf s++LF))) (f:=158) (cs:= []) (Bx _) rfl rfl Ao _ (YI _ _ R hI (by simp only[AU];omega)) (fun _=>Ao.symm) fun r' L3 ⟨v3,e3,h3⟩=>?_
  subst e3
  refine wo ?_
  refine AE ?_
  refine Gu (f:=eIdent) 5 h3 hms Ao rfl ?_
  rw[hfin,hst]
  refine wf ?_
  exact⟨trivial,_,_,.cons (.cell 4 73 rfl AI Ek.out (by simp)) .nil,.cons _ (.cons _ (.refl _)),rfl,rfl⟩
instance yM:OW Tryz.prog 140 31 3:=⟨by kernel_rfl⟩
theorem bl (st:List (Dig × Int)) (d:Dig) (m:Nat) (x:Ident) (hs: ∀ e∈st,0≤e.2∧e.2≤1000000000000) (hn:x.n≤1000000000000):
  BG Tryz.prog 103 [.agg (eIdent x),.pt (eDig d) 0,.pt [.raw (.map (some m))] 0] [.map m (BZ kDig vInt st)] (fun r L'=>r= .agg (eIdent (fJ st d x))∧L'= [.map m (BZ kDig vInt st)]):=by
 refine C7 Tryz.func103 rfl Tryz.ntmps103 (rs:= [.cell 4 65]) rfl rfl fun hb LF=>?_
 rw[B2,B7]
 refine wf ?_
 refine Bw fun b4=>?_
 refine wf ?_
 refine Bw fun b5=>?_
 refine ws ?_
 refine Cx (σ:=Unit) (fun _=>True) (fun _=> [(1,.pt (eDig d) 0),(2,.pt [.raw (.map (some m))] 0),(3,.pt (eIdent x) 0),(4,.raw (.pointer (some ⟨b4,0,none⟩))),(5,.raw (.pointer (some ⟨b5,0,none⟩)))]) (fun _=> .box b5 31 (eDig (if Ef x=true then d else x.patch)):: .box b4 65 (eIdent Ident.zero):: .map m (BZ kDig vInt st)::LF) ?_ fun _ _=>?_
 ·refine AO (fun h=>?_) (fun h=>?_)
  ·refine wf ?_
   rw[if_pos h]
   exact⟨(),trivial,⟨rfl,rfl,rfl,rfl,rfl⟩,.refl _⟩
  ·refine wf ?_
   rw[if_neg (by simp[h])]
   exact⟨(),trivial,⟨rfl,rfl,rfl,rfl,rfl⟩,.refl _⟩
 have hj:fJ st d x=match CZ (if Ef x=true then d else x.patch) st with|some k=>if 0≤x.n then⟨Dig.zero,k+x.n⟩else x|none=>x:=rfl
 rw[hj]
 generalize (if Ef x=true then d else x.patch)=e
 have hb0:0≤(CZ e st).getD 0∧(CZ e st).getD 0≤1000000000000:=by
  cases hg:CZ e st with
  |none=>exact⟨by decide,by decide⟩
  |some k=>exact hs _ (O8 hg)
 have hj:(match CZ e st with|some k=>if 0≤x.n then(⟨Dig.zero,k+x.n⟩:Ident)else x|none=>x)=if(CZ e st).isSome=true∧0≤x.n then⟨Dig.zero,(CZ e st).getD 0+x.n⟩else x:=by
  cases hg:CZ e st with
  |none=>simp
  |some k=>simp
 rw[hj]
 refine wf ?_
 refine Aq (fun h=>?_) (fun h=>?_)
 ·refine wf ?_
  refine A7 (fun h2=>?_) (fun h2=>?_)
  ·rw[if_pos ⟨h,h2⟩]
   refine wf ?_
   exact⟨trivial,_,_,.cons (.cell 4 65 rfl (AL _ AI) Ek.out (by simp)) .nil,.cons _ (.cons _ (.refl _)),rfl,rfl⟩
  ·rw[if_neg fun k=>h2 k.2]
   refine wf ?_
   exact⟨trivial,_,_,.cons (.cell 4 65 rfl (AL _ AI) Ek.out (by simp)) .nil,.cons _ (.cons _ (.refl _)),rfl,rfl⟩
 ·rw[if_neg fun k=>by simp[k.1]at h]
  refine wf ?_
  exact⟨trivial,_,_,.cons (.cell 4 65 rfl (AL _ AI) Ek.out (by simp)) .nil,.cons _ (.cons _ (.refl _)),rfl,rfl⟩
@[reducible] def MQ (m:Mta) (vd:Value) (cs:List Chg) (tg:C9):List PV:= [.str m.author,.str m.message,.raw (.int .i64 m.time),.raw vd,.slice (cs.map eChg) tg]
@[reducible] def SF (m:Mta) (ds:List Dig) (cs:List Chg) (tg:C9):List PV:= [.str m.author,.str m.message,.raw (.int .i64 m.time),.slice (ds.map eDig) .ro,.slice (cs.map eChg) tg]
theorem r7 (m:Mta) (ds:List Dig) (cs:List Chg) (tg:C9):Le (.agg (SF m ds cs tg)) (.agg (Bh ⟨m.author,m.message,m.time,ds,cs⟩)):=fun g v hv=>by
 obtain⟨vs,rfl,h⟩:=hv.agg_inv
 match vs,h with
 | [a,b,c,d,e],h=>
   exact EF.agg (.cons h.uncons.1 (.cons h.uncons.2.uncons.1 (.cons h.uncons.2.uncons.2.uncons.1 (.cons h.uncons.2.uncons.2.uncons.2.uncons.1 (.cons h.uncons.2.uncons.2.uncons.2.uncons.2.uncons.1.ro (.nil g))))))
 | [],h=>have:=h.len;simp at this
 | [_],h=>have:=h.len;simp at this
 | [_,_],h=>have:=h.len;simp at this
 | [_,_,_],h=>have:=h.len;simp at this
 | [_,_,_,_],h=>have:=h.len;simp at this
 |_::_::_::_::_::_::_,h=>have:=h.len;simp at this
theorem qL:Ck Tryz.prog 40 [.str [],.str [],.raw (.int .i64 0),.raw (.slice none 0 0),.slice [] .nil]:=⟨by
 have h:((Tryz.prog.info? 40).bind (·.zero)).map (·.cells.toList)=some [.string ⟨#[]⟩,.string ⟨#[]⟩,.int .i64 0,.slice none 0 0,.slice none 0 0]:=by kernel_rfl
 obtain⟨v,h1,h2⟩:=BR.1 h
 obtain⟨i,h3,h4⟩:=Da.1 h1
 exact⟨i,v,_,h3,h4,by rw[←h2],fun g=> .cons (.str (by simp)) (.cons (.str (by simp)) (.cons (.raw _) (.cons (.raw _) (.cons (.nilN none (by simp)) (.nil g)))))⟩⟩
instance :Ck Tryz.prog 140 [.raw (.map none)]:=Nk (v:= .map none) (by kernel_rfl) rfl fun _=> .raw _
theorem Sl {s:List Sto} (v:Bc s) {x:Sto} (hx:x∈s) {c:Chg} (hc:c∈x.patch.changes): ∀ y∈Cw c,y.n≤16200:=by
 have hu:=v.uses hx hc
 have cnt: ∀ z∈s,Nc z.patch≤16200:=fun z hz=>(EB (v.close.1.2 z hz)).1
 have key: ∀ y,(Qy (Nc x.patch) y∧Kt s y)→y.n≤16200:=fun y ⟨h1,h2⟩=>by
  by_cases hz:y.patch=Dig.zero
  ·have:=h1.2 hz;have:=cnt x hx;omega
  ·obtain⟨z,hz',_,_,h4⟩:=h2 hz
   have:=cnt z hz';omega
 intro y hy
 unfold Cw at hy
 simp only[Ah]at hy
 rcases hy with ((hy|hy)|hy)|hy
 ·split at hy
  ·rename_i h;rw[Ae.1 hy];exact key _ (hu.file h.1 h.2)
  ·cases hy
 ·split at hy
  ·rename_i h
   rw[Ae.1 hy]
   by_cases hr:c.parent=rRoot
   ·rw[hr];decide
   ·exact key _ (hu.parent h hr)
  ·cases hy
 ·split at hy
  ·rename_i h
   simp only[AF,Aa,or_false]at hy
   rcases hy with rfl|rfl
   ·exact key _ (hu.after h)
   ·exact key _ (hu.before h)
  ·cases hy
 ·exact key _ (hu.over y hy)
theorem eC {m:Mta} {vd:Value} {cs:List Chg} {tg:C9} (h:vd.oneCell'=true):Ju (MQ m vd cs tg):=Kn (Kn (FM rfl (FM h (JF Gn))))
instance zc (m:Mta) (vd:Value) (cs:List Chg) (tg:C9):At (MQ m vd cs tg) 3 (.raw vd):=⟨rfl⟩
instance zZ (m:Mta) (vd:Value) (cs:List Chg) (tg:C9):At (MQ m vd cs tg) 4 (.slice (cs.map eChg) tg):=⟨rfl⟩
theorem W5 {s:List Sto} (v:Bc s) {x:Sto} (hx:x∈s):C6 Tryz.prog 29 [.agg (Bh x.patch)] (.raw (.int .i64 (cntS s x.id))):=⟨by
 have i1:Aw (E6 x.patch=false):=⟨v.close.1.2 x hx⟩
 have e:cntS s x.id=(Kx x.patch).1.length:=by
  rw[v.cntS hx,(X5 (by rw[X6];exact(v.id x hx).1)).1];rfl
 refine Av Tryz.func29 Tryz.ntmps29 rfl (rs:= [.tmp 2]) rfl rfl fun hb LF=>?_
 refine wf ?_
 refine Ax (.of_eq ?_)
 rw[e]⟩
theorem fZ {a b c d:Res} {l:List Res}:(a::b::c::d::l).Perm (d::c::b::a::l):=(List.reverse_perm [a,b,c,d]).symm.append_right l
theorem RY {a b c d:Res} {L M:List Res}:(a::b::c::d::(L++M)).Perm (L++(a::b::c::d::M)):=(((Ao (a:=c) (b:=d)).cons b).cons a).trans Ao
theorem My {a b c:Res} {l:List Res}:(a::b::c::l).Perm (c::a::b::l):=((List.Perm.swap c b l).cons a).trans (.swap c a (b::l))
structure uh (s:List Sto) (l:List Dig) (i:Nat) (st:List (Dig × Int)) (n:Int) (cs:List Chg) (ds:List Dig):Prop where
 is:((C5 s).take i).foldl (jP s l) ([],0,[],[])=(st,n,cs,ds)
 n0:0≤n∧n≤i*16200
 st: ∀ e∈st,0≤e.2∧e.2≤i*16200
 cs:cs.length≤i*200
 ds:ds.length≤i*200
theorem uh.out {s:List Sto} {l:List Dig} {i:Nat} {st:List (Dig × Int)} {n:Int} {cs:List Chg} {ds:List Dig} (h:uh s l i st n cs ds) (hi:i < (C5 s).length) (hl: ¬(C5 s)[i]∈l):uh s l (i+1) st n cs ds:=by
 obtain⟨h1,h2,h3,h4,h5⟩:=h
 refine⟨?_,by omega,fun e he=>by have:=h3 e he;omega,by omega,by omega⟩
 rw[A6 hi,Bk,h1,Br,JK]
 unfold jP
 rw[if_neg hl]
theorem uh.in_ {s:List Sto} (v:Bc s) {l:List Dig} {i:Nat} {st:List (Dig × Int)} {n:Int} {cs:List Chg} {ds:List Dig} (h:uh s l i st n cs ds) (hi:i < (C5 s).length) {x:Sto} (hx:x∈s) (hd:(C5 s)[i]=x.id) (hl:x.id∈l):
  uh s l (i+1) (Db x.id n st) (n+cntS s x.id) (cs++x.patch.changes.map (Gb (fJ (Db x.id n st) x.id))) (ds++x.patch.deps.filter fun e=>decide (¬e∈l)):=by
 obtain⟨h1,h2,h3,h4,h5⟩:=h
 have hb:=v.close.1.2 x hx
 have hc:cntS s x.id≤16200:=by rw[v.cntS hx];exact(EB hb).1
 obtain⟨_,_,g1,g2,_⟩:=EY hb
 have hf:(x.patch.deps.filter fun e=>decide (¬e∈l)).length≤x.patch.deps.length:=CX _ _
 refine⟨?_,by omega,fun e he=>?_,?_,?_⟩
 ·rw[A6 hi,Bk,h1,Br,JK,hd]
  unfold jP
  rw[if_pos hl,v.getS hx]
  rfl
 ·have key: ∀ (m:List (Dig × Int)) e,e∈Db x.id n m→e.2=n∨e∈m:=fun m=>by
   induction m with
   |nil=>intro e he;simp[Db]at he;exact .inl (by rw[he])
   |cons a m ih=>
    intro e he
    unfold Db at he
    split at he
    ·rcases AF.1 he with rfl|he
     ·exact .inl rfl
     ·exact .inr (AL _ he)
    ·rcases AF.1 he with rfl|he
     ·exact .inr AI
     ·exact(ih e he).imp id (AL _)
  rcases key st e he with h|h
  ·rw[h];omega
  ·have:=h3 e h;omega
 ·rw[AD,AU];omega
 ·rw[AD];omega
structure JS where
 i:Nat
 st:List (Dig × Int)
 n:Int
 cs:List Chg
 tg:C9
 vd:Value
 ds:List Dig
 R:List Res
theorem gA (s:List Sto) (t:C9) (l:List Dig) (u:C9) (m:Mta) (hv:Bc s):C6 Tryz.prog 39 [.slice (s.map eSto) t,.slice (l.map eDig) u,.agg (Ed m)] (.agg (Bh (IV s l m))):=⟨by
 have c1:=fun t=>Vh s t hv.close.1 hv.asc
 have ho:=Ey s
 have hol:(C5 s).length≤200:=by
  have:=FE ho.nodup (u:=ids s) ho.sub
  have:=hv.close.1.1
  unfold ids at*
  simp only[AU]at*
  omega
 refine Av Tryz.func39 Tryz.ntmps39 rfl (rs:= [.cell 6 40]) rfl rfl fun hb LF=>?_
 refine wf ?_
 refine Bw fun b6=>?_
 refine AE ?_
 repeat(refine DP ?_)
 refine CC (by kernel_rfl) ?_
 iterate 6 (refine w1 ?_)
 refine QM (hZ:=qL) (c0:= [.str m.author]) (c1:= [.str m.message]) (c2:= [.raw (.int .i64 m.time)]) (r0:= [.str m.author,.str [],.raw (.int .i64 0),.raw (.slice none 0 0),.slice [] .nil]) (r1:= [.str m.author,.str m.message,.raw (.int .i64 0),.raw (.slice none 0 0),.slice [] .nil]) (r2:=MQ m (.slice none 0 0) [] .nil) (hP0:=⟨rfl,by simp⟩) (hP1:=⟨rfl,by simp⟩) (hP2:=⟨rfl,by simp⟩) ?_ ?_ ?_ rfl rfl rfl ?_
 ·exact DB.one (c:= .str m.author) Dn.out
 ·exact DB.one (c:= .str m.message) Dn.out
 ·exact DB.one (c:= .raw (.int .i64 m.time)) Dn.out
 refine Bw fun b7=>?_
 refine Lq (new:=MQ m (.slice none 0 0) [] .nil) (hf:=⟨eC rfl⟩) rfl rfl .here rfl (by simp) ?_
 refine AE ?_
 repeat(refine DP ?_)
 refine CC (by kernel_rfl) ?_
 refine Oc fun mp=>?_
 refine Bw fun b8=>?_
 refine wo ?_
 refine AE ?_
 refine Au 8 ?_
 refine wf ?_
 refine EP 139 ?_
 refine EO fZ ?_
 refine AZ (σ:=JS) (fun k=>k.i≤(C5 s).length∧uh s l k.i k.st k.n k.cs k.ds∧V7 k.vd k.ds k.R) (fun k=>(C5 s).length - k.i) (fun k=> [(0,.slice (s.map eSto) t),(1,.slice (l.map eDig) u),(6,.raw (.pointer (some ⟨b6,0,none⟩))),(7,.raw (.pointer (some ⟨b7,0,none⟩))),(8,.pt [.raw (.map (some mp))] 0),(9,.raw (.int .i64 k.n)),(27,.slice ((C5 s).map eDig) .ro),(28,.raw (.int .i64 (C5 s).length)),(29,.raw (.int .i64 k.i))]) (fun k=> .box b6 40 (Bh Pat.zero):: .box b7 40 (MQ m k.vd k.cs k.tg):: .map mp (BZ kDig vInt k.st):: .tok k.tg (k.cs).length 139::(k.R++LF)) ⟨0,[],0,[],.nil,.slice none 0 0,[],[]⟩ ⟨by simp,⟨rfl,by decide,fun e he=>absurd he Aa,by simp,by simp⟩,.nil none (by simp)⟩ ⟨rfl,rfl,rfl,rfl,rfl,rfl,rfl,rfl,rfl⟩ (.refl _) ?_
 rintro⟨i,st,n,cs,tg,vd,ds,R⟩ ⟨hi,hJ,hR⟩
 dsimp only at hi hJ hR ⊢
 refine wf ?_
 refine A7 (fun hc=>?_) (fun hc=>?_)
 ·have hlt:i < (C5 s).length:=by omega
  obtain⟨x,hx,hxd⟩:=AQ.1 (ho.sub _ (AG hlt))
  refine wz fun b11=>?_
  refine Au 11 ?_
  refine wf ?_
  refine AR (fun h=>?_) (fun h=>?_)
  ·refine wf ?_
   exact⟨⟨i+1,st,n,cs,tg,vd,ds,R⟩,⟨by dsimp only;omega,hJ.out hlt h,hR⟩,by dsimp only;omega,⟨rfl,rfl,rfl,rfl,rfl,rfl,rfl,rfl,rfl⟩,.refl _⟩
  ·have hl:x.id∈l:=by rw[hxd];exact h
   have hJ':=hJ.in_ hv hlt hx hxd.symm hl
   have hb0:=hv.close.1.2 x hx
   have hc16:cntS s x.id≤16200:=by rw[hv.cntS hx];exact(EB hb0).1
   obtain⟨_,_,g1,g2,gch⟩:=EY hb0
   have cg: ∀ t,C6 Tryz.prog 17 [.slice (s.map eSto) t,.agg (eDig x.id)] (.tuple [.agg (Bh x.patch),.raw (.bool true)]):=fun t=>by
    have:=P1 s t x.id
    rw[hv.getS hx]at this
    exact this
   have cc:=W5 hv hx
   have hn0:=hJ.n0
   have hst0:=hJ'.st
   have hcs0:=hJ.cs
   have hds0:=hJ.ds
   rw[←hxd]
   refine wz fun b12=>?_
   refine Au 12 ?_
   refine wf ?_
   refine Sw (κ:=Dig) (ek:=kDig) (ev:=vInt) (k0:=x.id) (x0:=n) (L':= .box b6 40 (Bh Pat.zero):: .box b7 40 (MQ m vd cs tg):: .tok tg cs.length 139::(R++LF)) rfl My (.refl _) (.refl _) ?_
   refine AE ?_
   refine EO My.symm ?_
   refine wf ?_
   refine AZ (σ:=Nat × List Chg × C9) (fun k=>k.1≤x.patch.changes.length∧k.2.1=cs++(x.patch.changes.take k.1).map (Gb (fJ (Db x.id n st) x.id))) (fun k=>x.patch.changes.length - k.1) (fun k=> [(0,.slice (s.map eSto) t),(1,.slice (l.map eDig) u),(6,.raw (.pointer (some ⟨b6,0,none⟩))),(7,.raw (.pointer (some ⟨b7,0,none⟩))),(8,.pt [.raw (.map (some mp))] 0),(9,.raw (.int .i64 (n+cntS s x.id))),(27,.slice ((C5 s).map eDig) .ro),(28,.raw (.int .i64 (C5 s).length)),(29,.raw (.int .i64 i)),(11,.pt (eDig x.id) 0),(12,.pt (Bh x.patch) 0),(51,.slice (x.patch.changes.map eChg) .ro),(52,.raw (.int .i64 x.patch.changes.length)),(53,.raw (.int .i64 k.1))]) (fun k=> .box b6 40 (Bh Pat.zero):: .box b7 40 (MQ m vd k.2.1 k.2.2):: .map mp (BZ kDig vInt (Db x.id n st)):: .tok k.2.2 (k.2.1).length 139::(R++LF)) (0,cs,tg) ⟨by simp,by simp⟩ ⟨rfl,rfl,rfl,rfl,rfl,rfl,rfl,rfl,rfl,rfl,rfl,rfl,rfl,rfl⟩ (.refl _) ?_
   rintro⟨j,cs1,tg1⟩ ⟨hj,hcs⟩
   dsimp only at hj hcs ⊢
   refine wf ?_
   refine A7 (fun hc1=>?_) (fun hc1=>?_)
   ·have hjl:j < x.patch.changes.length:=by omega
    have hch:=AG hjl
    have hl1:cs1.length=cs.length+j:=by rw[hcs];simp;omega
    refine wz fun b15=>?_
    refine Au 15 ?_
    refine wn ?_
    refine Bb 6 ?_ ?_
    ·decide+kernel
    refine wf ?_
    refine L6 (xs:= [.tmp 59,.tmp 60]) [.map mp (BZ kDig vInt (Db x.id n st))] (.box b6 40 (Bh Pat.zero):: .box b7 40 (MQ m vd cs1 tg1):: .tok tg1 cs1.length 139::(R++LF)) (.agg (eChg (Gb (fJ (Db x.id n st) x.id) x.patch.changes[j]))) (f:=102) (cs:= []) (Bx _) rfl rfl My (Rh 103 _ (fun _:Unit=> [.map mp (BZ kDig vInt (Db x.id n st))]) (fJ (Db x.id n st) x.id) (fun _ _=>()) x.patch.changes[j] (fun _ y hy=>bl (Db x.id n st) x.id mp y (fun e he=>by have:=hst0 e he;omega) (by have:=Sl hv hx hch y hy;omega)) (by have:=(gch _ hch).over;omega) ()) ?_
    refine aQ fun v'=>?_
    refine FW (ay:= .slice ((cs1++ [Gb (fJ (Db x.id n st) x.id) x.patch.changes[j]]).map eChg) v') (MQ m vd (cs1++ [Gb (fJ (Db x.id n st) x.id) x.patch.changes[j]]) v') rfl rfl Dn.out rfl (by simp) ?_
    refine wf ?_
    refine wf ?_
    refine⟨(j+1,(cs1++ [Gb (fJ (Db x.id n st) x.id) x.patch.changes[j]]),v'),⟨by dsimp only;omega,?_⟩,by dsimp only;omega,⟨rfl,rfl,rfl,rfl,rfl,rfl,rfl,rfl,rfl,rfl,rfl,rfl,rfl,rfl⟩,.refl _⟩
    dsimp only
    rw[A6 hjl,Al,hcs,AX]
    rfl
   ·have hcs:cs1=cs++x.patch.changes.map (Gb (fJ (Db x.id n st) x.id)):=by rw[hcs,AA (by omega)]
    rw[←hcs]at hJ'
    refine wf ?_
    refine AZ (σ:=Nat × Value × List Dig × List Res) (fun k=>k.1≤x.patch.deps.length∧k.2.2.1=ds++(x.patch.deps.take k.1).filter (fun e=>decide (¬e∈l))∧V7 k.2.1 k.2.2.1 k.2.2.2) (fun k=>x.patch.deps.length - k.1) (fun k=> [(0,.slice (s.map eSto) t),(1,.slice (l.map eDig) u),(6,.raw (.pointer (some ⟨b6,0,none⟩))),(7,.raw (.pointer (some ⟨b7,0,none⟩))),(8,.pt [.raw (.map (some mp))] 0),(9,.raw (.int .i64 (n+cntS s x.id))),(27,.slice ((C5 s).map eDig) .ro),(28,.raw (.int .i64 (C5 s).length)),(29,.raw (.int .i64 i)),(12,.pt (Bh x.patch) 0),(67,.slice (x.patch.deps.map eDig) .ro),(68,.raw (.int .i64 x.patch.deps.length)),(69,.raw (.int .i64 k.1))]) (fun k=> .box b6 40 (Bh Pat.zero):: .box b7 40 (MQ m k.2.1 cs1 tg1):: .map mp (BZ kDig vInt (Db x.id n st)):: .tok tg1 (cs1).length 139::(k.2.2.2++LF)) (0,vd,ds,R) ⟨by simp,by simp,hR⟩ ⟨rfl,rfl,rfl,rfl,rfl,rfl,rfl,rfl,rfl,rfl,rfl,rfl,rfl⟩ (.refl _) ?_
    rintro⟨q,vd1,ds1,R1⟩ ⟨hq,hds,hR1⟩
    dsimp only at hq hds hR1 ⊢
    have hdl:ds1.length≤40000+q:=by
     have:=CX (fun e=>decide (¬e∈l)) (x.patch.deps.take q)
     rw[hds,AD]
     rw[Ab]at this
     omega
    refine wf ?_
    refine A7 (fun hc2=>?_) (fun hc2=>?_)
    ·have hql:q < x.patch.deps.length:=by omega
     refine wz fun b17=>?_
     refine Au 17 ?_
     refine wf ?_
     refine AR (fun hd=>?_) (fun hd=>?_)
     ·refine wf ?_
      refine Ib (f:=eDig) (m:= [x.patch.deps[q]]) (R:=R1) (LF:= .box b6 40 (Bh Pat.zero):: .box b7 40 (MQ m vd1 cs1 tg1):: .map mp (BZ kDig vInt (Db x.id n st)):: .tok tg1 cs1.length 139::LF) (fun R'=> .box b6 40 (Bh Pat.zero):: .box b7 40 (MQ m vd1 cs1 tg1):: .map mp (BZ kDig vInt (Db x.id n st)):: .tok tg1 cs1.length 139::(R'++LF)) rfl rfl hR1 RY (fun R'=>RY.symm) (by simp only[AN,Af];omega) (by simp only[AN,Af];omega) fun v2 R2 hv2=>?_
      refine wf ?_
      refine Hh (MQ m v2 cs1 tg1) rfl rfl hv2.one rfl (by simp) ?_
      refine wf ?_
      refine wf ?_
      refine⟨(q+1,v2,_,R2),⟨by dsimp only;omega,?_,hv2⟩,by dsimp only;omega,⟨rfl,rfl,rfl,rfl,rfl,rfl,rfl,rfl,rfl,rfl,rfl,rfl,rfl⟩,.refl _⟩
      dsimp only
      rw[A6 hql,DU,hds,AX,E0 (by simpa using hd)]
      rfl
     ·refine wf ?_
      refine⟨(q+1,vd1,ds1,R1),⟨by dsimp only;omega,?_,hR1⟩,by dsimp only;omega,⟨rfl,rfl,rfl,rfl,rfl,rfl,rfl,rfl,rfl,rfl,rfl,rfl,rfl⟩,.refl _⟩
      dsimp only
      rw[A6 hql,DU,hds,E1 (by simpa using hd)]
      simp
    ·have hds:ds1=ds++x.patch.deps.filter (fun e=>decide (¬e∈l)):=by rw[hds,AA (by omega)]
     rw[←hds]at hJ'
     refine wf ?_
     exact⟨⟨i+1,(Db x.id n st),(n+cntS s x.id),cs1,tg1,vd1,ds1,R1⟩,⟨by dsimp only;omega,hJ',hR1⟩,by dsimp only;omega,⟨rfl,rfl,rfl,rfl,rfl,rfl,rfl,rfl,rfl⟩,.refl _⟩
 have hii:i=(C5 s).length:=by omega
 have hjn:IV s l m=⟨m.author,m.message,m.time,Kp (sortD ds),cs⟩:=by
  unfold IV
  rw[show(C5 s).foldl (jP s l) ([],0,[],[])=(st,n,cs,ds) by rw[←hJ.is,AA (by omega)]]
 have hds0:=hJ.ds
 have hsl:(sortD ds).length=ds.length:=by unfold sortD;rw[DZ]
 rw[hjn]
 refine wf ?_
 refine C0 (xs:= [.tmp 86,.func 61]) R (.box b6 40 (Bh Pat.zero):: .box b7 40 (MQ m vd cs tg):: .map mp (BZ kDig vInt st):: .tok tg cs.length 139::LF) (fun R'=> .box b6 40 (Bh Pat.zero):: .box b7 40 (MQ m vd cs tg):: .map mp (BZ kDig vInt st):: .tok tg cs.length 139::(R'++LF)) (f:=60) (cs:= []) (Bx _) rfl rfl RY _ (Sb ds vd R hR (by omega)) (fun _=>RY.symm) fun r L2 ⟨v2,e2,hv2⟩=>?_
 subst e2
 refine wf ?_
 refine C0 (xs:= [.tmp 89]) L2 (.box b6 40 (Bh Pat.zero):: .box b7 40 (MQ m v2 cs tg):: .map mp (BZ kDig vInt st):: .tok tg cs.length 139::LF) (fun R'=> .box b6 40 (Bh Pat.zero):: .box b7 40 (MQ m v2 cs tg):: .map mp (BZ kDig vInt st):: .tok tg cs.length 139::(R'++LF)) (f:=62) (cs:= []) (Bx _) rfl rfl RY _ (Px (sortD ds) v2 L2 hv2 (by omega)) (fun _=>RY.symm) fun r L3 ⟨hr,hL3⟩=>?_
 subst hr hL3
 refine wo ?_
 refine FW (ay:= .slice ((Kp (sortD ds)).map eDig) .ro) (SF m (Kp (sortD ds)) cs tg) rfl rfl Dn.out rfl (by simp) ?_
 refine wf ?_
 refine VQ (cs:=SF m (Kp (sortD ds)) cs tg) rfl (AL _ AI) rfl ?_
 refine Lq (new:=SF m (Kp (sortD ds)) cs tg) (hf:=⟨Kn (Kn (FM rfl (JF (JF Gn))))⟩) rfl rfl .here rfl (by simp) ?_
 refine wf ?_
 exact Fp rfl (r7 _ _ _ _)⟩
theorem Pa (s:List Sto) (t:C9) (l:List Dig) (u:C9) (m:Mta) (hv:Bc s) (hl:l.length≤400) (hs:s.length≤190) (hg:E6 (IV s l m)=false):
  C6 Tryz.prog 12 [.slice (s.map eSto) t,.slice (l.map eDig) u,.agg (Ed m)] (.tuple [.slice ((Uc s l m).1.map eSto) .ro,.agg (eDig (Uc s l m).2.1),.raw (.int .i64 (Uc s l m).2.2)]):=⟨by
 have i1:Aw (Bc s):=⟨hv⟩
 have i2:Aw (l.length≤400):=⟨hl⟩
 have i3:Aw (GQ s):=⟨hv.close.1⟩
 have i4:Aw (s.length≤1000):=⟨by omega⟩
 have i5:Aw (E6 (IV s l m)=false):=⟨hg⟩
 have cj:=fun t u=>gA s t l u m hv
 refine Av Tryz.func12 Tryz.ntmps12 rfl (rs:= [.tmp 6,.cell 7 31,.tmp 8]) rfl rfl fun hb LF=>?_
 refine wf ?_
 refine Bw fun b7=>?_
 refine wf ?_
 refine AO (fun h1=>?_) (fun h1=>?_)
 ·have e:Uc s l m=([],Dig.zero,7):=by unfold Uc;rw[if_pos (by simpa using h1)]
  rw[e]
  refine wf ?_
  refine H0 rfl ?_
  exact .tuple3 (.ro _ _) (.refl _) (.refl _)
 have h1:CW (ids s) l=true:=by simpa using h1
 refine wf ?_
 refine BM [(15,.raw (.bool (decide (l.length=0∨mW s l=false)))),(0,.slice (s.map eSto) t),(1,.slice (l.map eDig) u),(5,.pt (Ed m) 0),(7,.raw (.pointer (some ⟨b7,0,none⟩)))] (.box b7 31 (eDig Dig.zero)::LF) ?_ ?_
 ·repeat' (first|(refine A7 (fun h=>?_) (fun h=>?_)<;>refine wf ?_)|(refine AR (fun h=>?_) (fun h=>?_)<;>refine wf ?_)|(refine AO (fun h=>?_) (fun h=>?_)<;>refine wf ?_)|(refine Aq (fun h=>?_) (fun h=>?_)<;>(have h2:=h;(try simp only[AB,A8,AH,AK]at h2);refine wf ?_)))
  all_goals (refine⟨⟨Bp (by rfl) ?_,rfl,rfl,rfl,rfl⟩,.refl _⟩;first|(simp_all;done)|(simp_all;omega)|grind)
 refine wf ?_
 refine A7 (fun h2=>?_) (fun h2=>?_)
 ·have e:Uc s l m=([],Dig.zero,1):=by unfold Uc;rw[if_neg (by simp[h1]),if_pos h2]
  rw[e]
  refine wf ?_
  refine H0 rfl ?_
  exact .tuple3 (.ro _ _) (.refl _) (.refl _)
 refine wf ?_
 refine AO (fun h3=>?_) (fun h3=>?_)
 ·have e:Uc s l m=([],Dig.zero,19):=by unfold Uc;rw[if_neg (by simp[h1]),if_neg h2,if_pos h3]
  rw[e]
  refine wf ?_
  refine H0 rfl ?_
  exact .tuple3 (.ro _ _) (.refl _) (.refl _)
 have e:Uc s l m=Ee (FG s l) (IV s l m):=by unfold Uc;rw[if_neg (by simp[h1]),if_neg h2,if_neg (by simp[h3])]
 rw[e]
 have i6:Aw (Bc (FG s l)):=⟨hv.out h3⟩
 refine wn ?_
 refine MC [false,false,false,false,false,false,false,false,false,false,false,false,true,false] ?_ ?_
 ·decide+kernel
 refine wf ?_
 refine H0 rfl ?_
 exact .refl _⟩
theorem OQ {α:Type} {l:List α} {p:α→Bool} {k:Nat} (h:k < l.length):(l.take (k+1)).any p=((l.take k).any p||p l[k]):=by
 rw[A6 h,GK];simp
def UW (s:List Sto) (d:Dig) (l:List Dig):Bool:=l.any fun q=>Gy s d q
def UV (s:List Sto) (d:Dig) (l:List Dig):Bool:=l.any fun q=>Gy s q d
theorem lh {s:List Sto} {d:Dig} {l:List Dig} {k:Nat} (h:k < l.length):UW s d (l.take (k+1))=(UW s d (l.take k)||Gy s d l[k]):=OQ h
theorem lL {s:List Sto} {d:Dig} {l:List Dig} {k:Nat} (h:k < l.length):UV s d (l.take (k+1))=(UV s d (l.take k)||Gy s l[k] d):=OQ h
theorem SH (s:List Sto) (t:C9) (l:List Dig) (u:C9) (hv:Bc s) (hs:s.length≤190) (hl:l.length≤400):C6 Tryz.prog 16 [.slice (s.map eSto) t,.slice (l.map eDig) u] (.raw (.bool (rS s l))):=⟨by
 have i1:Aw (Lj s):=⟨hv.close⟩
 refine Av Tryz.func16 Tryz.ntmps16 rfl (rs:= [.tmp 4]) rfl rfl fun hb LF=>?_
 refine wf ?_
 refine AZ (σ:=Nat) (fun k=>k≤l.length∧CW (ids s) (l.take k)=true) (fun k=>l.length - k) (fun k=> [(0,.slice (s.map eSto) t),(1,.slice (l.map eDig) u),(5,.raw (.int .i64 k))]) (fun _=>LF) 0 ⟨by simp,by simp[CW]⟩ ⟨rfl,rfl,rfl⟩ (.refl _) ?_
 rintro k ⟨hk,ha⟩
 refine wf ?_
 refine A7 (fun hc=>?_) (fun hc=>?_)
 ·have hlt:k < l.length:=by omega
  have hg:=NB s l[k]
  refine wz fun b6=>?_
  refine wf ?_
  refine AO (fun h=>?_) (fun h=>?_)
  ·have hn:l[k]∉ids s:=by
    rw[hg]at h
    simpa using h
   refine wf ?_
   refine Ax (.of_eq ?_)
   have:CW (ids s) l=false:=by
    unfold CW
    exact FK.2 ⟨l[k],AG hlt,by simpa using hn⟩
   unfold rS
   rw[this];rfl
  ·have hn:l[k]∈ids s:=by
    rw[hg]at h
    simpa using h
   refine wf ?_
   refine⟨k+1,⟨by omega,?_⟩,by dsimp only;omega,⟨rfl,rfl,rfl⟩,.cons _ (.refl _)⟩
   unfold CW at ha ⊢
   rw[A6 hlt,qI,ha]
   simp[hn]
 have ha:CW (ids s) l=true:=by rw[AA (by omega)]at ha;exact ha
 have hcv:rS s l=s.all fun x=>decide (x.id∈l)||!(UW s x.id l&&UV s x.id l):=by unfold rS;rw[ha,E5];rfl
 rw[hcv]
 refine wf ?_
 refine AZ (σ:=Nat) (fun k=>k≤s.length∧(s.take k).all (fun x=>decide (x.id∈l)||!(UW s x.id l&&UV s x.id l))=true) (fun k=>s.length - k) (fun k=> [(0,.slice (s.map eSto) t),(1,.slice (l.map eDig) u),(8,.raw (.int .i64 k))]) (fun _=>LF) 0 ⟨by simp,by simp⟩ ⟨rfl,rfl,rfl⟩ (.refl _) ?_
 rintro k ⟨hk,hq⟩
 refine wf ?_
 refine A7 (fun hc=>?_) (fun hc=>?_)
 ·have hlt:k < s.length:=by omega
  have hnext: ∀ b:Bool,(decide (s[k].id∈l)||!(UW s s[k].id l&&UV s s[k].id l))=b→(s.take (k+1)).all (fun x=>decide (x.id∈l)||!(UW s x.id l&&UV s x.id l))=b:=fun b h=>by
   rw[A6 hlt,qI,hq]
   simp only[E5,aV,List.all_nil,Bool.and_true]
   exact h
  refine wf ?_
  refine A7 (fun h=>?_) (fun h=>?_)
  ·refine wf ?_
   exact⟨k+1,⟨by omega,hnext true (by simp[h])⟩,by dsimp only;omega,⟨rfl,rfl,rfl⟩,.refl _⟩
  refine wf ?_
  refine AZ (σ:=Nat) (fun j=>j≤l.length) (fun j=>l.length - j) (fun j=> [(0,.slice (s.map eSto) t),(1,.slice (l.map eDig) u),(8,.raw (.int .i64 k)),(9,.raw (.bool (UW s s[k].id (l.take j)))),(10,.raw (.bool (UV s s[k].id (l.take j)))),(11,.raw (.int .i64 j))]) (fun _=>LF) 0 (by omega) ⟨rfl,rfl,rfl,rfl,rfl,rfl⟩ (.refl _) ?_
  rintro j hj
  refine wf ?_
  refine A7 (fun hc2=>?_) (fun hc2=>?_)
  ·have hjl:j < l.length:=by omega
   refine wf ?_
   refine BM [(9,.raw (.bool (UW s s[k].id (l.take (j+1))))),(0,.slice (s.map eSto) t),(1,.slice (l.map eDig) u),(8,.raw (.int .i64 k)),(10,.raw (.bool (UV s s[k].id (l.take j)))),(11,.raw (.int .i64 j))] (LF) ?_ ?_
   ·repeat' (first|(refine A7 (fun h=>?_) (fun h=>?_)<;>refine wf ?_)|(refine AR (fun h=>?_) (fun h=>?_)<;>refine wf ?_)|(refine AO (fun h=>?_) (fun h=>?_)<;>refine wf ?_)|(refine Aq (fun h=>?_) (fun h=>?_)<;>(have h2:=h;(try simp only[AB,A8,AH,AK]at h2);refine wf ?_)))
    all_goals (refine⟨⟨Bp (by rfl) ?_,rfl,rfl,rfl,rfl,rfl⟩,.refl _⟩;rw[lh hjl];simp_all)
   refine wf ?_
   refine BM [(10,.raw (.bool (UV s s[k].id (l.take (j+1))))),(0,.slice (s.map eSto) t),(1,.slice (l.map eDig) u),(8,.raw (.int .i64 k)),(9,.raw (.bool (UW s s[k].id (l.take (j+1))))),(11,.raw (.int .i64 j))] (LF) ?_ ?_
   ·repeat' (first|(refine A7 (fun h=>?_) (fun h=>?_)<;>refine wf ?_)|(refine AR (fun h=>?_) (fun h=>?_)<;>refine wf ?_)|(refine AO (fun h=>?_) (fun h=>?_)<;>refine wf ?_)|(refine Aq (fun h=>?_) (fun h=>?_)<;>(have h2:=h;(try simp only[AB,A8,AH,AK]at h2);refine wf ?_)))
    all_goals (refine⟨⟨Bp (by rfl) ?_,rfl,rfl,rfl,rfl,rfl⟩,.refl _⟩;rw[lL hjl];simp_all)
   refine wf ?_
   exact⟨j+1,by omega,by dsimp only;omega,⟨rfl,rfl,rfl,rfl,rfl,rfl⟩,.refl _⟩
  ·rw[AA (by omega)]
   refine wf ?_
   refine BM [(79,.raw (.bool (UW s s[k].id l&&UV s s[k].id l))),(0,.slice (s.map eSto) t),(1,.slice (l.map eDig) u),(8,.raw (.int .i64 k))] (LF) ?_ ?_
   ·repeat' (first|(refine A7 (fun h=>?_) (fun h=>?_)<;>refine wf ?_)|(refine AR (fun h=>?_) (fun h=>?_)<;>refine wf ?_)|(refine AO (fun h=>?_) (fun h=>?_)<;>refine wf ?_)|(refine Aq (fun h=>?_) (fun h=>?_)<;>(have h2:=h;(try simp only[AB,A8,AH,AK]at h2);refine wf ?_)))
    all_goals (refine⟨⟨Bp (by rfl) ?_,rfl,rfl,rfl⟩,.refl _⟩;first|(simp_all;done)|(simp_all;omega)|grind)
   refine wf ?_
   refine AO (fun h3=>?_) (fun h3=>?_)
   ·refine wf ?_
    refine Ax (.of_eq ?_)
    have:(s.all fun x=>decide (x.id∈l)||!(UW s x.id l&&UV s x.id l))=false:=FK.2 ⟨s[k],AG hlt,by simp only[h,decide_false,Fi,h3];decide⟩
    rw[this]
   ·refine wf ?_
    exact⟨k+1,⟨by omega,hnext true (by simp only[h3];simp)⟩,by dsimp only;omega,⟨rfl,rfl,rfl⟩,.refl _⟩
 ·refine wf ?_
  rw[AA (by omega)]at hq
  exact Ax (.of_eq (by rw[hq]))⟩
end Go.Proofs
namespace Go.Proofs
open Go Go.Q Go.Sort
def En (Q:List (List Int)):List (List Nat):=Q.map fun l=>l.map Int.toNat
def iX (c:Chg):List Ident:=c.over++(if 2≤c.kind∧c.kind≤6 then [c.file]else [])++(if c.kind=2 then [c.parent]else [])++(if c.kind=5∨c.kind=6 then [c.after,c.before]else [])
theorem fv {c:Chg} {y:Ident}:y∈iX c↔y∈Cw c:=by
 unfold iX Cw
 simp only[Ah]
 constructor
 ·rintro(((h|h)|h)|h)
  ·exact .inr h
  ·exact .inl (.inl (.inl h))
  ·exact .inl (.inl (.inr h))
  ·exact .inl (.inr h)
 ·rintro(((h|h)|h)|h)
  ·exact .inl (.inl (.inr h))
  ·exact .inl (.inr h)
  ·exact .inr h
  ·exact .inl (.inl (.inl h))
def bg (cs:List Chg) (y:Ident):Int:=if Ef y=true∧cs≠ []then(E7 cs y.n:Int)else -1
def cG (Q:List (List Int)) (cs:List Chg):Bool:=(List.range cs.length).any fun i=>(iX (cs.getD i Chg.zero)).any fun y=>decide (0≤bg cs y)&&decide (R5 Q i < R5 Q (bg cs y))
theorem Ou {cs:List Chg} {n:Int} (h:cs≠ []):E7 cs n < cs.length:=by
 unfold E7
 have h1:=CX (fun i=>decide ((DW cs i:Int)≤n)) (List.range cs.length)
 rw[H9]at h1
 have:cs.length≠0:=fun e=>h (BL e)
 omega
theorem l6 {cs:List Chg} {Q:List (List Int)} (h:Fw cs.length [] Q=true):cG Q cs=Ko (En Q) cs:=by
 unfold cG Ko
 rw[H7,Bo,Bo]
 refine exists_congr fun i=>and_congr_right fun hi=>?_
 have hi:=Ba.1 hi
 have hne:cs≠ []:=fun e=>by rw[e]at hi;exact absurd hi (Dy _)
 rw[Bo,Bo]
 refine exists_congr fun y=>?_
 rw[fv]
 refine and_congr_right fun _=>?_
 unfold bg
 by_cases ho:Ef y=true
 ·rw[if_pos ⟨ho,hne⟩,ho,Sf h hi,Sf h (Ou hne)]
  simp only[BP,AB,E5]
  unfold En
  omega
 ·rw[if_neg fun k=>ho k.1]
  simp[ho]
def Mg (s:List Sto) (id:Dig) (Q:List (List Int)) (ms:List Mta):List Sto × List Dig × Int:=
 match getS s id with
 |none=>([],[],7)
 |some p=>if Kd s [id]=true then([],[],19)else if Fw p.changes.length [] Q=false∨ms.length≠Q.length then([],[],1)else
  if Ko (En Q) p.changes=true then([],[],9)else Wg ⟨id,p⟩ (En Q) ((En Q).zip ms) (FG s [id]) []
def aj (s:List Sto) (id:Dig) (Q:List (List Int)) (ms:List Mta):List Sto × List Dig × Int:=
 match getS s id with
 |none=>([],[],7)
 |some p=>if Kd s [id]=true then([],[],19)else if Fw p.changes.length [] Q=false∨ms.length≠Q.length then([],[],1)else
  if cG Q p.changes=true then([],[],9)else nJ ⟨id,p⟩ ((En Q).zip ms) (FG s [id]) [] (BB p) []
theorem Ke (Q:List (List Int)):(En Q).length=Q.length:=by simp[En]
theorem ct {α β:Type}: ∀ {l:List α} {m:List β},m.length=l.length→(l.zip m).map (·.1)=l
 | [],_,_=>by simp
 |a::l,[],h=>by simp at h
 |a::l,b::m,h=>by
  rw[List.zip_cons_cons,Ar,ct (by simpa using h)]
structure Si (Q:List (List Int)) (ms:List Mta):Prop where
 parts:Q.length≤8
 metas: ∀ m∈ms,m.author.length≤60∧m.message.length≤60
theorem KG {s:List Sto} (hg:Fv s=false):s.length≤8∧ ∀ x∈s,Fk x.patch=false∧(x.patch.changes.map Ic).sum≤2000:=by
 unfold Fv at hg
 simp only[CG,A8,Bl]at hg
 obtain⟨⟨h1,h2⟩,h3⟩:=hg
 have ht:s.take 9=s:=AA (by omega)
 rw[ht]at h1 h3
 refine⟨by omega,fun x hx=>⟨by simpa using h1 x hx,?_⟩⟩
 have:=IJ (f:=vJ) hx
 have e:vJ x=(x.patch.changes.map Ic).sum:=rfl
 omega
theorem VJ {s:List Sto} (hg:Fv s=false) {x:Sto} (hx:x∈s) {Q:List (List Int)} {ms:List Mta} (z:Si Q ms):P0 s x (En Q) ((En Q).zip ms):=by
 obtain⟨g1,g2⟩:=KG hg
 exact⟨(g2 x hx).1,(g2 x hx).2,g1,by rw[Ke];exact z.parts,fun e he=>z.metas _ (List.of_mem_zip he).2⟩
theorem YH {s:List Sto} (v:Bc s) {x:Sto} (hx:x∈s) (h:Kd s [x.id]=false):KJ s x (FG s [x.id]) []:=by
 refine⟨v.out h,by have:(FG s [x.id]).length≤s.length:=CX _ _;simpa using this,fun d hd=>absurd hd Aa,fun d hd hne=>?_⟩
 obtain⟨y,hy,rfl⟩:=AQ.1 hd
 exact AQ.2 ⟨y,Tc.2 ⟨hy,by simpa using hne⟩,rfl⟩
theorem dB {s:List Sto} (v:Bc s) {x:Sto} (hx:x∈s) {Q:List (List Int)} (hQ:Fw x.patch.changes.length [] Q=true) (he:Ko (En Q) x.patch.changes=false):HY s x (En Q):=⟨v,hx,O6 hQ,he⟩
theorem il {s:List Sto} (v:Bc s) (hg:Fv s=false) (id:Dig) {Q:List (List Int)} {ms:List Mta} (z:Si Q ms):Mg s id Q ms=aj s id Q ms:=by
 unfold Mg aj
 cases hp:getS s id with
 |none=>rfl
 |some p=>
  dsimp only
  have hx:(⟨id,p⟩:Sto)∈s:=Vu hp
  by_cases h1:Kd s [id]=true
  ·rw[if_pos h1,if_pos h1]
  rw[if_neg h1,if_neg h1]
  by_cases h2:Fw p.changes.length [] Q=false∨ms.length≠Q.length
  ·rw[if_pos h2,if_pos h2]
  rw[if_neg h2,if_neg h2]
  have hQ:Fw p.changes.length [] Q=true:=by
   cases hq:Fw p.changes.length [] Q with
   |true=>rfl
   |false=>exact absurd (.inl hq) h2
  have hl:ms.length=Q.length:=DH fun k=>h2 (.inr k)
  rw[l6 hQ]
  by_cases h3:Ko (En Q) p.changes=true
  ·rw[if_pos h3,if_pos h3]
  rw[if_neg h3,if_neg h3]
  have ok:=dB v hx hQ (by simpa using h3)
  have:=ok.loop ((En Q).zip ms) [] (FG s [id]) (VJ hg hx z) (by rw[ct (by rw[Ke];exact hl)];rfl) (YH v hx (by simpa using h1)) (.inl ⟨fun d hd=>absurd hd Aa,.nil,fun d hd=>absurd hd Aa⟩)
  rw[this]
  congr 1
  refine((HX _).1.ext (J8 p) fun d=>?_)
  rw[(HX _).2,BQ]
end Go.Proofs
