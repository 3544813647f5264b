/- Contracts of the program: slices.DeleteFunc on rows of digests and of patches. -/
import Derived.Test.YtaibdmankdppkaaGreatDoorVar
import Derived.Test.YtaibdmankdppkaaGreatDoorVam
import Derived.Test.YtaibdmankdppkaaGreatDoorVan
import Derived.Test.YtaibdmankdppkaaGreatDoorVaq
import Derived.Test.YtaibdmankdppkaaGreatDoorVao
import Derived.Test.YtaibdmankdppkaaGreatDoorVal
set_option linter.unusedSimpArgs false
set_option linter.unusedVariables false
set_option maxHeartbeats 8000000
namespace Go.Proofs
open Go Go.Q
attribute [local irreducible] EY AU BH Fk
theorem mZ: ∀ i z,Tryz.prog.info? 59=some i→i.zero=some z→ ∀ x∈z.cells,x.oneCell'=true:=by
 have h:(Tryz.prog.info? 59).map (fun i=>(i.zero.getD undef).cells.all (·.oneCell'))=some true:=by kernel_rfl
 intro i z hi hz x hx
 rw[hi]at h
 simp only[Gz,hz,CJ,J3,H5]at h
 exact h x hx
theorem bw (F:Nat) (cs:List PV) (p:Sto→Bool) [hF:B1 Tryz.prog F] [hp: ∀ d,C9 Tryz.prog F (.agg (eSto d)::cs) (.raw (.bool (p d)))] (l:List Sto) (v:Value) (R:List Res) (hv:Fv 59 37 v (l.map eSto) R) (hl:l.length≤1000000):
  BH Tryz.prog 100 [.raw v,.clo F cs] R (fun r L'=> ∃ v',r= .raw v'∧Fv 59 37 v' ((l.filter fun d=>!p d).map eSto) L'):=by
 refine C8 Tryz.func100 rfl Tryz.ntmps100 (rs:= [.tmp 4]) rfl rfl fun hb LF=>?_
 have hsz: ∀ (m:List Sto),∀ e∈m.map eSto,e.length=37:=fun m e he=>by obtain⟨a,_,rfl⟩:=AY.1 he;simp
 have hmx:(l.map eSto).length≤maxN∧(l.map eSto).length*37≤maxN:=by
  have:maxN=140737488355328:=rfl
  rw[AQ];omega
 refine wf ?_
 refine CV (xs:= [.tmp 8,.tmp 9]) R LF (f:=51) (cs:= []) (C4 _) rfl rfl (.refl _) _ (Fv.lend hv [] [.clo F cs] hmx (Vn F cs p l .ro).out) fun r L' ⟨e1,e2⟩=>?_
 subst e1 e2
 refine wf ?_
 refine A6 (fun h1=>?_) (fun h1=>?_)
 ·have hn:l.any p=false:=by
   cases h:l.any p with
   |false=>rfl
   |true=>have:=(Po p l).2.2 h;omega
  have e:(l.filter fun d=>!p d)=l:=by
   rw[aL]
   intro x hx
   have:=Bc.1 hn x hx
   simpa using this
  refine wf ?_
  exact⟨trivial,_,_,.cons (.tmp 4) .nil,.refl _,v,rfl,by rw[e];exact hv⟩
 have ha:l.any p=true:=by
  cases h:l.any p with
  |true=>rfl
  |false=>exact absurd (by rw[Fh,if_neg (by simp[h])]) h1
 have hi0:l.findIdx p < l.length:=Lk.2 (Bn.1 ha)
 have hix:Fh p l=(l.findIdx p:Nat):=by rw[Fh,if_pos ha]
 have hf0:(l.take (l.findIdx p))=(l.take (l.findIdx p+1)).filter fun d=>!p d:=by
  have hlast:p l[l.findIdx p]=true:=List.findIdx_getElem
  rw[A7 hi0,Ej,GB (by simp[hlast]),qE,BJ,aL.2]
  intro x hx
  obtain⟨k,hk,rfl⟩:=DD.1 hx
  have:=zl (p:=p) (xs:=l) (i:=k) (by omega)
  simpa using this
 rw[hix]
 generalize hg:l.findIdx p=i0 at hi0 hf0
 obtain⟨⟨o,c,rfl⟩,_⟩:=hv.slice
 obtain⟨r,rest,rfl,rfl,_,hlc,_,hcl⟩:=hv.inv (by rw[AQ];omega)
 rw[AQ]at hlc ⊢
 refine wf ?_
 refine AZ (σ:=Nat × Nat × List Sto) (fun k=>k.2.1 < k.1∧k.1≤l.length∧k.2.2.length=l.length∧k.2.2.take k.2.1=(l.take k.1).filter (fun d=>!p d)∧ ∀ t,k.1≤t→k.2.2[t]? =l[t]?) (fun k=>l.length - k.1) (fun k=> [(0,.raw (.slice (some ⟨r,0,none⟩) l.length c)),(1,.clo F cs),(5,.raw (.int .i64 k.2.1)),(6,.raw (.int .i64 k.1))]) (fun k=> .box r 59 ((k.2.2.map eSto).flatten++rest)::LF) (i0+1,i0,l) ⟨by dsimp only;omega,by dsimp only;omega,rfl,hf0,fun _ _=>rfl⟩ ⟨rfl,rfl,rfl,rfl⟩ (.refl _) ?_
 rintro⟨j,i,l1⟩ ⟨hij,hj,hl1,ht,hr⟩
 dsimp only at hij hj hl1 ht hr ⊢
 refine wf ?_
 refine IH rfl ?_
 refine wf ?_
 refine A6 (fun hc=>?_) (fun hc=>?_)
 ·have hlt:j < l.length:=by omega
  have ej:l1[j]'(by omega)=l[j]:=by
   have:=hr j (Al _)
   rw[AW (by omega),AW hlt]at this
   exact DM this
  have isub:PA ((l1.map eSto).flatten++rest) (0+j*37) 37 (eSto l[j]):=by
   have:=MQ (rest:=rest) (hsz l1) (i:=j) (by rw[AQ];omega)
   rwa [B5,ej]at this
  refine wf ?_
  refine DI (k:=j) rfl rfl hlt ?_
  refine YU rfl AI (hs:=isub) ?_
  refine wf ?_
  refine CA fun b7=>?_
  refine wo ?_
  refine AE ?_
  refine B2 7 ?_
  refine wf ?_
  refine AO (fun h=>?_) (fun h=>?_)
  ·have hpj:p l[j]=false:=by simpa using h
   have iput:Eg ((l1.map eSto).flatten++rest) (0+i*37) (eSto l[j]) (((l1.set i l[j]).map eSto).flatten++rest):=by
    have:=Qh (rest:=rest) (new:=eSto l[j]) (hsz l1) (i:=i) (by rw[AQ];omega) (by simp)
    rwa [←gm]at this
   refine wf ?_
   refine DI (k:=i) rfl rfl (by omega) ?_
   refine wf ?_
   refine⟨(j+1,i+1,l1.set i l[j]),⟨by dsimp only;omega,by dsimp only;omega,by dsimp only;rw[CT];exact hl1,?_,fun t h2=>?_⟩,by dsimp only;omega,⟨rfl,rfl,rfl,rfl⟩,.refl _⟩
   ·dsimp only
    rw[A7 hlt,Ej,GA (by simp[hpj]),qE,←ht,A7 (by rw[CT];omega),List.take_set_of_le (Al _),List.getElem_set_self]
   ·dsimp only at h2 ⊢
    rw[Xx (by omega)]
    exact hr t (by omega)
  ·have hpj:p l[j]=true:=by simpa using h
   refine wf ?_
   refine⟨(j+1,i,l1),⟨by dsimp only;omega,by dsimp only;omega,hl1,?_,fun t h2=>hr t (by dsimp only at h2;omega)⟩,by dsimp only;omega,⟨rfl,rfl,rfl,rfl⟩,.refl _⟩
   dsimp only
   rw[A7 hlt,Ej,GB (by simp[hpj]),qE,BJ]
   exact ht
 have hjl:j=l.length:=by omega
 subst hjl
 rw[DK]at ht
 have hfl:(l1.map eSto).flatten.length=l.length*37:=by rw[Cv (hsz l1),AQ,hl1]
 have hfl0:(l.map eSto).flatten.length=l.length*37:=by rw[Cv (hsz l),AQ]
 refine wf ?_
 refine Nx i l.length rfl (by omega) (Al _) (by omega) hlc (fun o e=>by cases e;exact⟨_,rfl⟩) (by simp) (by simp) (fun _=>rfl) ?_
 refine jL (E:=59) (sz:=37) (L':=LF) mZ (fun x=> [x]++LF) rfl (by omega) (by rw[AD,hfl];omega) (.refl _) (fun _=> .refl _) fun zs hzs=>?_
 refine AE ?_
 refine wf ?_
 refine Nx 0 i rfl (by omega) (by omega) (by omega) hlc (by simp) (fun _=>rfl) (fun o e=>by cases e;exact⟨_,rfl⟩) (by simp) ?_
 refine wf ?_
 have e0:=(Pv (hsz l1) (i:=i) (by rw[AQ];omega))
 have etk:((l1.map eSto).flatten++rest).take (0+i*37)=((l1.take i).map eSto).flatten:=by
  rw[BM,IG (by rw[hfl];omega),yB]
  have h2:=e0.2
  conv=>lhs;rw[e0.1]
  exact GH h2
 have hlt:(l1.take i).length=i:=by rw[Ab];omega
 have hti:((l1.take i).map eSto).flatten.length=i*37:=by rw[Cv (hsz _),AQ,hlt]
 refine⟨trivial,_,_,.cons (.tmp 4) .nil,.refl _,.slice (some ⟨r,0,none⟩) i c,?_,?_⟩
 ·show PV.raw (Value.slice (some ⟨r,0+0*37,none⟩) (i - 0) (c - 0))=_
  simp
 ·rw[←ht,etk,AV]
  refine .row (by rw[AQ,hlt]) (by omega) (hsz _) ?_
  rw[AD,B4,AD,hzs,hfl,hti]
  rw[hfl0]at hcl
  omega
attribute [local irreducible] GP
instance uy (s:List Sto) (t:CD) (d:Dig):C9 Tryz.prog 96 [.agg (eDig d),.pt [.slice (s.map eSto) t] 0] (.raw (.bool (!(getS s d).isSome))):=⟨by
 refine Av Tryz.func96 Tryz.ntmps96 rfl (rs:= [.tmp 3]) rfl rfl fun hb LF=>?_
 refine wz fun b4=>?_
 refine wf ?_
 exact Aw (.refl _)⟩
instance ux (s:List Sto) (t u:CD) (l:List Dig):C9 Tryz.prog 47 [.slice (l.map eDig) u,.clo 96 [.pt [.slice (s.map eSto) t] 0]] (.raw (.bool (l.any fun d=>!(getS s d).isSome))):=KJ _ _ _ l u
theorem U6: ∀ (s:List Sto) (d:Dig),(getS s d).isSome=decide (d∈ids s)
 | [],_=>by simp[getS,ids]
 |x::s,d=>by
  unfold getS
  by_cases h:x.id=d
  ·rw[if_pos h];simp[ids,h]
  ·rw[if_neg h,U6 s d,decide_eq_decide]
   unfold ids
   rw[Aq,AG]
   exact⟨.inr,fun k=>k.elim (fun e=>absurd e.symm h) id⟩
theorem ga (s:List Sto) (l:List Dig):(!(l.any fun d=>!(getS s d).isSome))=Da (ids s) l:=by
 unfold Da
 induction l with
 |nil=>rfl
 |cons d l ih=>
  rw[yC,yD,Bool.not_or,ih,Bool.not_not,U6]
instance w9 (s:List Sto) (l:List Dig) (t u:CD):C9 Tryz.prog 36 [.slice (s.map eSto) t,.slice (l.map eDig) u] (.raw (.bool (Da (ids s) l))):=⟨by
 refine Av Tryz.func36 Tryz.ntmps36 rfl (rs:= [.tmp 4]) rfl rfl fun hb LF=>?_
 refine wf ?_
 refine Aw (.of_eq ?_)
 rw[←ga s l]⟩
instance nC (b l:List Dig) (t u:CD) (d:Dig):C9 Tryz.prog 48 [.agg (eDig d),.pt [.slice (b.map eDig) t] 0,.pt [.slice (l.map eDig) u] 0] (.raw (.bool (decide (d∈b)&&!decide (d∈l)))):=⟨by
 refine Av Tryz.func48 Tryz.ntmps48 rfl (rs:= [.tmp 4]) rfl rfl fun hb LF=>?_
 refine wf ?_
 repeat' (first|(refine A6 (fun h=>?_) (fun h=>?_)<;>refine wf ?_)|(refine AR (fun h=>?_) (fun h=>?_)<;>refine wf ?_)|(refine AO (fun h=>?_) (fun h=>?_)<;>refine wf ?_)|(refine Ao (fun h=>?_) (fun h=>?_)<;>(have h2:=h;(try simp only[AA,A8,AF,AJ]at h2);refine wf ?_)))
 all_goals (refine Aw (.of_eq ?_);simp_all)⟩
instance nB (a b l:List Dig) (v t u:CD):C9 Tryz.prog 47 [.slice (a.map eDig) v,.clo 48 [.pt [.slice (b.map eDig) t] 0,.pt [.slice (l.map eDig) u] 0]] (.raw (.bool (a.any fun d=>decide (d∈b)&&!decide (d∈l)))):=KJ _ _ _ a v
instance qT (s:List Sto) (l:List Dig) (t u:CD) [hs:Ay (Bx s)] [hl:Ay (l.length≤400)]:C9 Tryz.prog 15 [.slice (s.map eSto) t,.slice (l.map eDig) u] (.raw (.bool (vX s l))):=⟨by
 refine Av Tryz.func15 Tryz.ntmps15 rfl (rs:= [.tmp 4]) rfl rfl fun hb LF=>?_
 refine wf ?_
 unfold vX
 refine AO (fun h=>?_) (fun h=>?_)
 ·refine wf ?_
  refine Aw (.of_eq ?_)
  simp_all
 ·refine wz fun b7=>?_
  refine B2 7 ?_
  refine wf ?_
  refine Aw (.of_eq ?_)
  simp_all⟩
instance mA (l:List Dig) (u:CD) (d:Dig):C9 Tryz.prog 99 [.agg (eDig d),.pt [.slice (l.map eDig) u] 0] (.raw (.bool (decide (d∈l)))):=⟨by
 refine Av Tryz.func99 Tryz.ntmps99 rfl (rs:= [.tmp 3]) rfl rfl fun hb LF=>?_
 refine wf ?_
 exact Aw (.refl _)⟩
instance nA (a l:List Dig) (t u:CD):C9 Tryz.prog 47 [.slice (a.map eDig) t,.clo 99 [.pt [.slice (l.map eDig) u] 0]] (.raw (.bool (a.any fun d=>decide (d∈l)))):=KJ _ _ _ a t
theorem WY (l:List Dig) (u:CD) (x:Sto) (hx:E4 x.patch=false):C9 Tryz.prog 98 [.agg (eSto x),.pt [.slice (l.map eDig) u] 0] (.raw (.bool (!decide (x.id∈l)&&(BL x.patch).any fun d=>decide (d∈l)))):=⟨by
 have i1:Ay (E4 x.patch=false):=⟨hx⟩
 refine Av Tryz.func98 Tryz.ntmps98 rfl (rs:= [.tmp 3]) rfl rfl fun hb LF=>?_
 refine wf ?_
 repeat' (first|(refine A6 (fun h=>?_) (fun h=>?_)<;>refine wf ?_)|(refine AR (fun h=>?_) (fun h=>?_)<;>refine wf ?_)|(refine AO (fun h=>?_) (fun h=>?_)<;>refine wf ?_)|(refine Ao (fun h=>?_) (fun h=>?_)<;>(have h2:=h;(try simp only[AA,A8,AF,AJ]at h2);refine wf ?_)))
 all_goals (refine Aw (.of_eq ?_);simp_all)⟩
instance qS (s:List Sto) (l:List Dig) (t u:CD) [hs:Ay (Gw s)]:C9 Tryz.prog 37 [.slice (s.map eSto) t,.slice (l.map eDig) u] (.raw (.bool (Nc s l))):=⟨by
 have c1: ∀ t,C9 Tryz.prog 97 [.slice (s.map eSto) t,.clo 98 [.pt [.slice (l.map eDig) .ro] 0]] (.raw (.bool (s.any fun x=>!decide (x.id∈l)&&(BL x.patch).any fun d=>decide (d∈l)))):=fun t=>Uq _ _ _ s t fun x hx=>WY l .ro x (hs.out.2 x hx)
 refine Av Tryz.func37 Tryz.ntmps37 rfl (rs:= [.tmp 4]) rfl rfl fun hb LF=>?_
 refine wf ?_
 refine Aw (.of_eq ?_)
 rfl⟩
instance n5 (l:List Dig) (u:CD) (x:Sto):C9 Tryz.prog 101 [.agg (eSto x),.pt [.slice (l.map eDig) u] 0] (.raw (.bool (decide (x.id∈l)))):=⟨by
 refine Av Tryz.func101 Tryz.ntmps101 rfl (rs:= [.tmp 3]) rfl rfl fun hb LF=>?_
 refine wf ?_
 exact Aw (.refl _)⟩
instance qQ (s:List Sto) (l:List Dig) (t u:CD) [hs:Ay (s.length≤1000)]:C9 Tryz.prog 38 [.slice (s.map eSto) t,.slice (l.map eDig) u] (.slice ((Gf s l).map eSto) .ro):=⟨by
 refine Av Tryz.func38 Tryz.ntmps38 rfl (rs:= [.tmp 4]) rfl rfl fun hb LF=>?_
 have hl:=hs.out
 refine wf ?_
 refine CV (xs:= [.tmp 5]) [] LF (f:=95) (cs:= []) (C4 _) rfl rfl (.refl _) _ (Rv s t (by omega)) fun r R0 ⟨v0,e1,hv0⟩=>?_
 subst e1
 refine wf ?_
 refine CV (xs:= [.tmp 6,.tmp 7]) R0 LF (f:=100) (cs:= []) (C4 _) rfl rfl (.refl _) _ (bw 101 _ (fun x=>decide (x.id∈l)) s v0 R0 hv0 (by omega)) fun r R1 ⟨v1,e1,hv1⟩=>?_
 subst e1
 refine wo ?_
 refine AE ?_
 have e:(s.filter fun d=>!decide (d.id∈l))=Gf s l:=by
  unfold Gf
  exact gn fun x _=>by simp
 rw[e]at hv1
 have hol:(Gf s l).length≤s.length:=EA _ _
 refine IZ 4 hv1 ⟨by rw[AQ];unfold maxN;omega,by rw[AQ];unfold maxN;omega⟩ (.refl _) rfl ?_
 refine wf ?_
 exact Aw (.ros rfl)⟩
instance w8 (x:Ident):C9 Tryz.prog 104 [.agg (eIdent x)] (.raw (.bool (EO x))):=⟨by
 refine Av Tryz.func104 Tryz.ntmps104 rfl (rs:= [.tmp 2]) rfl rfl fun hb LF=>?_
 unfold EO
 refine wf ?_
 repeat' (first|(refine A6 (fun h=>?_) (fun h=>?_)<;>refine wf ?_)|(refine AR (fun h=>?_) (fun h=>?_)<;>refine wf ?_)|(refine AO (fun h=>?_) (fun h=>?_)<;>refine wf ?_)|(refine Ao (fun h=>?_) (fun h=>?_)<;>(have h2:=h;(try simp only[AA,A8,AF,AJ]at h2);refine wf ?_)))
 all_goals (refine Aw (.of_eq ?_);simp_all)⟩
theorem Yz {a b:Res} {R L M:List Res}:(a::b::(R++(L++M))).Perm (L++(a::b::(R++M))):=((List.perm_append_comm_assoc R L M).cons b |>.cons a).trans An
def EB (c:Chg):List Ident:=(if 2≤c.kind∧c.kind≤6 then [c.file]else [])++(if c.kind=2 then [c.parent]else [])++(if c.kind=5∨c.kind=6 then [c.after,c.before]else [])
theorem cN (c:Chg):Cu c=EB c++c.over:=rfl
def Ft (f:Ident→Ident) (c:Chg):Chg:={ c with file:=if 2≤c.kind∧c.kind≤6 then f c.file else c.file,parent:=if c.kind=2 then f c.parent else c.parent,after:=if c.kind=5∨c.kind=6 then f c.after else c.after,before:=if c.kind=5∨c.kind=6 then f c.before else c.before }
theorem tX (f:Ident→Ident) (c:Chg):HP f c= { Ft f c with over:=sortI (c.over.map f) }:=rfl
theorem Re (F:Nat) (cs:List PV) {St:Type} (Lf:St→List Res) (f:Ident→Ident) (g:St→Ident→St) (c:Chg) [hF:B1 Tryz.prog F]
  (hp: ∀ st,∀ x∈Cu c,BH Tryz.prog F (.agg (eIdent x)::cs) (Lf st) (fun r L'=>r= .agg (eIdent (f x))∧L'=Lf (g st x))) (ho:c.over.length≤1000) (st:St):
  BH Tryz.prog 102 [.agg (eChg c),.clo F cs] (Lf st) (fun r L'=>r= .agg (eChg (HP f c))∧L'=Lf ((Cu c).foldl g st)):=by
 refine C8 Tryz.func102 rfl Tryz.ntmps102 (rs:= [.cell 4 73]) rfl rfl fun hb LF=>?_
 refine s7 fun b2=>?_
 refine CA fun b4=>?_
 refine AE ?_
 refine ws ?_
 refine Ca (σ:=Unit) (fun _=>True) (fun _=> [(1,.clo F cs),(2,.raw (.pointer (some ⟨b2,0,none⟩))),(4,.raw (.pointer (some ⟨b4,0,none⟩)))]) (fun _=> .box b4 73 (eChg Chg.zero):: .box b2 73 (eChg (Ft f c))::(Lf ((EB c).foldl g st)++LF)) ?_ fun _ _=>?_
 ·refine wf ?_
  refine A6 (fun hk=>?_) (fun hk2=>?_)
  ·refine wn ?_
   refine FM [2,6,3,7,9,11] (by decide+kernel) ?_
   refine Ar 0 ?_
   refine Ar 1 ?_
   refine Ar 4 ?_
   refine Ar 5 ?_
   refine C3 (fuel:=7) [2,6] (by decide+kernel) (by simp) fun i hi=>?_
   simp only[AG,Aa,or_false]at hi
   rcases hi with rfl|rfl
   ·refine⟨_,rfl,?_⟩
    refine wo ?_
    refine AE ?_
    refine C3 (fuel:=6) [3,6] (by decide+kernel) (by simp) fun i hi=>?_
    simp only[AG,Aa,or_false]at hi
    rcases hi with rfl|rfl
    ·refine⟨_,rfl,?_⟩
     refine Bw (xs:= [.tmp 14]) (Lf st) (.box b4 73 (eChg Chg.zero):: .box b2 73 (eChg c)::LF) (fun L=> .box b4 73 (eChg Chg.zero):: .box b2 73 (eChg c)::(L++LF)) (f:=F) (cs:=cs) (.refl _) rfl rfl An _ (hp st c.file (by simp[Cu,hk])) (fun _=>An.symm) fun r L' ⟨e1,e2⟩=>?_
     subst e1 e2
     refine AE ?_
     refine Ad 5 6 ?_
     refine wo ?_
     refine AE ?_
     refine Ar 8 ?_
     refine Ad 3 7 ?_
     refine Bw (xs:= [.tmp 18]) (Lf (g st c.file)) (.box b4 73 (eChg Chg.zero):: .box b2 73 (eChg c)::LF) (fun L=> .box b4 73 (eChg Chg.zero):: .box b2 73 (eChg c)::(L++LF)) (f:=F) (cs:=cs) (.refl _) rfl rfl An _ (hp (g st c.file) c.parent (by simp[Cu,hk])) (fun _=>An.symm) fun r L' ⟨e1,e2⟩=>?_
     subst e1 e2
     refine AE ?_
     refine Ad 2 9 ?_
     refine wo ?_
     refine AE ?_
     refine Ar 10 ?_
     refine Ad 0 11 ?_
     refine wo ?_
     refine AE ?_
     refine CN (by decide+kernel) ?_
     rw[show Ft f c= { c with file:=f c.file,parent:=f c.parent } by unfold Ft;simp[hk],show(EB c).foldl g st=g (g st c.file) c.parent by unfold EB;simp[hk]]
     exact⟨(),trivial,⟨rfl,rfl,rfl⟩,.refl _⟩
    ·refine⟨_,rfl,?_⟩
     refine wo ?_
     refine AE ?_
     refine Ad 5 3 ?_
     refine Bw (xs:= [.tmp 14]) (Lf st) (.box b4 73 (eChg Chg.zero):: .box b2 73 (eChg c)::LF) (fun L=> .box b4 73 (eChg Chg.zero):: .box b2 73 (eChg c)::(L++LF)) (f:=F) (cs:=cs) (.refl _) rfl rfl An _ (hp st c.file (by simp[Cu,hk])) (fun _=>An.symm) fun r L' ⟨e1,e2⟩=>?_
     subst e1 e2
     refine AE ?_
     refine Ar 8 ?_
     refine Ad 3 7 ?_
     refine Bw (xs:= [.tmp 18]) (Lf (g st c.file)) (.box b4 73 (eChg Chg.zero):: .box b2 73 (eChg c)::LF) (fun L=> .box b4 73 (eChg Chg.zero):: .box b2 73 (eChg c)::(L++LF)) (f:=F) (cs:=cs) (.refl _) rfl rfl An _ (hp (g st c.file) c.parent (by simp[Cu,hk])) (fun _=>An.symm) fun r L' ⟨e1,e2⟩=>?_
     subst e1 e2
     refine AE ?_
     refine Ad 2 9 ?_
     refine wo ?_
     refine AE ?_
     refine Ar 10 ?_
     refine Ad 0 11 ?_
     refine wo ?_
     refine AE ?_
     refine CN (by decide+kernel) ?_
     rw[show Ft f c= { c with file:=f c.file,parent:=f c.parent } by unfold Ft;simp[hk],show(EB c).foldl g st=g (g st c.file) c.parent by unfold EB;simp[hk]]
     exact⟨(),trivial,⟨rfl,rfl,rfl⟩,.refl _⟩
   ·refine⟨_,rfl,?_⟩
    refine wo ?_
    refine AE ?_
    refine Ad 6 2 ?_
    refine wo ?_
    refine AE ?_
    refine Ad 5 3 ?_
    refine Bw (xs:= [.tmp 14]) (Lf st) (.box b4 73 (eChg Chg.zero):: .box b2 73 (eChg c)::LF) (fun L=> .box b4 73 (eChg Chg.zero):: .box b2 73 (eChg c)::(L++LF)) (f:=F) (cs:=cs) (.refl _) rfl rfl An _ (hp st c.file (by simp[Cu,hk])) (fun _=>An.symm) fun r L' ⟨e1,e2⟩=>?_
    subst e1 e2
    refine AE ?_
    refine Ar 8 ?_
    refine Ad 3 7 ?_
    refine Bw (xs:= [.tmp 18]) (Lf (g st c.file)) (.box b4 73 (eChg Chg.zero):: .box b2 73 (eChg c)::LF) (fun L=> .box b4 73 (eChg Chg.zero):: .box b2 73 (eChg c)::(L++LF)) (f:=F) (cs:=cs) (.refl _) rfl rfl An _ (hp (g st c.file) c.parent (by simp[Cu,hk])) (fun _=>An.symm) fun r L' ⟨e1,e2⟩=>?_
    subst e1 e2
    refine AE ?_
    refine Ad 2 9 ?_
    refine wo ?_
    refine AE ?_
    refine Ar 10 ?_
    refine Ad 0 11 ?_
    refine wo ?_
    refine AE ?_
    refine CN (by decide+kernel) ?_
    rw[show Ft f c= { c with file:=f c.file,parent:=f c.parent } by unfold Ft;simp[hk],show(EB c).foldl g st=g (g st c.file) c.parent by unfold EB;simp[hk]]
    exact⟨(),trivial,⟨rfl,rfl,rfl⟩,.refl _⟩
  ·refine wf ?_
   refine Ca (σ:=Unit) (fun _=>True) (fun _=> [(1,.clo F cs),(2,.raw (.pointer (some ⟨b2,0,none⟩))),(4,.raw (.pointer (some ⟨b4,0,none⟩))),(9,.raw (.int .i64 c.kind)),(22,.raw (.bool (decide (c.kind=3∨c.kind=4))))]) (fun _=> .box b4 73 (eChg Chg.zero):: .box b2 73 (eChg c)::(Lf st++LF)) ?_ fun _ _=>?_
   ·refine A6 (fun h=>?_) (fun h=>?_)
    ·refine wf ?_
     exact⟨(),trivial,⟨rfl,rfl,rfl,rfl,by show PV.raw (.bool (decide (c.kind=3)))=_;simp[h]⟩,.refl _⟩
    ·refine wf ?_
     exact⟨(),trivial,⟨rfl,rfl,rfl,rfl,by show PV.raw (.bool (decide (c.kind=4)))=_;simp[h]⟩,.refl _⟩
   refine A6 (fun h=>?_) (fun h3=>?_)
   ·have hk: ¬c.kind=2∧(2≤c.kind∧c.kind≤6)∧ ¬(c.kind=5∨c.kind=6):=by omega
    refine wf ?_
    refine Bw (xs:= [.tmp 27]) (Lf st) (.box b4 73 (eChg Chg.zero):: .box b2 73 (eChg c)::LF) (fun L=> .box b4 73 (eChg Chg.zero):: .box b2 73 (eChg c)::(L++LF)) (f:=F) (cs:=cs) (.refl _) rfl rfl An _ (hp st c.file (by simp[Cu,hk])) (fun _=>An.symm) fun r L' ⟨e1,e2⟩=>?_
    subst e1 e2
    refine wf ?_
    rw[show Ft f c= { c with file:=f c.file } by unfold Ft;simp[hk],show(EB c).foldl g st=g st c.file by unfold EB;simp[hk]]
    exact⟨(),trivial,⟨rfl,rfl,rfl⟩,.refl _⟩
   ·refine wf ?_
    refine Ca (σ:=Unit) (fun _=>True) (fun _=> [(1,.clo F cs),(2,.raw (.pointer (some ⟨b2,0,none⟩))),(4,.raw (.pointer (some ⟨b4,0,none⟩))),(30,.raw (.bool (decide (c.kind=5∨c.kind=6))))]) (fun _=> .box b4 73 (eChg Chg.zero):: .box b2 73 (eChg c)::(Lf st++LF)) ?_ fun _ _=>?_
    ·refine A6 (fun h=>?_) (fun h=>?_)
     ·refine wf ?_
      exact⟨(),trivial,⟨rfl,rfl,rfl,by show PV.raw (.bool (decide (c.kind=5)))=_;simp[h]⟩,.refl _⟩
     ·refine wf ?_
      exact⟨(),trivial,⟨rfl,rfl,rfl,by show PV.raw (.bool (decide (c.kind=6)))=_;simp[h]⟩,.refl _⟩
    refine A6 (fun h=>?_) (fun h5=>?_)
    ·have hk: ¬c.kind=2∧(2≤c.kind∧c.kind≤6)∧(c.kind=5∨c.kind=6):=by omega
     refine wn ?_
     refine FM [2,6,10,3,7,11,13,15,17] (by decide+kernel) ?_
     refine Ar 0 ?_
     refine Ar 1 ?_
     refine Ar 4 ?_
     refine Ar 5 ?_
     refine Ar 8 ?_
     refine Ar 9 ?_
     refine C3 (fuel:=11) [2,6,10] (by decide+kernel) (by simp) fun i hi=>?_
     simp only[AG,Aa,or_false]at hi
     rcases hi with rfl|rfl|rfl
     ·refine⟨_,rfl,?_⟩
      refine wo ?_
      refine AE ?_
      refine C3 (fuel:=10) [3,6,10] (by decide+kernel) (by simp) fun i hi=>?_
      simp only[AG,Aa,or_false]at hi
      rcases hi with rfl|rfl|rfl
      ·refine⟨_,rfl,?_⟩
       refine Bw (xs:= [.tmp 35]) (Lf st) (.box b4 73 (eChg Chg.zero):: .box b2 73 (eChg c)::LF) (fun L=> .box b4 73 (eChg Chg.zero):: .box b2 73 (eChg c)::(L++LF)) (f:=F) (cs:=cs) (.refl _) rfl rfl An _ (hp st c.file (by simp[Cu,hk])) (fun _=>An.symm) fun r L' ⟨e1,e2⟩=>?_
       subst e1 e2
       refine AE ?_
       refine C3 (fuel:=9) [6,10] (by decide+kernel) (by simp) fun i hi=>?_
       simp only[AG,Aa,or_false]at hi
       rcases hi with rfl|rfl
       ·refine⟨_,rfl,?_⟩
        refine wo ?_
        refine AE ?_
        refine C3 (fuel:=8) [7,10] (by decide+kernel) (by simp) fun i hi=>?_
        simp only[AG,Aa,or_false]at hi
        rcases hi with rfl|rfl
        ·refine⟨_,rfl,?_⟩
         refine Bw (xs:= [.tmp 39]) (Lf (g st c.file)) (.box b4 73 (eChg Chg.zero):: .box b2 73 (eChg c)::LF) (fun L=> .box b4 73 (eChg Chg.zero):: .box b2 73 (eChg c)::(L++LF)) (f:=F) (cs:=cs) (.refl _) rfl rfl An _ (hp (g st c.file) c.after (by simp[Cu,hk])) (fun _=>An.symm) fun r L' ⟨e1,e2⟩=>?_
         subst e1 e2
         refine AE ?_
         refine Ad 7 10 ?_
         refine wo ?_
         refine AE ?_
         refine Ar 12 ?_
         refine Ad 5 11 ?_
         refine Bw (xs:= [.tmp 43]) (Lf (g (g st c.file) c.after)) (.box b4 73 (eChg Chg.zero):: .box b2 73 (eChg c)::LF) (fun L=> .box b4 73 (eChg Chg.zero):: .box b2 73 (eChg c)::(L++LF)) (f:=F) (cs:=cs) (.refl _) rfl rfl An _ (hp (g (g st c.file) c.after) c.before (by simp[Cu,hk])) (fun _=>An.symm) fun r L' ⟨e1,e2⟩=>?_
         subst e1 e2
         refine AE ?_
         refine Ad 4 13 ?_
         refine wo ?_
         refine AE ?_
         refine Ar 14 ?_
         refine Ad 2 15 ?_
         refine wo ?_
         refine AE ?_
         refine Ar 16 ?_
         refine Ad 0 17 ?_
         refine wo ?_
         refine AE ?_
         refine CN (by decide+kernel) ?_
         rw[show Ft f c= { c with file:=f c.file,after:=f c.after,before:=f c.before } by unfold Ft;simp[hk],show(EB c).foldl g st=g (g (g st c.file) c.after) c.before by unfold EB;simp[hk]]
         exact⟨(),trivial,⟨rfl,rfl,rfl⟩,.refl _⟩
        ·refine⟨_,rfl,?_⟩
         refine wo ?_
         refine AE ?_
         refine Ar 12 ?_
         refine Ad 6 7 ?_
         refine Bw (xs:= [.tmp 39]) (Lf (g st c.file)) (.box b4 73 (eChg Chg.zero):: .box b2 73 (eChg c)::LF) (fun L=> .box b4 73 (eChg Chg.zero):: .box b2 73 (eChg c)::(L++LF)) (f:=F) (cs:=cs) (.refl _) rfl rfl An _ (hp (g st c.file) c.after (by simp[Cu,hk])) (fun _=>An.symm) fun r L' ⟨e1,e2⟩=>?_
         subst e1 e2
         refine AE ?_
         refine Ad 5 11 ?_
         refine Bw (xs:= [.tmp 43]) (Lf (g (g st c.file) c.after)) (.box b4 73 (eChg Chg.zero):: .box b2 73 (eChg c)::LF) (fun L=> .box b4 73 (eChg Chg.zero):: .box b2 73 (eChg c)::(L++LF)) (f:=F) (cs:=cs) (.refl _) rfl rfl An _ (hp (g (g st c.file) c.after) c.before (by simp[Cu,hk])) (fun _=>An.symm) fun r L' ⟨e1,e2⟩=>?_
         subst e1 e2
         refine AE ?_
         refine Ad 4 13 ?_
         refine wo ?_
         refine AE ?_
         refine Ar 14 ?_
         refine Ad 2 15 ?_
         refine wo ?_
         refine AE ?_
         refine Ar 16 ?_
         refine Ad 0 17 ?_
         refine wo ?_
         refine AE ?_
         refine CN (by decide+kernel) ?_
         rw[show Ft f c= { c with file:=f c.file,after:=f c.after,before:=f c.before } by unfold Ft;simp[hk],show(EB c).foldl g st=g (g (g st c.file) c.after) c.before by unfold EB;simp[hk]]
         exact⟨(),trivial,⟨rfl,rfl,rfl⟩,.refl _⟩
       ·refine⟨_,rfl,?_⟩
        refine wo ?_
        refine AE ?_
        refine Ad 8 6 ?_
        refine wo ?_
        refine AE ?_
        refine Ar 12 ?_
        refine Ad 6 7 ?_
        refine Bw (xs:= [.tmp 39]) (Lf (g st c.file)) (.box b4 73 (eChg Chg.zero):: .box b2 73 (eChg c)::LF) (fun L=> .box b4 73 (eChg Chg.zero):: .box b2 73 (eChg c)::(L++LF)) (f:=F) (cs:=cs) (.refl _) rfl rfl An _ (hp (g st c.file) c.after (by simp[Cu,hk])) (fun _=>An.symm) fun r L' ⟨e1,e2⟩=>?_
        subst e1 e2
        refine AE ?_
        refine Ad 5 11 ?_
        refine Bw (xs:= [.tmp 43]) (Lf (g (g st c.file) c.after)) (.box b4 73 (eChg Chg.zero):: .box b2 73 (eChg c)::LF) (fun L=> .box b4 73 (eChg Chg.zero):: .box b2 73 (eChg c)::(L++LF)) (f:=F) (cs:=cs) (.refl _) rfl rfl An _ (hp (g (g st c.file) c.after) c.before (by simp[Cu,hk])) (fun _=>An.symm) fun r L' ⟨e1,e2⟩=>?_
        subst e1 e2
        refine AE ?_
        refine Ad 4 13 ?_
        refine wo ?_
        refine AE ?_
        refine Ar 14 ?_
        refine Ad 2 15 ?_
        refine wo ?_
        refine AE ?_
        refine Ar 16 ?_
        refine Ad 0 17 ?_
        refine wo ?_
        refine AE ?_
        refine CN (by decide+kernel) ?_
        rw[show Ft f c= { c with file:=f c.file,after:=f c.after,before:=f c.before } by unfold Ft;simp[hk],show(EB c).foldl g st=g (g (g st c.file) c.after) c.before by unfold EB;simp[hk]]
        exact⟨(),trivial,⟨rfl,rfl,rfl⟩,.refl _⟩
      ·refine⟨_,rfl,?_⟩
       refine wo ?_
       refine AE ?_
       refine C3 (fuel:=9) [3,10] (by decide+kernel) (by simp) fun i hi=>?_
       simp only[AG,Aa,or_false]at hi
       rcases hi with rfl|rfl
       ·refine⟨_,rfl,?_⟩
        refine Bw (xs:= [.tmp 35]) (Lf st) (.box b4 73 (eChg Chg.zero):: .box b2 73 (eChg c)::LF) (fun L=> .box b4 73 (eChg Chg.zero):: .box b2 73 (eChg c)::(L++LF)) (f:=F) (cs:=cs) (.refl _) rfl rfl An _ (hp st c.file (by simp[Cu,hk])) (fun _=>An.symm) fun r L' ⟨e1,e2⟩=>?_
        subst e1 e2
        refine AE ?_
        refine C3 (fuel:=8) [7,10] (by decide+kernel) (by simp) fun i hi=>?_
        simp only[AG,Aa,or_false]at hi
        rcases hi with rfl|rfl
        ·refine⟨_,rfl,?_⟩
         refine Bw (xs:= [.tmp 39]) (Lf (g st c.file)) (.box b4 73 (eChg Chg.zero):: .box b2 73 (eChg c)::LF) (fun L=> .box b4 73 (eChg Chg.zero):: .box b2 73 (eChg c)::(L++LF)) (f:=F) (cs:=cs) (.refl _) rfl rfl An _ (hp (g st c.file) c.after (by simp[Cu,hk])) (fun _=>An.symm) fun r L' ⟨e1,e2⟩=>?_
         subst e1 e2
         refine AE ?_
         refine Ad 7 10 ?_
         refine wo ?_
         refine AE ?_
         refine Ar 12 ?_
         refine Ad 5 11 ?_
         refine Bw (xs:= [.tmp 43]) (Lf (g (g st c.file) c.after)) (.box b4 73 (eChg Chg.zero):: .box b2 73 (eChg c)::LF) (fun L=> .box b4 73 (eChg Chg.zero):: .box b2 73 (eChg c)::(L++LF)) (f:=F) (cs:=cs) (.refl _) rfl rfl An _ (hp (g (g st c.file) c.after) c.before (by simp[Cu,hk])) (fun _=>An.symm) fun r L' ⟨e1,e2⟩=>?_
         subst e1 e2
         refine AE ?_
         refine Ad 4 13 ?_
         refine wo ?_
         refine AE ?_
         refine Ar 14 ?_
         refine Ad 2 15 ?_
         refine wo ?_
         refine AE ?_
         refine Ar 16 ?_
         refine Ad 0 17 ?_
         refine wo ?_
         refine AE ?_
         refine CN (by decide+kernel) ?_
         rw[show Ft f c= { c with file:=f c.file,after:=f c.after,before:=f c.before } by unfold Ft;simp[hk],show(EB c).foldl g st=g (g (g st c.file) c.after) c.before by unfold EB;simp[hk]]
         exact⟨(),trivial,⟨rfl,rfl,rfl⟩,.refl _⟩
        ·refine⟨_,rfl,?_⟩
         refine wo ?_
         refine AE ?_
         refine Ar 12 ?_
         refine Ad 6 7 ?_
         refine Bw (xs:= [.tmp 39]) (Lf (g st c.file)) (.box b4 73 (eChg Chg.zero):: .box b2 73 (eChg c)::LF) (fun L=> .box b4 73 (eChg Chg.zero):: .box b2 73 (eChg c)::(L++LF)) (f:=F) (cs:=cs) (.refl _) rfl rfl An _ (hp (g st c.file) c.after (by simp[Cu,hk])) (fun _=>An.symm) fun r L' ⟨e1,e2⟩=>?_
         subst e1 e2
         refine AE ?_
         refine Ad 5 11 ?_
         refine Bw (xs:= [.tmp 43]) (Lf (g (g st c.file) c.after)) (.box b4 73 (eChg Chg.zero):: .box b2 73 (eChg c)::LF) (fun L=> .box b4 73 (eChg Chg.zero):: .box b2 73 (eChg c)::(L++LF)) (f:=F) (cs:=cs) (.refl _) rfl rfl An _ (hp (g (g st c.file) c.after) c.before (by simp[Cu,hk])) (fun _=>An.symm) fun r L' ⟨e1,e2⟩=>?_
         subst e1 e2
         refine AE ?_
         refine Ad 4 13 ?_
         refine wo ?_
         refine AE ?_
         refine Ar 14 ?_
         refine Ad 2 15 ?_
         refine wo ?_
         refine AE ?_
         refine Ar 16 ?_
         refine Ad 0 17 ?_
         refine wo ?_
         refine AE ?_
         refine CN (by decide+kernel) ?_
         rw[show Ft f c= { c with file:=f c.file,after:=f c.after,before:=f c.before } by unfold Ft;simp[hk],show(EB c).foldl g st=g (g (g st c.file) c.after) c.before by unfold EB;simp[hk]]
         exact⟨(),trivial,⟨rfl,rfl,rfl⟩,.refl _⟩
       ·refine⟨_,rfl,?_⟩
        refine wo ?_
        refine AE ?_
        refine Ad 8 3 ?_
        refine Bw (xs:= [.tmp 35]) (Lf st) (.box b4 73 (eChg Chg.zero):: .box b2 73 (eChg c)::LF) (fun L=> .box b4 73 (eChg Chg.zero):: .box b2 73 (eChg c)::(L++LF)) (f:=F) (cs:=cs) (.refl _) rfl rfl An _ (hp st c.file (by simp[Cu,hk])) (fun _=>An.symm) fun r L' ⟨e1,e2⟩=>?_
        subst e1 e2
        refine AE ?_
        refine Ar 12 ?_
        refine Ad 6 7 ?_
        refine Bw (xs:= [.tmp 39]) (Lf (g st c.file)) (.box b4 73 (eChg Chg.zero):: .box b2 73 (eChg c)::LF) (fun L=> .box b4 73 (eChg Chg.zero):: .box b2 73 (eChg c)::(L++LF)) (f:=F) (cs:=cs) (.refl _) rfl rfl An _ (hp (g st c.file) c.after (by simp[Cu,hk])) (fun _=>An.symm) fun r L' ⟨e1,e2⟩=>?_
        subst e1 e2
        refine AE ?_
        refine Ad 5 11 ?_
        refine Bw (xs:= [.tmp 43]) (Lf (g (g st c.file) c.after)) (.box b4 73 (eChg Chg.zero):: .box b2 73 (eChg c)::LF) (fun L=> .box b4 73 (eChg Chg.zero):: .box b2 73 (eChg c)::(L++LF)) (f:=F) (cs:=cs) (.refl _) rfl rfl An _ (hp (g (g st c.file) c.after) c.before (by simp[Cu,hk])) (fun _=>An.symm) fun r L' ⟨e1,e2⟩=>?_
        subst e1 e2
        refine AE ?_
        refine Ad 4 13 ?_
        refine wo ?_
        refine AE ?_
        refine Ar 14 ?_
        refine Ad 2 15 ?_
        refine wo ?_
        refine AE ?_
        refine Ar 16 ?_
        refine Ad 0 17 ?_
        refine wo ?_
        refine AE ?_
        refine CN (by decide+kernel) ?_
        rw[show Ft f c= { c with file:=f c.file,after:=f c.after,before:=f c.before } by unfold Ft;simp[hk],show(EB c).foldl g st=g (g (g st c.file) c.after) c.before by unfold EB;simp[hk]]
        exact⟨(),trivial,⟨rfl,rfl,rfl⟩,.refl _⟩
      ·refine⟨_,rfl,?_⟩
       refine wo ?_
       refine AE ?_
       refine C3 (fuel:=9) [3,6] (by decide+kernel) (by simp) fun i hi=>?_
       simp only[AG,Aa,or_false]at hi
       rcases hi with rfl|rfl
       ·refine⟨_,rfl,?_⟩
        refine Bw (xs:= [.tmp 35]) (Lf st) (.box b4 73 (eChg Chg.zero):: .box b2 73 (eChg c)::LF) (fun L=> .box b4 73 (eChg Chg.zero):: .box b2 73 (eChg c)::(L++LF)) (f:=F) (cs:=cs) (.refl _) rfl rfl An _ (hp st c.file (by simp[Cu,hk])) (fun _=>An.symm) fun r L' ⟨e1,e2⟩=>?_
        subst e1 e2
        refine AE ?_
        refine Ad 8 6 ?_
        refine wo ?_
        refine AE ?_
        refine Ar 12 ?_
        refine Ad 6 7 ?_
        refine Bw (xs:= [.tmp 39]) (Lf (g st c.file)) (.box b4 73 (eChg Chg.zero):: .box b2 73 (eChg c)::LF) (fun L=> .box b4 73 (eChg Chg.zero):: .box b2 73 (eChg c)::(L++LF)) (f:=F) (cs:=cs) (.refl _) rfl rfl An _ (hp (g st c.file) c.after (by simp[Cu,hk])) (fun _=>An.symm) fun r L' ⟨e1,e2⟩=>?_
        subst e1 e2
        refine AE ?_
        refine Ad 5 11 ?_
        refine Bw (xs:= [.tmp 43]) (Lf (g (g st c.file) c.after)) (.box b4 73 (eChg Chg.zero):: .box b2 73 (eChg c)::LF) (fun L=> .box b4 73 (eChg Chg.zero):: .box b2 73 (eChg c)::(L++LF)) (f:=F) (cs:=cs) (.refl _) rfl rfl An _ (hp (g (g st c.file) c.after) c.before (by simp[Cu,hk])) (fun _=>An.symm) fun r L' ⟨e1,e2⟩=>?_
        subst e1 e2
        refine AE ?_
        refine Ad 4 13 ?_
        refine wo ?_
        refine AE ?_
        refine Ar 14 ?_
        refine Ad 2 15 ?_
        refine wo ?_
        refine AE ?_
        refine Ar 16 ?_
        refine Ad 0 17 ?_
        refine wo ?_
        refine AE ?_
        refine CN (by decide+kernel) ?_
        rw[show Ft f c= { c with file:=f c.file,after:=f c.after,before:=f c.before } by unfold Ft;simp[hk],show(EB c).foldl g st=g (g (g st c.file) c.after) c.before by unfold EB;simp[hk]]
        exact⟨(),trivial,⟨rfl,rfl,rfl⟩,.refl _⟩
       ·refine⟨_,rfl,?_⟩
        refine wo ?_
        refine AE ?_
        refine Ad 8 3 ?_
        refine Bw (xs:= [.tmp 35]) (Lf st) (.box b4 73 (eChg Chg.zero):: .box b2 73 (eChg c)::LF) (fun L=> .box b4 73 (eChg Chg.zero):: .box b2 73 (eChg c)::(L++LF)) (f:=F) (cs:=cs) (.refl _) rfl rfl An _ (hp st c.file (by simp[Cu,hk])) (fun _=>An.symm) fun r L' ⟨e1,e2⟩=>?_
        subst e1 e2
        refine AE ?_
        refine Ar 12 ?_
        refine Ad 6 7 ?_
        refine Bw (xs:= [.tmp 39]) (Lf (g st c.file)) (.box b4 73 (eChg Chg.zero):: .box b2 73 (eChg c)::LF) (fun L=> .box b4 73 (eChg Chg.zero):: .box b2 73 (eChg c)::(L++LF)) (f:=F) (cs:=cs) (.refl _) rfl rfl An _ (hp (g st c.file) c.after (by simp[Cu,hk])) (fun _=>An.symm) fun r L' ⟨e1,e2⟩=>?_
        subst e1 e2
        refine AE ?_
        refine Ad 5 11 ?_
        refine Bw (xs:= [.tmp 43]) (Lf (g (g st c.file) c.after)) (.box b4 73 (eChg Chg.zero):: .box b2 73 (eChg c)::LF) (fun L=> .box b4 73 (eChg Chg.zero):: .box b2 73 (eChg c)::(L++LF)) (f:=F) (cs:=cs) (.refl _) rfl rfl An _ (hp (g (g st c.file) c.after) c.before (by simp[Cu,hk])) (fun _=>An.symm) fun r L' ⟨e1,e2⟩=>?_
        subst e1 e2
        refine AE ?_
        refine Ad 4 13 ?_
        refine wo ?_
        refine AE ?_
        refine Ar 14 ?_
        refine Ad 2 15 ?_
        refine wo ?_
        refine AE ?_
        refine Ar 16 ?_
        refine Ad 0 17 ?_
        refine wo ?_
        refine AE ?_
        refine CN (by decide+kernel) ?_
        rw[show Ft f c= { c with file:=f c.file,after:=f c.after,before:=f c.before } by unfold Ft;simp[hk],show(EB c).foldl g st=g (g (g st c.file) c.after) c.before by unfold EB;simp[hk]]
        exact⟨(),trivial,⟨rfl,rfl,rfl⟩,.refl _⟩
     ·refine⟨_,rfl,?_⟩
      refine wo ?_
      refine AE ?_
      refine C3 (fuel:=10) [2,10] (by decide+kernel) (by simp) fun i hi=>?_
      simp only[AG,Aa,or_false]at hi
      rcases hi with rfl|rfl
      ·refine⟨_,rfl,?_⟩
       refine wo ?_
       refine AE ?_
       refine C3 (fuel:=9) [3,10] (by decide+kernel) (by simp) fun i hi=>?_
       simp only[AG,Aa,or_false]at hi
       rcases hi with rfl|rfl
       ·refine⟨_,rfl,?_⟩
        refine Bw (xs:= [.tmp 35]) (Lf st) (.box b4 73 (eChg Chg.zero):: .box b2 73 (eChg c)::LF) (fun L=> .box b4 73 (eChg Chg.zero):: .box b2 73 (eChg c)::(L++LF)) (f:=F) (cs:=cs) (.refl _) rfl rfl An _ (hp st c.file (by simp[Cu,hk])) (fun _=>An.symm) fun r L' ⟨e1,e2⟩=>?_
        subst e1 e2
        refine AE ?_
        refine C3 (fuel:=8) [7,10] (by decide+kernel) (by simp) fun i hi=>?_
        simp only[AG,Aa,or_false]at hi
        rcases hi with rfl|rfl
        ·refine⟨_,rfl,?_⟩
         refine Bw (xs:= [.tmp 39]) (Lf (g st c.file)) (.box b4 73 (eChg Chg.zero):: .box b2 73 (eChg c)::LF) (fun L=> .box b4 73 (eChg Chg.zero):: .box b2 73 (eChg c)::(L++LF)) (f:=F) (cs:=cs) (.refl _) rfl rfl An _ (hp (g st c.file) c.after (by simp[Cu,hk])) (fun _=>An.symm) fun r L' ⟨e1,e2⟩=>?_
         subst e1 e2
         refine AE ?_
         refine Ad 7 10 ?_
         refine wo ?_
         refine AE ?_
         refine Ar 12 ?_
         refine Ad 5 11 ?_
         refine Bw (xs:= [.tmp 43]) (Lf (g (g st c.file) c.after)) (.box b4 73 (eChg Chg.zero):: .box b2 73 (eChg c)::LF) (fun L=> .box b4 73 (eChg Chg.zero):: .box b2 73 (eChg c)::(L++LF)) (f:=F) (cs:=cs) (.refl _) rfl rfl An _ (hp (g (g st c.file) c.after) c.before (by simp[Cu,hk])) (fun _=>An.symm) fun r L' ⟨e1,e2⟩=>?_
         subst e1 e2
         refine AE ?_
         refine Ad 4 13 ?_
         refine wo ?_
         refine AE ?_
         refine Ar 14 ?_
         refine Ad 2 15 ?_
         refine wo ?_
         refine AE ?_
         refine Ar 16 ?_
         refine Ad 0 17 ?_
         refine wo ?_
         refine AE ?_
         refine CN (by decide+kernel) ?_
         rw[show Ft f c= { c with file:=f c.file,after:=f c.after,before:=f c.before } by unfold Ft;simp[hk],show(EB c).foldl g st=g (g (g st c.file) c.after) c.before by unfold EB;simp[hk]]
         exact⟨(),trivial,⟨rfl,rfl,rfl⟩,.refl _⟩
        ·refine⟨_,rfl,?_⟩
         refine wo ?_
         refine AE ?_
         refine Ar 12 ?_
         refine Ad 6 7 ?_
         refine Bw (xs:= [.tmp 39]) (Lf (g st c.file)) (.box b4 73 (eChg Chg.zero):: .box b2 73 (eChg c)::LF) (fun L=> .box b4 73 (eChg Chg.zero):: .box b2 73 (eChg c)::(L++LF)) (f:=F) (cs:=cs) (.refl _) rfl rfl An _ (hp (g st c.file) c.after (by simp[Cu,hk])) (fun _=>An.symm) fun r L' ⟨e1,e2⟩=>?_
         subst e1 e2
         refine AE ?_
         refine Ad 5 11 ?_
         refine Bw (xs:= [.tmp 43]) (Lf (g (g st c.file) c.after)) (.box b4 73 (eChg Chg.zero):: .box b2 73 (eChg c)::LF) (fun L=> .box b4 73 (eChg Chg.zero):: .box b2 73 (eChg c)::(L++LF)) (f:=F) (cs:=cs) (.refl _) rfl rfl An _ (hp (g (g st c.file) c.after) c.before (by simp[Cu,hk])) (fun _=>An.symm) fun r L' ⟨e1,e2⟩=>?_
         subst e1 e2
         refine AE ?_
         refine Ad 4 13 ?_
         refine wo ?_
         refine AE ?_
         refine Ar 14 ?_
         refine Ad 2 15 ?_
         refine wo ?_
         refine AE ?_
         refine Ar 16 ?_
         refine Ad 0 17 ?_
         refine wo ?_
         refine AE ?_
         refine CN (by decide+kernel) ?_
         rw[show Ft f c= { c with file:=f c.file,after:=f c.after,before:=f c.before } by unfold Ft;simp[hk],show(EB c).foldl g st=g (g (g st c.file) c.after) c.before by unfold EB;simp[hk]]
         exact⟨(),trivial,⟨rfl,rfl,rfl⟩,.refl _⟩
       ·refine⟨_,rfl,?_⟩
        refine wo ?_
        refine AE ?_
        refine Ad 8 3 ?_
        refine Bw (xs:= [.tmp 35]) (Lf st) (.box b4 73 (eChg Chg.zero):: .box b2 73 (eChg c)::LF) (fun L=> .box b4 73 (eChg Chg.zero):: .box b2 73 (eChg c)::(L++LF)) (f:=F) (cs:=cs) (.refl _) rfl rfl An _ (hp st c.file (by simp[Cu,hk])) (fun _=>An.symm) fun r L' ⟨e1,e2⟩=>?_
        subst e1 e2
        refine AE ?_
        refine Ar 12 ?_
        refine Ad 6 7 ?_
        refine Bw (xs:= [.tmp 39]) (Lf (g st c.file)) (.box b4 73 (eChg Chg.zero):: .box b2 73 (eChg c)::LF) (fun L=> .box b4 73 (eChg Chg.zero):: .box b2 73 (eChg c)::(L++LF)) (f:=F) (cs:=cs) (.refl _) rfl rfl An _ (hp (g st c.file) c.after (by simp[Cu,hk])) (fun _=>An.symm) fun r L' ⟨e1,e2⟩=>?_
        subst e1 e2
        refine AE ?_
        refine Ad 5 11 ?_
        refine Bw (xs:= [.tmp 43]) (Lf (g (g st c.file) c.after)) (.box b4 73 (eChg Chg.zero):: .box b2 73 (eChg c)::LF) (fun L=> .box b4 73 (eChg Chg.zero):: .box b2 73 (eChg c)::(L++LF)) (f:=F) (cs:=cs) (.refl _) rfl rfl An _ (hp (g (g st c.file) c.after) c.before (by simp[Cu,hk])) (fun _=>An.symm) fun r L' ⟨e1,e2⟩=>?_
        subst e1 e2
        refine AE ?_
        refine Ad 4 13 ?_
        refine wo ?_
        refine AE ?_
        refine Ar 14 ?_
        refine Ad 2 15 ?_
        refine wo ?_
        refine AE ?_
        refine Ar 16 ?_
        refine Ad 0 17 ?_
        refine wo ?_
        refine AE ?_
        refine CN (by decide+kernel) ?_
        rw[show Ft f c= { c with file:=f c.file,after:=f c.after,before:=f c.before } by unfold Ft;simp[hk],show(EB c).foldl g st=g (g (g st c.file) c.after) c.before by unfold EB;simp[hk]]
        exact⟨(),trivial,⟨rfl,rfl,rfl⟩,.refl _⟩
      ·refine⟨_,rfl,?_⟩
       refine wo ?_
       refine AE ?_
       refine Ad 9 2 ?_
       refine wo ?_
       refine AE ?_
       refine Ad 8 3 ?_
       refine Bw (xs:= [.tmp 35]) (Lf st) (.box b4 73 (eChg Chg.zero):: .box b2 73 (eChg c)::LF) (fun L=> .box b4 73 (eChg Chg.zero):: .box b2 73 (eChg c)::(L++LF)) (f:=F) (cs:=cs) (.refl _) rfl rfl An _ (hp st c.file (by simp[Cu,hk])) (fun _=>An.symm) fun r L' ⟨e1,e2⟩=>?_
       subst e1 e2
       refine AE ?_
       refine Ar 12 ?_
       refine Ad 6 7 ?_
       refine Bw (xs:= [.tmp 39]) (Lf (g st c.file)) (.box b4 73 (eChg Chg.zero):: .box b2 73 (eChg c)::LF) (fun L=> .box b4 73 (eChg Chg.zero):: .box b2 73 (eChg c)::(L++LF)) (f:=F) (cs:=cs) (.refl _) rfl rfl An _ (hp (g st c.file) c.after (by simp[Cu,hk])) (fun _=>An.symm) fun r L' ⟨e1,e2⟩=>?_
       subst e1 e2
       refine AE ?_
       refine Ad 5 11 ?_
       refine Bw (xs:= [.tmp 43]) (Lf (g (g st c.file) c.after)) (.box b4 73 (eChg Chg.zero):: .box b2 73 (eChg c)::LF) (fun L=> .box b4 73 (eChg Chg.zero):: .box b2 73 (eChg c)::(L++LF)) (f:=F) (cs:=cs) (.refl _) rfl rfl An _ (hp (g (g st c.file) c.after) c.before (by simp[Cu,hk])) (fun _=>An.symm) fun r L' ⟨e1,e2⟩=>?_
       subst e1 e2
       refine AE ?_
       refine Ad 4 13 ?_
       refine wo ?_
       refine AE ?_
       refine Ar 14 ?_
       refine Ad 2 15 ?_
       refine wo ?_
       refine AE ?_
       refine Ar 16 ?_
       refine Ad 0 17 ?_
       refine wo ?_
       refine AE ?_
       refine CN (by decide+kernel) ?_
       rw[show Ft f c= { c with file:=f c.file,after:=f c.after,before:=f c.before } by unfold Ft;simp[hk],show(EB c).foldl g st=g (g (g st c.file) c.after) c.before by unfold EB;simp[hk]]
       exact⟨(),trivial,⟨rfl,rfl,rfl⟩,.refl _⟩
     ·refine⟨_,rfl,?_⟩
      refine wo ?_
      refine AE ?_
      refine C3 (fuel:=10) [2,6] (by decide+kernel) (by simp) fun i hi=>?_
      simp only[AG,Aa,or_false]at hi
      rcases hi with rfl|rfl
      ·refine⟨_,rfl,?_⟩
       refine wo ?_
       refine AE ?_
       refine C3 (fuel:=9) [3,6] (by decide+kernel) (by simp) fun i hi=>?_
       simp only[AG,Aa,or_false]at hi
       rcases hi with rfl|rfl
       ·refine⟨_,rfl,?_⟩
        refine Bw (xs:= [.tmp 35]) (Lf st) (.box b4 73 (eChg Chg.zero):: .box b2 73 (eChg c)::LF) (fun L=> .box b4 73 (eChg Chg.zero):: .box b2 73 (eChg c)::(L++LF)) (f:=F) (cs:=cs) (.refl _) rfl rfl An _ (hp st c.file (by simp[Cu,hk])) (fun _=>An.symm) fun r L' ⟨e1,e2⟩=>?_
        subst e1 e2
        refine AE ?_
        refine Ad 8 6 ?_
        refine wo ?_
        refine AE ?_
        refine Ar 12 ?_
        refine Ad 6 7 ?_
        refine Bw (xs:= [.tmp 39]) (Lf (g st c.file)) (.box b4 73 (eChg Chg.zero):: .box b2 73 (eChg c)::LF) (fun L=> .box b4 73 (eChg Chg.zero):: .box b2 73 (eChg c)::(L++LF)) (f:=F) (cs:=cs) (.refl _) rfl rfl An _ (hp (g st c.file) c.after (by simp[Cu,hk])) (fun _=>An.symm) fun r L' ⟨e1,e2⟩=>?_
        subst e1 e2
        refine AE ?_
        refine Ad 5 11 ?_
        refine Bw (xs:= [.tmp 43]) (Lf (g (g st c.file) c.after)) (.box b4 73 (eChg Chg.zero):: .box b2 73 (eChg c)::LF) (fun L=> .box b4 73 (eChg Chg.zero):: .box b2 73 (eChg c)::(L++LF)) (f:=F) (cs:=cs) (.refl _) rfl rfl An _ (hp (g (g st c.file) c.after) c.before (by simp[Cu,hk])) (fun _=>An.symm) fun r L' ⟨e1,e2⟩=>?_
        subst e1 e2
        refine AE ?_
        refine Ad 4 13 ?_
        refine wo ?_
        refine AE ?_
        refine Ar 14 ?_
        refine Ad 2 15 ?_
        refine wo ?_
        refine AE ?_
        refine Ar 16 ?_
        refine Ad 0 17 ?_
        refine wo ?_
        refine AE ?_
        refine CN (by decide+kernel) ?_
        rw[show Ft f c= { c with file:=f c.file,after:=f c.after,before:=f c.before } by unfold Ft;simp[hk],show(EB c).foldl g st=g (g (g st c.file) c.after) c.before by unfold EB;simp[hk]]
        exact⟨(),trivial,⟨rfl,rfl,rfl⟩,.refl _⟩
       ·refine⟨_,rfl,?_⟩
        refine wo ?_
        refine AE ?_
        refine Ad 8 3 ?_
        refine Bw (xs:= [.tmp 35]) (Lf st) (.box b4 73 (eChg Chg.zero):: .box b2 73 (eChg c)::LF) (fun L=> .box b4 73 (eChg Chg.zero):: .box b2 73 (eChg c)::(L++LF)) (f:=F) (cs:=cs) (.refl _) rfl rfl An _ (hp st c.file (by simp[Cu,hk])) (fun _=>An.symm) fun r L' ⟨e1,e2⟩=>?_
        subst e1 e2
        refine AE ?_
        refine Ar 12 ?_
        refine Ad 6 7 ?_
        refine Bw (xs:= [.tmp 39]) (Lf (g st c.file)) (.box b4 73 (eChg Chg.zero):: .box b2 73 (eChg c)::LF) (fun L=> .box b4 73 (eChg Chg.zero):: .box b2 73 (eChg c)::(L++LF)) (f:=F) (cs:=cs) (.refl _) rfl rfl An _ (hp (g st c.file) c.after (by simp[Cu,hk])) (fun _=>An.symm) fun r L' ⟨e1,e2⟩=>?_
        subst e1 e2
        refine AE ?_
        refine Ad 5 11 ?_
        refine Bw (xs:= [.tmp 43]) (Lf (g (g st c.file) c.after)) (.box b4 73 (eChg Chg.zero):: .box b2 73 (eChg c)::LF) (fun L=> .box b4 73 (eChg Chg.zero):: .box b2 73 (eChg c)::(L++LF)) (f:=F) (cs:=cs) (.refl _) rfl rfl An _ (hp (g (g st c.file) c.after) c.before (by simp[Cu,hk])) (fun _=>An.symm) fun r L' ⟨e1,e2⟩=>?_
        subst e1 e2
        refine AE ?_
        refine Ad 4 13 ?_
        refine wo ?_
        refine AE ?_
        refine Ar 14 ?_
        refine Ad 2 15 ?_
        refine wo ?_
        refine AE ?_
        refine Ar 16 ?_
        refine Ad 0 17 ?_
        refine wo ?_
        refine AE ?_
        refine CN (by decide+kernel) ?_
        rw[show Ft f c= { c with file:=f c.file,after:=f c.after,before:=f c.before } by unfold Ft;simp[hk],show(EB c).foldl g st=g (g (g st c.file) c.after) c.before by unfold EB;simp[hk]]
        exact⟨(),trivial,⟨rfl,rfl,rfl⟩,.refl _⟩
      ·refine⟨_,rfl,?_⟩
       refine wo ?_
       refine AE ?_
       refine Ad 9 2 ?_
       refine wo ?_
       refine AE ?_
       refine Ad 8 3 ?_
       refine Bw (xs:= [.tmp 35]) (Lf st) (.box b4 73 (eChg Chg.zero):: .box b2 73 (eChg c)::LF) (fun L=> .box b4 73 (eChg Chg.zero):: .box b2 73 (eChg c)::(L++LF)) (f:=F) (cs:=cs) (.refl _) rfl rfl An _ (hp st c.file (by simp[Cu,hk])) (fun _=>An.symm) fun r L' ⟨e1,e2⟩=>?_
       subst e1 e2
       refine AE ?_
       refine Ar 12 ?_
       refine Ad 6 7 ?_
       refine Bw (xs:= [.tmp 39]) (Lf (g st c.file)) (.box b4 73 (eChg Chg.zero):: .box b2 73 (eChg c)::LF) (fun L=> .box b4 73 (eChg Chg.zero):: .box b2 73 (eChg c)::(L++LF)) (f:=F) (cs:=cs) (.refl _) rfl rfl An _ (hp (g st c.file) c.after (by simp[Cu,hk])) (fun _=>An.symm) fun r L' ⟨e1,e2⟩=>?_
       subst e1 e2
       refine AE ?_
       refine Ad 5 11 ?_
       refine Bw (xs:= [.tmp 43]) (Lf (g (g st c.file) c.after)) (.box b4 73 (eChg Chg.zero):: .box b2 73 (eChg c)::LF) (fun L=> .box b4 73 (eChg Chg.zero):: .box b2 73 (eChg c)::(L++LF)) (f:=F) (cs:=cs) (.refl _) rfl rfl An _ (hp (g (g st c.file) c.after) c.before (by simp[Cu,hk])) (fun _=>An.symm) fun r L' ⟨e1,e2⟩=>?_
       subst e1 e2
       refine AE ?_
       refine Ad 4 13 ?_
       refine wo ?_
       refine AE ?_
       refine Ar 14 ?_
       refine Ad 2 15 ?_
       refine wo ?_
       refine AE ?_
       refine Ar 16 ?_
       refine Ad 0 17 ?_
       refine wo ?_
       refine AE ?_
       refine CN (by decide+kernel) ?_
       rw[show Ft f c= { c with file:=f c.file,after:=f c.after,before:=f c.before } by unfold Ft;simp[hk],show(EB c).foldl g st=g (g (g st c.file) c.after) c.before by unfold EB;simp[hk]]
       exact⟨(),trivial,⟨rfl,rfl,rfl⟩,.refl _⟩
    ·have hk: ¬c.kind=2∧ ¬(2≤c.kind∧c.kind≤6)∧ ¬(c.kind=5∨c.kind=6):=by omega
     refine wf ?_
     rw[show Ft f c=c by unfold Ft;simp[hk],show(EB c).foldl g st=st by unfold EB;simp[hk]]
     exact⟨(),trivial,⟨rfl,rfl,rfl⟩,.refl _⟩
 have o2:(Ft f c).over=c.over:=rfl
 generalize hc2:Ft f c=c2 at o2 ⊢
 have ho2:c2.over.length≤1000:=by rw[o2];exact ho
 refine wf ?_
 refine wE (vf:=vIdn) (c:=c2.over.length) rfl rfl (by omega) (by omega) fun v0 R0 hv0=>?_
 refine wo ?_
 refine AE ?_
 refine EH An.symm ?_
 refine wf ?_
 refine AZ (σ:=Nat × St × Value × List Res) (fun k=>k.1≤c2.over.length∧k.2.1=(c2.over.take k.1).foldl g ((EB c).foldl g st)∧pv k.2.2.1 ((c2.over.take k.1).map f) k.2.2.2) (fun k=>c2.over.length - k.1) (fun k=> [(1,.clo F cs),(2,.raw (.pointer (some ⟨b2,0,none⟩))),(4,.raw (.pointer (some ⟨b4,0,none⟩))),(5,.raw k.2.2.1),(53,.slice (c2.over.map eIdent) .ro),(54,.raw (.int .i64 c2.over.length)),(55,.raw (.int .i64 k.1))]) (fun k=> .box b4 73 (eChg Chg.zero):: .box b2 73 (eChg c2)::(k.2.2.2++(Lf k.2.1++LF))) (0,(EB c).foldl g st,v0,R0) ⟨by simp,rfl,hv0⟩ ⟨rfl,rfl,rfl,rfl,rfl,rfl,rfl⟩ (.refl _) ?_
 rintro⟨k,s,v,R⟩ ⟨hk,hs,hI⟩
 dsimp only at hk hs hI ⊢
 refine wf ?_
 refine A6 (fun hc=>?_) (fun hc=>?_)
 ·have hlt:k < c2.over.length:=by omega
  refine wz fun b7=>?_
  refine B2 7 ?_
  refine wf ?_
  refine Bw (xs:= [.tmp 61]) (Lf s) (.box b4 73 (eChg Chg.zero):: .box b2 73 (eChg c2)::(R++LF)) (fun L=> .box b4 73 (eChg Chg.zero):: .box b2 73 (eChg c2)::(R++(L++LF))) (f:=F) (cs:=cs) (.refl _) rfl rfl Yz _ (hp s c2.over[k] (by rw[cN,Ah];exact .inr (o2 ▸ AH hlt))) (fun _=>Yz.symm) fun r L' ⟨e1,e2⟩=>?_
  subst e1 e2
  refine wf ?_
  refine Il (f:=eIdent) (m:= [f c2.over[k]]) (R:=R) (LF:= .box b4 73 (eChg Chg.zero):: .box b2 73 (eChg c2)::(Lf (g s c2.over[k])++LF)) (fun R'=> .box b4 73 (eChg Chg.zero):: .box b2 73 (eChg c2)::(R'++(Lf (g s c2.over[k])++LF))) rfl rfl hI An (fun R'=>An.symm) (by simp only[AQ,Ab,AN,Ae];omega) (by simp only[AQ,Ab,AN,Ae];omega) fun v3 R3 h3=>?_
  refine wf ?_
  refine wf ?_
  refine⟨(k+1,_,v3,R3),⟨by dsimp only;omega,?_,?_⟩,by dsimp only;omega,⟨rfl,rfl,rfl,rfl,rfl,rfl,rfl⟩,.refl _⟩
  ·dsimp only
   rw[A7 hlt,CB,←hs];rfl
  ·dsimp only
   rw[A7 hlt,Au]
   exact h3
 ·rw[AB (by omega)]at hI hs
  have hms:(sortI (c2.over.map f)).length≤maxN∧(sortI (c2.over.map f)).length*33≤maxN:=by
   have h1:maxN=140737488355328:=rfl
   have h2:(sortI (c2.over.map f)).length=c2.over.length:=by rw[sortI,Dn,AQ]
   omega
  have hfin:HP f c= { c2 with over:=sortI (c2.over.map f) }:=by rw[tX,hc2,o2]
  have hst:(Cu c).foldl g st=s:=by rw[cN,CB,hs,o2]
  refine wf ?_
  refine Bw (xs:= [.tmp 66,.func 159]) R (.box b4 73 (eChg Chg.zero):: .box b2 73 (eChg c2)::(Lf s++LF)) (fun R'=> .box b4 73 (eChg Chg.zero):: .box b2 73 (eChg c2)::(R'++(Lf s++LF))) (f:=158) (cs:= []) (C4 _) rfl rfl An _ (YF _ _ R hI (by simp only[AQ];omega)) (fun _=>An.symm) fun r' L3 ⟨v3,e3,h3⟩=>?_
  subst e3
  refine wo ?_
  refine AE ?_
  refine Gk (f:=eIdent) 5 h3 hms An rfl ?_
  rw[hfin,hst]
  refine wf ?_
  exact⟨trivial,_,_,.cons (.cell 4 73 rfl AI Ea.out (by simp)) .nil,.cons _ (.cons _ (.refl _)),rfl,rfl⟩
instance yM:OW Tryz.prog 140 31 3:=⟨by kernel_rfl⟩
theorem bW (st:List (Dig × Int)) (d:Dig) (m:Nat) (x:Ident) (hs: ∀ e∈st,0≤e.2∧e.2≤1000000000000) (hn:x.n≤1000000000000):
  BH Tryz.prog 103 [.agg (eIdent x),.pt (eDig d) 0,.pt [.raw (.map (some m))] 0] [.map m (Bb kDig vInt st)] (fun r L'=>r= .agg (eIdent (fJ st d x))∧L'= [.map m (Bb kDig vInt st)]):=by
 refine C8 Tryz.func103 rfl Tryz.ntmps103 (rs:= [.cell 4 65]) rfl rfl fun hb LF=>?_
 rw[B3,BB]
 refine wf ?_
 refine CA fun b4=>?_
 refine wf ?_
 refine CA fun b5=>?_
 refine ws ?_
 refine Ca (σ:=Unit) (fun _=>True) (fun _=> [(1,.pt (eDig d) 0),(2,.pt [.raw (.map (some m))] 0),(3,.pt (eIdent x) 0),(4,.raw (.pointer (some ⟨b4,0,none⟩))),(5,.raw (.pointer (some ⟨b5,0,none⟩)))]) (fun _=> .box b5 31 (eDig (if EO x=true then d else x.patch)):: .box b4 65 (eIdent Ident.zero):: .map m (Bb kDig vInt st)::LF) ?_ fun _ _=>?_
 ·refine AO (fun h=>?_) (fun h=>?_)
  ·refine wf ?_
   rw[if_pos h]
   exact⟨(),trivial,⟨rfl,rfl,rfl,rfl,rfl⟩,.refl _⟩
  ·refine wf ?_
   rw[if_neg (by simp[h])]
   exact⟨(),trivial,⟨rfl,rfl,rfl,rfl,rfl⟩,.refl _⟩
 have hj:fJ st d x=match CY (if EO x=true then d else x.patch) st with|some k=>if 0≤x.n then⟨Dig.zero,k+x.n⟩else x|none=>x:=rfl
 rw[hj]
 generalize (if EO x=true then d else x.patch)=e
 have hb0:0≤(CY e st).getD 0∧(CY e st).getD 0≤1000000000000:=by
  cases hg:CY e st with
  |none=>exact⟨by decide,by decide⟩
  |some k=>exact hs _ (QY hg)
 have hj:(match CY e st with|some k=>if 0≤x.n then(⟨Dig.zero,k+x.n⟩:Ident)else x|none=>x)=if(CY e st).isSome=true∧0≤x.n then⟨Dig.zero,(CY e st).getD 0+x.n⟩else x:=by
  cases hg:CY e st with
  |none=>simp
  |some k=>simp
 rw[hj]
 refine wf ?_
 refine Ao (fun h=>?_) (fun h=>?_)
 ·refine wf ?_
  refine A6 (fun h2=>?_) (fun h2=>?_)
  ·rw[if_pos ⟨h,h2⟩]
   refine wf ?_
   exact⟨trivial,_,_,.cons (.cell 4 65 rfl (AL _ AI) Ea.out (by simp)) .nil,.cons _ (.cons _ (.refl _)),rfl,rfl⟩
  ·rw[if_neg fun k=>h2 k.2]
   refine wf ?_
   exact⟨trivial,_,_,.cons (.cell 4 65 rfl (AL _ AI) Ea.out (by simp)) .nil,.cons _ (.cons _ (.refl _)),rfl,rfl⟩
 ·rw[if_neg fun k=>by simp[k.1]at h]
  refine wf ?_
  exact⟨trivial,_,_,.cons (.cell 4 65 rfl (AL _ AI) Ea.out (by simp)) .nil,.cons _ (.cons _ (.refl _)),rfl,rfl⟩
@[reducible] def MY (m:Mta) (vd:Value) (cs:List Chg) (tg:CD):List PV:= [.str m.author,.str m.message,.raw (.int .i64 m.time),.raw vd,.slice (cs.map eChg) tg]
@[reducible] def UK (m:Mta) (ds:List Dig) (cs:List Chg) (tg:CD):List PV:= [.str m.author,.str m.message,.raw (.int .i64 m.time),.slice (ds.map eDig) .ro,.slice (cs.map eChg) tg]
theorem qw (m:Mta) (ds:List Dig) (cs:List Chg) (tg:CD):Le (.agg (UK m ds cs tg)) (.agg (Ba ⟨m.author,m.message,m.time,ds,cs⟩)):=fun g v hv=>by
 obtain⟨vs,rfl,h⟩:=hv.agg_inv
 match vs,h with
 | [a,b,c,d,e],h=>
   exact E7.agg (.cons h.uncons.1 (.cons h.uncons.2.uncons.1 (.cons h.uncons.2.uncons.2.uncons.1 (.cons h.uncons.2.uncons.2.uncons.2.uncons.1 (.cons h.uncons.2.uncons.2.uncons.2.uncons.2.uncons.1.ro (.nil g))))))
 | [],h=>have:=h.len;simp at this
 | [_],h=>have:=h.len;simp at this
 | [_,_],h=>have:=h.len;simp at this
 | [_,_,_],h=>have:=h.len;simp at this
 | [_,_,_,_],h=>have:=h.len;simp at this
 |_::_::_::_::_::_::_,h=>have:=h.len;simp at this
theorem qI:Ck Tryz.prog 40 [.str [],.str [],.raw (.int .i64 0),.raw (.slice none 0 0),.slice [] .nil]:=⟨by
 have h:((Tryz.prog.info? 40).bind (·.zero)).map (·.cells.toList)=some [.string ⟨#[]⟩,.string ⟨#[]⟩,.int .i64 0,.slice none 0 0,.slice none 0 0]:=by kernel_rfl
 obtain⟨v,h1,h2⟩:=BU.1 h
 obtain⟨i,h3,h4⟩:=DV.1 h1
 exact⟨i,v,_,h3,h4,by rw[←h2],fun g=> .cons (.str (by simp)) (.cons (.str (by simp)) (.cons (.raw _) (.cons (.raw _) (.cons (.nilN none (by simp)) (.nil g)))))⟩⟩
instance :Ck Tryz.prog 140 [.raw (.map none)]:=Nq (v:= .map none) (by kernel_rfl) rfl fun _=> .raw _
theorem Sj {s:List Sto} (v:Bx s) {x:Sto} (hx:x∈s) {c:Chg} (hc:c∈x.patch.changes): ∀ y∈Cu c,y.n≤16200:=by
 have hu:=v.uses hx hc
 have cnt: ∀ z∈s,NL z.patch≤16200:=fun z hz=>(EG (v.close.1.2 z hz)).1
 have key: ∀ y,(Qu (NL x.patch) y∧Kr s y)→y.n≤16200:=fun y ⟨h1,h2⟩=>by
  by_cases hz:y.patch=Dig.zero
  ·have:=h1.2 hz;have:=cnt x hx;omega
  ·obtain⟨z,hz',_,_,h4⟩:=h2 hz
   have:=cnt z hz';omega
 intro y hy
 unfold Cu at hy
 simp only[Ah]at hy
 rcases hy with ((hy|hy)|hy)|hy
 ·split at hy
  ·rename_i h;rw[Aj.1 hy];exact key _ (hu.file h.1 h.2)
  ·cases hy
 ·split at hy
  ·rename_i h
   rw[Aj.1 hy]
   by_cases hr:c.parent=rRoot
   ·rw[hr];decide
   ·exact key _ (hu.parent h hr)
  ·cases hy
 ·split at hy
  ·rename_i h
   simp only[AG,Aa,or_false]at hy
   rcases hy with rfl|rfl
   ·exact key _ (hu.after h)
   ·exact key _ (hu.before h)
  ·cases hy
 ·exact key _ (hu.over y hy)
theorem di {m:Mta} {vd:Value} {cs:List Chg} {tg:CD} (h:vd.oneCell'=true):Jw (MY m vd cs tg):=Km (Km (FF rfl (FF h (JM Gg))))
instance zY (m:Mta) (vd:Value) (cs:List Chg) (tg:CD):At (MY m vd cs tg) 3 (.raw vd):=⟨rfl⟩
instance zX (m:Mta) (vd:Value) (cs:List Chg) (tg:CD):At (MY m vd cs tg) 4 (.slice (cs.map eChg) tg):=⟨rfl⟩
theorem W2 {s:List Sto} (v:Bx s) {x:Sto} (hx:x∈s):C9 Tryz.prog 29 [.agg (Ba x.patch)] (.raw (.int .i64 (cntS s x.id))):=⟨by
 have i1:Ay (E4 x.patch=false):=⟨v.close.1.2 x hx⟩
 have e:cntS s x.id=(Kv x.patch).1.length:=by
  rw[v.cntS hx,(X1 (by rw[X2];exact(v.id x hx).1)).1];rfl
 refine Av Tryz.func29 Tryz.ntmps29 rfl (rs:= [.tmp 2]) rfl rfl fun hb LF=>?_
 refine wf ?_
 refine Aw (.of_eq ?_)
 rw[e]⟩
theorem fI {a b c d:Res} {l:List Res}:(a::b::c::d::l).Perm (d::c::b::a::l):=(List.reverse_perm [a,b,c,d]).symm.append_right l
theorem RU {a b c d:Res} {L M:List Res}:(a::b::c::d::(L++M)).Perm (L++(a::b::c::d::M)):=(((An (a:=c) (b:=d)).cons b).cons a).trans An
theorem Ou {a b c:Res} {l:List Res}:(a::b::c::l).Perm (c::a::b::l):=((List.Perm.swap c b l).cons a).trans (.swap c a (b::l))
structure ud (s:List Sto) (l:List Dig) (i:Nat) (st:List (Dig × Int)) (n:Int) (cs:List Chg) (ds:List Dig):Prop where
 is:((DR s).take i).foldl (jP s l) ([],0,[],[])=(st,n,cs,ds)
 n0:0≤n∧n≤i*16200
 st: ∀ e∈st,0≤e.2∧e.2≤i*16200
 cs:cs.length≤i*200
 ds:ds.length≤i*200
theorem ud.out {s:List Sto} {l:List Dig} {i:Nat} {st:List (Dig × Int)} {n:Int} {cs:List Chg} {ds:List Dig} (h:ud s l i st n cs ds) (hi:i < (DR s).length) (hl: ¬(DR s)[i]∈l):ud s l (i+1) st n cs ds:=by
 obtain⟨h1,h2,h3,h4,h5⟩:=h
 refine⟨?_,by omega,fun e he=>by have:=h3 e he;omega,by omega,by omega⟩
 rw[A7 hi,CB,h1,Bz,Lj]
 unfold jP
 rw[if_neg hl]
theorem ud.in_ {s:List Sto} (v:Bx s) {l:List Dig} {i:Nat} {st:List (Dig × Int)} {n:Int} {cs:List Chg} {ds:List Dig} (h:ud s l i st n cs ds) (hi:i < (DR s).length) {x:Sto} (hx:x∈s) (hd:(DR s)[i]=x.id) (hl:x.id∈l):
  ud s l (i+1) (Dd x.id n st) (n+cntS s x.id) (cs++x.patch.changes.map (HP (fJ (Dd x.id n st) x.id))) (ds++x.patch.deps.filter fun e=>decide (¬e∈l)):=by
 obtain⟨h1,h2,h3,h4,h5⟩:=h
 have hb:=v.close.1.2 x hx
 have hc:cntS s x.id≤16200:=by rw[v.cntS hx];exact(EG hb).1
 obtain⟨_,_,g1,g2,_⟩:=EF hb
 have hf:(x.patch.deps.filter fun e=>decide (¬e∈l)).length≤x.patch.deps.length:=EA _ _
 refine⟨?_,by omega,fun e he=>?_,?_,?_⟩
 ·rw[A7 hi,CB,h1,Bz,Lj,hd]
  unfold jP
  rw[if_pos hl,v.getS hx]
  rfl
 ·have key: ∀ (m:List (Dig × Int)) e,e∈Dd x.id n m→e.2=n∨e∈m:=fun m=>by
   induction m with
   |nil=>intro e he;simp[Dd]at he;exact .inl (by rw[he])
   |cons a m ih=>
    intro e he
    unfold Dd at he
    split at he
    ·rcases AG.1 he with rfl|he
     ·exact .inl rfl
     ·exact .inr (AL _ he)
    ·rcases AG.1 he with rfl|he
     ·exact .inr AI
     ·exact(ih e he).imp id (AL _)
  rcases key st e he with h|h
  ·rw[h];omega
  ·have:=h3 e h;omega
 ·rw[AD,AQ];omega
 ·rw[AD];omega
structure JS where
 i:Nat
 st:List (Dig × Int)
 n:Int
 cs:List Chg
 tg:CD
 vd:Value
 ds:List Dig
 R:List Res
theorem fm (s:List Sto) (t:CD) (l:List Dig) (u:CD) (m:Mta) (hv:Bx s):C9 Tryz.prog 39 [.slice (s.map eSto) t,.slice (l.map eDig) u,.agg (FG m)] (.agg (Ba (Qb s l m))):=⟨by
 have c1:=fun t=>fT s t hv.close.1 hv.asc
 have ho:=H8 s
 have hol:(DR s).length≤200:=by
  have:=Ei ho.nodup (u:=ids s) ho.sub
  have:=hv.close.1.1
  unfold ids at*
  simp only[AQ]at*
  omega
 refine Av Tryz.func39 Tryz.ntmps39 rfl (rs:= [.cell 6 40]) rfl rfl fun hb LF=>?_
 refine wf ?_
 refine CA fun b6=>?_
 refine AE ?_
 repeat(refine DT ?_)
 refine CK (by kernel_rfl) ?_
 iterate 6 (refine w1 ?_)
 refine TA (hZ:=qI) (c0:= [.str m.author]) (c1:= [.str m.message]) (c2:= [.raw (.int .i64 m.time)]) (r0:= [.str m.author,.str [],.raw (.int .i64 0),.raw (.slice none 0 0),.slice [] .nil]) (r1:= [.str m.author,.str m.message,.raw (.int .i64 0),.raw (.slice none 0 0),.slice [] .nil]) (r2:=MY m (.slice none 0 0) [] .nil) (hP0:=⟨rfl,by simp⟩) (hP1:=⟨rfl,by simp⟩) (hP2:=⟨rfl,by simp⟩) ?_ ?_ ?_ rfl rfl rfl ?_
 ·exact Cw.one (c:= .str m.author) Di.out
 ·exact Cw.one (c:= .str m.message) Di.out
 ·exact Cw.one (c:= .raw (.int .i64 m.time)) Di.out
 refine CA fun b7=>?_
 refine Nv (new:=MY m (.slice none 0 0) [] .nil) (hf:=⟨di rfl⟩) rfl rfl .here rfl (by simp) ?_
 refine AE ?_
 repeat(refine DT ?_)
 refine CK (by kernel_rfl) ?_
 refine Oc fun mp=>?_
 refine CA fun b8=>?_
 refine wo ?_
 refine AE ?_
 refine B2 8 ?_
 refine wf ?_
 refine EC 139 ?_
 refine EH fI ?_
 refine AZ (σ:=JS) (fun k=>k.i≤(DR s).length∧ud s l k.i k.st k.n k.cs k.ds∧Uy k.vd k.ds k.R) (fun k=>(DR s).length - k.i) (fun k=> [(0,.slice (s.map eSto) t),(1,.slice (l.map eDig) u),(6,.raw (.pointer (some ⟨b6,0,none⟩))),(7,.raw (.pointer (some ⟨b7,0,none⟩))),(8,.pt [.raw (.map (some mp))] 0),(9,.raw (.int .i64 k.n)),(27,.slice ((DR s).map eDig) .ro),(28,.raw (.int .i64 (DR s).length)),(29,.raw (.int .i64 k.i))]) (fun k=> .box b6 40 (Ba Pat.zero):: .box b7 40 (MY m k.vd k.cs k.tg):: .map mp (Bb kDig vInt k.st):: .tok k.tg (k.cs).length 139::(k.R++LF)) ⟨0,[],0,[],.nil,.slice none 0 0,[],[]⟩ ⟨by simp,⟨rfl,by decide,fun e he=>absurd he Aa,by simp,by simp⟩,.nil none (by simp)⟩ ⟨rfl,rfl,rfl,rfl,rfl,rfl,rfl,rfl,rfl⟩ (.refl _) ?_
 rintro⟨i,st,n,cs,tg,vd,ds,R⟩ ⟨hi,hJ,hR⟩
 dsimp only at hi hJ hR ⊢
 refine wf ?_
 refine A6 (fun hc=>?_) (fun hc=>?_)
 ·have hlt:i < (DR s).length:=by omega
  obtain⟨x,hx,hxd⟩:=AY.1 (ho.sub _ (AH hlt))
  refine wz fun b11=>?_
  refine B2 11 ?_
  refine wf ?_
  refine AR (fun h=>?_) (fun h=>?_)
  ·refine wf ?_
   exact⟨⟨i+1,st,n,cs,tg,vd,ds,R⟩,⟨by dsimp only;omega,hJ.out hlt h,hR⟩,by dsimp only;omega,⟨rfl,rfl,rfl,rfl,rfl,rfl,rfl,rfl,rfl⟩,.refl _⟩
  ·have hl:x.id∈l:=by rw[hxd];exact h
   have hJ':=hJ.in_ hv hlt hx hxd.symm hl
   have hb0:=hv.close.1.2 x hx
   have hc16:cntS s x.id≤16200:=by rw[hv.cntS hx];exact(EG hb0).1
   obtain⟨_,_,g1,g2,gch⟩:=EF hb0
   have cg: ∀ t,C9 Tryz.prog 17 [.slice (s.map eSto) t,.agg (eDig x.id)] (.tuple [.agg (Ba x.patch),.raw (.bool true)]):=fun t=>by
    have:=Sg s t x.id
    rw[hv.getS hx]at this
    exact this
   have cc:=W2 hv hx
   have hn0:=hJ.n0
   have hst0:=hJ'.st
   have hcs0:=hJ.cs
   have hds0:=hJ.ds
   rw[←hxd]
   refine wz fun b12=>?_
   refine B2 12 ?_
   refine wf ?_
   refine Sw (κ:=Dig) (ek:=kDig) (ev:=vInt) (k0:=x.id) (x0:=n) (L':= .box b6 40 (Ba Pat.zero):: .box b7 40 (MY m vd cs tg):: .tok tg cs.length 139::(R++LF)) rfl Ou (.refl _) (.refl _) ?_
   refine AE ?_
   refine EH Ou.symm ?_
   refine wf ?_
   refine AZ (σ:=Nat × List Chg × CD) (fun k=>k.1≤x.patch.changes.length∧k.2.1=cs++(x.patch.changes.take k.1).map (HP (fJ (Dd x.id n st) x.id))) (fun k=>x.patch.changes.length - k.1) (fun k=> [(0,.slice (s.map eSto) t),(1,.slice (l.map eDig) u),(6,.raw (.pointer (some ⟨b6,0,none⟩))),(7,.raw (.pointer (some ⟨b7,0,none⟩))),(8,.pt [.raw (.map (some mp))] 0),(9,.raw (.int .i64 (n+cntS s x.id))),(27,.slice ((DR s).map eDig) .ro),(28,.raw (.int .i64 (DR s).length)),(29,.raw (.int .i64 i)),(11,.pt (eDig x.id) 0),(12,.pt (Ba x.patch) 0),(51,.slice (x.patch.changes.map eChg) .ro),(52,.raw (.int .i64 x.patch.changes.length)),(53,.raw (.int .i64 k.1))]) (fun k=> .box b6 40 (Ba Pat.zero):: .box b7 40 (MY m vd k.2.1 k.2.2):: .map mp (Bb kDig vInt (Dd x.id n st)):: .tok k.2.2 (k.2.1).length 139::(R++LF)) (0,cs,tg) ⟨by simp,by simp⟩ ⟨rfl,rfl,rfl,rfl,rfl,rfl,rfl,rfl,rfl,rfl,rfl,rfl,rfl,rfl⟩ (.refl _) ?_
   rintro⟨j,cs1,tg1⟩ ⟨hj,hcs⟩
   dsimp only at hj hcs ⊢
   refine wf ?_
   refine A6 (fun hc1=>?_) (fun hc1=>?_)
   ·have hjl:j < x.patch.changes.length:=by omega
    have hch:=AH hjl
    have hl1:cs1.length=cs.length+j:=by rw[hcs];simp;omega
    refine wz fun b15=>?_
    refine B2 15 ?_
    refine wn ?_
    refine BX 6 ?_ ?_
    ·decide+kernel
    refine wf ?_
    refine L6 (xs:= [.tmp 59,.tmp 60]) [.map mp (Bb kDig vInt (Dd x.id n st))] (.box b6 40 (Ba Pat.zero):: .box b7 40 (MY m vd cs1 tg1):: .tok tg1 cs1.length 139::(R++LF)) (.agg (eChg (HP (fJ (Dd x.id n st) x.id) x.patch.changes[j]))) (f:=102) (cs:= []) (C4 _) rfl rfl Ou (Re 103 _ (fun _:Unit=> [.map mp (Bb kDig vInt (Dd x.id n st))]) (fJ (Dd x.id n st) x.id) (fun _ _=>()) x.patch.changes[j] (fun _ y hy=>bW (Dd x.id n st) x.id mp y (fun e he=>by have:=hst0 e he;omega) (by have:=Sj hv hx hch y hy;omega)) (by have:=(gch _ hch).over;omega) ()) ?_
    refine aO fun v'=>?_
    refine Fp (ay:= .slice ((cs1++ [HP (fJ (Dd x.id n st) x.id) x.patch.changes[j]]).map eChg) v') (MY m vd (cs1++ [HP (fJ (Dd x.id n st) x.id) x.patch.changes[j]]) v') rfl rfl Di.out rfl (by simp) ?_
    refine wf ?_
    refine wf ?_
    refine⟨(j+1,(cs1++ [HP (fJ (Dd x.id n st) x.id) x.patch.changes[j]]),v'),⟨by dsimp only;omega,?_⟩,by dsimp only;omega,⟨rfl,rfl,rfl,rfl,rfl,rfl,rfl,rfl,rfl,rfl,rfl,rfl,rfl,rfl⟩,.refl _⟩
    dsimp only
    rw[A7 hjl,Au,hcs,AV]
    rfl
   ·have hcs:cs1=cs++x.patch.changes.map (HP (fJ (Dd x.id n st) x.id)):=by rw[hcs,AB (by omega)]
    rw[←hcs]at hJ'
    refine wf ?_
    refine AZ (σ:=Nat × Value × List Dig × List Res) (fun k=>k.1≤x.patch.deps.length∧k.2.2.1=ds++(x.patch.deps.take k.1).filter (fun e=>decide (¬e∈l))∧Uy k.2.1 k.2.2.1 k.2.2.2) (fun k=>x.patch.deps.length - k.1) (fun k=> [(0,.slice (s.map eSto) t),(1,.slice (l.map eDig) u),(6,.raw (.pointer (some ⟨b6,0,none⟩))),(7,.raw (.pointer (some ⟨b7,0,none⟩))),(8,.pt [.raw (.map (some mp))] 0),(9,.raw (.int .i64 (n+cntS s x.id))),(27,.slice ((DR s).map eDig) .ro),(28,.raw (.int .i64 (DR s).length)),(29,.raw (.int .i64 i)),(12,.pt (Ba x.patch) 0),(67,.slice (x.patch.deps.map eDig) .ro),(68,.raw (.int .i64 x.patch.deps.length)),(69,.raw (.int .i64 k.1))]) (fun k=> .box b6 40 (Ba Pat.zero):: .box b7 40 (MY m k.2.1 cs1 tg1):: .map mp (Bb kDig vInt (Dd x.id n st)):: .tok tg1 (cs1).length 139::(k.2.2.2++LF)) (0,vd,ds,R) ⟨by simp,by simp,hR⟩ ⟨rfl,rfl,rfl,rfl,rfl,rfl,rfl,rfl,rfl,rfl,rfl,rfl,rfl⟩ (.refl _) ?_
    rintro⟨q,vd1,ds1,R1⟩ ⟨hq,hds,hR1⟩
    dsimp only at hq hds hR1 ⊢
    have hdl:ds1.length≤40000+q:=by
     have:=EA (fun e=>decide (¬e∈l)) (x.patch.deps.take q)
     rw[hds,AD]
     rw[Ab]at this
     omega
    refine wf ?_
    refine A6 (fun hc2=>?_) (fun hc2=>?_)
    ·have hql:q < x.patch.deps.length:=by omega
     refine wz fun b17=>?_
     refine B2 17 ?_
     refine wf ?_
     refine AR (fun hd=>?_) (fun hd=>?_)
     ·refine wf ?_
      refine Il (f:=eDig) (m:= [x.patch.deps[q]]) (R:=R1) (LF:= .box b6 40 (Ba Pat.zero):: .box b7 40 (MY m vd1 cs1 tg1):: .map mp (Bb kDig vInt (Dd x.id n st)):: .tok tg1 cs1.length 139::LF) (fun R'=> .box b6 40 (Ba Pat.zero):: .box b7 40 (MY m vd1 cs1 tg1):: .map mp (Bb kDig vInt (Dd x.id n st)):: .tok tg1 cs1.length 139::(R'++LF)) rfl rfl hR1 RU (fun R'=>RU.symm) (by simp only[AN,Ae];omega) (by simp only[AN,Ae];omega) fun v2 R2 hv2=>?_
      refine wf ?_
      refine Hl (MY m v2 cs1 tg1) rfl rfl hv2.one rfl (by simp) ?_
      refine wf ?_
      refine wf ?_
      refine⟨(q+1,v2,_,R2),⟨by dsimp only;omega,?_,hv2⟩,by dsimp only;omega,⟨rfl,rfl,rfl,rfl,rfl,rfl,rfl,rfl,rfl,rfl,rfl,rfl,rfl⟩,.refl _⟩
      dsimp only
      rw[A7 hql,Ej,hds,AV,GA (by simpa using hd)]
      rfl
     ·refine wf ?_
      refine⟨(q+1,vd1,ds1,R1),⟨by dsimp only;omega,?_,hR1⟩,by dsimp only;omega,⟨rfl,rfl,rfl,rfl,rfl,rfl,rfl,rfl,rfl,rfl,rfl,rfl,rfl⟩,.refl _⟩
      dsimp only
      rw[A7 hql,Ej,hds,GB (by simpa using hd)]
      simp
    ·have hds:ds1=ds++x.patch.deps.filter (fun e=>decide (¬e∈l)):=by rw[hds,AB (by omega)]
     rw[←hds]at hJ'
     refine wf ?_
     exact⟨⟨i+1,(Dd x.id n st),(n+cntS s x.id),cs1,tg1,vd1,ds1,R1⟩,⟨by dsimp only;omega,hJ',hR1⟩,by dsimp only;omega,⟨rfl,rfl,rfl,rfl,rfl,rfl,rfl,rfl,rfl⟩,.refl _⟩
 have hii:i=(DR s).length:=by omega
 have hjn:Qb s l m=⟨m.author,m.message,m.time,Ko (sortD ds),cs⟩:=by
  unfold Qb
  rw[show(DR s).foldl (jP s l) ([],0,[],[])=(st,n,cs,ds) by rw[←hJ.is,AB (by omega)]]
 have hds0:=hJ.ds
 have hsl:(sortD ds).length=ds.length:=by unfold sortD;rw[Dn]
 rw[hjn]
 refine wf ?_
 refine Bw (xs:= [.tmp 86,.func 61]) R (.box b6 40 (Ba Pat.zero):: .box b7 40 (MY m vd cs tg):: .map mp (Bb kDig vInt st):: .tok tg cs.length 139::LF) (fun R'=> .box b6 40 (Ba Pat.zero):: .box b7 40 (MY m vd cs tg):: .map mp (Bb kDig vInt st):: .tok tg cs.length 139::(R'++LF)) (f:=60) (cs:= []) (C4 _) rfl rfl RU _ (SZ ds vd R hR (by omega)) (fun _=>RU.symm) fun r L2 ⟨v2,e2,hv2⟩=>?_
 subst e2
 refine wf ?_
 refine Bw (xs:= [.tmp 89]) L2 (.box b6 40 (Ba Pat.zero):: .box b7 40 (MY m v2 cs tg):: .map mp (Bb kDig vInt st):: .tok tg cs.length 139::LF) (fun R'=> .box b6 40 (Ba Pat.zero):: .box b7 40 (MY m v2 cs tg):: .map mp (Bb kDig vInt st):: .tok tg cs.length 139::(R'++LF)) (f:=62) (cs:= []) (C4 _) rfl rfl RU _ (Px (sortD ds) v2 L2 hv2 (by omega)) (fun _=>RU.symm) fun r L3 ⟨hr,hL3⟩=>?_
 subst hr hL3
 refine wo ?_
 refine Fp (ay:= .slice ((Ko (sortD ds)).map eDig) .ro) (UK m (Ko (sortD ds)) cs tg) rfl rfl Di.out rfl (by simp) ?_
 refine wf ?_
 refine VN (cs:=UK m (Ko (sortD ds)) cs tg) rfl (AL _ AI) rfl ?_
 refine Nv (new:=UK m (Ko (sortD ds)) cs tg) (hf:=⟨Km (Km (FF rfl (JM (JM Gg))))⟩) rfl rfl .here rfl (by simp) ?_
 refine wf ?_
 exact Fi rfl (qw _ _ _ _)⟩
theorem ab (s:List Sto) (t:CD) (l:List Dig) (u:CD) (m:Mta) (hv:Bx s) (hl:l.length≤400) (hs:s.length≤190) (hg:E4 (Qb s l m)=false):
  C9 Tryz.prog 12 [.slice (s.map eSto) t,.slice (l.map eDig) u,.agg (FG m)] (.tuple [.slice ((eY s l m).1.map eSto) .ro,.agg (eDig (eY s l m).2.1),.raw (.int .i64 (eY s l m).2.2)]):=⟨by
 have i1:Ay (Bx s):=⟨hv⟩
 have i2:Ay (l.length≤400):=⟨hl⟩
 have i3:Ay (Gw s):=⟨hv.close.1⟩
 have i4:Ay (s.length≤1000):=⟨by omega⟩
 have i5:Ay (E4 (Qb s l m)=false):=⟨hg⟩
 have cj:=fun t u=>fm s t l u m hv
 refine Av Tryz.func12 Tryz.ntmps12 rfl (rs:= [.tmp 6,.cell 7 31,.tmp 8]) rfl rfl fun hb LF=>?_
 refine wf ?_
 refine CA fun b7=>?_
 refine wf ?_
 refine AO (fun h1=>?_) (fun h1=>?_)
 ·have e:eY s l m=([],Dig.zero,7):=by unfold eY;rw[if_pos (by simpa using h1)]
  rw[e]
  refine wf ?_
  refine Iy rfl ?_
  exact .tuple3 (.ro _ _) (.refl _) (.refl _)
 have h1:Da (ids s) l=true:=by simpa using h1
 refine wf ?_
 refine BG [(15,.raw (.bool (decide (l.length=0∨vX s l=false)))),(0,.slice (s.map eSto) t),(1,.slice (l.map eDig) u),(5,.pt (FG m) 0),(7,.raw (.pointer (some ⟨b7,0,none⟩)))] (.box b7 31 (eDig Dig.zero)::LF) ?_ ?_
 ·repeat' (first|(refine A6 (fun h=>?_) (fun h=>?_)<;>refine wf ?_)|(refine AR (fun h=>?_) (fun h=>?_)<;>refine wf ?_)|(refine AO (fun h=>?_) (fun h=>?_)<;>refine wf ?_)|(refine Ao (fun h=>?_) (fun h=>?_)<;>(have h2:=h;(try simp only[AA,A8,AF,AJ]at h2);refine wf ?_)))
  all_goals (refine⟨⟨Bh (by rfl) ?_,rfl,rfl,rfl,rfl⟩,.refl _⟩;first|(simp_all;done)|(simp_all;omega)|grind)
 refine wf ?_
 refine A6 (fun h2=>?_) (fun h2=>?_)
 ·have e:eY s l m=([],Dig.zero,1):=by unfold eY;rw[if_neg (by simp[h1]),if_pos h2]
  rw[e]
  refine wf ?_
  refine Iy rfl ?_
  exact .tuple3 (.ro _ _) (.refl _) (.refl _)
 refine wf ?_
 refine AO (fun h3=>?_) (fun h3=>?_)
 ·have e:eY s l m=([],Dig.zero,19):=by unfold eY;rw[if_neg (by simp[h1]),if_neg h2,if_pos h3]
  rw[e]
  refine wf ?_
  refine Iy rfl ?_
  exact .tuple3 (.ro _ _) (.refl _) (.refl _)
 have e:eY s l m=Ec (Gf s l) (Qb s l m):=by unfold eY;rw[if_neg (by simp[h1]),if_neg h2,if_neg (by simp[h3])]
 rw[e]
 have i6:Ay (Bx (Gf s l)):=⟨hv.out h3⟩
 refine wn ?_
 refine OA [false,false,false,false,false,false,false,false,false,false,false,false,true,false] ?_ ?_
 ·decide+kernel
 refine wf ?_
 refine Iy rfl ?_
 exact .refl _⟩
theorem UZ {α:Type} {l:List α} {p:α→Bool} {k:Nat} (h:k < l.length):(l.take (k+1)).any p=((l.take k).any p||p l[k]):=by
 rw[A7 h,Ef];simp
end Go.Proofs
namespace Go.Proofs
open Go Go.Q Go.Sort
def ED (Q:List (List Int)):List (List Nat):=Q.map fun l=>l.map Int.toNat
def IV (c:Chg):List Ident:=c.over++(if 2≤c.kind∧c.kind≤6 then [c.file]else [])++(if c.kind=2 then [c.parent]else [])++(if c.kind=5∨c.kind=6 then [c.after,c.before]else [])
theorem fg {c:Chg} {y:Ident}:y∈IV c↔y∈Cu c:=by
 unfold IV Cu
 simp only[Ah]
 constructor
 ·rintro(((h|h)|h)|h)
  ·exact .inr h
  ·exact .inl (.inl (.inl h))
  ·exact .inl (.inl (.inr h))
  ·exact .inl (.inr h)
 ·rintro(((h|h)|h)|h)
  ·exact .inl (.inl (.inr h))
  ·exact .inl (.inr h)
  ·exact .inr h
  ·exact .inl (.inl (.inl h))
def La (cs:List Chg) (y:Ident):Int:=if EO y=true∧cs≠ []then(Dz cs y.n:Int)else -1
def Jy (Q:List (List Int)) (cs:List Chg):Bool:=(List.range cs.length).any fun i=>(IV (cs.getD i Chg.zero)).any fun y=>decide (0≤La cs y)&&decide (OE Q i < OE Q (La cs y))
theorem Ox {cs:List Chg} {n:Int} (h:cs≠ []):Dz cs n < cs.length:=by
 unfold Dz
 have h1:=EA (fun i=>decide ((Cg cs i:Int)≤n)) (List.range cs.length)
 rw[Fy]at h1
 have:cs.length≠0:=fun e=>h (BA e)
 omega
theorem kx {cs:List Chg} {Q:List (List Int)} (h:Ed cs.length [] Q=true):Jy Q cs=Kn (ED Q) cs:=by
 unfold Jy Kn
 rw[H0,Bn,Bn]
 refine exists_congr fun i=>and_congr_right fun hi=>?_
 have hi:=BZ.1 hi
 have hne:cs≠ []:=fun e=>by rw[e]at hi;exact absurd hi (DB _)
 rw[Bn,Bn]
 refine exists_congr fun y=>?_
 rw[fg]
 refine and_congr_right fun _=>?_
 unfold La
 by_cases ho:EO y=true
 ·rw[if_pos ⟨ho,hne⟩,ho,Sd h hi,Sd h (Ox hne)]
  simp only[BQ,AA,EJ]
  unfold ED
  omega
 ·rw[if_neg fun k=>ho k.1]
  simp[ho]
def Mm (s:List Sto) (id:Dig) (Q:List (List Int)) (ms:List Mta):List Sto × List Dig × Int:=
 match getS s id with
 |none=>([],[],7)
 |some p=>if Nc s [id]=true then([],[],19)else if Ed p.changes.length [] Q=false∨ms.length≠Q.length then([],[],1)else
  if Kn (ED Q) p.changes=true then([],[],9)else Wb ⟨id,p⟩ (ED Q) ((ED Q).zip ms) (Gf s [id]) []
def KY (s:List Sto) (id:Dig) (Q:List (List Int)) (ms:List Mta):List Sto × List Dig × Int:=
 match getS s id with
 |none=>([],[],7)
 |some p=>if Nc s [id]=true then([],[],19)else if Ed p.changes.length [] Q=false∨ms.length≠Q.length then([],[],1)else
  if Jy Q p.changes=true then([],[],9)else Wa ⟨id,p⟩ ((ED Q).zip ms) (Gf s [id]) [] (BL p) []
theorem Ir (Q:List (List Int)):(ED Q).length=Q.length:=by simp[ED]
theorem cK {α β:Type}: ∀ {l:List α} {m:List β},m.length=l.length→(l.zip m).map (·.1)=l
 | [],_,_=>by simp
 |a::l,[],h=>by simp at h
 |a::l,b::m,h=>by
  rw[List.zip_cons_cons,Aq,cK (by simpa using h)]
structure P2 (Q:List (List Int)) (ms:List Mta):Prop where
 parts:Q.length≤8
 metas: ∀ m∈ms,m.author.length≤60∧m.message.length≤60
theorem KH {s:List Sto} (hg:GK s=false):s.length≤8∧ ∀ x∈s,Ff x.patch=false∧(x.patch.changes.map Hq).sum≤2000:=by
 unfold GK at hg
 simp only[CH,A8,Bc]at hg
 obtain⟨⟨h1,h2⟩,h3⟩:=hg
 have ht:s.take 9=s:=AB (by omega)
 rw[ht]at h1 h3
 refine⟨by omega,fun x hx=>⟨by simpa using h1 x hx,?_⟩⟩
 have:=IQ (f:=wj) hx
 have e:wj x=(x.patch.changes.map Hq).sum:=rfl
 omega
theorem VH {s:List Sto} (hg:GK s=false) {x:Sto} (hx:x∈s) {Q:List (List Int)} {ms:List Mta} (z:P2 Q ms):P1 s x (ED Q) ((ED Q).zip ms):=by
 obtain⟨g1,g2⟩:=KH hg
 exact⟨(g2 x hx).1,(g2 x hx).2,g1,by rw[Ir];exact z.parts,fun e he=>z.metas _ (List.of_mem_zip he).2⟩
theorem Sq {s:List Sto} (v:Bx s) {x:Sto} (hx:x∈s) (h:Nc s [x.id]=false):J1 s x (Gf s [x.id]) []:=by
 refine⟨v.out h,by have:(Gf s [x.id]).length≤s.length:=EA _ _;simpa using this,fun d hd=>absurd hd Aa,fun d hd hne=>?_⟩
 obtain⟨y,hy,rfl⟩:=AY.1 hd
 exact AY.2 ⟨y,kA.2 ⟨hy,by simpa using hne⟩,rfl⟩
theorem cT {s:List Sto} (v:Bx s) {x:Sto} (hx:x∈s) {Q:List (List Int)} (hQ:Ed x.patch.changes.length [] Q=true) (he:Kn (ED Q) x.patch.changes=false):HX s x (ED Q):=⟨v,hx,LG hQ,he⟩
theorem YE {s:List Sto} (v:Bx s) (hg:GK s=false) (id:Dig) {Q:List (List Int)} {ms:List Mta} (z:P2 Q ms):Mm s id Q ms=KY s id Q ms:=by
 unfold Mm KY
 cases hp:getS s id with
 |none=>rfl
 |some p=>
  dsimp only
  have hx:(⟨id,p⟩:Sto)∈s:=Rn hp
  by_cases h1:Nc s [id]=true
  ·rw[if_pos h1,if_pos h1]
  rw[if_neg h1,if_neg h1]
  by_cases h2:Ed p.changes.length [] Q=false∨ms.length≠Q.length
  ·rw[if_pos h2,if_pos h2]
  rw[if_neg h2,if_neg h2]
  have hQ:Ed p.changes.length [] Q=true:=by
   cases hq:Ed p.changes.length [] Q with
   |true=>rfl
   |false=>exact absurd (.inl hq) h2
  have hl:ms.length=Q.length:=Cf fun k=>h2 (.inr k)
  rw[kx hQ]
  by_cases h3:Kn (ED Q) p.changes=true
  ·rw[if_pos h3,if_pos h3]
  rw[if_neg h3,if_neg h3]
  have ok:=cT v hx hQ (by simpa using h3)
  have:=ok.loop ((ED Q).zip ms) [] (Gf s [id]) (VH hg hx z) (by rw[cK (by rw[Ir];exact hl)];rfl) (Sq v hx (by simpa using h1)) (.inl ⟨fun d hd=>absurd hd Aa,.nil,fun d hd=>absurd hd Aa⟩)
  rw[this]
  congr 1
  refine((Ie _).1.ext (IK p) fun d=>?_)
  rw[(Ie _).2,BJ]
end Go.Proofs
