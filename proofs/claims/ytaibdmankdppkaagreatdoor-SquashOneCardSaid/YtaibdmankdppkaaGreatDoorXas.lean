/- Contracts of the program: slices.DeleteFunc on rows of digests and of patches. -/
import Derived.Test.YtaibdmankdppkaaGreatDoorXar
import Derived.Test.YtaibdmankdppkaaGreatDoorXam
import Derived.Test.YtaibdmankdppkaaGreatDoorXan
import Derived.Test.YtaibdmankdppkaaGreatDoorXaq
import Derived.Test.YtaibdmankdppkaaGreatDoorXao
import Derived.Test.YtaibdmankdppkaaGreatDoorXal
set_option linter.unusedSimpArgs false
set_option linter.unusedVariables false
set_option maxHeartbeats 8000000
namespace Go.Proofs
open Go Go.Q
attribute [local irreducible] ER AQ BG Fu
theorem la: ∀ i z,Tryz.prog.info? 59=some i→i.zero=some z→ ∀ x∈z.cells,x.oneCell'=true:=by
 have h:(Tryz.prog.info? 59).map (fun i=>(i.zero.getD undef).cells.all (·.oneCell'))=some true:=by kernel_rfl
 intro i z hi hz x hx
 rw[hi]at h
 simp only[Gx,hz,Br,J1,H6]at h
 exact h x hx
theorem bF (F:Nat) (cs:List PV) (p:Sto→Bool) [hF:B5 Tryz.prog F] [hp: ∀ d,C9 Tryz.prog F (.agg (eSto d)::cs) (.raw (.bool (p d)))] (l:List Sto) (v:Value) (R:List Res) (hv:Hf 59 37 v (l.map eSto) R) (hl:l.length≤1000000):
  BG Tryz.prog 100 [.raw v,.clo F cs] R (fun r L'=> ∃ v',r= .raw v'∧Hf 59 37 v' ((l.filter fun d=>!p d).map eSto) L'):=by
 refine CA Tryz.func100 rfl Tryz.ntmps100 (rs:= [.tmp 4]) rfl rfl fun hb LF=>?_
 have hsz: ∀ (m:List Sto),∀ e∈m.map eSto,e.length=37:=fun m e he=>by obtain⟨a,_,rfl⟩:=AO.1 he;simp
 have hmx:(l.map eSto).length≤maxN∧(l.map eSto).length*37≤maxN:=by
  have:maxN=140737488355328:=rfl
  rw[AR];omega
 refine wf ?_
 refine CV (xs:= [.tmp 8,.tmp 9]) R LF (f:=51) (cs:= []) (C5 _) rfl rfl (.refl _) _ (Hf.lend hv [] [.clo F cs] hmx (VK F cs p l .ro).out) fun r L' ⟨e1,e2⟩=>?_
 subst e1 e2
 refine wf ?_
 refine A6 (fun h1=>?_) (fun h1=>?_)
 ·have hn:l.any p=false:=by
   cases h:l.any p with
   |false=>rfl
   |true=>have:=(PS p l).2.2 h;omega
  have e:(l.filter fun d=>!p d)=l:=by
   rw[Oo]
   intro x hx
   have:=Bf.1 hn x hx
   simpa using this
  refine wf ?_
  exact⟨trivial,_,_,.cons (.tmp 4) .nil,.refl _,v,rfl,by rw[e];exact hv⟩
 have ha:l.any p=true:=by
  cases h:l.any p with
  |true=>rfl
  |false=>exact absurd (by rw[Fp,if_neg (by simp[h])]) h1
 have hi0:l.findIdx p < l.length:=LS.2 (CB.1 ha)
 have hix:Fp p l=(l.findIdx p:Nat):=by rw[Fp,if_pos ha]
 have hf0:(l.take (l.findIdx p))=(l.take (l.findIdx p+1)).filter fun d=>!p d:=by
  have hlast:p l[l.findIdx p]=true:=List.findIdx_getElem
  rw[A7 hi0,Fc,En (by simp[hlast]),U9,BU,Oo.2]
  intro x hx
  obtain⟨k,hk,rfl⟩:=DV.1 hx
  have:=yj (p:=p) (xs:=l) (i:=k) (by omega)
  simpa using this
 rw[hix]
 generalize hg:l.findIdx p=i0 at hi0 hf0
 obtain⟨⟨o,c,rfl⟩,_⟩:=hv.slice
 obtain⟨r,rest,rfl,rfl,_,hlc,_,hcl⟩:=hv.inv (by rw[AR];omega)
 rw[AR]at hlc ⊢
 refine wf ?_
 refine Ab (σ:=Nat × Nat × List Sto) (fun k=>k.2.1 < k.1∧k.1≤l.length∧k.2.2.length=l.length∧k.2.2.take k.2.1=(l.take k.1).filter (fun d=>!p d)∧ ∀ t,k.1≤t→k.2.2[t]? =l[t]?) (fun k=>l.length - k.1) (fun k=> [(0,.raw (.slice (some ⟨r,0,none⟩) l.length c)),(1,.clo F cs),(5,.raw (.int .i64 k.2.1)),(6,.raw (.int .i64 k.1))]) (fun k=> .box r 59 ((k.2.2.map eSto).flatten++rest)::LF) (i0+1,i0,l) ⟨by dsimp only;omega,by dsimp only;omega,rfl,hf0,fun _ _=>rfl⟩ ⟨rfl,rfl,rfl,rfl⟩ (.refl _) ?_
 rintro⟨j,i,l1⟩ ⟨hij,hj,hl1,ht,hr⟩
 dsimp only at hij hj hl1 ht hr ⊢
 refine wf ?_
 refine KP rfl ?_
 refine wf ?_
 refine A6 (fun hc=>?_) (fun hc=>?_)
 ·have hlt:j < l.length:=by omega
  have ej:l1[j]'(by omega)=l[j]:=by
   have:=hr j (Ak _)
   rw[AW (by omega),AW hlt]at this
   exact DF this
  have isub:XX ((l1.map eSto).flatten++rest) (0+j*37) 37 (eSto l[j]):=by
   have:=Z7 (rest:=rest) (hsz l1) (i:=j) (by rw[AR];omega)
   rwa [BQ,ej]at this
  refine wf ?_
  refine Fe (k:=j) rfl rfl hlt ?_
  refine Xx rfl AF (hs:=isub) ?_
  refine wf ?_
  refine CC fun b7=>?_
  refine wo ?_
  refine AD ?_
  refine Ay 7 ?_
  refine wf ?_
  refine AU (fun h=>?_) (fun h=>?_)
  ·have hpj:p l[j]=false:=by simpa using h
   have iput:FB ((l1.map eSto).flatten++rest) (0+i*37) (eSto l[j]) (((l1.set i l[j]).map eSto).flatten++rest):=by
    have:=ZA (rest:=rest) (new:=eSto l[j]) (hsz l1) (i:=i) (by rw[AR];omega) (by simp)
    rwa [←yk]at this
   refine wf ?_
   refine Fe (k:=i) rfl rfl (by omega) ?_
   refine wf ?_
   refine⟨(j+1,i+1,l1.set i l[j]),⟨by dsimp only;omega,by dsimp only;omega,by dsimp only;rw[DH];exact hl1,?_,fun t h2=>?_⟩,by dsimp only;omega,⟨rfl,rfl,rfl,rfl⟩,.refl _⟩
   ·dsimp only
    rw[A7 hlt,Fc,El (by simp[hpj]),U9,←ht,A7 (by rw[DH];omega),List.take_set_of_le (Ak _),List.getElem_set_self]
   ·dsimp only at h2 ⊢
    rw[XT (by omega)]
    exact hr t (by omega)
  ·have hpj:p l[j]=true:=by simpa using h
   refine wf ?_
   refine⟨(j+1,i,l1),⟨by dsimp only;omega,by dsimp only;omega,hl1,?_,fun t h2=>hr t (by dsimp only at h2;omega)⟩,by dsimp only;omega,⟨rfl,rfl,rfl,rfl⟩,.refl _⟩
   dsimp only
   rw[A7 hlt,Fc,En (by simp[hpj]),U9,BU]
   exact ht
 have hjl:j=l.length:=by omega
 subst hjl
 rw[EN]at ht
 have hfl:(l1.map eSto).flatten.length=l.length*37:=by rw[Df (hsz l1),AR,hl1]
 have hfl0:(l.map eSto).flatten.length=l.length*37:=by rw[Df (hsz l),AR]
 refine wf ?_
 refine Ni i l.length rfl (by omega) (Ak _) (by omega) hlc (fun o e=>by cases e;exact⟨_,rfl⟩) (by simp) (by simp) (fun _=>rfl) ?_
 refine iU (E:=59) (sz:=37) (L':=LF) la (fun x=> [x]++LF) rfl (by omega) (by rw[AA,hfl];omega) (.refl _) (fun _=> .refl _) fun zs hzs=>?_
 refine AD ?_
 refine wf ?_
 refine Ni 0 i rfl (by omega) (by omega) (by omega) hlc (by simp) (fun _=>rfl) (fun o e=>by cases e;exact⟨_,rfl⟩) (by simp) ?_
 refine wf ?_
 have e0:=(PZ (hsz l1) (i:=i) (by rw[AR];omega))
 have etk:((l1.map eSto).flatten++rest).take (0+i*37)=((l1.take i).map eSto).flatten:=by
  rw[BL,IH (by rw[hfl];omega),xD]
  have h2:=e0.2
  conv=>lhs;rw[e0.1]
  exact GG h2
 have hlt:(l1.take i).length=i:=by rw[AZ];omega
 have hti:((l1.take i).map eSto).flatten.length=i*37:=by rw[Df (hsz _),AR,hlt]
 refine⟨trivial,_,_,.cons (.tmp 4) .nil,.refl _,.slice (some ⟨r,0,none⟩) i c,?_,?_⟩
 ·show PV.raw (Value.slice (some ⟨r,0+0*37,none⟩) (i - 0) (c - 0))=_
  simp
 ·rw[←ht,etk,AV]
  refine .row (by rw[AR,hlt]) (by omega) (hsz _) ?_
  rw[AA,BB,AA,hzs,hfl,hti]
  rw[hfl0]at hcl
  omega
attribute [local irreducible] H0
instance tv (s:List Sto) (t:CN) (d:Dig):C9 Tryz.prog 96 [.agg (eDig d),.pt [.slice (s.map eSto) t] 0] (.raw (.bool (!(getS s d).isSome))):=⟨by
 refine Au Tryz.func96 Tryz.ntmps96 rfl (rs:= [.tmp 3]) rfl rfl fun hb LF=>?_
 refine wz fun b4=>?_
 refine wf ?_
 exact Az (.refl _)⟩
instance tu (s:List Sto) (t u:CN) (l:List Dig):C9 Tryz.prog 47 [.slice (l.map eDig) u,.clo 96 [.pt [.slice (s.map eSto) t] 0]] (.raw (.bool (l.any fun d=>!(getS s d).isSome))):=KE _ _ _ l u
theorem Ti: ∀ (s:List Sto) (d:Dig),(getS s d).isSome=decide (d∈ids s)
 | [],_=>by simp[getS,ids]
 |x::s,d=>by
  unfold getS
  by_cases h:x.id=d
  ·rw[if_pos h];simp[ids,h]
  ·rw[if_neg h,Ti s d,decide_eq_decide]
   unfold ids
   rw[Aq,AH]
   exact⟨.inr,fun k=>k.elim (fun e=>absurd e.symm h) id⟩
theorem fg (s:List Sto) (l:List Dig):(!(l.any fun d=>!(getS s d).isSome))=DM (ids s) l:=by
 unfold DM
 induction l with
 |nil=>rfl
 |cons d l ih=>
  rw[Zd,xE,Bool.not_or,ih,Bool.not_not,Ti]
instance uw (s:List Sto) (l:List Dig) (t u:CN):C9 Tryz.prog 36 [.slice (s.map eSto) t,.slice (l.map eDig) u] (.raw (.bool (DM (ids s) l))):=⟨by
 refine Au Tryz.func36 Tryz.ntmps36 rfl (rs:= [.tmp 4]) rfl rfl fun hb LF=>?_
 refine wf ?_
 refine Az (.of_eq ?_)
 rw[←fg s l]⟩
instance mG (b l:List Dig) (t u:CN) (d:Dig):C9 Tryz.prog 48 [.agg (eDig d),.pt [.slice (b.map eDig) t] 0,.pt [.slice (l.map eDig) u] 0] (.raw (.bool (decide (d∈b)&&!decide (d∈l)))):=⟨by
 refine Au Tryz.func48 Tryz.ntmps48 rfl (rs:= [.tmp 4]) rfl rfl fun hb LF=>?_
 refine wf ?_
 repeat' (first|(refine A6 (fun h=>?_) (fun h=>?_)<;>refine wf ?_)|(refine AX (fun h=>?_) (fun h=>?_)<;>refine wf ?_)|(refine AU (fun h=>?_) (fun h=>?_)<;>refine wf ?_)|(refine Ar (fun h=>?_) (fun h=>?_)<;>(have h2:=h;(try simp only[AB,A8,AG,AL]at h2);refine wf ?_)))
 all_goals (refine Az (.of_eq ?_);simp_all)⟩
instance mF (a b l:List Dig) (v t u:CN):C9 Tryz.prog 47 [.slice (a.map eDig) v,.clo 48 [.pt [.slice (b.map eDig) t] 0,.pt [.slice (l.map eDig) u] 0]] (.raw (.bool (a.any fun d=>decide (d∈b)&&!decide (d∈l)))):=KE _ _ _ a v
instance pV (s:List Sto) (l:List Dig) (t u:CN) [hs:B4 (Bc s)] [hl:B4 (l.length≤400)]:C9 Tryz.prog 15 [.slice (s.map eSto) t,.slice (l.map eDig) u] (.raw (.bool (lS s l))):=⟨by
 refine Au Tryz.func15 Tryz.ntmps15 rfl (rs:= [.tmp 4]) rfl rfl fun hb LF=>?_
 refine wf ?_
 unfold lS
 refine AU (fun h=>?_) (fun h=>?_)
 ·refine wf ?_
  refine Az (.of_eq ?_)
  simp_all
 ·refine wz fun b7=>?_
  refine Ay 7 ?_
  refine wf ?_
  refine Az (.of_eq ?_)
  simp_all⟩
instance lB (l:List Dig) (u:CN) (d:Dig):C9 Tryz.prog 99 [.agg (eDig d),.pt [.slice (l.map eDig) u] 0] (.raw (.bool (decide (d∈l)))):=⟨by
 refine Au Tryz.func99 Tryz.ntmps99 rfl (rs:= [.tmp 3]) rfl rfl fun hb LF=>?_
 refine wf ?_
 exact Az (.refl _)⟩
instance mE (a l:List Dig) (t u:CN):C9 Tryz.prog 47 [.slice (a.map eDig) t,.clo 99 [.pt [.slice (l.map eDig) u] 0]] (.raw (.bool (a.any fun d=>decide (d∈l)))):=KE _ _ _ a t
theorem Vx (l:List Dig) (u:CN) (x:Sto) (hx:E5 x.patch=false):C9 Tryz.prog 98 [.agg (eSto x),.pt [.slice (l.map eDig) u] 0] (.raw (.bool (!decide (x.id∈l)&&(Ax x.patch).any fun d=>decide (d∈l)))):=⟨by
 have i1:B4 (E5 x.patch=false):=⟨hx⟩
 refine Au Tryz.func98 Tryz.ntmps98 rfl (rs:= [.tmp 3]) rfl rfl fun hb LF=>?_
 refine wf ?_
 repeat' (first|(refine A6 (fun h=>?_) (fun h=>?_)<;>refine wf ?_)|(refine AX (fun h=>?_) (fun h=>?_)<;>refine wf ?_)|(refine AU (fun h=>?_) (fun h=>?_)<;>refine wf ?_)|(refine Ar (fun h=>?_) (fun h=>?_)<;>(have h2:=h;(try simp only[AB,A8,AG,AL]at h2);refine wf ?_)))
 all_goals (refine Az (.of_eq ?_);simp_all)⟩
instance pS (s:List Sto) (l:List Dig) (t u:CN) [hs:B4 (HY s)]:C9 Tryz.prog 37 [.slice (s.map eSto) t,.slice (l.map eDig) u] (.raw (.bool (KZ s l))):=⟨by
 have c1: ∀ t,C9 Tryz.prog 97 [.slice (s.map eSto) t,.clo 98 [.pt [.slice (l.map eDig) .ro] 0]] (.raw (.bool (s.any fun x=>!decide (x.id∈l)&&(Ax x.patch).any fun d=>decide (d∈l)))):=fun t=>UH _ _ _ s t fun x hx=>Vx l .ro x (hs.out.2 x hx)
 refine Au Tryz.func37 Tryz.ntmps37 rfl (rs:= [.tmp 4]) rfl rfl fun hb LF=>?_
 refine wf ?_
 refine Az (.of_eq ?_)
 rfl⟩
instance mC (l:List Dig) (u:CN) (x:Sto):C9 Tryz.prog 101 [.agg (eSto x),.pt [.slice (l.map eDig) u] 0] (.raw (.bool (decide (x.id∈l)))):=⟨by
 refine Au Tryz.func101 Tryz.ntmps101 rfl (rs:= [.tmp 3]) rfl rfl fun hb LF=>?_
 refine wf ?_
 exact Az (.refl _)⟩
instance pR (s:List Sto) (l:List Dig) (t u:CN) [hs:B4 (s.length≤1000)]:C9 Tryz.prog 38 [.slice (s.map eSto) t,.slice (l.map eDig) u] (.slice ((IR s l).map eSto) .ro):=⟨by
 refine Au Tryz.func38 Tryz.ntmps38 rfl (rs:= [.tmp 4]) rfl rfl fun hb LF=>?_
 have hl:=hs.out
 refine wf ?_
 refine CV (xs:= [.tmp 5]) [] LF (f:=95) (cs:= []) (C5 _) rfl rfl (.refl _) _ (Rf s t (by omega)) fun r R0 ⟨v0,e1,hv0⟩=>?_
 subst e1
 refine wf ?_
 refine CV (xs:= [.tmp 6,.tmp 7]) R0 LF (f:=100) (cs:= []) (C5 _) rfl rfl (.refl _) _ (bF 101 _ (fun x=>decide (x.id∈l)) s v0 R0 hv0 (by omega)) fun r R1 ⟨v1,e1,hv1⟩=>?_
 subst e1
 refine wo ?_
 refine AD ?_
 have e:(s.filter fun d=>!decide (d.id∈l))=IR s l:=by
  unfold IR
  exact fp fun x _=>by simp
 rw[e]at hv1
 have hol:(IR s l).length≤s.length:=DP _ _
 refine Je 4 hv1 ⟨by rw[AR];unfold maxN;omega,by rw[AR];unfold maxN;omega⟩ (.refl _) rfl ?_
 refine wf ?_
 exact Az (.ros rfl)⟩
instance uu (x:Ident):C9 Tryz.prog 104 [.agg (eIdent x)] (.raw (.bool (EY x))):=⟨by
 refine Au Tryz.func104 Tryz.ntmps104 rfl (rs:= [.tmp 2]) rfl rfl fun hb LF=>?_
 unfold EY
 refine wf ?_
 repeat' (first|(refine A6 (fun h=>?_) (fun h=>?_)<;>refine wf ?_)|(refine AX (fun h=>?_) (fun h=>?_)<;>refine wf ?_)|(refine AU (fun h=>?_) (fun h=>?_)<;>refine wf ?_)|(refine Ar (fun h=>?_) (fun h=>?_)<;>(have h2:=h;(try simp only[AB,A8,AG,AL]at h2);refine wf ?_)))
 all_goals (refine Az (.of_eq ?_);simp_all)⟩
theorem YR {a b:Res} {R L M:List Res}:(a::b::(R++(L++M))).Perm (L++(a::b::(R++M))):=((List.perm_append_comm_assoc R L M).cons b |>.cons a).trans Ao
def EE (c:Chg):List Ident:=(if 2≤c.kind∧c.kind≤6 then [c.file]else [])++(if c.kind=2 then [c.parent]else [])++(if c.kind=5∨c.kind=6 then [c.after,c.before]else [])
theorem bX (c:Chg):Ct c=EE c++c.over:=rfl
def Fy (f:Ident→Ident) (c:Chg):Chg:={ c with file:=if 2≤c.kind∧c.kind≤6 then f c.file else c.file,parent:=if c.kind=2 then f c.parent else c.parent,after:=if c.kind=5∨c.kind=6 then f c.after else c.after,before:=if c.kind=5∨c.kind=6 then f c.before else c.before }
theorem sV (f:Ident→Ident) (c:Chg):GP f c= { Fy f c with over:=sortI (c.over.map f) }:=rfl
theorem RJ (F:Nat) (cs:List PV) {St:Type} (Lf:St→List Res) (f:Ident→Ident) (g:St→Ident→St) (c:Chg) [hF:B5 Tryz.prog F]
  (hp: ∀ st,∀ x∈Ct c,BG Tryz.prog F (.agg (eIdent x)::cs) (Lf st) (fun r L'=>r= .agg (eIdent (f x))∧L'=Lf (g st x))) (ho:c.over.length≤1000) (st:St):
  BG Tryz.prog 102 [.agg (eChg c),.clo F cs] (Lf st) (fun r L'=>r= .agg (eChg (GP f c))∧L'=Lf ((Ct c).foldl g st)):=by
 refine CA Tryz.func102 rfl Tryz.ntmps102 (rs:= [.cell 4 73]) rfl rfl fun hb LF=>?_
 refine tj fun b2=>?_
 refine CC fun b4=>?_
 refine AD ?_
 refine ws ?_
 refine Cp (σ:=Unit) (fun _=>True) (fun _=> [(1,.clo F cs),(2,.raw (.pointer (some ⟨b2,0,none⟩))),(4,.raw (.pointer (some ⟨b4,0,none⟩)))]) (fun _=> .box b4 73 (eChg Chg.zero):: .box b2 73 (eChg (Fy f c))::(Lf ((EE c).foldl g st)++LF)) ?_ fun _ _=>?_
 ·refine wf ?_
  refine A6 (fun hk=>?_) (fun hk2=>?_)
  ·refine wn ?_
   refine GN [2,6,3,7,9,11] (by decide+kernel) ?_
   refine B6 0 ?_
   refine B6 1 ?_
   refine B6 4 ?_
   refine B6 5 ?_
   refine Cw (fuel:=7) [2,6] (by decide+kernel) (by simp) fun i hi=>?_
   simp only[AH,Ah,or_false]at hi
   rcases hi with rfl|rfl
   ·refine⟨_,rfl,?_⟩
    refine wo ?_
    refine AD ?_
    refine Cw (fuel:=6) [3,6] (by decide+kernel) (by simp) fun i hi=>?_
    simp only[AH,Ah,or_false]at hi
    rcases hi with rfl|rfl
    ·refine⟨_,rfl,?_⟩
     refine Bx (xs:= [.tmp 14]) (Lf st) (.box b4 73 (eChg Chg.zero):: .box b2 73 (eChg c)::LF) (fun L=> .box b4 73 (eChg Chg.zero):: .box b2 73 (eChg c)::(L++LF)) (f:=F) (cs:=cs) (.refl _) rfl rfl Ao _ (hp st c.file (by simp[Ct,hk])) (fun _=>Ao.symm) fun r L' ⟨e1,e2⟩=>?_
     subst e1 e2
     refine AD ?_
     refine Aa 5 6 ?_
     refine wo ?_
     refine AD ?_
     refine B6 8 ?_
     refine Aa 3 7 ?_
     refine Bx (xs:= [.tmp 18]) (Lf (g st c.file)) (.box b4 73 (eChg Chg.zero):: .box b2 73 (eChg c)::LF) (fun L=> .box b4 73 (eChg Chg.zero):: .box b2 73 (eChg c)::(L++LF)) (f:=F) (cs:=cs) (.refl _) rfl rfl Ao _ (hp (g st c.file) c.parent (by simp[Ct,hk])) (fun _=>Ao.symm) fun r L' ⟨e1,e2⟩=>?_
     subst e1 e2
     refine AD ?_
     refine Aa 2 9 ?_
     refine wo ?_
     refine AD ?_
     refine B6 10 ?_
     refine Aa 0 11 ?_
     refine wo ?_
     refine AD ?_
     refine Cn (by decide+kernel) ?_
     rw[show Fy f c= { c with file:=f c.file,parent:=f c.parent } by unfold Fy;simp[hk],show(EE c).foldl g st=g (g st c.file) c.parent by unfold EE;simp[hk]]
     exact⟨(),trivial,⟨rfl,rfl,rfl⟩,.refl _⟩
    ·refine⟨_,rfl,?_⟩
     refine wo ?_
     refine AD ?_
     refine Aa 5 3 ?_
     refine Bx (xs:= [.tmp 14]) (Lf st) (.box b4 73 (eChg Chg.zero):: .box b2 73 (eChg c)::LF) (fun L=> .box b4 73 (eChg Chg.zero):: .box b2 73 (eChg c)::(L++LF)) (f:=F) (cs:=cs) (.refl _) rfl rfl Ao _ (hp st c.file (by simp[Ct,hk])) (fun _=>Ao.symm) fun r L' ⟨e1,e2⟩=>?_
     subst e1 e2
     refine AD ?_
     refine B6 8 ?_
     refine Aa 3 7 ?_
     refine Bx (xs:= [.tmp 18]) (Lf (g st c.file)) (.box b4 73 (eChg Chg.zero):: .box b2 73 (eChg c)::LF) (fun L=> .box b4 73 (eChg Chg.zero):: .box b2 73 (eChg c)::(L++LF)) (f:=F) (cs:=cs) (.refl _) rfl rfl Ao _ (hp (g st c.file) c.parent (by simp[Ct,hk])) (fun _=>Ao.symm) fun r L' ⟨e1,e2⟩=>?_
     subst e1 e2
     refine AD ?_
     refine Aa 2 9 ?_
     refine wo ?_
     refine AD ?_
     refine B6 10 ?_
     refine Aa 0 11 ?_
     refine wo ?_
     refine AD ?_
     refine Cn (by decide+kernel) ?_
     rw[show Fy f c= { c with file:=f c.file,parent:=f c.parent } by unfold Fy;simp[hk],show(EE c).foldl g st=g (g st c.file) c.parent by unfold EE;simp[hk]]
     exact⟨(),trivial,⟨rfl,rfl,rfl⟩,.refl _⟩
   ·refine⟨_,rfl,?_⟩
    refine wo ?_
    refine AD ?_
    refine Aa 6 2 ?_
    refine wo ?_
    refine AD ?_
    refine Aa 5 3 ?_
    refine Bx (xs:= [.tmp 14]) (Lf st) (.box b4 73 (eChg Chg.zero):: .box b2 73 (eChg c)::LF) (fun L=> .box b4 73 (eChg Chg.zero):: .box b2 73 (eChg c)::(L++LF)) (f:=F) (cs:=cs) (.refl _) rfl rfl Ao _ (hp st c.file (by simp[Ct,hk])) (fun _=>Ao.symm) fun r L' ⟨e1,e2⟩=>?_
    subst e1 e2
    refine AD ?_
    refine B6 8 ?_
    refine Aa 3 7 ?_
    refine Bx (xs:= [.tmp 18]) (Lf (g st c.file)) (.box b4 73 (eChg Chg.zero):: .box b2 73 (eChg c)::LF) (fun L=> .box b4 73 (eChg Chg.zero):: .box b2 73 (eChg c)::(L++LF)) (f:=F) (cs:=cs) (.refl _) rfl rfl Ao _ (hp (g st c.file) c.parent (by simp[Ct,hk])) (fun _=>Ao.symm) fun r L' ⟨e1,e2⟩=>?_
    subst e1 e2
    refine AD ?_
    refine Aa 2 9 ?_
    refine wo ?_
    refine AD ?_
    refine B6 10 ?_
    refine Aa 0 11 ?_
    refine wo ?_
    refine AD ?_
    refine Cn (by decide+kernel) ?_
    rw[show Fy f c= { c with file:=f c.file,parent:=f c.parent } by unfold Fy;simp[hk],show(EE c).foldl g st=g (g st c.file) c.parent by unfold EE;simp[hk]]
    exact⟨(),trivial,⟨rfl,rfl,rfl⟩,.refl _⟩
  ·refine wf ?_
   refine Cp (σ:=Unit) (fun _=>True) (fun _=> [(1,.clo F cs),(2,.raw (.pointer (some ⟨b2,0,none⟩))),(4,.raw (.pointer (some ⟨b4,0,none⟩))),(9,.raw (.int .i64 c.kind)),(22,.raw (.bool (decide (c.kind=3∨c.kind=4))))]) (fun _=> .box b4 73 (eChg Chg.zero):: .box b2 73 (eChg c)::(Lf st++LF)) ?_ fun _ _=>?_
   ·refine A6 (fun h=>?_) (fun h=>?_)
    ·refine wf ?_
     exact⟨(),trivial,⟨rfl,rfl,rfl,rfl,by show PV.raw (.bool (decide (c.kind=3)))=_;simp[h]⟩,.refl _⟩
    ·refine wf ?_
     exact⟨(),trivial,⟨rfl,rfl,rfl,rfl,by show PV.raw (.bool (decide (c.kind=4)))=_;simp[h]⟩,.refl _⟩
   refine A6 (fun h=>?_) (fun h3=>?_)
   ·have hk: ¬c.kind=2∧(2≤c.kind∧c.kind≤6)∧ ¬(c.kind=5∨c.kind=6):=by omega
    refine wf ?_
    refine Bx (xs:= [.tmp 27]) (Lf st) (.box b4 73 (eChg Chg.zero):: .box b2 73 (eChg c)::LF) (fun L=> .box b4 73 (eChg Chg.zero):: .box b2 73 (eChg c)::(L++LF)) (f:=F) (cs:=cs) (.refl _) rfl rfl Ao _ (hp st c.file (by simp[Ct,hk])) (fun _=>Ao.symm) fun r L' ⟨e1,e2⟩=>?_
    subst e1 e2
    refine wf ?_
    rw[show Fy f c= { c with file:=f c.file } by unfold Fy;simp[hk],show(EE c).foldl g st=g st c.file by unfold EE;simp[hk]]
    exact⟨(),trivial,⟨rfl,rfl,rfl⟩,.refl _⟩
   ·refine wf ?_
    refine Cp (σ:=Unit) (fun _=>True) (fun _=> [(1,.clo F cs),(2,.raw (.pointer (some ⟨b2,0,none⟩))),(4,.raw (.pointer (some ⟨b4,0,none⟩))),(30,.raw (.bool (decide (c.kind=5∨c.kind=6))))]) (fun _=> .box b4 73 (eChg Chg.zero):: .box b2 73 (eChg c)::(Lf st++LF)) ?_ fun _ _=>?_
    ·refine A6 (fun h=>?_) (fun h=>?_)
     ·refine wf ?_
      exact⟨(),trivial,⟨rfl,rfl,rfl,by show PV.raw (.bool (decide (c.kind=5)))=_;simp[h]⟩,.refl _⟩
     ·refine wf ?_
      exact⟨(),trivial,⟨rfl,rfl,rfl,by show PV.raw (.bool (decide (c.kind=6)))=_;simp[h]⟩,.refl _⟩
    refine A6 (fun h=>?_) (fun h5=>?_)
    ·have hk: ¬c.kind=2∧(2≤c.kind∧c.kind≤6)∧(c.kind=5∨c.kind=6):=by omega
     refine wn ?_
     refine GN [2,6,10,3,7,11,13,15,17] (by decide+kernel) ?_
     refine B6 0 ?_
     refine B6 1 ?_
     refine B6 4 ?_
     refine B6 5 ?_
     refine B6 8 ?_
     refine B6 9 ?_
     refine Cw (fuel:=11) [2,6,10] (by decide+kernel) (by simp) fun i hi=>?_
     simp only[AH,Ah,or_false]at hi
     rcases hi with rfl|rfl|rfl
     ·refine⟨_,rfl,?_⟩
      refine wo ?_
      refine AD ?_
      refine Cw (fuel:=10) [3,6,10] (by decide+kernel) (by simp) fun i hi=>?_
      simp only[AH,Ah,or_false]at hi
      rcases hi with rfl|rfl|rfl
      ·refine⟨_,rfl,?_⟩
       refine Bx (xs:= [.tmp 35]) (Lf st) (.box b4 73 (eChg Chg.zero):: .box b2 73 (eChg c)::LF) (fun L=> .box b4 73 (eChg Chg.zero):: .box b2 73 (eChg c)::(L++LF)) (f:=F) (cs:=cs) (.refl _) rfl rfl Ao _ (hp st c.file (by simp[Ct,hk])) (fun _=>Ao.symm) fun r L' ⟨e1,e2⟩=>?_
       subst e1 e2
       refine AD ?_
       refine Cw (fuel:=9) [6,10] (by decide+kernel) (by simp) fun i hi=>?_
       simp only[AH,Ah,or_false]at hi
       rcases hi with rfl|rfl
       ·refine⟨_,rfl,?_⟩
        refine wo ?_
        refine AD ?_
        refine Cw (fuel:=8) [7,10] (by decide+kernel) (by simp) fun i hi=>?_
        simp only[AH,Ah,or_false]at hi
        rcases hi with rfl|rfl
        ·refine⟨_,rfl,?_⟩
         refine Bx (xs:= [.tmp 39]) (Lf (g st c.file)) (.box b4 73 (eChg Chg.zero):: .box b2 73 (eChg c)::LF) (fun L=> .box b4 73 (eChg Chg.zero):: .box b2 73 (eChg c)::(L++LF)) (f:=F) (cs:=cs) (.refl _) rfl rfl Ao _ (hp (g st c.file) c.after (by simp[Ct,hk])) (fun _=>Ao.symm) fun r L' ⟨e1,e2⟩=>?_
         subst e1 e2
         refine AD ?_
         refine Aa 7 10 ?_
         refine wo ?_
         refine AD ?_
         refine B6 12 ?_
         refine Aa 5 11 ?_
         refine Bx (xs:= [.tmp 43]) (Lf (g (g st c.file) c.after)) (.box b4 73 (eChg Chg.zero):: .box b2 73 (eChg c)::LF) (fun L=> .box b4 73 (eChg Chg.zero):: .box b2 73 (eChg c)::(L++LF)) (f:=F) (cs:=cs) (.refl _) rfl rfl Ao _ (hp (g (g st c.file) c.after) c.before (by simp[Ct,hk])) (fun _=>Ao.symm) fun r L' ⟨e1,e2⟩=>?_
         subst e1 e2
         refine AD ?_
         refine Aa 4 13 ?_
         refine wo ?_
         refine AD ?_
         refine B6 14 ?_
         refine Aa 2 15 ?_
         refine wo ?_
         refine AD ?_
         refine B6 16 ?_
         refine Aa 0 17 ?_
         refine wo ?_
         refine AD ?_
         refine Cn (by decide+kernel) ?_
         rw[show Fy f c= { c with file:=f c.file,after:=f c.after,before:=f c.before } by unfold Fy;simp[hk],show(EE c).foldl g st=g (g (g st c.file) c.after) c.before by unfold EE;simp[hk]]
         exact⟨(),trivial,⟨rfl,rfl,rfl⟩,.refl _⟩
        ·refine⟨_,rfl,?_⟩
         refine wo ?_
         refine AD ?_
         refine B6 12 ?_
         refine Aa 6 7 ?_
         refine Bx (xs:= [.tmp 39]) (Lf (g st c.file)) (.box b4 73 (eChg Chg.zero):: .box b2 73 (eChg c)::LF) (fun L=> .box b4 73 (eChg Chg.zero):: .box b2 73 (eChg c)::(L++LF)) (f:=F) (cs:=cs) (.refl _) rfl rfl Ao _ (hp (g st c.file) c.after (by simp[Ct,hk])) (fun _=>Ao.symm) fun r L' ⟨e1,e2⟩=>?_
         subst e1 e2
         refine AD ?_
         refine Aa 5 11 ?_
         refine Bx (xs:= [.tmp 43]) (Lf (g (g st c.file) c.after)) (.box b4 73 (eChg Chg.zero):: .box b2 73 (eChg c)::LF) (fun L=> .box b4 73 (eChg Chg.zero):: .box b2 73 (eChg c)::(L++LF)) (f:=F) (cs:=cs) (.refl _) rfl rfl Ao _ (hp (g (g st c.file) c.after) c.before (by simp[Ct,hk])) (fun _=>Ao.symm) fun r L' ⟨e1,e2⟩=>?_
         subst e1 e2
         refine AD ?_
         refine Aa 4 13 ?_
         refine wo ?_
         refine AD ?_
         refine B6 14 ?_
         refine Aa 2 15 ?_
         refine wo ?_
         refine AD ?_
         refine B6 16 ?_
         refine Aa 0 17 ?_
         refine wo ?_
         refine AD ?_
         refine Cn (by decide+kernel) ?_
         rw[show Fy f c= { c with file:=f c.file,after:=f c.after,before:=f c.before } by unfold Fy;simp[hk],show(EE c).foldl g st=g (g (g st c.file) c.after) c.before by unfold EE;simp[hk]]
         exact⟨(),trivial,⟨rfl,rfl,rfl⟩,.refl _⟩
       ·refine⟨_,rfl,?_⟩
        refine wo ?_
        refine AD ?_
        refine Aa 8 6 ?_
        refine wo ?_
        refine AD ?_
        refine B6 12 ?_
        refine Aa 6 7 ?_
        refine Bx (xs:= [.tmp 39]) (Lf (g st c.file)) (.box b4 73 (eChg Chg.zero):: .box b2 73 (eChg c)::LF) (fun L=> .box b4 73 (eChg Chg.zero):: .box b2 73 (eChg c)::(L++LF)) (f:=F) (cs:=cs) (.refl _) rfl rfl Ao _ (hp (g st c.file) c.after (by simp[Ct,hk])) (fun _=>Ao.symm) fun r L' ⟨e1,e2⟩=>?_
        subst e1 e2
        refine AD ?_
        refine Aa 5 11 ?_
        refine Bx (xs:= [.tmp 43]) (Lf (g (g st c.file) c.after)) (.box b4 73 (eChg Chg.zero):: .box b2 73 (eChg c)::LF) (fun L=> .box b4 73 (eChg Chg.zero):: .box b2 73 (eChg c)::(L++LF)) (f:=F) (cs:=cs) (.refl _) rfl rfl Ao _ (hp (g (g st c.file) c.after) c.before (by simp[Ct,hk])) (fun _=>Ao.symm) fun r L' ⟨e1,e2⟩=>?_
        subst e1 e2
        refine AD ?_
        refine Aa 4 13 ?_
        refine wo ?_
        refine AD ?_
        refine B6 14 ?_
        refine Aa 2 15 ?_
        refine wo ?_
        refine AD ?_
        refine B6 16 ?_
        refine Aa 0 17 ?_
        refine wo ?_
        refine AD ?_
        refine Cn (by decide+kernel) ?_
        rw[show Fy f c= { c with file:=f c.file,after:=f c.after,before:=f c.before } by unfold Fy;simp[hk],show(EE c).foldl g st=g (g (g st c.file) c.after) c.before by unfold EE;simp[hk]]
        exact⟨(),trivial,⟨rfl,rfl,rfl⟩,.refl _⟩
      ·refine⟨_,rfl,?_⟩
       refine wo ?_
       refine AD ?_
       refine Cw (fuel:=9) [3,10] (by decide+kernel) (by simp) fun i hi=>?_
       simp only[AH,Ah,or_false]at hi
       rcases hi with rfl|rfl
       ·refine⟨_,rfl,?_⟩
        refine Bx (xs:= [.tmp 35]) (Lf st) (.box b4 73 (eChg Chg.zero):: .box b2 73 (eChg c)::LF) (fun L=> .box b4 73 (eChg Chg.zero):: .box b2 73 (eChg c)::(L++LF)) (f:=F) (cs:=cs) (.refl _) rfl rfl Ao _ (hp st c.file (by simp[Ct,hk])) (fun _=>Ao.symm) fun r L' ⟨e1,e2⟩=>?_
        subst e1 e2
        refine AD ?_
        refine Cw (fuel:=8) [7,10] (by decide+kernel) (by simp) fun i hi=>?_
        simp only[AH,Ah,or_false]at hi
        rcases hi with rfl|rfl
        ·refine⟨_,rfl,?_⟩
         refine Bx (xs:= [.tmp 39]) (Lf (g st c.file)) (.box b4 73 (eChg Chg.zero):: .box b2 73 (eChg c)::LF) (fun L=> .box b4 73 (eChg Chg.zero):: .box b2 73 (eChg c)::(L++LF)) (f:=F) (cs:=cs) (.refl _) rfl rfl Ao _ (hp (g st c.file) c.after (by simp[Ct,hk])) (fun _=>Ao.symm) fun r L' ⟨e1,e2⟩=>?_
         subst e1 e2
         refine AD ?_
         refine Aa 7 10 ?_
         refine wo ?_
         refine AD ?_
         refine B6 12 ?_
         refine Aa 5 11 ?_
         refine Bx (xs:= [.tmp 43]) (Lf (g (g st c.file) c.after)) (.box b4 73 (eChg Chg.zero):: .box b2 73 (eChg c)::LF) (fun L=> .box b4 73 (eChg Chg.zero):: .box b2 73 (eChg c)::(L++LF)) (f:=F) (cs:=cs) (.refl _) rfl rfl Ao _ (hp (g (g st c.file) c.after) c.before (by simp[Ct,hk])) (fun _=>Ao.symm) fun r L' ⟨e1,e2⟩=>?_
         subst e1 e2
         refine AD ?_
         refine Aa 4 13 ?_
         refine wo ?_
         refine AD ?_
         refine B6 14 ?_
         refine Aa 2 15 ?_
         refine wo ?_
         refine AD ?_
         refine B6 16 ?_
         refine Aa 0 17 ?_
         refine wo ?_
         refine AD ?_
         refine Cn (by decide+kernel) ?_
         rw[show Fy f c= { c with file:=f c.file,after:=f c.after,before:=f c.before } by unfold Fy;simp[hk],show(EE c).foldl g st=g (g (g st c.file) c.after) c.before by unfold EE;simp[hk]]
         exact⟨(),trivial,⟨rfl,rfl,rfl⟩,.refl _⟩
        ·refine⟨_,rfl,?_⟩
         refine wo ?_
         refine AD ?_
         refine B6 12 ?_
         refine Aa 6 7 ?_
         refine Bx (xs:= [.tmp 39]) (Lf (g st c.file)) (.box b4 73 (eChg Chg.zero):: .box b2 73 (eChg c)::LF) (fun L=> .box b4 73 (eChg Chg.zero):: .box b2 73 (eChg c)::(L++LF)) (f:=F) (cs:=cs) (.refl _) rfl rfl Ao _ (hp (g st c.file) c.after (by simp[Ct,hk])) (fun _=>Ao.symm) fun r L' ⟨e1,e2⟩=>?_
         subst e1 e2
         refine AD ?_
         refine Aa 5 11 ?_
         refine Bx (xs:= [.tmp 43]) (Lf (g (g st c.file) c.after)) (.box b4 73 (eChg Chg.zero):: .box b2 73 (eChg c)::LF) (fun L=> .box b4 73 (eChg Chg.zero):: .box b2 73 (eChg c)::(L++LF)) (f:=F) (cs:=cs) (.refl _) rfl rfl Ao _ (hp (g (g st c.file) c.after) c.before (by simp[Ct,hk])) (fun _=>Ao.symm) fun r L' ⟨e1,e2⟩=>?_
         subst e1 e2
         refine AD ?_
         refine Aa 4 13 ?_
         refine wo ?_
         refine AD ?_
         refine B6 14 ?_
         refine Aa 2 15 ?_
         refine wo ?_
         refine AD ?_
         refine B6 16 ?_
         refine Aa 0 17 ?_
         refine wo ?_
         refine AD ?_
         refine Cn (by decide+kernel) ?_
         rw[show Fy f c= { c with file:=f c.file,after:=f c.after,before:=f c.before } by unfold Fy;simp[hk],show(EE c).foldl g st=g (g (g st c.file) c.after) c.before by unfold EE;simp[hk]]
         exact⟨(),trivial,⟨rfl,rfl,rfl⟩,.refl _⟩
       ·refine⟨_,rfl,?_⟩
        refine wo ?_
        refine AD ?_
        refine Aa 8 3 ?_
        refine Bx (xs:= [.tmp 35]) (Lf st) (.box b4 73 (eChg Chg.zero):: .box b2 73 (eChg c)::LF) (fun L=> .box b4 73 (eChg Chg.zero):: .box b2 73 (eChg c)::(L++LF)) (f:=F) (cs:=cs) (.refl _) rfl rfl Ao _ (hp st c.file (by simp[Ct,hk])) (fun _=>Ao.symm) fun r L' ⟨e1,e2⟩=>?_
        subst e1 e2
        refine AD ?_
        refine B6 12 ?_
        refine Aa 6 7 ?_
        refine Bx (xs:= [.tmp 39]) (Lf (g st c.file)) (.box b4 73 (eChg Chg.zero):: .box b2 73 (eChg c)::LF) (fun L=> .box b4 73 (eChg Chg.zero):: .box b2 73 (eChg c)::(L++LF)) (f:=F) (cs:=cs) (.refl _) rfl rfl Ao _ (hp (g st c.file) c.after (by simp[Ct,hk])) (fun _=>Ao.symm) fun r L' ⟨e1,e2⟩=>?_
        subst e1 e2
        refine AD ?_
        refine Aa 5 11 ?_
        refine Bx (xs:= [.tmp 43]) (Lf (g (g st c.file) c.after)) (.box b4 73 (eChg Chg.zero):: .box b2 73 (eChg c)::LF) (fun L=> .box b4 73 (eChg Chg.zero):: .box b2 73 (eChg c)::(L++LF)) (f:=F) (cs:=cs) (.refl _) rfl rfl Ao _ (hp (g (g st c.file) c.after) c.before (by simp[Ct,hk])) (fun _=>Ao.symm) fun r L' ⟨e1,e2⟩=>?_
        subst e1 e2
        refine AD ?_
        refine Aa 4 13 ?_
        refine wo ?_
        refine AD ?_
        refine B6 14 ?_
        refine Aa 2 15 ?_
        refine wo ?_
        refine AD ?_
        refine B6 16 ?_
        refine Aa 0 17 ?_
        refine wo ?_
        refine AD ?_
        refine Cn (by decide+kernel) ?_
        rw[show Fy f c= { c with file:=f c.file,after:=f c.after,before:=f c.before } by unfold Fy;simp[hk],show(EE c).foldl g st=g (g (g st c.file) c.after) c.before by unfold EE;simp[hk]]
        exact⟨(),trivial,⟨rfl,rfl,rfl⟩,.refl _⟩
      ·refine⟨_,rfl,?_⟩
       refine wo ?_
       refine AD ?_
       refine Cw (fuel:=9) [3,6] (by decide+kernel) (by simp) fun i hi=>?_
       simp only[AH,Ah,or_false]at hi
       rcases hi with rfl|rfl
       ·refine⟨_,rfl,?_⟩
        refine Bx (xs:= [.tmp 35]) (Lf st) (.box b4 73 (eChg Chg.zero):: .box b2 73 (eChg c)::LF) (fun L=> .box b4 73 (eChg Chg.zero):: .box b2 73 (eChg c)::(L++LF)) (f:=F) (cs:=cs) (.refl _) rfl rfl Ao _ (hp st c.file (by simp[Ct,hk])) (fun _=>Ao.symm) fun r L' ⟨e1,e2⟩=>?_
        subst e1 e2
        refine AD ?_
        refine Aa 8 6 ?_
        refine wo ?_
        refine AD ?_
        refine B6 12 ?_
        refine Aa 6 7 ?_
        refine Bx (xs:= [.tmp 39]) (Lf (g st c.file)) (.box b4 73 (eChg Chg.zero):: .box b2 73 (eChg c)::LF) (fun L=> .box b4 73 (eChg Chg.zero):: .box b2 73 (eChg c)::(L++LF)) (f:=F) (cs:=cs) (.refl _) rfl rfl Ao _ (hp (g st c.file) c.after (by simp[Ct,hk])) (fun _=>Ao.symm) fun r L' ⟨e1,e2⟩=>?_
        subst e1 e2
        refine AD ?_
        refine Aa 5 11 ?_
        refine Bx (xs:= [.tmp 43]) (Lf (g (g st c.file) c.after)) (.box b4 73 (eChg Chg.zero):: .box b2 73 (eChg c)::LF) (fun L=> .box b4 73 (eChg Chg.zero):: .box b2 73 (eChg c)::(L++LF)) (f:=F) (cs:=cs) (.refl _) rfl rfl Ao _ (hp (g (g st c.file) c.after) c.before (by simp[Ct,hk])) (fun _=>Ao.symm) fun r L' ⟨e1,e2⟩=>?_
        subst e1 e2
        refine AD ?_
        refine Aa 4 13 ?_
        refine wo ?_
        refine AD ?_
        refine B6 14 ?_
        refine Aa 2 15 ?_
        refine wo ?_
        refine AD ?_
        refine B6 16 ?_
        refine Aa 0 17 ?_
        refine wo ?_
        refine AD ?_
        refine Cn (by decide+kernel) ?_
        rw[show Fy f c= { c with file:=f c.file,after:=f c.after,before:=f c.before } by unfold Fy;simp[hk],show(EE c).foldl g st=g (g (g st c.file) c.after) c.before by unfold EE;simp[hk]]
        exact⟨(),trivial,⟨rfl,rfl,rfl⟩,.refl _⟩
       ·refine⟨_,rfl,?_⟩
        refine wo ?_
        refine AD ?_
        refine Aa 8 3 ?_
        refine Bx (xs:= [.tmp 35]) (Lf st) (.box b4 73 (eChg Chg.zero):: .box b2 73 (eChg c)::LF) (fun L=> .box b4 73 (eChg Chg.zero):: .box b2 73 (eChg c)::(L++LF)) (f:=F) (cs:=cs) (.refl _) rfl rfl Ao _ (hp st c.file (by simp[Ct,hk])) (fun _=>Ao.symm) fun r L' ⟨e1,e2⟩=>?_
        subst e1 e2
        refine AD ?_
        refine B6 12 ?_
        refine Aa 6 7 ?_
        refine Bx (xs:= [.tmp 39]) (Lf (g st c.file)) (.box b4 73 (eChg Chg.zero):: .box b2 73 (eChg c)::LF) (fun L=> .box b4 73 (eChg Chg.zero):: .box b2 73 (eChg c)::(L++LF)) (f:=F) (cs:=cs) (.refl _) rfl rfl Ao _ (hp (g st c.file) c.after (by simp[Ct,hk])) (fun _=>Ao.symm) fun r L' ⟨e1,e2⟩=>?_
        subst e1 e2
        refine AD ?_
        refine Aa 5 11 ?_
        refine Bx (xs:= [.tmp 43]) (Lf (g (g st c.file) c.after)) (.box b4 73 (eChg Chg.zero):: .box b2 73 (eChg c)::LF) (fun L=> .box b4 73 (eChg Chg.zero):: .box b2 73 (eChg c)::(L++LF)) (f:=F) (cs:=cs) (.refl _) rfl rfl Ao _ (hp (g (g st c.file) c.after) c.before (by simp[Ct,hk])) (fun _=>Ao.symm) fun r L' ⟨e1,e2⟩=>?_
        subst e1 e2
        refine AD ?_
        refine Aa 4 13 ?_
        refine wo ?_
        refine AD ?_
        refine B6 14 ?_
        refine Aa 2 15 ?_
        refine wo ?_
        refine AD ?_
        refine B6 16 ?_
        refine Aa 0 17 ?_
        refine wo ?_
        refine AD ?_
        refine Cn (by decide+kernel) ?_
        rw[show Fy f c= { c with file:=f c.file,after:=f c.after,before:=f c.before } by unfold Fy;simp[hk],show(EE c).foldl g st=g (g (g st c.file) c.after) c.before by unfold EE;simp[hk]]
        exact⟨(),trivial,⟨rfl,rfl,rfl⟩,.refl _⟩
     ·refine⟨_,rfl,?_⟩
      refine wo ?_
      refine AD ?_
      refine Cw (fuel:=10) [2,10] (by decide+kernel) (by simp) fun i hi=>?_
      simp only[AH,Ah,or_false]at hi
      rcases hi with rfl|rfl
      ·refine⟨_,rfl,?_⟩
       refine wo ?_
       refine AD ?_
       refine Cw (fuel:=9) [3,10] (by decide+kernel) (by simp) fun i hi=>?_
       simp only[AH,Ah,or_false]at hi
       rcases hi with rfl|rfl
       ·refine⟨_,rfl,?_⟩
        refine Bx (xs:= [.tmp 35]) (Lf st) (.box b4 73 (eChg Chg.zero):: .box b2 73 (eChg c)::LF) (fun L=> .box b4 73 (eChg Chg.zero):: .box b2 73 (eChg c)::(L++LF)) (f:=F) (cs:=cs) (.refl _) rfl rfl Ao _ (hp st c.file (by simp[Ct,hk])) (fun _=>Ao.symm) fun r L' ⟨e1,e2⟩=>?_
        subst e1 e2
        refine AD ?_
        refine Cw (fuel:=8) [7,10] (by decide+kernel) (by simp) fun i hi=>?_
        simp only[AH,Ah,or_false]at hi
        rcases hi with rfl|rfl
        ·refine⟨_,rfl,?_⟩
         refine Bx (xs:= [.tmp 39]) (Lf (g st c.file)) (.box b4 73 (eChg Chg.zero):: .box b2 73 (eChg c)::LF) (fun L=> .box b4 73 (eChg Chg.zero):: .box b2 73 (eChg c)::(L++LF)) (f:=F) (cs:=cs) (.refl _) rfl rfl Ao _ (hp (g st c.file) c.after (by simp[Ct,hk])) (fun _=>Ao.symm) fun r L' ⟨e1,e2⟩=>?_
         subst e1 e2
         refine AD ?_
         refine Aa 7 10 ?_
         refine wo ?_
         refine AD ?_
         refine B6 12 ?_
         refine Aa 5 11 ?_
         refine Bx (xs:= [.tmp 43]) (Lf (g (g st c.file) c.after)) (.box b4 73 (eChg Chg.zero):: .box b2 73 (eChg c)::LF) (fun L=> .box b4 73 (eChg Chg.zero):: .box b2 73 (eChg c)::(L++LF)) (f:=F) (cs:=cs) (.refl _) rfl rfl Ao _ (hp (g (g st c.file) c.after) c.before (by simp[Ct,hk])) (fun _=>Ao.symm) fun r L' ⟨e1,e2⟩=>?_
         subst e1 e2
         refine AD ?_
         refine Aa 4 13 ?_
         refine wo ?_
         refine AD ?_
         refine B6 14 ?_
         refine Aa 2 15 ?_
         refine wo ?_
         refine AD ?_
         refine B6 16 ?_
         refine Aa 0 17 ?_
         refine wo ?_
         refine AD ?_
         refine Cn (by decide+kernel) ?_
         rw[show Fy f c= { c with file:=f c.file,after:=f c.after,before:=f c.before } by unfold Fy;simp[hk],show(EE c).foldl g st=g (g (g st c.file) c.after) c.before by unfold EE;simp[hk]]
         exact⟨(),trivial,⟨rfl,rfl,rfl⟩,.refl _⟩
        ·refine⟨_,rfl,?_⟩
         refine wo ?_
         refine AD ?_
         refine B6 12 ?_
         refine Aa 6 7 ?_
         refine Bx (xs:= [.tmp 39]) (Lf (g st c.file)) (.box b4 73 (eChg Chg.zero):: .box b2 73 (eChg c)::LF) (fun L=> .box b4 73 (eChg Chg.zero):: .box b2 73 (eChg c)::(L++LF)) (f:=F) (cs:=cs) (.refl _) rfl rfl Ao _ (hp (g st c.file) c.after (by simp[Ct,hk])) (fun _=>Ao.symm) fun r L' ⟨e1,e2⟩=>?_
         subst e1 e2
         refine AD ?_
         refine Aa 5 11 ?_
         refine Bx (xs:= [.tmp 43]) (Lf (g (g st c.file) c.after)) (.box b4 73 (eChg Chg.zero):: .box b2 73 (eChg c)::LF) (fun L=> .box b4 73 (eChg Chg.zero):: .box b2 73 (eChg c)::(L++LF)) (f:=F) (cs:=cs) (.refl _) rfl rfl Ao _ (hp (g (g st c.file) c.after) c.before (by simp[Ct,hk])) (fun _=>Ao.symm) fun r L' ⟨e1,e2⟩=>?_
         subst e1 e2
         refine AD ?_
         refine Aa 4 13 ?_
         refine wo ?_
         refine AD ?_
         refine B6 14 ?_
         refine Aa 2 15 ?_
         refine wo ?_
         refine AD ?_
         refine B6 16 ?_
         refine Aa 0 17 ?_
         refine wo ?_
         refine AD ?_
         refine Cn (by decide+kernel) ?_
         rw[show Fy f c= { c with file:=f c.file,after:=f c.after,before:=f c.before } by unfold Fy;simp[hk],show(EE c).foldl g st=g (g (g st c.file) c.after) c.before by unfold EE;simp[hk]]
         exact⟨(),trivial,⟨rfl,rfl,rfl⟩,.refl _⟩
       ·refine⟨_,rfl,?_⟩
        refine wo ?_
        refine AD ?_
        refine Aa 8 3 ?_
        refine Bx (xs:= [.tmp 35]) (Lf st) (.box b4 73 (eChg Chg.zero):: .box b2 73 (eChg c)::LF) (fun L=> .box b4 73 (eChg Chg.zero):: .box b2 73 (eChg c)::(L++LF)) (f:=F) (cs:=cs) (.refl _) rfl rfl Ao _ (hp st c.file (by simp[Ct,hk])) (fun _=>Ao.symm) fun r L' ⟨e1,e2⟩=>?_
        subst e1 e2
        refine AD ?_
        refine B6 12 ?_
        refine Aa 6 7 ?_
        refine Bx (xs:= [.tmp 39]) (Lf (g st c.file)) (.box b4 73 (eChg Chg.zero):: .box b2 73 (eChg c)::LF) (fun L=> .box b4 73 (eChg Chg.zero):: .box b2 73 (eChg c)::(L++LF)) (f:=F) (cs:=cs) (.refl _) rfl rfl Ao _ (hp (g st c.file) c.after (by simp[Ct,hk])) (fun _=>Ao.symm) fun r L' ⟨e1,e2⟩=>?_
        subst e1 e2
        refine AD ?_
        refine Aa 5 11 ?_
        refine Bx (xs:= [.tmp 43]) (Lf (g (g st c.file) c.after)) (.box b4 73 (eChg Chg.zero):: .box b2 73 (eChg c)::LF) (fun L=> .box b4 73 (eChg Chg.zero):: .box b2 73 (eChg c)::(L++LF)) (f:=F) (cs:=cs) (.refl _) rfl rfl Ao _ (hp (g (g st c.file) c.after) c.before (by simp[Ct,hk])) (fun _=>Ao.symm) fun r L' ⟨e1,e2⟩=>?_
        subst e1 e2
        refine AD ?_
        refine Aa 4 13 ?_
        refine wo ?_
        refine AD ?_
        refine B6 14 ?_
        refine Aa 2 15 ?_
        refine wo ?_
        refine AD ?_
        refine B6 16 ?_
        refine Aa 0 17 ?_
        refine wo ?_
        refine AD ?_
        refine Cn (by decide+kernel) ?_
        rw[show Fy f c= { c with file:=f c.file,after:=f c.after,before:=f c.before } by unfold Fy;simp[hk],show(EE c).foldl g st=g (g (g st c.file) c.after) c.before by unfold EE;simp[hk]]
        exact⟨(),trivial,⟨rfl,rfl,rfl⟩,.refl _⟩
      ·refine⟨_,rfl,?_⟩
       refine wo ?_
       refine AD ?_
       refine Aa 9 2 ?_
       refine wo ?_
       refine AD ?_
       refine Aa 8 3 ?_
       refine Bx (xs:= [.tmp 35]) (Lf st) (.box b4 73 (eChg Chg.zero):: .box b2 73 (eChg c)::LF) (fun L=> .box b4 73 (eChg Chg.zero):: .box b2 73 (eChg c)::(L++LF)) (f:=F) (cs:=cs) (.refl _) rfl rfl Ao _ (hp st c.file (by simp[Ct,hk])) (fun _=>Ao.symm) fun r L' ⟨e1,e2⟩=>?_
       subst e1 e2
       refine AD ?_
       refine B6 12 ?_
       refine Aa 6 7 ?_
       refine Bx (xs:= [.tmp 39]) (Lf (g st c.file)) (.box b4 73 (eChg Chg.zero):: .box b2 73 (eChg c)::LF) (fun L=> .box b4 73 (eChg Chg.zero):: .box b2 73 (eChg c)::(L++LF)) (f:=F) (cs:=cs) (.refl _) rfl rfl Ao _ (hp (g st c.file) c.after (by simp[Ct,hk])) (fun _=>Ao.symm) fun r L' ⟨e1,e2⟩=>?_
       subst e1 e2
       refine AD ?_
       refine Aa 5 11 ?_
       refine Bx (xs:= [.tmp 43]) (Lf (g (g st c.file) c.after)) (.box b4 73 (eChg Chg.zero):: .box b2 73 (eChg c)::LF) (fun L=> .box b4 73 (eChg Chg.zero):: .box b2 73 (eChg c)::(L++LF)) (f:=F) (cs:=cs) (.refl _) rfl rfl Ao _ (hp (g (g st c.file) c.after) c.before (by simp[Ct,hk])) (fun _=>Ao.symm) fun r L' ⟨e1,e2⟩=>?_
       subst e1 e2
       refine AD ?_
       refine Aa 4 13 ?_
       refine wo ?_
       refine AD ?_
       refine B6 14 ?_
       refine Aa 2 15 ?_
       refine wo ?_
       refine AD ?_
       refine B6 16 ?_
       refine Aa 0 17 ?_
       refine wo ?_
       refine AD ?_
       refine Cn (by decide+kernel) ?_
       rw[show Fy f c= { c with file:=f c.file,after:=f c.after,before:=f c.before } by unfold Fy;simp[hk],show(EE c).foldl g st=g (g (g st c.file) c.after) c.before by unfold EE;simp[hk]]
       exact⟨(),trivial,⟨rfl,rfl,rfl⟩,.refl _⟩
     ·refine⟨_,rfl,?_⟩
      refine wo ?_
      refine AD ?_
      refine Cw (fuel:=10) [2,6] (by decide+kernel) (by simp) fun i hi=>?_
      simp only[AH,Ah,or_false]at hi
      rcases hi with rfl|rfl
      ·refine⟨_,rfl,?_⟩
       refine wo ?_
       refine AD ?_
       refine Cw (fuel:=9) [3,6] (by decide+kernel) (by simp) fun i hi=>?_
       simp only[AH,Ah,or_false]at hi
       rcases hi with rfl|rfl
       ·refine⟨_,rfl,?_⟩
        refine Bx (xs:= [.tmp 35]) (Lf st) (.box b4 73 (eChg Chg.zero):: .box b2 73 (eChg c)::LF) (fun L=> .box b4 73 (eChg Chg.zero):: .box b2 73 (eChg c)::(L++LF)) (f:=F) (cs:=cs) (.refl _) rfl rfl Ao _ (hp st c.file (by simp[Ct,hk])) (fun _=>Ao.symm) fun r L' ⟨e1,e2⟩=>?_
        subst e1 e2
        refine AD ?_
        refine Aa 8 6 ?_
        refine wo ?_
        refine AD ?_
        refine B6 12 ?_
        refine Aa 6 7 ?_
        refine Bx (xs:= [.tmp 39]) (Lf (g st c.file)) (.box b4 73 (eChg Chg.zero):: .box b2 73 (eChg c)::LF) (fun L=> .box b4 73 (eChg Chg.zero):: .box b2 73 (eChg c)::(L++LF)) (f:=F) (cs:=cs) (.refl _) rfl rfl Ao _ (hp (g st c.file) c.after (by simp[Ct,hk])) (fun _=>Ao.symm) fun r L' ⟨e1,e2⟩=>?_
        subst e1 e2
        refine AD ?_
        refine Aa 5 11 ?_
        refine Bx (xs:= [.tmp 43]) (Lf (g (g st c.file) c.after)) (.box b4 73 (eChg Chg.zero):: .box b2 73 (eChg c)::LF) (fun L=> .box b4 73 (eChg Chg.zero):: .box b2 73 (eChg c)::(L++LF)) (f:=F) (cs:=cs) (.refl _) rfl rfl Ao _ (hp (g (g st c.file) c.after) c.before (by simp[Ct,hk])) (fun _=>Ao.symm) fun r L' ⟨e1,e2⟩=>?_
        subst e1 e2
        refine AD ?_
        refine Aa 4 13 ?_
        refine wo ?_
        refine AD ?_
        refine B6 14 ?_
        refine Aa 2 15 ?_
        refine wo ?_
        refine AD ?_
        refine B6 16 ?_
        refine Aa 0 17 ?_
        refine wo ?_
        refine AD ?_
        refine Cn (by decide+kernel) ?_
        rw[show Fy f c= { c with file:=f c.file,after:=f c.after,before:=f c.before } by unfold Fy;simp[hk],show(EE c).foldl g st=g (g (g st c.file) c.after) c.before by unfold EE;simp[hk]]
        exact⟨(),trivial,⟨rfl,rfl,rfl⟩,.refl _⟩
       ·refine⟨_,rfl,?_⟩
        refine wo ?_
        refine AD ?_
        refine Aa 8 3 ?_
        refine Bx (xs:= [.tmp 35]) (Lf st) (.box b4 73 (eChg Chg.zero):: .box b2 73 (eChg c)::LF) (fun L=> .box b4 73 (eChg Chg.zero):: .box b2 73 (eChg c)::(L++LF)) (f:=F) (cs:=cs) (.refl _) rfl rfl Ao _ (hp st c.file (by simp[Ct,hk])) (fun _=>Ao.symm) fun r L' ⟨e1,e2⟩=>?_
        subst e1 e2
        refine AD ?_
        refine B6 12 ?_
        refine Aa 6 7 ?_
        refine Bx (xs:= [.tmp 39]) (Lf (g st c.file)) (.box b4 73 (eChg Chg.zero):: .box b2 73 (eChg c)::LF) (fun L=> .box b4 73 (eChg Chg.zero):: .box b2 73 (eChg c)::(L++LF)) (f:=F) (cs:=cs) (.refl _) rfl rfl Ao _ (hp (g st c.file) c.after (by simp[Ct,hk])) (fun _=>Ao.symm) fun r L' ⟨e1,e2⟩=>?_
        subst e1 e2
        refine AD ?_
        refine Aa 5 11 ?_
        refine Bx (xs:= [.tmp 43]) (Lf (g (g st c.file) c.after)) (.box b4 73 (eChg Chg.zero):: .box b2 73 (eChg c)::LF) (fun L=> .box b4 73 (eChg Chg.zero):: .box b2 73 (eChg c)::(L++LF)) (f:=F) (cs:=cs) (.refl _) rfl rfl Ao _ (hp (g (g st c.file) c.after) c.before (by simp[Ct,hk])) (fun _=>Ao.symm) fun r L' ⟨e1,e2⟩=>?_
        subst e1 e2
        refine AD ?_
        refine Aa 4 13 ?_
        refine wo ?_
        refine AD ?_
        refine B6 14 ?_
        refine Aa 2 15 ?_
        refine wo ?_
        refine AD ?_
        refine B6 16 ?_
        refine Aa 0 17 ?_
        refine wo ?_
        refine AD ?_
        refine Cn (by decide+kernel) ?_
        rw[show Fy f c= { c with file:=f c.file,after:=f c.after,before:=f c.before } by unfold Fy;simp[hk],show(EE c).foldl g st=g (g (g st c.file) c.after) c.before by unfold EE;simp[hk]]
        exact⟨(),trivial,⟨rfl,rfl,rfl⟩,.refl _⟩
      ·refine⟨_,rfl,?_⟩
       refine wo ?_
       refine AD ?_
       refine Aa 9 2 ?_
       refine wo ?_
       refine AD ?_
       refine Aa 8 3 ?_
       refine Bx (xs:= [.tmp 35]) (Lf st) (.box b4 73 (eChg Chg.zero):: .box b2 73 (eChg c)::LF) (fun L=> .box b4 73 (eChg Chg.zero):: .box b2 73 (eChg c)::(L++LF)) (f:=F) (cs:=cs) (.refl _) rfl rfl Ao _ (hp st c.file (by simp[Ct,hk])) (fun _=>Ao.symm) fun r L' ⟨e1,e2⟩=>?_
       subst e1 e2
       refine AD ?_
       refine B6 12 ?_
       refine Aa 6 7 ?_
       refine Bx (xs:= [.tmp 39]) (Lf (g st c.file)) (.box b4 73 (eChg Chg.zero):: .box b2 73 (eChg c)::LF) (fun L=> .box b4 73 (eChg Chg.zero):: .box b2 73 (eChg c)::(L++LF)) (f:=F) (cs:=cs) (.refl _) rfl rfl Ao _ (hp (g st c.file) c.after (by simp[Ct,hk])) (fun _=>Ao.symm) fun r L' ⟨e1,e2⟩=>?_
       subst e1 e2
       refine AD ?_
       refine Aa 5 11 ?_
       refine Bx (xs:= [.tmp 43]) (Lf (g (g st c.file) c.after)) (.box b4 73 (eChg Chg.zero):: .box b2 73 (eChg c)::LF) (fun L=> .box b4 73 (eChg Chg.zero):: .box b2 73 (eChg c)::(L++LF)) (f:=F) (cs:=cs) (.refl _) rfl rfl Ao _ (hp (g (g st c.file) c.after) c.before (by simp[Ct,hk])) (fun _=>Ao.symm) fun r L' ⟨e1,e2⟩=>?_
       subst e1 e2
       refine AD ?_
       refine Aa 4 13 ?_
       refine wo ?_
       refine AD ?_
       refine B6 14 ?_
       refine Aa 2 15 ?_
       refine wo ?_
       refine AD ?_
       refine B6 16 ?_
       refine Aa 0 17 ?_
       refine wo ?_
       refine AD ?_
       refine Cn (by decide+kernel) ?_
       rw[show Fy f c= { c with file:=f c.file,after:=f c.after,before:=f c.before } by unfold Fy;simp[hk],show(EE c).foldl g st=g (g (g st c.file) c.after) c.before by unfold EE;simp[hk]]
       exact⟨(),trivial,⟨rfl,rfl,rfl⟩,.refl _⟩
    ·have hk: ¬c.kind=2∧ ¬(2≤c.kind∧c.kind≤6)∧ ¬(c.kind=5∨c.kind=6):=by omega
     refine wf ?_
     rw[show Fy f c=c by unfold Fy;simp[hk],show(EE c).foldl g st=st by unfold EE;simp[hk]]
     exact⟨(),trivial,⟨rfl,rfl,rfl⟩,.refl _⟩
 have o2:(Fy f c).over=c.over:=rfl
 generalize hc2:Fy f c=c2 at o2 ⊢
 have ho2:c2.over.length≤1000:=by rw[o2];exact ho
 refine wf ?_
 refine v7 (vf:=vIdn) (c:=c2.over.length) rfl rfl (by omega) (by omega) fun v0 R0 hv0=>?_
 refine wo ?_
 refine AD ?_
 refine EP Ao.symm ?_
 refine wf ?_
 refine Ab (σ:=Nat × St × Value × List Res) (fun k=>k.1≤c2.over.length∧k.2.1=(c2.over.take k.1).foldl g ((EE c).foldl g st)∧ot k.2.2.1 ((c2.over.take k.1).map f) k.2.2.2) (fun k=>c2.over.length - k.1) (fun k=> [(1,.clo F cs),(2,.raw (.pointer (some ⟨b2,0,none⟩))),(4,.raw (.pointer (some ⟨b4,0,none⟩))),(5,.raw k.2.2.1),(53,.slice (c2.over.map eIdent) .ro),(54,.raw (.int .i64 c2.over.length)),(55,.raw (.int .i64 k.1))]) (fun k=> .box b4 73 (eChg Chg.zero):: .box b2 73 (eChg c2)::(k.2.2.2++(Lf k.2.1++LF))) (0,(EE c).foldl g st,v0,R0) ⟨by simp,rfl,hv0⟩ ⟨rfl,rfl,rfl,rfl,rfl,rfl,rfl⟩ (.refl _) ?_
 rintro⟨k,s,v,R⟩ ⟨hk,hs,hI⟩
 dsimp only at hk hs hI ⊢
 refine wf ?_
 refine A6 (fun hc=>?_) (fun hc=>?_)
 ·have hlt:k < c2.over.length:=by omega
  refine wz fun b7=>?_
  refine Ay 7 ?_
  refine wf ?_
  refine Bx (xs:= [.tmp 61]) (Lf s) (.box b4 73 (eChg Chg.zero):: .box b2 73 (eChg c2)::(R++LF)) (fun L=> .box b4 73 (eChg Chg.zero):: .box b2 73 (eChg c2)::(R++(L++LF))) (f:=F) (cs:=cs) (.refl _) rfl rfl YR _ (hp s c2.over[k] (by rw[bX,Ai];exact .inr (o2 ▸ AJ hlt))) (fun _=>YR.symm) fun r L' ⟨e1,e2⟩=>?_
  subst e1 e2
  refine wf ?_
  refine Ik (f:=eIdent) (m:= [f c2.over[k]]) (R:=R) (LF:= .box b4 73 (eChg Chg.zero):: .box b2 73 (eChg c2)::(Lf (g s c2.over[k])++LF)) (fun R'=> .box b4 73 (eChg Chg.zero):: .box b2 73 (eChg c2)::(R'++(Lf (g s c2.over[k])++LF))) rfl rfl hI Ao (fun R'=>Ao.symm) (by simp only[AR,AZ,AN,Af];omega) (by simp only[AR,AZ,AN,Af];omega) fun v3 R3 h3=>?_
  refine wf ?_
  refine wf ?_
  refine⟨(k+1,_,v3,R3),⟨by dsimp only;omega,?_,?_⟩,by dsimp only;omega,⟨rfl,rfl,rfl,rfl,rfl,rfl,rfl⟩,.refl _⟩
  ·dsimp only
   rw[A7 hlt,CH,←hs];rfl
  ·dsimp only
   rw[A7 hlt,An]
   exact h3
 ·rw[AE (by omega)]at hI hs
  have hms:(sortI (c2.over.map f)).length≤maxN∧(sortI (c2.over.map f)).length*33≤maxN:=by
   have h1:maxN=140737488355328:=rfl
   have h2:(sortI (c2.over.map f)).length=c2.over.length:=by rw[sortI,DN,AR]
   omega
  have hfin:GP f c= { c2 with over:=sortI (c2.over.map f) }:=by rw[sV,hc2,o2]
  have hst:(Ct c).foldl g st=s:=by rw[bX,CH,hs,o2]
  refine wf ?_
  refine Bx (xs:= [.tmp 66,.func 159]) R (.box b4 73 (eChg Chg.zero):: .box b2 73 (eChg c2)::(Lf s++LF)) (fun R'=> .box b4 73 (eChg Chg.zero):: .box b2 73 (eChg c2)::(R'++(Lf s++LF))) (f:=158) (cs:= []) (C5 _) rfl rfl Ao _ (Xj _ _ R hI (by simp only[AR];omega)) (fun _=>Ao.symm) fun r' L3 ⟨v3,e3,h3⟩=>?_
  subst e3
  refine wo ?_
  refine AD ?_
  refine Gp (f:=eIdent) 5 h3 hms Ao rfl ?_
  rw[hfin,hst]
  refine wf ?_
  exact⟨trivial,_,_,.cons (.cell 4 73 rfl AF FE.out (by simp)) .nil,.cons _ (.cons _ (.refl _)),rfl,rfl⟩
instance xN:OD Tryz.prog 140 31 3:=⟨by kernel_rfl⟩
theorem ag (st:List (Dig × Int)) (d:Dig) (m:Nat) (x:Ident) (hs: ∀ e∈st,0≤e.2∧e.2≤1000000000000) (hn:x.n≤1000000000000):
  BG Tryz.prog 103 [.agg (eIdent x),.pt (eDig d) 0,.pt [.raw (.map (some m))] 0] [.map m (Bb kDig vInt st)] (fun r L'=>r= .agg (eIdent (fJ st d x))∧L'= [.map m (Bb kDig vInt st)]):=by
 refine CA Tryz.func103 rfl Tryz.ntmps103 (rs:= [.cell 4 65]) rfl rfl fun hb LF=>?_
 rw[B0,B9]
 refine wf ?_
 refine CC fun b4=>?_
 refine wf ?_
 refine CC fun b5=>?_
 refine ws ?_
 refine Cp (σ:=Unit) (fun _=>True) (fun _=> [(1,.pt (eDig d) 0),(2,.pt [.raw (.map (some m))] 0),(3,.pt (eIdent x) 0),(4,.raw (.pointer (some ⟨b4,0,none⟩))),(5,.raw (.pointer (some ⟨b5,0,none⟩)))]) (fun _=> .box b5 31 (eDig (if EY x=true then d else x.patch)):: .box b4 65 (eIdent Ident.zero):: .map m (Bb kDig vInt st)::LF) ?_ fun _ _=>?_
 ·refine AU (fun h=>?_) (fun h=>?_)
  ·refine wf ?_
   rw[if_pos h]
   exact⟨(),trivial,⟨rfl,rfl,rfl,rfl,rfl⟩,.refl _⟩
  ·refine wf ?_
   rw[if_neg (by simp[h])]
   exact⟨(),trivial,⟨rfl,rfl,rfl,rfl,rfl⟩,.refl _⟩
 have hj:fJ st d x=match CU (if EY x=true then d else x.patch) st with|some k=>if 0≤x.n then⟨Dig.zero,k+x.n⟩else x|none=>x:=rfl
 rw[hj]
 generalize (if EY x=true then d else x.patch)=e
 have hb0:0≤(CU e st).getD 0∧(CU e st).getD 0≤1000000000000:=by
  cases hg:CU e st with
  |none=>exact⟨by decide,by decide⟩
  |some k=>exact hs _ (Nv hg)
 have hj:(match CU e st with|some k=>if 0≤x.n then(⟨Dig.zero,k+x.n⟩:Ident)else x|none=>x)=if(CU e st).isSome=true∧0≤x.n then⟨Dig.zero,(CU e st).getD 0+x.n⟩else x:=by
  cases hg:CU e st with
  |none=>simp
  |some k=>simp
 rw[hj]
 refine wf ?_
 refine Ar (fun h=>?_) (fun h=>?_)
 ·refine wf ?_
  refine A6 (fun h2=>?_) (fun h2=>?_)
  ·rw[if_pos ⟨h,h2⟩]
   refine wf ?_
   exact⟨trivial,_,_,.cons (.cell 4 65 rfl (AI _ AF) FE.out (by simp)) .nil,.cons _ (.cons _ (.refl _)),rfl,rfl⟩
  ·rw[if_neg fun k=>h2 k.2]
   refine wf ?_
   exact⟨trivial,_,_,.cons (.cell 4 65 rfl (AI _ AF) FE.out (by simp)) .nil,.cons _ (.cons _ (.refl _)),rfl,rfl⟩
 ·rw[if_neg fun k=>by simp[k.1]at h]
  refine wf ?_
  exact⟨trivial,_,_,.cons (.cell 4 65 rfl (AI _ AF) FE.out (by simp)) .nil,.cons _ (.cons _ (.refl _)),rfl,rfl⟩
@[reducible] def MJ (m:Mta) (vd:Value) (cs:List Chg) (tg:CN):List PV:= [.str m.author,.str m.message,.raw (.int .i64 m.time),.raw vd,.slice (cs.map eChg) tg]
@[reducible] def gF (m:Mta) (ds:List Dig) (cs:List Chg) (tg:CN):List PV:= [.str m.author,.str m.message,.raw (.int .i64 m.time),.slice (ds.map eDig) .ro,.slice (cs.map eChg) tg]
theorem qF (m:Mta) (ds:List Dig) (cs:List Chg) (tg:CN):Le (.agg (gF m ds cs tg)) (.agg (Ba ⟨m.author,m.message,m.time,ds,cs⟩)):=fun g v hv=>by
 obtain⟨vs,rfl,h⟩:=hv.agg_inv
 match vs,h with
 | [a,b,c,d,e],h=>
   exact EB.agg (.cons h.uncons.1 (.cons h.uncons.2.uncons.1 (.cons h.uncons.2.uncons.2.uncons.1 (.cons h.uncons.2.uncons.2.uncons.2.uncons.1 (.cons h.uncons.2.uncons.2.uncons.2.uncons.2.uncons.1.ro (.nil g))))))
 | [],h=>have:=h.len;simp at this
 | [_],h=>have:=h.len;simp at this
 | [_,_],h=>have:=h.len;simp at this
 | [_,_,_],h=>have:=h.len;simp at this
 | [_,_,_,_],h=>have:=h.len;simp at this
 |_::_::_::_::_::_::_,h=>have:=h.len;simp at this
theorem pH:Cq Tryz.prog 40 [.str [],.str [],.raw (.int .i64 0),.raw (.slice none 0 0),.slice [] .nil]:=⟨by
 have h:((Tryz.prog.info? 40).bind (·.zero)).map (·.cells.toList)=some [.string ⟨#[]⟩,.string ⟨#[]⟩,.int .i64 0,.slice none 0 0,.slice none 0 0]:=by kernel_rfl
 obtain⟨v,h1,h2⟩:=Bj.1 h
 obtain⟨i,h3,h4⟩:=Dy.1 h1
 exact⟨i,v,_,h3,h4,by rw[←h2],fun g=> .cons (.str (by simp)) (.cons (.str (by simp)) (.cons (.raw _) (.cons (.raw _) (.cons (.nilN none (by simp)) (.nil g)))))⟩⟩
instance :Cq Tryz.prog 140 [.raw (.map none)]:=NY (v:= .map none) (by kernel_rfl) rfl fun _=> .raw _
theorem SS {s:List Sto} (v:Bc s) {x:Sto} (hx:x∈s) {c:Chg} (hc:c∈x.patch.changes): ∀ y∈Ct c,y.n≤16200:=by
 have hu:=v.uses hx hc
 have cnt: ∀ z∈s,N5 z.patch≤16200:=fun z hz=>(Ej (v.close.1.2 z hz)).1
 have key: ∀ y,(PB (N5 x.patch) y∧Jt s y)→y.n≤16200:=fun y ⟨h1,h2⟩=>by
  by_cases hz:y.patch=Dig.zero
  ·have:=h1.2 hz;have:=cnt x hx;omega
  ·obtain⟨z,hz',_,_,h4⟩:=h2 hz
   have:=cnt z hz';omega
 intro y hy
 unfold Ct at hy
 simp only[Ai]at hy
 rcases hy with ((hy|hy)|hy)|hy
 ·split at hy
  ·rename_i h;rw[Ag.1 hy];exact key _ (hu.file h.1 h.2)
  ·cases hy
 ·split at hy
  ·rename_i h
   rw[Ag.1 hy]
   by_cases hr:c.parent=rRoot
   ·rw[hr];decide
   ·exact key _ (hu.parent h hr)
  ·cases hy
 ·split at hy
  ·rename_i h
   simp only[AH,Ah,or_false]at hy
   rcases hy with rfl|rfl
   ·exact key _ (hu.after h)
   ·exact key _ (hu.before h)
  ·cases hy
 ·exact key _ (hu.over y hy)
theorem cw {m:Mta} {vd:Value} {cs:List Chg} {tg:CN} (h:vd.oneCell'=true):KC (MJ m vd cs tg):=Ny (Ny (Fa rfl (Fa h (N2 HC))))
instance yW (m:Mta) (vd:Value) (cs:List Chg) (tg:CN):At (MJ m vd cs tg) 3 (.raw vd):=⟨rfl⟩
instance yV (m:Mta) (vd:Value) (cs:List Chg) (tg:CN):At (MJ m vd cs tg) 4 (.slice (cs.map eChg) tg):=⟨rfl⟩
theorem VZ {s:List Sto} (v:Bc s) {x:Sto} (hx:x∈s):C9 Tryz.prog 29 [.agg (Ba x.patch)] (.raw (.int .i64 (cntS s x.id))):=⟨by
 have i1:B4 (E5 x.patch=false):=⟨v.close.1.2 x hx⟩
 have e:cntS s x.id=(Ko x.patch).1.length:=by
  rw[v.cntS hx,(WB (by rw[WC];exact(v.id x hx).1)).1];rfl
 refine Au Tryz.func29 Tryz.ntmps29 rfl (rs:= [.tmp 2]) rfl rfl fun hb LF=>?_
 refine wf ?_
 refine Az (.of_eq ?_)
 rw[e]⟩
theorem eL {a b c d:Res} {l:List Res}:(a::b::c::d::l).Perm (d::c::b::a::l):=(List.reverse_perm [a,b,c,d]).symm.append_right l
theorem RB {a b c d:Res} {L M:List Res}:(a::b::c::d::(L++M)).Perm (L++(a::b::c::d::M)):=(((Ao (a:=c) (b:=d)).cons b).cons a).trans Ao
theorem OZ {a b c:Res} {l:List Res}:(a::b::c::l).Perm (c::a::b::l):=((List.Perm.swap c b l).cons a).trans (.swap c a (b::l))
structure tU (s:List Sto) (l:List Dig) (i:Nat) (st:List (Dig × Int)) (n:Int) (cs:List Chg) (ds:List Dig):Prop where
 is:((Cg s).take i).foldl (jP s l) ([],0,[],[])=(st,n,cs,ds)
 n0:0≤n∧n≤i*16200
 st: ∀ e∈st,0≤e.2∧e.2≤i*16200
 cs:cs.length≤i*200
 ds:ds.length≤i*200
theorem tU.out {s:List Sto} {l:List Dig} {i:Nat} {st:List (Dig × Int)} {n:Int} {cs:List Chg} {ds:List Dig} (h:tU s l i st n cs ds) (hi:i < (Cg s).length) (hl: ¬(Cg s)[i]∈l):tU s l (i+1) st n cs ds:=by
 obtain⟨h1,h2,h3,h4,h5⟩:=h
 refine⟨?_,by omega,fun e he=>by have:=h3 e he;omega,by omega,by omega⟩
 rw[A7 hi,CH,h1,C0,Pn]
 unfold jP
 rw[if_neg hl]
theorem tU.in_ {s:List Sto} (v:Bc s) {l:List Dig} {i:Nat} {st:List (Dig × Int)} {n:Int} {cs:List Chg} {ds:List Dig} (h:tU s l i st n cs ds) (hi:i < (Cg s).length) {x:Sto} (hx:x∈s) (hd:(Cg s)[i]=x.id) (hl:x.id∈l):
  tU s l (i+1) (DJ x.id n st) (n+cntS s x.id) (cs++x.patch.changes.map (GP (fJ (DJ x.id n st) x.id))) (ds++x.patch.deps.filter fun e=>decide (¬e∈l)):=by
 obtain⟨h1,h2,h3,h4,h5⟩:=h
 have hb:=v.close.1.2 x hx
 have hc:cntS s x.id≤16200:=by rw[v.cntS hx];exact(Ej hb).1
 obtain⟨_,_,g1,g2,_⟩:=Eh hb
 have hf:(x.patch.deps.filter fun e=>decide (¬e∈l)).length≤x.patch.deps.length:=DP _ _
 refine⟨?_,by omega,fun e he=>?_,?_,?_⟩
 ·rw[A7 hi,CH,h1,C0,Pn,hd]
  unfold jP
  rw[if_pos hl,v.getS hx]
  rfl
 ·have key: ∀ (m:List (Dig × Int)) e,e∈DJ x.id n m→e.2=n∨e∈m:=fun m=>by
   induction m with
   |nil=>intro e he;simp[DJ]at he;exact .inl (by rw[he])
   |cons a m ih=>
    intro e he
    unfold DJ at he
    split at he
    ·rcases AH.1 he with rfl|he
     ·exact .inl rfl
     ·exact .inr (AI _ he)
    ·rcases AH.1 he with rfl|he
     ·exact .inr AF
     ·exact(ih e he).imp id (AI _)
  rcases key st e he with h|h
  ·rw[h];omega
  ·have:=h3 e h;omega
 ·rw[AA,AR];omega
 ·rw[AA];omega
structure JS where
 i:Nat
 st:List (Dig × Int)
 n:Int
 cs:List Chg
 tg:CN
 vd:Value
 ds:List Dig
 R:List Res
theorem ey (s:List Sto) (t:CN) (l:List Dig) (u:CN) (m:Mta) (hv:Bc s):C9 Tryz.prog 39 [.slice (s.map eSto) t,.slice (l.map eDig) u,.agg (Eu m)] (.agg (Ba (K0 s l m))):=⟨by
 have c1:=fun t=>eP s t hv.close.1 hv.asc
 have ho:=Ep s
 have hol:(Cg s).length≤200:=by
  have:=FR ho.nodup (u:=ids s) ho.sub
  have:=hv.close.1.1
  unfold ids at*
  simp only[AR]at*
  omega
 refine Au Tryz.func39 Tryz.ntmps39 rfl (rs:= [.cell 6 40]) rfl rfl fun hb LF=>?_
 refine wf ?_
 refine CC fun b6=>?_
 refine AD ?_
 repeat(refine Da ?_)
 refine CR (by kernel_rfl) ?_
 iterate 6 (refine w1 ?_)
 refine Sj (hZ:=pH) (c0:= [.str m.author]) (c1:= [.str m.message]) (c2:= [.raw (.int .i64 m.time)]) (r0:= [.str m.author,.str [],.raw (.int .i64 0),.raw (.slice none 0 0),.slice [] .nil]) (r1:= [.str m.author,.str m.message,.raw (.int .i64 0),.raw (.slice none 0 0),.slice [] .nil]) (r2:=MJ m (.slice none 0 0) [] .nil) (hP0:=⟨rfl,by simp⟩) (hP1:=⟨rfl,by simp⟩) (hP2:=⟨rfl,by simp⟩) ?_ ?_ ?_ rfl rfl rfl ?_
 ·exact Dm.one (c:= .str m.author) E3.out
 ·exact Dm.one (c:= .str m.message) E3.out
 ·exact Dm.one (c:= .raw (.int .i64 m.time)) E3.out
 refine CC fun b7=>?_
 refine Q4 (new:=MJ m (.slice none 0 0) [] .nil) (hf:=⟨cw rfl⟩) rfl rfl .here rfl (by simp) ?_
 refine AD ?_
 repeat(refine Da ?_)
 refine CR (by kernel_rfl) ?_
 refine OM fun mp=>?_
 refine CC fun b8=>?_
 refine wo ?_
 refine AD ?_
 refine Ay 8 ?_
 refine wf ?_
 refine EL 139 ?_
 refine EP eL ?_
 refine Ab (σ:=JS) (fun k=>k.i≤(Cg s).length∧tU s l k.i k.st k.n k.cs k.ds∧UQ k.vd k.ds k.R) (fun k=>(Cg s).length - k.i) (fun k=> [(0,.slice (s.map eSto) t),(1,.slice (l.map eDig) u),(6,.raw (.pointer (some ⟨b6,0,none⟩))),(7,.raw (.pointer (some ⟨b7,0,none⟩))),(8,.pt [.raw (.map (some mp))] 0),(9,.raw (.int .i64 k.n)),(27,.slice ((Cg s).map eDig) .ro),(28,.raw (.int .i64 (Cg s).length)),(29,.raw (.int .i64 k.i))]) (fun k=> .box b6 40 (Ba Pat.zero):: .box b7 40 (MJ m k.vd k.cs k.tg):: .map mp (Bb kDig vInt k.st):: .tok k.tg (k.cs).length 139::(k.R++LF)) ⟨0,[],0,[],.nil,.slice none 0 0,[],[]⟩ ⟨by simp,⟨rfl,by decide,fun e he=>absurd he Ah,by simp,by simp⟩,.nil none (by simp)⟩ ⟨rfl,rfl,rfl,rfl,rfl,rfl,rfl,rfl,rfl⟩ (.refl _) ?_
 rintro⟨i,st,n,cs,tg,vd,ds,R⟩ ⟨hi,hJ,hR⟩
 dsimp only at hi hJ hR ⊢
 refine wf ?_
 refine A6 (fun hc=>?_) (fun hc=>?_)
 ·have hlt:i < (Cg s).length:=by omega
  obtain⟨x,hx,hxd⟩:=AO.1 (ho.sub _ (AJ hlt))
  refine wz fun b11=>?_
  refine Ay 11 ?_
  refine wf ?_
  refine AX (fun h=>?_) (fun h=>?_)
  ·refine wf ?_
   exact⟨⟨i+1,st,n,cs,tg,vd,ds,R⟩,⟨by dsimp only;omega,hJ.out hlt h,hR⟩,by dsimp only;omega,⟨rfl,rfl,rfl,rfl,rfl,rfl,rfl,rfl,rfl⟩,.refl _⟩
  ·have hl:x.id∈l:=by rw[hxd];exact h
   have hJ':=hJ.in_ hv hlt hx hxd.symm hl
   have hb0:=hv.close.1.2 x hx
   have hc16:cntS s x.id≤16200:=by rw[hv.cntS hx];exact(Ej hb0).1
   obtain⟨_,_,g1,g2,gch⟩:=Eh hb0
   have cg: ∀ t,C9 Tryz.prog 17 [.slice (s.map eSto) t,.agg (eDig x.id)] (.tuple [.agg (Ba x.patch),.raw (.bool true)]):=fun t=>by
    have:=L9 s t x.id
    rw[hv.getS hx]at this
    exact this
   have cc:=VZ hv hx
   have hn0:=hJ.n0
   have hst0:=hJ'.st
   have hcs0:=hJ.cs
   have hds0:=hJ.ds
   rw[←hxd]
   refine wz fun b12=>?_
   refine Ay 12 ?_
   refine wf ?_
   refine Sg (κ:=Dig) (ek:=kDig) (ev:=vInt) (k0:=x.id) (x0:=n) (L':= .box b6 40 (Ba Pat.zero):: .box b7 40 (MJ m vd cs tg):: .tok tg cs.length 139::(R++LF)) rfl OZ (.refl _) (.refl _) ?_
   refine AD ?_
   refine EP OZ.symm ?_
   refine wf ?_
   refine Ab (σ:=Nat × List Chg × CN) (fun k=>k.1≤x.patch.changes.length∧k.2.1=cs++(x.patch.changes.take k.1).map (GP (fJ (DJ x.id n st) x.id))) (fun k=>x.patch.changes.length - k.1) (fun k=> [(0,.slice (s.map eSto) t),(1,.slice (l.map eDig) u),(6,.raw (.pointer (some ⟨b6,0,none⟩))),(7,.raw (.pointer (some ⟨b7,0,none⟩))),(8,.pt [.raw (.map (some mp))] 0),(9,.raw (.int .i64 (n+cntS s x.id))),(27,.slice ((Cg s).map eDig) .ro),(28,.raw (.int .i64 (Cg s).length)),(29,.raw (.int .i64 i)),(11,.pt (eDig x.id) 0),(12,.pt (Ba x.patch) 0),(51,.slice (x.patch.changes.map eChg) .ro),(52,.raw (.int .i64 x.patch.changes.length)),(53,.raw (.int .i64 k.1))]) (fun k=> .box b6 40 (Ba Pat.zero):: .box b7 40 (MJ m vd k.2.1 k.2.2):: .map mp (Bb kDig vInt (DJ x.id n st)):: .tok k.2.2 (k.2.1).length 139::(R++LF)) (0,cs,tg) ⟨by simp,by simp⟩ ⟨rfl,rfl,rfl,rfl,rfl,rfl,rfl,rfl,rfl,rfl,rfl,rfl,rfl,rfl⟩ (.refl _) ?_
   rintro⟨j,cs1,tg1⟩ ⟨hj,hcs⟩
   dsimp only at hj hcs ⊢
   refine wf ?_
   refine A6 (fun hc1=>?_) (fun hc1=>?_)
   ·have hjl:j < x.patch.changes.length:=by omega
    have hch:=AJ hjl
    have hl1:cs1.length=cs.length+j:=by rw[hcs];simp;omega
    refine wz fun b15=>?_
    refine Ay 15 ?_
    refine wn ?_
    refine Bp 6 ?_ ?_
    ·decide+kernel
    refine wf ?_
    refine Q7 (xs:= [.tmp 59,.tmp 60]) [.map mp (Bb kDig vInt (DJ x.id n st))] (.box b6 40 (Ba Pat.zero):: .box b7 40 (MJ m vd cs1 tg1):: .tok tg1 cs1.length 139::(R++LF)) (.agg (eChg (GP (fJ (DJ x.id n st) x.id) x.patch.changes[j]))) (f:=102) (cs:= []) (C5 _) rfl rfl OZ (RJ 103 _ (fun _:Unit=> [.map mp (Bb kDig vInt (DJ x.id n st))]) (fJ (DJ x.id n st) x.id) (fun _ _=>()) x.patch.changes[j] (fun _ y hy=>ag (DJ x.id n st) x.id mp y (fun e he=>by have:=hst0 e he;omega) (by have:=SS hv hx hch y hy;omega)) (by have:=(gch _ hch).over;omega) ()) ?_
    refine bW fun v'=>?_
    refine GJ (ay:= .slice ((cs1++ [GP (fJ (DJ x.id n st) x.id) x.patch.changes[j]]).map eChg) v') (MJ m vd (cs1++ [GP (fJ (DJ x.id n st) x.id) x.patch.changes[j]]) v') rfl rfl E3.out rfl (by simp) ?_
    refine wf ?_
    refine wf ?_
    refine⟨(j+1,(cs1++ [GP (fJ (DJ x.id n st) x.id) x.patch.changes[j]]),v'),⟨by dsimp only;omega,?_⟩,by dsimp only;omega,⟨rfl,rfl,rfl,rfl,rfl,rfl,rfl,rfl,rfl,rfl,rfl,rfl,rfl,rfl⟩,.refl _⟩
    dsimp only
    rw[A7 hjl,An,hcs,AV]
    rfl
   ·have hcs:cs1=cs++x.patch.changes.map (GP (fJ (DJ x.id n st) x.id)):=by rw[hcs,AE (by omega)]
    rw[←hcs]at hJ'
    refine wf ?_
    refine Ab (σ:=Nat × Value × List Dig × List Res) (fun k=>k.1≤x.patch.deps.length∧k.2.2.1=ds++(x.patch.deps.take k.1).filter (fun e=>decide (¬e∈l))∧UQ k.2.1 k.2.2.1 k.2.2.2) (fun k=>x.patch.deps.length - k.1) (fun k=> [(0,.slice (s.map eSto) t),(1,.slice (l.map eDig) u),(6,.raw (.pointer (some ⟨b6,0,none⟩))),(7,.raw (.pointer (some ⟨b7,0,none⟩))),(8,.pt [.raw (.map (some mp))] 0),(9,.raw (.int .i64 (n+cntS s x.id))),(27,.slice ((Cg s).map eDig) .ro),(28,.raw (.int .i64 (Cg s).length)),(29,.raw (.int .i64 i)),(12,.pt (Ba x.patch) 0),(67,.slice (x.patch.deps.map eDig) .ro),(68,.raw (.int .i64 x.patch.deps.length)),(69,.raw (.int .i64 k.1))]) (fun k=> .box b6 40 (Ba Pat.zero):: .box b7 40 (MJ m k.2.1 cs1 tg1):: .map mp (Bb kDig vInt (DJ x.id n st)):: .tok tg1 (cs1).length 139::(k.2.2.2++LF)) (0,vd,ds,R) ⟨by simp,by simp,hR⟩ ⟨rfl,rfl,rfl,rfl,rfl,rfl,rfl,rfl,rfl,rfl,rfl,rfl,rfl⟩ (.refl _) ?_
    rintro⟨q,vd1,ds1,R1⟩ ⟨hq,hds,hR1⟩
    dsimp only at hq hds hR1 ⊢
    have hdl:ds1.length≤40000+q:=by
     have:=DP (fun e=>decide (¬e∈l)) (x.patch.deps.take q)
     rw[hds,AA]
     rw[AZ]at this
     omega
    refine wf ?_
    refine A6 (fun hc2=>?_) (fun hc2=>?_)
    ·have hql:q < x.patch.deps.length:=by omega
     refine wz fun b17=>?_
     refine Ay 17 ?_
     refine wf ?_
     refine AX (fun hd=>?_) (fun hd=>?_)
     ·refine wf ?_
      refine Ik (f:=eDig) (m:= [x.patch.deps[q]]) (R:=R1) (LF:= .box b6 40 (Ba Pat.zero):: .box b7 40 (MJ m vd1 cs1 tg1):: .map mp (Bb kDig vInt (DJ x.id n st)):: .tok tg1 cs1.length 139::LF) (fun R'=> .box b6 40 (Ba Pat.zero):: .box b7 40 (MJ m vd1 cs1 tg1):: .map mp (Bb kDig vInt (DJ x.id n st)):: .tok tg1 cs1.length 139::(R'++LF)) rfl rfl hR1 RB (fun R'=>RB.symm) (by simp only[AN,Af];omega) (by simp only[AN,Af];omega) fun v2 R2 hv2=>?_
      refine wf ?_
      refine Ho (MJ m v2 cs1 tg1) rfl rfl hv2.one rfl (by simp) ?_
      refine wf ?_
      refine wf ?_
      refine⟨(q+1,v2,_,R2),⟨by dsimp only;omega,?_,hv2⟩,by dsimp only;omega,⟨rfl,rfl,rfl,rfl,rfl,rfl,rfl,rfl,rfl,rfl,rfl,rfl,rfl⟩,.refl _⟩
      dsimp only
      rw[A7 hql,Fc,hds,AV,El (by simpa using hd)]
      rfl
     ·refine wf ?_
      refine⟨(q+1,vd1,ds1,R1),⟨by dsimp only;omega,?_,hR1⟩,by dsimp only;omega,⟨rfl,rfl,rfl,rfl,rfl,rfl,rfl,rfl,rfl,rfl,rfl,rfl,rfl⟩,.refl _⟩
      dsimp only
      rw[A7 hql,Fc,hds,En (by simpa using hd)]
      simp
    ·have hds:ds1=ds++x.patch.deps.filter (fun e=>decide (¬e∈l)):=by rw[hds,AE (by omega)]
     rw[←hds]at hJ'
     refine wf ?_
     exact⟨⟨i+1,(DJ x.id n st),(n+cntS s x.id),cs1,tg1,vd1,ds1,R1⟩,⟨by dsimp only;omega,hJ',hR1⟩,by dsimp only;omega,⟨rfl,rfl,rfl,rfl,rfl,rfl,rfl,rfl,rfl⟩,.refl _⟩
 have hii:i=(Cg s).length:=by omega
 have hjn:K0 s l m=⟨m.author,m.message,m.time,Kh (sortD ds),cs⟩:=by
  unfold K0
  rw[show(Cg s).foldl (jP s l) ([],0,[],[])=(st,n,cs,ds) by rw[←hJ.is,AE (by omega)]]
 have hds0:=hJ.ds
 have hsl:(sortD ds).length=ds.length:=by unfold sortD;rw[DN]
 rw[hjn]
 refine wf ?_
 refine Bx (xs:= [.tmp 86,.func 61]) R (.box b6 40 (Ba Pat.zero):: .box b7 40 (MJ m vd cs tg):: .map mp (Bb kDig vInt st):: .tok tg cs.length 139::LF) (fun R'=> .box b6 40 (Ba Pat.zero):: .box b7 40 (MJ m vd cs tg):: .map mp (Bb kDig vInt st):: .tok tg cs.length 139::(R'++LF)) (f:=60) (cs:= []) (C5 _) rfl rfl RB _ (SJ ds vd R hR (by omega)) (fun _=>RB.symm) fun r L2 ⟨v2,e2,hv2⟩=>?_
 subst e2
 refine wf ?_
 refine Bx (xs:= [.tmp 89]) L2 (.box b6 40 (Ba Pat.zero):: .box b7 40 (MJ m v2 cs tg):: .map mp (Bb kDig vInt st):: .tok tg cs.length 139::LF) (fun R'=> .box b6 40 (Ba Pat.zero):: .box b7 40 (MJ m v2 cs tg):: .map mp (Bb kDig vInt st):: .tok tg cs.length 139::(R'++LF)) (f:=62) (cs:= []) (C5 _) rfl rfl RB _ (Pb (sortD ds) v2 L2 hv2 (by omega)) (fun _=>RB.symm) fun r L3 ⟨hr,hL3⟩=>?_
 subst hr hL3
 refine wo ?_
 refine GJ (ay:= .slice ((Kh (sortD ds)).map eDig) .ro) (gF m (Kh (sortD ds)) cs tg) rfl rfl E3.out rfl (by simp) ?_
 refine wf ?_
 refine Ug (cs:=gF m (Kh (sortD ds)) cs tg) rfl (AI _ AF) rfl ?_
 refine Q4 (new:=gF m (Kh (sortD ds)) cs tg) (hf:=⟨Ny (Ny (Fa rfl (N2 (N2 HC))))⟩) rfl rfl .here rfl (by simp) ?_
 refine wf ?_
 exact Fq rfl (qF _ _ _ _)⟩
theorem SY (s:List Sto) (t:CN) (l:List Dig) (u:CN) (m:Mta) (hv:Bc s) (hl:l.length≤400) (hs:s.length≤190) (hg:E5 (K0 s l m)=false):
  C9 Tryz.prog 12 [.slice (s.map eSto) t,.slice (l.map eDig) u,.agg (Eu m)] (.tuple [.slice ((SA s l m).1.map eSto) .ro,.agg (eDig (SA s l m).2.1),.raw (.int .i64 (SA s l m).2.2)]):=⟨by
 have i1:B4 (Bc s):=⟨hv⟩
 have i2:B4 (l.length≤400):=⟨hl⟩
 have i3:B4 (HY s):=⟨hv.close.1⟩
 have i4:B4 (s.length≤1000):=⟨by omega⟩
 have i5:B4 (E5 (K0 s l m)=false):=⟨hg⟩
 have cj:=fun t u=>ey s t l u m hv
 refine Au Tryz.func12 Tryz.ntmps12 rfl (rs:= [.tmp 6,.cell 7 31,.tmp 8]) rfl rfl fun hb LF=>?_
 refine wf ?_
 refine CC fun b7=>?_
 refine wf ?_
 refine AU (fun h1=>?_) (fun h1=>?_)
 ·have e:SA s l m=([],Dig.zero,7):=by unfold SA;rw[if_pos (by simpa using h1)]
  rw[e]
  refine wf ?_
  refine O1 rfl ?_
  exact .tuple3 (.ro _ _) (.refl _) (.refl _)
 have h1:DM (ids s) l=true:=by simpa using h1
 refine wf ?_
 refine BR [(15,.raw (.bool (decide (l.length=0∨lS s l=false)))),(0,.slice (s.map eSto) t),(1,.slice (l.map eDig) u),(5,.pt (Eu m) 0),(7,.raw (.pointer (some ⟨b7,0,none⟩)))] (.box b7 31 (eDig Dig.zero)::LF) ?_ ?_
 ·repeat' (first|(refine A6 (fun h=>?_) (fun h=>?_)<;>refine wf ?_)|(refine AX (fun h=>?_) (fun h=>?_)<;>refine wf ?_)|(refine AU (fun h=>?_) (fun h=>?_)<;>refine wf ?_)|(refine Ar (fun h=>?_) (fun h=>?_)<;>(have h2:=h;(try simp only[AB,A8,AG,AL]at h2);refine wf ?_)))
  all_goals (refine⟨⟨C4 (by rfl) ?_,rfl,rfl,rfl,rfl⟩,.refl _⟩;first|(simp_all;done)|(simp_all;omega)|grind)
 refine wf ?_
 refine A6 (fun h2=>?_) (fun h2=>?_)
 ·have e:SA s l m=([],Dig.zero,1):=by unfold SA;rw[if_neg (by simp[h1]),if_pos h2]
  rw[e]
  refine wf ?_
  refine O1 rfl ?_
  exact .tuple3 (.ro _ _) (.refl _) (.refl _)
 refine wf ?_
 refine AU (fun h3=>?_) (fun h3=>?_)
 ·have e:SA s l m=([],Dig.zero,19):=by unfold SA;rw[if_neg (by simp[h1]),if_neg h2,if_pos h3]
  rw[e]
  refine wf ?_
  refine O1 rfl ?_
  exact .tuple3 (.ro _ _) (.refl _) (.refl _)
 have e:SA s l m=FJ (IR s l) (K0 s l m):=by unfold SA;rw[if_neg (by simp[h1]),if_neg h2,if_neg (by simp[h3])]
 rw[e]
 have i6:B4 (Bc (IR s l)):=⟨hv.out h3⟩
 refine wn ?_
 refine QL [false,false,false,false,false,false,false,false,false,false,false,false,true,false] ?_ ?_
 ·decide+kernel
 refine wf ?_
 refine O1 rfl ?_
 exact .refl _⟩
end Go.Proofs
namespace Go.Proofs
open Go Go.Q Go.Sort
def EZ (Q:List (List Int)):List (List Nat):=Q.map fun l=>l.map Int.toNat
def gP (c:Chg):List Ident:=c.over++(if 2≤c.kind∧c.kind≤6 then [c.file]else [])++(if c.kind=2 then [c.parent]else [])++(if c.kind=5∨c.kind=6 then [c.after,c.before]else [])
theorem eh {c:Chg} {y:Ident}:y∈gP c↔y∈Ct c:=by
 unfold gP Ct
 simp only[Ai]
 constructor
 ·rintro(((h|h)|h)|h)
  ·exact .inr h
  ·exact .inl (.inl (.inl h))
  ·exact .inl (.inl (.inr h))
  ·exact .inl (.inr h)
 ·rintro(((h|h)|h)|h)
  ·exact .inl (.inl (.inr h))
  ·exact .inl (.inr h)
  ·exact .inr h
  ·exact .inl (.inl (.inl h))
def aZ (cs:List Chg) (y:Ident):Int:=if EY y=true∧cs≠ []then(E1 cs y.n:Int)else -1
def bC (Q:List (List Int)) (cs:List Chg):Bool:=(List.range cs.length).any fun i=>(gP (cs.getD i Chg.zero)).any fun y=>decide (0≤aZ cs y)&&decide (Qn Q i < Qn Q (aZ cs y))
theorem Mu {cs:List Chg} {n:Int} (h:cs≠ []):E1 cs n < cs.length:=by
 unfold E1
 have h1:=DP (fun i=>decide ((DT cs i:Int)≤n)) (List.range cs.length)
 rw[FF]at h1
 have:cs.length≠0:=fun e=>h (BO e)
 omega
theorem kM {cs:List Chg} {Q:List (List Int)} (h:FO cs.length [] Q=true):bC Q cs=JM (EZ Q) cs:=by
 unfold bC JM
 rw[Gz,CB,CB]
 refine exists_congr fun i=>and_congr_right fun hi=>?_
 have hi:=BW.1 hi
 have hne:cs≠ []:=fun e=>by rw[e]at hi;exact absurd hi (Dv _)
 rw[CB,CB]
 refine exists_congr fun y=>?_
 rw[eh]
 refine and_congr_right fun _=>?_
 unfold aZ
 by_cases ho:EY y=true
 ·rw[if_pos ⟨ho,hne⟩,ho,SO h hi,SO h (Mu hne)]
  simp only[BJ,AB,Fh]
  unfold EZ
  omega
 ·rw[if_neg fun k=>ho k.1]
  simp[ho]
def Ha (s:List Sto) (id:Dig) (Q:List (List Int)) (ms:List Mta):List Sto × List Dig × Int:=
 match getS s id with
 |none=>([],[],7)
 |some p=>if KZ s [id]=true then([],[],19)else if FO p.changes.length [] Q=false∨ms.length≠Q.length then([],[],1)else
  if JM (EZ Q) p.changes=true then([],[],9)else SB ⟨id,p⟩ (EZ Q) ((EZ Q).zip ms) (IR s [id]) []
def Zo (s:List Sto) (id:Dig) (Q:List (List Int)) (ms:List Mta):List Sto × List Dig × Int:=
 match getS s id with
 |none=>([],[],7)
 |some p=>if KZ s [id]=true then([],[],19)else if FO p.changes.length [] Q=false∨ms.length≠Q.length then([],[],1)else
  if bC Q p.changes=true then([],[],9)else mH ⟨id,p⟩ ((EZ Q).zip ms) (IR s [id]) [] (Ax p) []
theorem Ka (Q:List (List Int)):(EZ Q).length=Q.length:=by simp[EZ]
theorem bU {α β:Type}: ∀ {l:List α} {m:List β},m.length=l.length→(l.zip m).map (·.1)=l
 | [],_,_=>by simp
 |a::l,[],h=>by simp at h
 |a::l,b::m,h=>by
  rw[List.zip_cons_cons,Aq,bU (by simpa using h)]
structure Qm (Q:List (List Int)) (ms:List Mta):Prop where
 parts:Q.length≤8
 metas: ∀ m∈ms,m.author.length≤60∧m.message.length≤60
theorem HP {s:List Sto} (hg:Ez s=false):s.length≤8∧ ∀ x∈s,Fl x.patch=false∧(x.patch.changes.map Il).sum≤2000:=by
 unfold Ez at hg
 simp only[CJ,A8,Bf]at hg
 obtain⟨⟨h1,h2⟩,h3⟩:=hg
 have ht:s.take 9=s:=AE (by omega)
 rw[ht]at h1 h3
 refine⟨by omega,fun x hx=>⟨by simpa using h1 x hx,?_⟩⟩
 have:=IU (f:=u5) hx
 have e:u5 x=(x.patch.changes.map Il).sum:=rfl
 omega
theorem UY {s:List Sto} (hg:Ez s=false) {x:Sto} (hx:x∈s) {Q:List (List Int)} {ms:List Mta} (z:Qm Q ms):Oh s x (EZ Q) ((EZ Q).zip ms):=by
 obtain⟨g1,g2⟩:=HP hg
 exact⟨(g2 x hx).1,(g2 x hx).2,g1,by rw[Ka];exact z.parts,fun e he=>z.metas _ (List.of_mem_zip he).2⟩
theorem Sb {s:List Sto} (v:Bc s) {x:Sto} (hx:x∈s) (h:KZ s [x.id]=false):KF s x (IR s [x.id]) []:=by
 refine⟨v.out h,by have:(IR s [x.id]).length≤s.length:=DP _ _;simpa using this,fun d hd=>absurd hd Ah,fun d hd hne=>?_⟩
 obtain⟨y,hy,rfl⟩:=AO.1 hd
 exact AO.2 ⟨y,jS.2 ⟨hy,by simpa using hne⟩,rfl⟩
theorem bf {s:List Sto} (v:Bc s) {x:Sto} (hx:x∈s) {Q:List (List Int)} (hQ:FO x.patch.changes.length [] Q=true) (he:JM (EZ Q) x.patch.changes=false):HR s x (EZ Q):=⟨v,hx,Kz hQ,he⟩
theorem gf {s:List Sto} (v:Bc s) (hg:Ez s=false) (id:Dig) {Q:List (List Int)} {ms:List Mta} (z:Qm Q ms):Ha s id Q ms=Zo s id Q ms:=by
 unfold Ha Zo
 cases hp:getS s id with
 |none=>rfl
 |some p=>
  dsimp only
  have hx:(⟨id,p⟩:Sto)∈s:=RU hp
  by_cases h1:KZ s [id]=true
  ·rw[if_pos h1,if_pos h1]
  rw[if_neg h1,if_neg h1]
  by_cases h2:FO p.changes.length [] Q=false∨ms.length≠Q.length
  ·rw[if_pos h2,if_pos h2]
  rw[if_neg h2,if_neg h2]
  have hQ:FO p.changes.length [] Q=true:=by
   cases hq:FO p.changes.length [] Q with
   |true=>rfl
   |false=>exact absurd (.inl hq) h2
  have hl:ms.length=Q.length:=DW fun k=>h2 (.inr k)
  rw[kM hQ]
  by_cases h3:JM (EZ Q) p.changes=true
  ·rw[if_pos h3,if_pos h3]
  rw[if_neg h3,if_neg h3]
  have ok:=bf v hx hQ (by simpa using h3)
  have:=ok.loop ((EZ Q).zip ms) [] (IR s [id]) (UY hg hx z) (by rw[bU (by rw[Ka];exact hl)];rfl) (Sb v hx (by simpa using h1)) (.inl ⟨fun d hd=>absurd hd Ah,.nil,fun d hd=>absurd hd Ah⟩)
  rw[this]
  congr 1
  refine((Fw _).1.ext (Ga p) fun d=>?_)
  rw[(Fw _).2,BU]
end Go.Proofs
