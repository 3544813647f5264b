/- Contracts: sets that are valid (the reference's layer 17). -/
import Derived.Test.YtpebdiofdfpooaaGreatDoorWal
import Derived.Test.YtpebdiofdfpooaaGreatDoorWae
import Derived.Test.YtpebdiofdfpooaaGreatDoorWak
import Derived.Test.YtpebdiofdfpooaaGreatDoorWag
import Derived.Shelf.SlSortCmp.NoneTotal
import Derived.Test.YtpebdiofdfpooaaGreatDoorWaj
import Derived.Shelf.SlGeneric
import Derived.Ground.SlsfProg
set_option linter.unusedSimpArgs false
set_option linter.unusedVariables false
set_option maxHeartbeats 8000000
namespace Go.Proofs
open Go Go.Q
attribute [local irreducible] EB AW B2 FW
theorem me {b:Bool} (h:(!b)=false):b=true:=by cases b<;>simp_all
def El (s:List Sto) (i:Nat):Int:=
 if(EW (s.getD i Sto.zero).patch).2≠0 then(EW (s.getD i Sto.zero).patch).2 else if(EW (s.getD i Sto.zero).patch).1≠(s.getD i Sto.zero).id then 13 else
 if 0 < (i:Int)∧0≤DY (s.getD (i - 1) Sto.zero).id (EW (s.getD i Sto.zero).patch).1 then 9 else 0
def En (s:List Sto):Int:=
 if 400 < (s.length:Int)then 4 else if Aq (El s) (List.range s.length)≠0 then Aq (El s) (List.range s.length)else
 if s.all (fun x=>Ck (ids s) (BX x.patch))=false then 19 else if((Fv s).length:Int) < s.length then 20 else Aq (fun(x:Sto)=>FP s x.patch x.id) s
instance VU (s:List Sto) (t:CZ) [hs:B0 (DX s)]:Bj Tryz.prog 63 [.slice (s.map eSto) t] (.raw (.int .i64 (En s))):=⟨by
 obtain⟨hl8,hgr⟩:=hs.out
 refine Aj Tryz.func63 Tryz.ntmps63 rfl (rs:= [.tmp 2]) rfl rfl fun hb LF=>?_
 refine AY ?_
 refine A1 (fun h1=>?_) (fun h1=>?_)
 ·omega
 rw[En,if_neg h1]
 refine AY ?_
 refine AV (σ:=Nat) (fun k=>k≤s.length∧ ∀ i (h:i < (List.range s.length).length),i < k→El s (List.range s.length)[i]=0) (fun k=>s.length - k) (fun k=> [(0,.slice (s.map eSto) t),(3,.raw (.int .i64 k))]) (fun _=>LF) 0 ⟨by simp,by simp⟩ ⟨rfl,rfl⟩ (.refl _) ?_
 rintro k ⟨hk,he⟩
 refine AY ?_
 refine A1 (fun hc=>?_) (fun hc=>?_)
 ·have hlt:k < s.length:=by omega
  have hltr:k < (List.range s.length).length:=by simpa using hlt
  have ek:(List.range s.length)[k]=k:=by simp
  have e0:s.getD k Sto.zero=s[k]:=by simp[List.getD,hlt]
  have i1:B0 (EA s[k].patch=false):=⟨hgr _ (AO hlt)⟩
  refine Cx fun b=>?_
  refine AN (fun h2=>?_) (fun h2=>?_)
  ·refine AY ?_
   refine Al (.of_eq ?_)
   have e:El s (List.range s.length)[k]=(EW s[k].patch).2:=by rw[ek,El,e0,if_pos h2]
   have f:=CV hltr he (by rw[e];exact h2)
   rw[if_pos (by rw[f,e];exact h2),f,e]
  refine AY ?_
  refine AN (fun h3=>?_) (fun h3=>?_)
  ·refine AY ?_
   refine Al (.of_eq ?_)
   have e:El s (List.range s.length)[k]=13:=by rw[ek,El,e0,if_neg (by simp[h2]),if_pos h3]
   have f:=CV hltr he (by rw[e];decide)
   rw[if_pos (by rw[f,e];decide),f,e]
  refine AY ?_
  refine Aw (fun hp=>?_) (fun hp=>?_)
  ·have hp':0 < (k:Int):=An hp
   refine Bp ?_
   have e1:s.getD (k - 1) Sto.zero=s[((k:Int) - 1).toNat]:=by
    have:((k:Int) - 1).toNat=k - 1:=by omega
    simp only[this]
    have h':k - 1 < s.length:=by omega
    simp[List.getD,h']
   refine A1 (fun h4=>?_) (fun h4=>?_)
   ·refine AY ?_
    refine Al (.of_eq ?_)
    have e:El s (List.range s.length)[k]=9:=by rw[ek,El,e0,e1,if_neg (by simp[h2]),if_neg (by simp[h3]),if_pos ⟨hp',h4⟩]
    have f:=CV hltr he (by rw[e];decide)
    rw[if_pos (by rw[f,e];decide),f,e]
   ·refine AY ?_
    have e:El s (List.range s.length)[k]=0:=by rw[ek,El,e0,e1,if_neg (by simp[h2]),if_neg (by simp[h3]),if_neg (fun h=>h4 h.2)]
    exact⟨k+1,⟨by omega,DT he hltr e⟩,by dsimp only;omega,⟨rfl,rfl⟩,.cons _ (.refl _)⟩
  ·have hp': ¬0 < (k:Int):=B6 hp
   refine Bp ?_
   have e:El s (List.range s.length)[k]=0:=by rw[ek,El,e0,if_neg (by simp[h2]),if_neg (by simp[h3]),if_neg (fun h=>hp' h.1)]
   exact⟨k+1,⟨by omega,DT he hltr e⟩,by dsimp only;omega,⟨rfl,rfl⟩,.cons _ (.refl _)⟩
 have hA:Aq (El s) (List.range s.length)=0:=CN fun i h=>he i h (by simp at h;omega)
 rw[if_neg (by simp[hA])]
 clear he hA hk hc
 refine AY ?_
 refine AV (σ:=Nat) (fun k=>k≤s.length∧ ∀ i (h:i < s.length),i < k→Ck (ids s) (BX s[i].patch)=true) (fun k=>s.length - k) (fun k=> [(0,.slice (s.map eSto) t),(6,.slice ((ids s).map eDig) .ro),(7,.raw (.int .i64 k))]) (fun _=>LF) 0 ⟨by simp,by simp⟩ ⟨rfl,rfl,rfl⟩ (.refl _) ?_
 rintro k ⟨hk,he⟩
 refine AY ?_
 refine A1 (fun hc=>?_) (fun hc=>?_)
 ·have hlt:k < s.length:=by omega
  have i1:B0 (EA s[k].patch=false):=⟨hgr _ (AO hlt)⟩
  refine AY ?_
  refine AU (fun h=>?_) (fun h=>?_)
  ·refine AY ?_
   refine Al (.of_eq ?_)
   have hx:Ck (ids s) (BX s[k].patch)=false:=KG h
   have hy:s.all (fun x=>Ck (ids s) (BX x.patch))=false:=Fe hlt hx
   rw[if_pos hy]
  ·refine AY ?_
   have hx:Ck (ids s) (BX s[k].patch)=true:=me h
   have hy: ∀ i (h:i < s.length),i < k+1→Ck (ids s) (BX s[i].patch)=true:=fun i hi hik=>by
    rcases BC i k with h'|h'
    ·exact he i hi h'
    ·have e:i=k:=by omega
     subst e;exact hx
   exact⟨k+1,⟨by omega,hy⟩,by dsimp only;omega,⟨rfl,rfl,rfl⟩,.refl _⟩
 have hB:s.all (fun x=>Ck (ids s) (BX x.patch))=true:=GL fun i h=>he i h (by omega)
 rw[if_neg (by simp[hB])]
 clear he hB hk hc
 refine AY ?_
 refine A1 (fun h=>?_) (fun h=>?_)
 ·refine AY ?_
  refine Al (.of_eq ?_)
  rw[if_pos h]
 rw[if_neg h]
 refine AY ?_
 refine AV (σ:=Nat) (fun k=>k≤s.length∧ ∀ i (h:i < s.length),i < k→FP s s[i].patch s[i].id=0) (fun k=>s.length - k) (fun k=> [(0,.slice (s.map eSto) t),(8,.raw (.int .i64 k))]) (fun _=>LF) 0 ⟨by simp,by simp⟩ ⟨rfl,rfl⟩ (.refl _) ?_
 rintro k ⟨hk,he⟩
 refine AY ?_
 refine A1 (fun hc=>?_) (fun hc=>?_)
 ·have hlt:k < s.length:=by omega
  refine AY ?_
  refine AN (fun h2=>?_) (fun h2=>?_)
  ·refine AY ?_
   refine Al (.of_eq ?_)
   rw[CV (f:=fun(x:Sto)=>FP s x.patch x.id) hlt he h2]
  ·refine AY ?_
   exact⟨k+1,⟨by omega,DT (f:=fun(x:Sto)=>FP s x.patch x.id) he hlt h2⟩,by dsimp only;omega,⟨rfl,rfl⟩,.refl _⟩
 ·refine AY ?_
  refine Al (.of_eq ?_)
  rw[CN (f:=fun(x:Sto)=>FP s x.patch x.id) fun i h=>he i h (by omega)]⟩
theorem NL {s:List Sto} (h:Gp s=false):DX s:=by
 unfold Gp at h
 simp only[Bz,A8,Ew]at h
 obtain⟨⟨h1,h2⟩,_⟩:=h
 refine⟨by omega,fun x hx=>?_⟩
 have:=h1 x (by rw[AA (by omega)];exact hx)
 exact X0 (by simpa using this)
def J1 (s:List Sto) (x:Sto):List Sto:=s.takeWhile (fun y=>decide (DY y.id x.id < 0))++x::s.dropWhile (fun y=>decide (DY y.id x.id < 0))
theorem XC {α:Type} {q:α→Bool}: ∀ {l:List α} {k:Nat},k≤l.length→(∀ i (h:i < l.length),i < k→q l[i]=true)→(∀ h:k < l.length,q l[k]=false)→l.takeWhile q=l.take k∧l.dropWhile q=l.drop k
 | [],k,hk,_,_=>by simp
 |x::l,0,_,_,h=>by
  have:=h (by simp)
  simp only[B8]at this
  simp[this]
 |x::l,k+1,hk,h1,h2=>by
  have h0:=h1 0 (by simp) (by omega)
  simp only[B8]at h0
  have ih:=XC (l:=l) (k:=k) (q:=q) (by simpa using hk) (fun i h hi=>by have:=h1 (i+1) (by simpa using h) (by omega);simpa using this) (fun h=>by have:=h2 (by simpa using h);simpa using this)
  simp[h0,ih.1,ih.2]
instance xO (s:List Sto) (x:Sto) (t:CZ) [hs:B0 (s.length≤1000)]:Bj Tryz.prog 138 [.slice (s.map eSto) t,.agg (eSto x)] (.slice ((J1 s x).map eSto) .ro):=⟨by
 have hlen:=hs.out
 refine Aj Tryz.func138 Tryz.ntmps138 rfl (rs:= [.tmp 4]) rfl rfl fun hb LF=>?_
 refine Cx fun b=>?_
 refine AV (σ:=Nat) (fun k=>k≤s.length∧ ∀ i (h:i < s.length),i < k→decide (DY s[i].id x.id < 0)=true) (fun k=>s.length - k) (fun k=> [(0,.slice (s.map eSto) t),(3,.raw (.pointer (some ⟨b,0,none⟩))),(5,.raw (.int .i64 k))]) (fun _=> .box b 47 (eSto x)::LF) 0 ⟨by simp,by simp⟩ ⟨rfl,rfl,rfl⟩ (.refl _) ?_
 rintro k ⟨hk,he⟩
 have fin:(∀ h:k < s.length,decide (DY s[k].id x.id < 0)=false)→J1 s x=s.take k++ [x]++s.drop k:=fun hn=>by
  obtain⟨e1,e2⟩:=XC (q:=fun(y:Sto)=>decide (DY y.id x.id < 0)) hk he hn
  rw[J1,e1,e2];simp
 refine AY ?_
 refine BB [(21,.raw (.bool (decide ((k:Int) < s.length∧DY (s.getD k Sto.zero).id x.id < 0)))),(0,.slice (s.map eSto) t),(3,.raw (.pointer (some ⟨b,0,none⟩))),(5,.raw (.int .i64 k))] (.box b 47 (eSto x)::LF) ?_ ?_
 ·repeat' (first|(refine A1 (fun h=>?_) (fun h=>?_)<;>refine AY ?_)|(refine AN (fun h=>?_) (fun h=>?_)<;>refine AY ?_)|(refine AU (fun h=>?_) (fun h=>?_)<;>refine AY ?_)|(refine Aw (fun h=>?_) (fun h=>?_)<;>(have h2:=h;(try simp only[AJ,A8,AQ,AR]at h2);refine Bp ?_)))
  all_goals (refine⟨⟨BW (by rfl) ?_,rfl,rfl,rfl⟩,.refl _⟩;first|(simp_all[List.getD];done)|grind)
 refine AY ?_
 refine A1 (fun h=>?_) (fun h=>?_)
 ·have hlt:k < s.length:=by omega
  have e0:s.getD k Sto.zero=s[k]:=by simp[List.getD,hlt]
  rw[e0]at h
  refine AY ?_
  exact⟨k+1,⟨by omega,Iu (q:=fun(y:Sto)=>decide (DY y.id x.id < 0)) he hlt (Bh h.2)⟩,by dsimp only;omega,⟨rfl,rfl,rfl⟩,.refl _⟩
 have hput:=fin (fun hlt=>by
  have e0:s.getD k Sto.zero=s[k]:=by simp[List.getD,hlt]
  rw[e0]at h
  exact Ca (fun h'=>h ⟨by omega,h'⟩))
 clear fin
 refine OG ?_
 refine de 4 [4,7] ?_ ?_
 ·decide+kernel
 refine Bp ?_
 have tl:(s.take k).length≤1000:=by rw[AG];omega
 have dl:(s.drop k).length≤1000:=by rw[Ab];omega
 refine C3 (fuel:=4) [4,5] (by decide+kernel) (by simp) fun i hi=>?_
 simp only[AI,Ar,or_false]at hi
 rcases hi with rfl|rfl
 ·refine⟨_,rfl,?_⟩
  refine Fk fun t1=>?_
  refine C3 (fuel:=3) [5] (by decide+kernel) (by simp) fun i hi=>?_
  simp only[AI,Ar,or_false]at hi
  subst hi
  refine⟨_,rfl,?_⟩
  refine Bp ?_
  refine C3 (fuel:=2) [6] (by decide+kernel) (by simp) fun i hi=>?_
  simp only[AI,Ar,or_false]at hi
  subst hi
  refine⟨_,rfl,?_⟩
  refine Bp ?_
  refine C3 (fuel:=1) [7] (by decide+kernel) (by simp) fun i hi=>?_
  simp only[AI,Ar,or_false]at hi
  subst hi
  refine⟨_,rfl,?_⟩
  refine Fk fun t2=>?_
  refine C3 (fuel:=0) [8] (by decide+kernel) (by simp) fun i hi=>?_
  simp only[AI,Ar,or_false]at hi
  subst hi
  refine⟨_,rfl,?_⟩
  refine Bp ?_
  refine C5 (by decide+kernel) ?_
  refine GX fun t3=>?_
  refine Al (.ros ?_)
  rw[hput]
 ·refine⟨_,rfl,?_⟩
  refine Bp ?_
  refine C3 (fuel:=3) [4,6] (by decide+kernel) (by simp) fun i hi=>?_
  simp only[AI,Ar,or_false]at hi
  rcases hi with rfl|rfl
  ·refine⟨_,rfl,?_⟩
   refine Fk fun t1=>?_
   refine C3 (fuel:=2) [6] (by decide+kernel) (by simp) fun i hi=>?_
   simp only[AI,Ar,or_false]at hi
   subst hi
   refine⟨_,rfl,?_⟩
   refine Bp ?_
   refine C3 (fuel:=1) [7] (by decide+kernel) (by simp) fun i hi=>?_
   simp only[AI,Ar,or_false]at hi
   subst hi
   refine⟨_,rfl,?_⟩
   refine Fk fun t2=>?_
   refine C3 (fuel:=0) [8] (by decide+kernel) (by simp) fun i hi=>?_
   simp only[AI,Ar,or_false]at hi
   subst hi
   refine⟨_,rfl,?_⟩
   refine Bp ?_
   refine C5 (by decide+kernel) ?_
   refine GX fun t3=>?_
   refine Al (.ros ?_)
   rw[hput]
  ·refine⟨_,rfl,?_⟩
   refine Bp ?_
   refine C3 (fuel:=2) [4] (by decide+kernel) (by simp) fun i hi=>?_
   simp only[AI,Ar,or_false]at hi
   subst hi
   refine⟨_,rfl,?_⟩
   refine Fk fun t1=>?_
   refine C3 (fuel:=1) [7] (by decide+kernel) (by simp) fun i hi=>?_
   simp only[AI,Ar,or_false]at hi
   subst hi
   refine⟨_,rfl,?_⟩
   refine Fk fun t2=>?_
   refine C3 (fuel:=0) [8] (by decide+kernel) (by simp) fun i hi=>?_
   simp only[AI,Ar,or_false]at hi
   subst hi
   refine⟨_,rfl,?_⟩
   refine Bp ?_
   refine C5 (by decide+kernel) ?_
   refine GX fun t3=>?_
   refine Al (.ros ?_)
   rw[hput]⟩
theorem Kx {P:Program} {ρ:Env} {L LF:List Res} {X:PV} {t u s T n b T':Nat} {cs:List PV} {x z:PV} [hT:FG P T n] (h:ρ u= .raw (.pointer (some ⟨b,0,none⟩))) (hX:Le (.tuple [x,.agg cs,z]) X) (hx:ρ t=x:=by conv=>lhs;whnf) (hz:ρ s=z:=by conv=>lhs;whnf) (hm:Res.box b T' cs∈L:=by repeat(first|exact AK|apply AD)) (hn:cs.length=n:=by simp) (hs:LF.Sublist L:=by repeat(first|exact Dh _|apply List.Sublist.cons)):
  fR P [.tmp t,.cell u T,.tmp s] (fun r L'=>Le r X∧L'= []) LF .ret ρ L:=⟨trivial,_,[],.cons (.tmp t) (.cons (.cell u T h hm hT.out hn) (.cons (.tmp s) .nil)),hs,by subst hx;subst hz;exact hX,rfl⟩
def Ic (s:List Sto) (p:Pat):List Sto × Dig × Int:=
 if(EW p).2≠0 then([],Dig.zero,(EW p).2)else
 if(getS s (EW p).1).isSome=true then(if p=(getS s (EW p).1).getD Pat.zero then([],Dig.zero,6)else([],Dig.zero,14))else
 if Ck (ids s) (BX p)=false then([],Dig.zero,19)else if FP s p (EW p).1≠0 then([],Dig.zero,FP s p (EW p).1)else
 if 400≤(s.length:Int)then([],Dig.zero,4)else(J1 s ⟨(EW p).1,p⟩,(EW p).1,0)
instance xk (s:List Sto) (p:Pat) (t:CZ) [hg:B0 (EA p=false)] [hs:B0 (DX s)]:Bj Tryz.prog 77 [.slice (s.map eSto) t,.agg (Cc p)] (.tuple [.slice ((Ic s p).1.map eSto) .ro,.agg (eDig (Ic s p).2.1),.raw (.int .i64 (Ic s p).2.2)]):=⟨by
 have i1:B0 (s.length≤1000):=⟨by have:=hs.out.1;omega⟩
 refine Aj Tryz.func77 Tryz.ntmps77 rfl (rs:= [.tmp 4,.cell 5 45,.tmp 6]) rfl rfl fun hb LF=>?_
 refine Cx fun b3=>?_
 refine Ef fun b5=>?_
 refine Ef fun b7=>?_
 refine AN (fun h1=>?_) (fun h1=>?_)
 ·refine AY ?_
  refine Kx rfl ?_
  rw[Ic,if_pos h1]
  exact .tuple3 (.ro _ _) (.refl _) (.refl _)
 rw[Ic,if_neg (by simp[h1])]
 refine Cx fun b9=>?_
 refine AU (fun h2=>?_) (fun h2=>?_)
 ·rw[if_pos h2]
  refine AY ?_
  refine A1 (fun h3=>?_) (fun h3=>?_)
  ·refine AY ?_
   refine Kx rfl ?_
   rw[if_pos h3]
   exact .tuple3 (.ro _ _) (.refl _) (.refl _)
  ·refine AY ?_
   refine Kx rfl ?_
   rw[if_neg h3]
   exact .tuple3 (.ro _ _) (.refl _) (.refl _)
 rw[if_neg (by simp[h2])]
 refine AY ?_
 refine AU (fun h3=>?_) (fun h3=>?_)
 ·refine AY ?_
  refine Kx rfl ?_
  rw[if_pos (KG h3)]
  exact .tuple3 (.ro _ _) (.refl _) (.refl _)
 rw[if_neg (Hl h3)]
 refine AY ?_
 refine AN (fun h4=>?_) (fun h4=>?_)
 ·refine AY ?_
  refine Kx rfl ?_
  rw[if_pos h4]
  exact .tuple3 (.ro _ _) (.refl _) (.refl _)
 rw[if_neg (fun h=>h h4)]
 refine AY ?_
 refine A1 (fun h5=>?_) (fun h5=>?_)
 ·have:=hs.out.1;omega
 rw[if_neg h5]
 refine OG ?_
 refine Pc [false,false,false,false,false,false,false,true,false] ?_ ?_
 ·decide+kernel
 refine Bp ?_
 refine Kx rfl ?_
 exact .refl _⟩
end Go.Proofs
namespace Go.Proofs
open Go Go.Q
theorem Dx {α:Type} {f:α→Int} {l:List α} (h:Aq f l=0): ∀ x∈l,f x=0:=by
 induction l with
 |nil=>intro x hx;cases hx
 |cons y l ih=>
  unfold Aq at h
  split at h
  ·rename_i h0
   intro x hx
   rcases AI.1 hx with rfl|hx
   ·exact h0
   ·exact ih h x hx
  ·rename_i h0;exact absurd h h0
structure Cg (s:List Sto):Prop where
 close:KN s
 id: ∀ x∈s,(EW x.patch).2=0∧(EW x.patch).1=x.id
 asc:Eo (ids s)
 order:s.length≤(Fv s).length
 refs: ∀ x∈s,FP s x.patch x.id=0
theorem IW: ∀ {l:List Dig},(∀ i (h:i+1 < l.length),Dig.lt l[i] l[i+1])→Eo l
 | [],_=> .nil
 | [x],_=>Fj _ _
 |x::y::l,h=>by
  have ih:Eo (y::l):=IW fun i hi=>by have:=h (i+1) (by simpa using hi);simpa using this
  have h0:=h 0 (by simp)
  simp only[B8,Ct]at h0
  refine Bc.2 ⟨fun z hz=>?_,ih⟩
  rcases AI.1 hz with rfl|hz
  ·exact h0
  ·exact Dig.lt_trans h0 ((Bc.1 ih).1 z hz)
theorem LB {s:List Sto} (hgood:DX s) (hc:En s=0):Cg s:=by
 have hl:=hgood.1
 unfold En at hc
 rw[if_neg (by omega)]at hc
 split at hc
 ·rename_i h0;exact absurd hc h0
 rename_i h1
 have h1:Aq (El s) (List.range s.length)=0:=Ae.1 h1
 split at hc
 ·omega
 rename_i h2
 split at hc
 ·omega
 rename_i h3
 have hall: ∀ x∈s,Ck (ids s) (BX x.patch)=true:=by
  have:s.all (fun x=>Ck (ids s) (BX x.patch))=true:=by simpa using h2
  exact fun x hx=>B5.1 this x hx
 have hchk: ∀ i (hi:i < s.length),(EW s[i].patch).2=0∧(EW s[i].patch).1=s[i].id∧(∀ h:0 < i,DY (s[i - 1]'(by omega)).id s[i].id < 0):=by
  intro i hi
  have h4:=Dx h1 i (DS.2 hi)
  have e0:s.getD i Sto.zero=s[i]:=by simp[List.getD,hi]
  unfold El at h4
  rw[e0]at h4
  split at h4
  ·rename_i h5;exact absurd h4 h5
  rename_i h5
  split at h4
  ·omega
  rename_i h6
  split at h4
  ·omega
  rename_i h7
  have h6:(EW s[i].patch).1=s[i].id:=Ae.1 h6
  refine⟨Ae.1 h5,h6,fun hp=>?_⟩
  have e1:s.getD (i - 1) Sto.zero=s[i - 1]'(by omega):=by
   have h':i - 1 < s.length:=by omega
   simp[List.getD,h']
  rw[e1,h6]at h7
  have: ¬0≤DY (s[i - 1]'(by omega)).id s[i].id:=fun h8=>h7 ⟨by omega,h8⟩
  omega
 refine⟨⟨hgood,fun x hx d hd=>?_⟩,fun x hx=>?_,?_,by omega,fun x hx=>Dx hc x hx⟩
 ·have:=B5.1 (hall x hx) d hd
  simpa using this
 ·obtain⟨i,hi,rfl⟩:=Ak.1 hx
  exact⟨(hchk i hi).1,(hchk i hi).2.1⟩
 ·refine IW fun i hi=>?_
  rw[E6]at hi
  have:=(hchk (i+1) hi).2.2 (by omega)
  simpa [ids,Dig.lt]using this
def MW (s:List Sto) (out:List Dig):Prop:= ∀ k (h:k < out.length),∃ x∈s,x.id=out[k]∧(∀ d∈BX x.patch,d∈out.take k)∧out[k]∉out.take k
theorem Sa {s:List Sto} {out:List Dig}: ∀ (n:Nat),n≤s.length→0≤(List.range n).foldl (GQ s out) (-1)→
  ∃ x∈s,s.getD ((List.range n).foldl (GQ s out) (-1)).toNat Sto.zero=x∧ ¬x.id∈out∧Ck out (BX x.patch)=true
 |0,_,h=>by simp at h
 |n+1,hn,h=>by
  rw[Bm]at h ⊢
  generalize hk:(List.range n).foldl (GQ s out) (-1)=k at h ⊢
  unfold GQ at h ⊢
  split at h
  ·rename_i hc
   rw[if_pos hc]
   have e:s.getD n Sto.zero=s[n]:=by simp[List.getD,show n < s.length by omega]
   rw[e]at hc
   exact⟨s[n],AO _,by simpa using e,hc.1⟩
  ·rename_i hc
   rw[if_neg hc]
   have:=Sa (s:=s) (out:=out) n (by omega) (by rw[hk];exact h)
   rw[hk]at this;exact this
theorem PY {s:List Sto}: ∀ (n:Nat) (out:List Dig),MW s out→MW s (NA s n out)
 |0,_,h=>h
 |n+1,out,h=>by
  unfold NA
  split
  ·exact h
  ·rename_i hp
   refine PY n _ ?_
   obtain⟨x,hx,e,h1,h2⟩:=Sa (s:=s) (out:=out) s.length (B4 _) (by unfold Kf at hp;omega)
   have e':s.getD (Kf s out).toNat Sto.zero=x:=e
   rw[e']
   intro k hk
   rw[A7,CQ]at hk
   by_cases hko:k < out.length
   ·obtain⟨y,hy,q1,q2,q3⟩:=h k hko
    refine⟨y,hy,by rw[Bf hko];exact q1,?_,?_⟩
    ·rw[FX (by omega)];exact q2
    ·rw[Bf hko,FX (by omega)];exact q3
   ·have hke:k=out.length:=by omega
    subst hke
    refine⟨x,hx,by simp,?_,?_⟩
    ·intro d hd
     have:=B5.1 h2 d hd
     simpa using this
    ·simpa using h1
theorem MW.nodup {s:List Sto} {out:List Dig} (h:MW s out):out.Nodup:=by
 refine BQ.2 fun i j hi hj hij e=>?_
 obtain⟨_,_,_,_,h3⟩:=h j hj
 exact h3 (e ▸ EI.2 ⟨i,by omega,rfl⟩)
theorem eN {s:List Sto} (h:Eo (ids s)):(ids s).Nodup:=h.nodup
theorem Od {s:List Sto} (h:Eo (ids s)) {x y:Sto} (hx:x∈s) (hy:y∈s) (e:x.id=y.id):x=y:=by
 obtain⟨i,hi,rfl⟩:=Ak.1 hx
 obtain⟨j,hj,rfl⟩:=Ak.1 hy
 have hn:=eN h
 have hi':i < (ids s).length:=by rw[E6];exact hi
 have hj':j < (ids s).length:=by rw[E6];exact hj
 have:(ids s)[i]=(ids s)[j]:=by simpa [ids]using e
 have hp:=BQ.1 hn
 rcases Fi i j with hij|hij|hij
 ·exact absurd this (hp i j hi' hj' hij)
 ·subst hij;rfl
 ·exact absurd this.symm (hp j i hj' hi' hij)
theorem MW.sub {s:List Sto} {out:List Dig} (h:MW s out): ∀ d∈out,d∈ids s:=fun d hd=>by
 obtain⟨k,hk,rfl⟩:=Ak.1 hd
 obtain⟨x,hx,e,_⟩:=h k hk
 exact AX.2 ⟨x,hx,e⟩
theorem KC (s:List Sto):MW s (Fv s):=PY _ _ (fun k hk=>absurd hk (FC _))
theorem Cg.mem_order {s:List Sto} (v:Cg s) {d:Dig} (hd:d∈ids s):d∈Fv s:=by
 by_cases h:d∈Fv s
 ·exact h
 ·have hn:(d::Fv s).Nodup:=CP.2 ⟨h,(KC s).nodup⟩
  have:=FJ hn (m:=ids s) fun y hy=>by
   rcases AI.1 hy with rfl|hy
   ·exact hd
   ·exact(KC s).sub y hy
  have h2:=v.order
  rw[E6]at this
  simp only[AH]at this
  omega
theorem YS {l:List Dig} {i:Nat} (h:i < l.length):l.idxOf l[i]≤i:=by
 induction l generalizing i with
 |nil=>simp at h
 |cons x l ih=>
  cases i with
  |zero=>simp
  |succ i=>
   simp only[Ct,List.idxOf_cons]
   have:=ih (by simpa using h)
   cases hb:(x==l[i]'(by simpa using h))with
   |true=>simp
   |false=>simp;omega
def N4 (s:List Sto) (d:Dig):Nat:=(Fv s).idxOf d
theorem Cg.rank {s:List Sto} (v:Cg s) {x:Sto} (hx:x∈s) {d:Dig} (hd:d∈BX x.patch):N4 s d < N4 s x.id:=by
 have hm:=v.mem_order (AX.2 ⟨x,hx,rfl⟩)
 have hk:(Fv s).idxOf x.id < (Fv s).length:=List.idxOf_lt_length_of_mem hm
 obtain⟨y,hy,e,h1,_⟩:=KC s _ hk
 rw[List.getElem_idxOf]at e
 have:=Od v.asc hy hx e
 subst this
 obtain⟨i,hi,rfl⟩:=EI.1 (h1 d hd)
 have h2:=YS (l:=Fv s) (i:=i) (by omega)
 unfold N4
 omega
theorem Cg.getS {s:List Sto} (v:Cg s) {x:Sto} (hx:x∈s):getS s x.id=some x.patch:=by
 cases hg:Go.Proofs.getS s x.id with
 |none=>
  exfalso
  have: ∀ (l:List Sto),x∈l→Go.Proofs.getS l x.id≠none:=by
   intro l
   induction l with
   |nil=>intro h;cases h
   |cons y l ih=>
    intro h
    unfold Go.Proofs.getS
    split
    ·simp
    ·rename_i hne
     rcases AI.1 h with rfl|h
     ·exact absurd rfl hne
     ·exact ih h
  exact this s hx hg
 |some p=>
  obtain⟨y,hy,e,rfl⟩:=KL hg
  rw[Od v.asc hy hx e]
theorem Cg.ndS {s:List Sto} (v:Cg s) {x:Sto} (hx:x∈s):ndS s x.id=BX x.patch:=by
 unfold Go.Proofs.ndS;rw[v.getS hx];rfl
theorem Cg.mem_clo {s:List Sto} (v:Cg s) {p:Dig} (hp:p∈ids s) (d:Dig):d∈nU s p↔Q.Reach (Go.Proofs.ndS s) [p] d:=by
 have ha:Ck (ids s) [p]=true:=by simp[Ck,hp]
 unfold nU Df
 rw[if_neg (by simp[ha])]
 exact Qm (U:=ids s) (fun x _ d hd=>v.close.nd x d hd) (fun d hd=>by rw[B9.1 hd];exact hp) (Dd (E6 s))
attribute [local irreducible] EB AW B2 FW MV
theorem da (c:Chg) (first:Int): ∀ j (h:j < (EJ c first).length),((EJ c first)[j]).id=⟨Dig.zero,first+j⟩:=by
 intro j h
 have key:(∃ x:Atm,EJ c first= [x]∧x.id=⟨Dig.zero,first⟩)∨EJ c first=(List.range c.lines.length).map (FU c first)++(List.range (c.lines.length+1)).map (Eh c first):=by
  unfold EJ
  repeat' split
  all_goals first|exact .inl ⟨_,rfl,rfl⟩|exact .inr rfl
 rcases key with ⟨x,e,hx⟩|e
 ·have hj:j=0:=by rw[e]at h;simpa using h
  subst hj
  simp only[e,B8,hx]
  simp
 ·have h2:=h
  simp only[e]at h2 ⊢
  rw[List.getElem_append]
  split
  ·simp[FU]
  ·rename_i h3
   simp only[AF,Gu]at h3
   simp only[BT,DW,Eh,AF,Gu]
   congr 1
   omega
theorem Oy {own:List Atm} (c:Chg) (h:Mj own):Mj (own++EJ c own.length):=by
 intro i hi
 rw[List.getElem_append]
 split
 ·exact h i _
 ·rename_i h3
  rw[da]
  congr 1
  omega
theorem Lv {c:Chg} (h:C0 c=0):1≤c.kind∧c.kind≤7:=by
 unfold C0 at h
 split at h
 ·omega
 ·omega
theorem Xu {l:List Dig} (h:JN l=0): ∀ d∈l,d≠Dig.zero:=by
 intro d hd e
 unfold JN at h
 split at h
 ·omega
 obtain⟨i,hi,rfl⟩:=Ak.1 hd
 have h0:=Dx h i (by simpa using hi)
 rw[HT,if_pos (by simp[List.getD,hi,e])]at h0
 omega
def Kh (p:Pat):List Atm × Str × Int:=if(Cv p).2≠0 then([],[],(Cv p).2)else if 65536 < ((Mn p).length:Int)then([],[],4)else((Cv p).1,Mn p,0)
theorem Ly {p:Pat} (h:Ij p=0):Cv p=DP p.changes []:=by rw[Ht,if_neg (by simp[h])]
theorem SQ {p:Pat} (h:Ij p=0):JN p.deps=0:=by
 unfold Ij at h
 split at h
 ·omega
 split at h
 ·omega
 split at h
 ·omega
 split at h
 ·rename_i h4;exact absurd h h4
 ·rename_i h4;simpa using h4
def nZ (b:Nat) (s:CZ × List Atm) (LF:List Res):List Res:= .box b 199 [.slice (s.2.map eAtm) s.1]:: .tok s.1 s.2.length 172::LF
instance rl (p:Pat) [hs:B0 (EA p=false)]:Bj Tryz.prog 181 [.agg (Cc p)] (.tuple [.slice ((Kh p).1.map eAtm) .ro,.str (Kh p).2.1,.raw (.int .i64 (Kh p).2.2)]):=⟨by
 obtain⟨hg1,hg2,hg3,hg4,hg5⟩:=Hv hs.out
 refine Aj Tryz.func181 Tryz.ntmps181 rfl (rs:= [.tmp 2,.tmp 3,.tmp 4]) rfl rfl fun hb LF=>?_
 refine wf ?_
 refine AN (fun h1=>?_) (fun h1=>?_)
 ·refine wf ?_
  refine je ?_
  have e:Cv p=([],Ij p):=by rw[Ht,if_pos h1]
  have e2:Kh p=([],[],Ij p):=by rw[Kh,e,if_pos h1]
  rw[e2]
  exact .tuple3 (.ros rfl) (.refl _) (.refl _)
 have hH:=Ly h1
 refine ZO fun b6=>?_
 refine Dw 172 ?_
 refine Fy (.swap _ _ _) ?_
 refine AV (σ:=Nat × CZ × List Atm) (fun k=>k.1≤p.changes.length∧k.2.2.length≤k.1*81∧Mj k.2.2∧(∀ c∈p.changes.take k.1,1≤c.kind∧c.kind≤7)∧Cv p=DP (p.changes.drop k.1) k.2.2) (fun k=>p.changes.length - k.1) (fun k=> [(1,.pt (Cc p) 0),(6,.raw (.pointer (some ⟨b6,0,none⟩))),(20,.slice (p.changes.map BG) .ro),(21,.raw (.int .i64 p.changes.length)),(22,.raw (.int .i64 k.1))]) (fun k=>nZ b6 k.2 LF) (0,.nil,[]) ⟨by simp,by simp,fun i h=>absurd h (by simp),by simp,hH⟩ ⟨rfl,rfl,rfl,rfl,rfl⟩ (.refl _) ?_
 rintro⟨k,v,own⟩ ⟨hk,hlen,hid,hkd,he⟩
 dsimp only at hk hlen hid hkd he
 rw[show nZ b6 (k,v,own).2 LF= .box b6 199 [.slice (own.map eAtm) v]:: .tok v own.length 172::LF from rfl]
 refine wf ?_
 refine A1 (fun hc=>?_) (fun hc=>?_)
 ·have hlt:k < p.changes.length:=by omega
  rw[Kq hlt]at he
  refine wz fun b8=>?_
  refine Ag 8 ?_
  refine wf ?_
  refine AN (fun h2=>?_) (fun h2=>?_)
  ·refine wf ?_
   rw[if_pos h2]at he
   have e2:Kh p=([],[],C0 p.changes[k]):=by rw[Kh,he,if_pos h2]
   refine je ?_
   rw[e2]
   exact .tuple3 (.ros rfl) (.refl _) (.refl _)
  rw[if_neg (by simp[h2])]at he
  have hll:p.changes[k].lines.length≤2000:=JF h2
  have hkk:1≤p.changes[k].kind∧p.changes[k].kind≤7:=Lv h2
  have hmm:=LK p.changes[k] own.length
  have hl40:=(hg5 _ (AO hlt)).lines
  have i1:B0 (C0 p.changes[k]=0∧own.length≤100000∧Mj own):=⟨h2,by omega,hid⟩
  refine wf ?_
  refine AN (fun h3=>?_) (fun h3=>?_)
  ·refine wf ?_
   rw[if_pos h3]at he
   have e2:Kh p=([],[],FT p.changes[k] own):=by rw[Kh,he,if_pos h3]
   refine je ?_
   rw[e2]
   exact .tuple3 (.ros rfl) (.refl _) (.refl _)
  rw[if_neg (by simp[h3])]at he
  refine wf ?_
  refine HX (Ug p.changes[k] own.length hkk ⟨hll,by omega,by omega⟩) [41] (σ:=CZ × List Atm) (fun pre s=>s.2=own++pre) (fun _ _=>False) (fun s LF'=>nZ b6 s LF') (v,own) LF ?_ rfl (fun _=>rfl) (by simp) (fun _ _=>rfl) (.refl _) (by simp) ?_ ?_ (fun _ _ h=>h.elim)
  ·exact .refl _
  ·rintro pre x ⟨v1,own1⟩ LF' hpre hI
   dsimp only at hI
   have hpl:=hpre.length_le
   have hol:own1.length≤90000:=by
    rw[hI,A7]
    rw[A7,CQ]at hpl
    omega
   rw[show nZ b6 (v1,own1) LF'= .box b6 199 [.slice (own1.map eAtm) v1]:: .tok v1 own1.length 172::LF' from rfl]
   refine wz fun b11=>?_
   refine Ag 11 ?_
   refine QL fun v2=>?_
   exact⟨(v2,own1++ [x]),by dsimp only;rw[hI,AL],.refl _⟩
  ·rintro⟨v1,own1⟩ hI
   dsimp only at hI
   refine wf ?_
   refine⟨(k+1,v1,own1),⟨by dsimp only;omega,?_,?_,?_,?_⟩,by dsimp only;omega,⟨rfl,rfl,rfl,rfl,rfl⟩,.refl _⟩
   ·dsimp only
    rw[hI,A7];omega
   ·dsimp only
    rw[hI];exact Oy _ hid
   ·dsimp only
    intro c hcm
    rw[A6 hlt]at hcm
    rcases Ay.1 hcm with h|h
    ·exact hkd c h
    ·rw[B9.1 h];exact hkk
   ·dsimp only
    rw[hI];exact he
 have hkk:k=p.changes.length:=by omega
 rw[CY (by omega)]at he
 rw[AA (by omega)]at hkd
 have he':Cv p=(own,0):=he
 have i1:B0 (ae p):=⟨⟨NP hs.out,Xu (SQ h1),hkd⟩⟩
 refine wf ?_
 have h0: ¬(Cv p).2≠0:=by rw[he'];simp
 refine A1 (fun h=>?_) (fun h=>?_)
 ·refine wf ?_
  have e2:Kh p=([],[],4):=by rw[Kh,if_neg h0,if_pos h]
  refine je ?_
  rw[e2]
  exact .tuple3 (.ros rfl) (.refl _) (.refl _)
 ·refine wf ?_
  have e2:Kh p=(own,Mn p,0):=by rw[Kh,if_neg h0,if_neg h,he']
  refine je ?_
  rw[e2]
  exact .tuple3 (.ros rfl) (.refl _) (.refl _)⟩
end Go.Proofs
namespace Go.Proofs
open Go Go.Q
attribute [local irreducible] EB AW B2 FW
theorem Vo (p:Pat):(Kh p).2.2=(Cj p).2:=by
 unfold Kh Cj Jo
 split
 ·rfl
 ·split<;>rfl
theorem lu (p:Pat):(Kh p).2.1=(Cj p).1:=by
 unfold Kh Cj Jo
 split
 ·rfl
 ·split<;>rfl
instance sU (p:Pat) [hs:B0 (EA p=false)]:Bj Tryz.prog 161 [.agg (Cc p)] (.raw (.int .i64 (Cj p).2)):=⟨by
 refine Aj Tryz.func161 Tryz.ntmps161 rfl (rs:= [.tmp 2]) rfl rfl fun hb LF=>?_
 refine wf ?_
 refine Al (.of_eq ?_)
 rw[←Vo]⟩
instance py (p:Pat) [hs:B0 (EA p=false)]:Bj Tryz.prog 142 [.agg (Cc p)] (.tuple [.str (Cj p).1,.raw (.int .i64 (Cj p).2)]):=⟨by
 refine Aj Tryz.func142 Tryz.ntmps142 rfl (rs:= [.tmp 2,.tmp 3]) rfl rfl fun hb LF=>?_
 refine wf ?_
 refine Ei ?_
 rw[←Vo,←lu]
 exact .refl _⟩
def vDig (d:Dig):List Value:=Mu d.bs
instance :O7 eDig vDig:=⟨fun d=>by simp[eDig,vDig,Mu,eU8];intro a _;rfl,fun d x hx=>by
 obtain⟨b,_,rfl⟩:=AX.1 hx;rfl⟩
instance :VK Tryz.prog 39 45 32 32:=⟨by
 have h2:(Tryz.prog.info? 45).map (fun i=>(i.size,i.bytes,i.zero.isSome,(i.zero.getD undef).cells.size))=some (32,32,true,32):=by kernel_rfl
 obtain⟨i,hi,e⟩:=Bk.1 h2
 simp only[Prod.mk.injEq]at e
 obtain⟨e1,e2,e3,e4⟩:=e
 obtain⟨z,hz⟩:=E0.1 e3
 rw[hz]at e4
 exact⟨i,z,by kernel_rfl,hi,e1,e2,hz,e4,by decide,by decide⟩⟩
abbrev aw (v:Value) (l:List Dig) (R:List Res):Prop:=Jf vDig 45 32 v l R
theorem eh (l:List Dig) (t:CZ) (hl:l.length≤1000000):B2 Tryz.prog 162 [.slice (l.map eDig) t] [] (fun r L'=> ∃ v,r= .raw v∧aw v l L'):=by
 refine Bt Tryz.func162 rfl Tryz.ntmps162 (rs:= [.tmp 2]) rfl rfl fun hb LF=>?_
 rw[BL]
 refine wf ?_
 refine Re rfl fun b hnil=>?_
 refine wf ?_
 refine AU (fun h=>?_) (fun h=>?_)
 ·have h0:l= []:=by simpa using hnil h
  subst h0
  refine DU ?_
  refine CD (by kernel_rfl) ?_
  refine JJ ?_
  refine AE ?_
  refine wf ?_
  exact⟨trivial,_,[],.cons (.tmp 2) .nil,.refl _,_,rfl,.nil none (by simp)⟩
 refine Fx ?_
 refine DU ?_
 refine CD (by kernel_rfl) ?_
 refine Rh (vf:=vDig) fun v0 hv0=>?_
 refine wf ?_
 refine PO (f:=eDig) (R:= []) (LF:=LF) (fun R'=>R'++LF) rfl rfl hv0 (.refl _) (fun R'=> .refl _) (by simp only[Aa];omega) (by simp only[Aa];omega) fun v R' hv=>?_
 refine wf ?_
 refine wf ?_
 rw[BL]at hv
 exact⟨trivial,_,R',.cons (.tmp 2) .nil,.refl _,v,rfl,hv⟩
def uz (acc:List Dig) (x:Dig):List Dig:=if acc.getLast? =some x then acc else acc++ [x]
def Wm (l:List Dig):List Dig:=l.foldl uz []
theorem Yr (l:List Dig) (x:Dig):Wm (l++ [x])=if(Wm l).getLast? =some x then Wm l else Wm l++ [x]:=by rw[Wm,DF];rfl
theorem jj (l:List Dig):(Wm l).getLast? =l.getLast?:=by
 rcases List.eq_nil_or_concat l with rfl|⟨m,x,rfl⟩
 ·rfl
 ·rw[List.concat_eq_append,Yr]
  split
  ·rename_i h;rw[h];simp
  ·simp
theorem TQ {l:List Dig} {j:Nat} (h0:0 < j) (h:j < l.length):Wm (l.take (j+1))=if l[j]=l[j - 1]then Wm (l.take j)else Wm (l.take j)++ [l[j]]:=by
 rw[A6 h,Yr,jj]
 have:(l.take j).getLast? =some l[j - 1]:=by
  rw[List.getLast?_eq_getElem?,AG,DE (by omega),GV,if_pos (by omega)]
  simp
 rw[this]
 by_cases e:l[j]=l[j - 1]
 ·rw[if_pos (by rw[e]),if_pos e]
 ·rw[if_neg (fun h=>e (by injection h with h;exact h.symm)),if_neg e]
theorem FL (d:Dig):(vDig d).length=32:=by
 have:(eDig d).length=32:=by simp
 rw[(inferInstance:O7 eDig vDig).out]at this
 simpa using this
theorem fW: ∀ i z,Tryz.prog.info? 45=some i→i.zero=some z→ ∀ x∈z.cells,x.oneCell'=true:=by
 have h:(Tryz.prog.info? 45).map (fun i=>(i.zero.getD undef).cells.all (·.oneCell'))=some true:=by kernel_rfl
 intro i z hi hz x hx
 rw[hi]at h
 simp only[FB,hz,BO,Fh,E8]at h
 exact h x hx
theorem dD (l:List Dig) (k:Nat) (h:k≤l.length) (rest:List Value):(l.flatMap vDig++rest).take (k*32)=(l.take k).flatMap vDig:=by
 have e:(l.flatMap vDig++rest)=(l.take k).flatMap vDig++((l.drop k).flatMap vDig++rest):=by
  rw[←AL,←Ez,CB]
 rw[e]
 refine Dy ?_
 rw[NI (f:=eDig) (sz:=32),AG,DE h]
theorem ak (l:List Dig) (v:Value) (R:List Res) (hv:aw v l R) (hl:l.length≤1000000):B2 Tryz.prog 166 [.raw v] R (fun r L'=>r= .slice ((Wm l).map eDig) .ro∧L'= []):=by
 refine Bt Tryz.func166 rfl Tryz.ntmps166 (rs:= [.tmp 2]) rfl rfl fun hb LF=>?_
 have hmx: ∀ m:List Dig,m.length≤l.length→m.length≤maxN∧m.length*32≤maxN:=fun m h=>by
  have:maxN=140737488355328:=rfl
  omega
 obtain⟨o,c,rfl⟩:=hv.slice
 refine wf ?_
 refine FO rfl ?_
 refine wf ?_
 refine A1 (fun h1=>?_) (fun h1=>?_)
 ·refine DU ?_
  refine CD (by kernel_rfl) ?_
  refine Jm (by(conv=>lhs;whnf);done) ?_
  refine JJ ?_
  refine AE ?_
  have e:Wm l=l:=by
   match l,h1 with
   | [],_=>rfl
   | [x],_=>rfl
   |_::_::_,h=>simp at h;omega
  refine HY (f:=eDig) 2 hv (hmx l (B4 _)) (.refl _) rfl ?_
  refine wf ?_
  exact⟨trivial,_,[],.cons (.tmp 2) .nil,.refl _,by rw[e];exact⟨rfl,rfl⟩⟩
 have hne:l≠ []:=fun e=>by subst e;exact h1 (by simp)
 obtain⟨_,r,cur,rest,rfl,rfl,hcur,hsz,hlc⟩:=hv.inv hne
 refine wf ?_
 refine AV (σ:=Nat) (fun k=>1≤k∧k≤l.length∧Wm (l.take k)=l.take k) (fun k=>l.length - k) (fun k=> [(0,.raw (.slice (some ⟨r,0,none⟩) l.length c)),(3,.raw (.int .i64 (k:Int)))]) (fun _=> [.raw r (.cells cur 45 (0,0))]++LF) 1 ⟨by omega,by omega,?_⟩ ⟨rfl,rfl⟩ (.refl _) ?_
 ·match l,h1 with
  | [],_=>rfl
  |x::_,_=>rfl
 rintro k ⟨hk1,hk,he⟩
 refine wf ?_
 refine FO rfl ?_
 refine wf ?_
 refine A1 (fun hc=>?_) (fun hc=>?_)
 ·have hlt:k < l.length:=by omega
  refine wn ?_
  refine BR 10 ?_ ?_
  ·decide+kernel
  refine wf ?_
  refine Gn (k:=k) rfl rfl hlt ?_
  refine Nj (f:=eDig) (a0:=l[k]) rfl AK (by rw[hcur,B3];exact Oh FL l k hlt rest) (by omega) ?_
  refine wf ?_
  refine Gn (k:=k - 1) rfl (by show PV.raw (Value.int .i64 ((k:Int) - 1))=PV.raw (Value.int .i64 ((k - 1:Nat):Int));congr 2;omega) (by omega) ?_
  refine Nj (f:=eDig) (a0:=l[k - 1]) rfl AK (by rw[hcur,B3];exact Oh FL l (k - 1) (by omega) rest) (by omega) ?_
  refine wf ?_
  have hd:=TQ (l:=l) (j:=k) (by omega) hlt
  refine A1 (fun h2=>?_) (fun h2=>?_)
  ·rw[if_pos h2]at hd
   refine DU ?_
   refine CD (by kernel_rfl) ?_
   refine Jm (by(conv=>lhs;whnf);done) ?_
   refine Jm (by(conv=>lhs;whnf);done) ?_
   refine K8 k l.length rfl (by omega) (B4 _) (by omega) hlc (fun o e=>by cases e;exact⟨_,rfl⟩) (by simp) (by simp) (fun _=>rfl) ?_
   refine wf ?_
   refine AV (σ:=Nat × Nat × List Dig × Array Value) (fun j=>1≤j.1∧k+j.1≤l.length∧1≤j.2.1∧j.2.1+1≤k+j.1∧j.2.2.1.length=l.length∧j.2.2.1.take j.2.1=Wm (l.take (k+j.1))∧(∀ i,k+j.1≤i+1→j.2.2.1[i]? =l[i]?)∧j.2.2.2.toList=j.2.2.1.flatMap vDig++rest∧j.2.2.2.size=c*32) (fun j=>l.length - k - j.1) (fun j=> [(0,.raw (.slice (some ⟨r,0,none⟩) l.length c)),(3,.raw (.int .i64 (j.2.1:Int))),(4,.raw (.slice (some ⟨r,0+k*32,none⟩) (l.length - k) (c - k))),(5,.raw (.int .i64 (j.1:Int)))]) (fun j=> [.raw r (.cells j.2.2.2 45 (0,0))]++LF) (1,k,l,cur) ⟨by omega,by dsimp only;omega,by dsimp only;omega,by dsimp only;omega,rfl,by dsimp only;rw[hd,he],fun _ _=>rfl,hcur,hsz⟩ ⟨rfl,rfl,rfl,rfl⟩ (.refl _) ?_
   rintro⟨k2,kk,l1,cur1⟩ ⟨i1,i2,i3,i4,i5,i6,i7,i8,i9⟩
   dsimp only at i1 i2 i3 i4 i5 i6 i7 i8 i9 ⊢
   refine wf ?_
   refine FO rfl ?_
   refine wf ?_
   refine A1 (fun hc2=>?_) (fun hc2=>?_)
   ·have hlt2:k+k2 < l.length:=by omega
    have g1:l1[k+k2]'(by omega)=l[k+k2]:=by
     have:=i7 (k+k2) (by omega)
     rw[AZ (by omega),AZ hlt2]at this
     exact CF this
    have g2:l1[k+(k2 - 1)]'(by omega)=l[k+k2 - 1]:=by
     have:=i7 (k+(k2 - 1)) (by omega)
     rw[AZ (by omega),AZ (by omega)]at this
     have e:=CF this
     rw[e]
     congr 1
     omega
    have hd2:=TQ (l:=l) (j:=k+k2) (by omega) hlt2
    refine wn ?_
    refine BR 10 ?_ ?_
    ·decide+kernel
    refine wf ?_
    refine Gn (k:=k2) rfl rfl (by omega) ?_
    refine Nj (f:=eDig) (a0:=l[k+k2]) rfl AK (by rw[i8,show 0+k*32+k2*32=(k+k2)*32 by omega,Oh FL l1 (k+k2) (by omega) rest,g1]) (by omega) ?_
    refine wf ?_
    refine Gn (k:=k2 - 1) rfl (by show PV.raw (Value.int .i64 ((k2:Int) - 1))=PV.raw (Value.int .i64 ((k2 - 1:Nat):Int));congr 2;omega) (by omega) ?_
    refine Nj (f:=eDig) (a0:=l[k+k2 - 1]) rfl AK (by rw[i8,show 0+k*32+(k2 - 1)*32=(k+(k2 - 1))*32 by omega,Oh FL l1 (k+(k2 - 1)) (by omega) rest,g2]) (by omega) ?_
    refine wf ?_
    refine AN (fun h3=>?_) (fun h3=>?_)
    ·rw[if_neg h3]at hd2
     refine wf ?_
     refine Gn (k:=k2) rfl rfl (by omega) ?_
     refine Nj (f:=eDig) (a0:=l[k+k2]) rfl AK (by rw[i8,show 0+k*32+k2*32=(k+k2)*32 by omega,Oh FL l1 (k+k2) (by omega) rest,g1]) (by omega) ?_
     refine wf ?_
     refine Gn (k:=kk) rfl rfl (by omega) ?_
     refine lY (f:=eDig) (a0:=l[k+k2]) (E:=45) (cur:=cur1) (L':=LF) (fun x=> [x]++LF) rfl rfl (FL _) (by omega) (.refl _) (fun _=> .refl _) ?_
     refine wf ?_
     refine wf ?_
     have hset:(l1.set kk l[k+k2]).take (kk+1)=l1.take kk++ [l[k+k2]]:=by
      rw[A6 (by simp;omega)]
      congr 1
      ·rw[ZE (by omega)]
      ·simp
     have hcl:(cur1.toList.take (0+kk*32)++vDig l[k+k2]++cur1.toList.drop (0+kk*32+32))=(l1.set kk l[k+k2]).flatMap vDig++rest:=by
      rw[i8,B3];exact Yd FL l1 kk (by omega) _ rest
     refine⟨(k2+1,kk+1,l1.set kk l[k+k2],(cur1.toList.take (0+kk*32)++vDig l[k+k2]++cur1.toList.drop (0+kk*32+32)).toArray),⟨by dsimp only;omega,by dsimp only;omega,by dsimp only;omega,by dsimp only;omega,by dsimp only;rw[CG];exact i5,by dsimp only;rw[hset,i6,←E3,hd2],fun i hi=>?_,hcl,?_⟩,by dsimp only;omega,⟨rfl,rfl,rfl,rfl⟩,.refl _⟩
     ·dsimp only at hi ⊢
      rw[Mr (by omega)]
      exact i7 i (by omega)
     ·dsimp only
      have hv32:=FL l[k+k2]
      simp only[BJ,A7,AG,Ab,C8,hv32]
      omega
    ·rw[if_pos h3]at hd2
     refine wf ?_
     refine⟨(k2+1,kk,l1,cur1),⟨by dsimp only;omega,by dsimp only;omega,i3,by dsimp only;omega,i5,by dsimp only;rw[i6,←E3,hd2],fun i hi=>i7 i (by dsimp only at hi;omega),i8,i9⟩,by dsimp only;omega,⟨rfl,rfl,rfl,rfl⟩,.refl _⟩
   have hkk:k+k2=l.length:=by omega
   rw[hkk,AA (B4 _)]at i6
   refine wf ?_
   refine K8 kk l.length rfl (by omega) (B4 _) (by omega) hlc (fun o e=>by cases e;exact⟨_,rfl⟩) (by simp) (by simp) (fun _=>rfl) ?_
   refine Og (E:=45) (cur:=cur1) (L':=LF) fW (fun x=> [x]++LF) rfl (by omega) (by omega) (.refl _) (fun _=> .refl _) fun zs hzs=>?_
   refine AE ?_
   refine DU ?_
   refine CD (by kernel_rfl) ?_
   refine Jm (by(conv=>lhs;whnf);done) ?_
   refine Jm (by(conv=>lhs;whnf);done) ?_
   refine K8 0 kk rfl (by omega) (by omega) (by omega) hlc (by simp) (fun _=>rfl) (fun o e=>by cases e;exact⟨_,rfl⟩) (by simp) ?_
   refine JJ ?_
   refine AE ?_
   have hlk:(l1.take kk).length=kk:=by rw[AG,DE (by omega)]
   have hrow:Jf vDig 45 32 (.slice (some ⟨r,0,none⟩) (l1.take kk).length c) (l1.take kk) [.raw r (.cells (cur1.toList.take (0+kk*32)++zs++cur1.toList.drop (0+kk*32+(l.length - kk)*32)).toArray 45 (0,0))]:=by
    refine Jf.mk (rest:=zs++cur1.toList.drop (0+kk*32+(l.length - kk)*32)) FL ?_ ?_ (by rw[hlk];omega)
    ·simp only[AL]
     rw[B3,i8,dD l1 kk (by omega)]
    ·simp only[BJ,A7,AG,Ab,C8,hzs]
     omega
   refine HY (f:=eDig) 2 hrow (hmx _ (by rw[hlk];omega)) (.refl _) (by
    show PV.raw (Value.slice (some ⟨r,0+0*32,none⟩) (kk - 0) (c - 0))=_
    rw[hlk];simp) ?_
   refine wf ?_
   exact⟨trivial,_,[],.cons (.tmp 2) .nil,.refl _,by rw[←i6];exact⟨rfl,rfl⟩⟩
  ·rw[if_neg h2]at hd
   refine wf ?_
   refine⟨k+1,⟨by omega,by omega,?_⟩,by dsimp only;omega,⟨rfl,rfl⟩,.refl _⟩
   rw[hd,he,←A6 hlt]
 have hkk:k=l.length:=by omega
 rw[AA (by omega)]at he
 refine H0 ?_
 refine DU ?_
 refine CD (by kernel_rfl) ?_
 refine Jm (by(conv=>lhs;whnf);done) ?_
 refine JJ ?_
 refine AE ?_
 refine HY (f:=eDig) 2 hv (hmx l (B4 _)) (.refl _) rfl ?_
 refine wf ?_
 exact⟨trivial,_,[],.cons (.tmp 2) .nil,.refl _,by rw[he];exact⟨rfl,rfl⟩⟩
end Go.Proofs
namespace Go.Q
open Go Go.Proofs Go.Sort
theorem TD {α:Type} {k:Nat} (hk0:0 < k) {enc:α→List Value} (hk: ∀ x,(enc x).length=k): ∀ (l:List α) (t:Nat),(l.flatMap enc)[t]? =(l[t / k]?).bind fun x=>(enc x)[t % k]?
 | [],t=>by simp
 |x::l,t=>by
  rw[Cn]
  by_cases h:t < k
  ·rw[DB (by rw[hk];exact h),Nat.div_eq_of_lt h,E1 h]
   simp
  ·rw[Et (by rw[hk];omega),hk,TD hk0 hk l (t - k)]
   have e1:t / k=(t - k) / k+1:=by
    rw[Nat.div_eq_sub_div hk0 (by omega)]
   have e2:t % k=(t - k) % k:=Nat.mod_eq_sub_mod (by omega)
   rw[e1,e2]
   simp
theorem Q2 {α:Type} [Inhabited α] {k:Nat} (hk0:0 < k) {enc:α→List Value} (hk: ∀ x,(enc x).length=k) (l:List α):(flatK enc k l.toArray).toList=l.flatMap enc:=by
 refine fE fun t=>?_
 rw[TD hk0 hk]
 by_cases h:t < l.length*k
 ·have h1:t / k < l.length:=X5 (by rw[O9];exact h)
  have h2:t % k < k:=bB _ hk0
  have h3:t < (flatK enc k l.toArray).toList.length:=by simpa using h
  rw[AZ h3,AZ h1]
  simp only[HL]
  rw[AZ (by rw[hk];exact h2)]
  congr 1
  have:=get_flatK enc k l.toArray t (by simpa using h)
  simp only[Array.getElem_toList]
  rw[getElem!_pos _ t (by simpa using h)]at this
  rw[this]
  simp[h1,getElem!_pos,hk,h2]
 ·rw[Ia (by simpa using h)]
  have: ¬t / k < l.length:=fun h'=>h (by
   have:=Nat.lt_mul_of_div_lt h' hk0
   first|exact this|(rw[O9];exact this))
  rw[Ia (by omega)]
  rfl
section
variable {α:Type} [Inhabited α] {enc:α→List Value} {k:Nat} {w:World} {r:Nat} {cur:Array Value} {E:Nat}
theorem OH (h:w.heap[r]? =some (.cells cur E (0,0))) (m:Nat) (dk:Array α) (os:Array Obj):(sortWorldK enc k w r 0 m dk os).heap[r]? =some (.cells (putCells id 0 (flatK enc k dk) cur) E (0,0)):=by
 have hlt:=(BK.1 h).1
 show((w.heap.modify r (onCells (putCells id 0 (flatK enc k dk))))++os)[r]? =_
 rw[Ey (by simpa using hlt),LZ,if_pos rfl,h]
 rfl
theorem FY (m:Nat) (dk:Array α) (os:Array Obj): ∀ b,b < w.heap.size→b≠r→(sortWorldK enc k w r 0 m dk os).heap[b]? =w.heap[b]?:=fun b hb hn=>by
 show((w.heap.modify r (onCells (putCells id 0 (flatK enc k dk))))++os)[b]? =_
 rw[Ey (by simpa using hb),LZ,if_neg (Ne.symm hn)]
theorem Mz (m:Nat) (dk:Array α) (os:Array Obj):w.heap.size≤(sortWorldK enc k w r 0 m dk os).heap.size:=by
 show _≤((w.heap.modify r (onCells (putCells id 0 (flatK enc k dk))))++os).size
 simp
theorem OU (F:Array Value) (h:F.size≤cur.size):(putCells id 0 F cur).toList.take F.size=F.toList:=by
 refine GK (by simp[putCells];omega) fun j h1 h2=>?_
 have hj:j < F.size:=by simpa using h2
 simp[putCells,hj]
end
theorem DM.laterBut {w w':World} {g:Gh} {L:List Res} {r:Nat} (hi:DM w g L) (hH: ∀ o,g.H r o=none) (hM:g.M r=none) (hr:r∉Ao L) (hk: ∀ k,k < w.heap.size→k≠r→w'.heap[k]? =w.heap[k]?):DM w' g L:=by
 refine⟨fun b i v h=>?_,fun b z h=>(hi.satM b z h).congr (hk b (hi.satM b z h).lt (fun e=>by rw[e,hM]at h;cases h)),fun r' hr'=>?_,hi.nodup,hi.glob⟩
 ·have h0:=hi.sat b i v h
  have hb:b < w.heap.size:=by
   rcases BC b w.heap.size with h'|h'
   ·exact h'
   ·simp[World.cell?,Bl h']at h0
  simp only[World.cell?]at h0 ⊢
  rw[hk b hb (fun e=>by rw[e,hH]at h;cases h)];exact h0
 ·exact Res.holds_kept (.refl g) (hi.res r' hr') fun b hb=>⟨hk b (hi.lt (Bo.2 ⟨r',hr',hb⟩)) (fun e=>hr (Bo.2 ⟨r',hr',by rw[hb,e]⟩)),fun _=>rfl,rfl⟩
theorem YW {w w':World} (h1:w'.os=w.os) (h2:w'.tape=w.tape) (h3:w'.output=w.output) (h4:w.drawn≤w'.drawn) (h5:w.heap.size≤w'.heap.size) (hk: ∀ k,k < w.heap.size→w'.heap[k]? =w.heap[k]?): ∃ q os,w'=grow (w.drewN q) os:=by
 refine⟨w'.drawn - w.drawn,w'.heap.extract w.heap.size w'.heap.size,?_⟩
 have hh:w'.heap=w.heap++w'.heap.extract w.heap.size w'.heap.size:=by
  refine Array.ext_getElem? fun i=>?_
  by_cases hi:i < w.heap.size
  ·rw[Ey hi,hk i hi]
  ·rw[Array.getElem?_append_right (by omega)]
   by_cases h6:i < w'.heap.size
   ·rw[Cf h6,Cf (by simp;omega)]
    simp
    congr 1
    omega
   ·rw[Bl (by omega),Bl (by simp;omega)]
 have hd:w'.drawn=w.drawn+(w'.drawn - w.drawn):=by omega
 obtain⟨⟩:=w'
 obtain⟨⟩:=w
 simp only at h1 h2 h3 hh hd
 subst h1 h2 h3
 simp only[grow,World.drewN]
 rw[←hh,←hd]
end Go.Q
namespace Go.Proofs
open Go Go.Q Go.Shelf Go.Sort
attribute [local irreducible] EB AW FW
instance :Inhabited Dig:=⟨Dig.zero⟩
theorem xM:SWO (ltOf DY) where
 irrefl x:=by
  unfold ltOf
  exact Ca (fun h=>Dig.lt_irrefl x h)
 trans x y z h1 h2:=by
  unfold ltOf at*
  exact Bh (Dig.lt_trans (An h1) (An h2))
 ntrans x y z h1 h2:=by
  unfold ltOf at*
  refine Ca fun h=>?_
  have h1:=B6 h1
  have h2:=B6 h2
  rcases Dig.tri x y with h'|h'|h'
  ·exact h1 h'
  ·subst h';exact h2 h
  ·rcases Dig.tri y z with h3|h3|h3
   ·exact h2 h3
   ·subst h3;exact h1 h
   ·exact Dig.lt_irrefl x (Dig.lt_trans h (Dig.lt_trans h3 h'))
def sortD (l:List Dig):List Dig:=l.mergeSort fun x y=>!(ltOf DY) y x
theorem jk {w:World} {g:Gh} {r n E:Nat} {cur:Array Value} (hi:DM w g []) (h1:w.heap[r]? =some (.cells cur E (0,0))) (h2: ∀ o,g.H r o=none) (h3:g.M r=none):CmpLays Tryz.prog 84 #[] vDig 32 DY r 0 n w:=by
 intro m os dk hdk x y
 have hI:DM (sortWorldK vDig 32 w r 0 m dk os) g []:=hi.laterBut h2 h3 (by simp[Ao]) (fun k hk hn=>FY m dk os k hk hn)
 have hv:E5 g [.agg (vDig x).toArray,.agg (vDig y).toArray] [.agg (eDig x),.agg (eDig y)]:=by
  have e: ∀ d:Dig,VR g (.agg (vDig d).toArray) (.agg (eDig d)):=fun d=>by
   rw[(inferInstance:O7 eDig vDig).out]
   have:E5 g (vDig d) ((vDig d).map PV.raw):=⟨by simp,fun i h1 h2=>by simp;exact .raw _⟩
   exact this.agg
  exact .cons (e x) (.cons (e y) (.nil g))
 have:=(YA x y).out _ (sortWorldK vDig 32 w r 0 m dk os) g [] hv hI
 refine Calls.mono this ?_
 rintro e w' ⟨v,x',g',L',rfl,k1,k2,k3,k4,rfl,rfl⟩
 refine⟨by rw[k1.raw_inv],?_⟩
 exact YW k3.os k3.tape k3.output.1 k3.output.2 k3.size (fun k hk=>k3.keep k hk (by simp[Ao]))
theorem bL (l:List Dig) (v:Value) (R:List Res) (hv:aw v l R) (hl:l.length≤1000000):B2 Tryz.prog 165 [.raw v,.raw (.func (.func 84) #[] #[])] R (fun _ L'=> ∃ v',v'=v∧aw v' (sortD l) L'):=fun vs w g LF hvs hi=>by
 obtain⟨v1,v2,rfl⟩: ∃ a b,vs= [a,b]:=by
  have:=hvs.len
  match vs,this with
  | [a,b],_=>exact⟨a,b,rfl⟩
 rw[hvs.uncons.1.raw_inv,hvs.uncons.2.uncons.1.raw_inv]
 obtain⟨o,c,rfl⟩:=hv.slice
 by_cases hne:l= []
 ·subst hne
  refine(AnyF.slices_SortFunc_none Tryz.sortD o c _ w).mono ?_
  rintro e w' ⟨rfl,rfl⟩
  exact⟨_,.raw (.tuple #[]),g,R,rfl,.raw _,hi,.refl _ _ _,.refl _ _,_,rfl,by simpa [sortD]using hv⟩
 obtain⟨_,r,cur,rest,rfl,rfl,hcur,hsz,hlc⟩:=hv.inv hne
 obtain⟨k1,k2,k3,k4,k5⟩:=hi.rawHead
 have hlt:r < w.heap.size:=(BK.1 k1).1
 have hF:(flatK vDig 32 l.toArray).toList=l.flatMap vDig:=Q2 (by decide) FL l
 have hH:HoldsK vDig 32 w r 0 l.toArray:=fun j hj=>by
  have hj2:j < l.length*32:=by simpa using hj
  refine⟨?_,by simp[World.frozen?,k1]⟩
  have hj3:j < cur.size:=by omega
  simp only[World.cell?,k1,BZ,BP,if_false,B3]
  rw[getElem!_pos _ j hj]
  have e1:cur.toList[j]? =(flatK vDig 32 l.toArray).toList[j]?:=by
   rw[hcur,hF,DB (by rw[NI (f:=eDig) (sz:=32)];exact hj2)]
  rw[LY,LY,Cf hj]at e1
  exact e1
 refine(AnyQ.slices_SortFunc_total Tryz.sortD 32 (fun w=>?_) (fun w=>EG.run (inferInstance:EG Tryz.prog 45 32 32) w) vDig FL (fun x v h=>(inferInstance:O7 eDig vDig).one x v h) DY xM 84 #[] r 0 c l.toArray w (fun args w=>(inferInstance:Av Tryz.prog 84).out args w) (jk (hi.sub (List.nil_sublist _)) k1 k2 k3) hH hlt (by simp;omega) ?_).mono ?_
 ·have hu:Tryz.prog.underlying 45=some (.array 32 5):=by kernel_rfl
  show(isAgg 45).run Tryz.prog w=_
  simp[isAgg,run_underlying hu]
 ·intro x y h1 h2
  unfold ltOf at h1 h2
  have h1:=B6 h1
  have h2:=B6 h2
  rcases Dig.tri x y with h'|h'|h'
  ·exact absurd h' h1
  ·exact h'
  ·exact absurd h' h2
 ·rintro e w' ⟨rfl,n,os,rfl⟩
  have hlen:(sortD l).length=l.length:=IZ _
  have hFs:(flatK vDig 32 (sortD l).toArray).toList=(sortD l).flatMap vDig:=Q2 (by decide) FL (sortD l)
  have hFz:(flatK vDig 32 (sortD l).toArray).size=l.length*32:=by simp[hlen]
  have htk:=OU (cur:=cur) (flatK vDig 32 (sortD l).toArray) (by omega)
  have hrow:Jf vDig 45 32 (.slice (some ⟨r,0,none⟩) (sortD l).length c) (sortD l) [.raw r (.cells (putCells id 0 (flatK vDig 32 (sortD l).toArray) cur) 45 (0,0))]:=by
   refine Jf.mk (rest:=(putCells id 0 (flatK vDig 32 (sortD l).toArray) cur).toList.drop (l.length*32)) FL ?_ (by simp[putCells,hsz]) (by omega)
   rw[←hFs,←htk,hFz,CB]
  rw[hlen]at hrow
  refine⟨_,.raw (.tuple #[]),g,[.raw r (.cells (putCells id 0 (flatK vDig 32 (sortD l).toArray) cur) 45 (0,0))],rfl,.raw _,?_,⟨rfl,rfl,⟨rfl,kZ _ _⟩,Mz n _ os,fun b hb hn=>FY n _ os b hb (fun e=>hn (by rw[e];simp[Ao,Res.block])),.refl g,fun _ _ _=>⟨fun _=>rfl,rfl⟩⟩,fun b hb _=>by simpa [Ao,Res.block]using hb,_,rfl,hrow⟩
  exact(k5.laterBut k2 k3 k4 (fun k hk hn=>FY n _ os k hk hn)).addRaw (OH k1 n _ os) k2 k3 k4
end Go.Proofs
namespace Go.Proofs
open Go Go.Q
attribute [local irreducible] EB AW B2 FW
def cQ (rs:List Rfc):List Dig:=(rs.filter fun r=>!decide (r.id.patch=Dig.zero)).map (·.id.patch)
theorem aa (a b:List Rfc):cQ (a++b)=cQ a++cQ b:=by simp[cQ]
theorem ja {rs:List Rfc} {j:Nat} (h:j < rs.length):cQ (rs.take (j+1))=cQ (rs.take j)++(if rs[j].id.patch=Dig.zero then []else [rs[j].id.patch]):=by
 rw[A6 h,aa]
 congr 1
 unfold cQ
 by_cases e:rs[j].id.patch=Dig.zero<;>simp[e]
def ir (p:Pat):List Dig:=p.deps++p.changes.flatMap fun c=>cQ (Eb c)
def nP (p:Pat):List Dig:=if(Cj p).2≠0 then []else Wm (sortD (ir p))
theorem dz (p:Pat) [hs:B0 (EA p=false)]:Bj Tryz.prog 115 [.agg (Cc p)] (.slice ((nP p).map eDig) .ro):=⟨by
 obtain⟨hg1,hg2,hg3,hg4,hg5⟩:=Hv hs.out
 refine Aj Tryz.func115 Tryz.ntmps115 rfl (rs:= [.tmp 2]) rfl rfl fun hb LF=>?_
 refine wf ?_
 refine AN (fun h1=>?_) (fun h1=>?_)
 ·refine wf ?_
  refine Al (.ros ?_)
  rw[nP,if_pos h1];rfl
 refine wf ?_
 refine Bn (xs:= [.tmp 12]) [] LF (f:=162) (cs:= []) (Bu _) rfl rfl (.refl _) _ (eh p.deps .ro (by omega)) fun r L1 ⟨v0,hr,hv0⟩=>?_
 subst hr
 refine wf ?_
 refine wf ?_
 refine AV (σ:=Nat × Value × List Dig × List Res) (fun k=>k.1≤p.changes.length∧k.2.2.1.length≤200+k.1*404∧k.2.2.1=p.deps++(p.changes.take k.1).flatMap (fun c=>cQ (Eb c))∧aw k.2.1 k.2.2.1 k.2.2.2) (fun k=>p.changes.length - k.1) (fun k=> [(3,.raw k.2.1),(15,.slice (p.changes.map BG) .ro),(16,.raw (.int .i64 p.changes.length)),(17,.raw (.int .i64 k.1))]) (fun k=>k.2.2.2++LF) (0,v0,p.deps,L1) ⟨by simp,by simpa using hg3,by simp,hv0⟩ ⟨rfl,rfl,rfl,rfl⟩ (.refl _) ?_
 rintro⟨k,v,l,R⟩ ⟨hk,hlen,hl,hv⟩
 dsimp only at hk hlen hl hv
 refine wf ?_
 refine A1 (fun hc=>?_) (fun hc=>?_)
 ·have hlt:k < p.changes.length:=by omega
  have hov:=(hg5 _ (AO hlt)).over
  have i1:B0 (p.changes[k].over.length≤400):=⟨by omega⟩
  have hrl:=UW (c:=p.changes[k]) (by omega)
  refine wz fun b5=>?_
  refine Ag 5 ?_
  refine wf ?_
  refine AV (σ:=Nat × Value × List Dig × List Res) (fun j=>j.1≤(Eb p.changes[k]).length∧j.2.2.1.length≤200+k*404+j.1∧j.2.2.1=l++cQ ((Eb p.changes[k]).take j.1)∧aw j.2.1 j.2.2.1 j.2.2.2) (fun j=>(Eb p.changes[k]).length - j.1) (fun j=> [(3,.raw j.2.1),(15,.slice (p.changes.map BG) .ro),(16,.raw (.int .i64 p.changes.length)),(17,.raw (.int .i64 k)),(22,.slice ((Eb p.changes[k]).map eRfc) .ro),(23,.raw (.int .i64 (Eb p.changes[k]).length)),(24,.raw (.int .i64 j.1))]) (fun j=>j.2.2.2++LF) (0,v,l,R) ⟨by simp,by simpa using hlen,by simp[cQ],hv⟩ ⟨rfl,rfl,rfl,rfl,rfl,rfl,rfl⟩ (.refl _) ?_
  rintro⟨j,v1,l1,R1⟩ ⟨hj,hlen1,hl1,hv1⟩
  dsimp only at hj hlen1 hl1 hv1
  refine wf ?_
  refine A1 (fun hd=>?_) (fun hd=>?_)
  ·have hjt:j < (Eb p.changes[k]).length:=by omega
   have ht:=ja hjt
   refine wz fun b7=>?_
   refine Ag 7 ?_
   refine wf ?_
   refine AN (fun h2=>?_) (fun h2=>?_)
   ·rw[if_neg h2]at ht
    refine wf ?_
    refine PO (f:=eDig) (m:= [(Eb p.changes[k])[j].id.patch]) (R:=R1) (LF:=LF) (fun R'=>R'++LF) rfl rfl hv1 (.refl _) (fun R'=> .refl _) (by simp only[AH,Aa];omega) (by simp only[AH,Aa];omega) fun v2 R2 hv2=>?_
    refine wf ?_
    refine wf ?_
    refine⟨(j+1,v2,l1++ [(Eb p.changes[k])[j].id.patch],R2),⟨by dsimp only;omega,by simp only[A7,AH,Aa];omega,?_,hv2⟩,by dsimp only;omega,⟨rfl,rfl,rfl,rfl,rfl,rfl,rfl⟩,.refl _⟩
    dsimp only
    rw[ht,←AL,hl1]
   ·rw[if_pos h2,B1]at ht
    refine wf ?_
    refine⟨(j+1,v1,l1,R1),⟨by dsimp only;omega,by dsimp only;omega,?_,hv1⟩,by dsimp only;omega,⟨rfl,rfl,rfl,rfl,rfl,rfl,rfl⟩,.refl _⟩
    dsimp only
    rw[ht,hl1]
  ·rw[AA (by omega)]at hl1
   refine wf ?_
   refine⟨(k+1,v1,l1,R1),⟨by dsimp only;omega,by dsimp only;omega,?_,hv1⟩,by dsimp only;omega,⟨rfl,rfl,rfl,rfl⟩,.refl _⟩
   dsimp only
   rw[hl1,hl,A6 hlt,Ez,AL]
   simp
 rw[AA (by omega)]at hl
 have hl':l=ir p:=hl
 have hsl:(sortD l).length=l.length:=IZ _
 refine wf ?_
 refine Bn (xs:= [.tmp 40,.func 84]) R LF (f:=165) (cs:= []) (Bu _) rfl rfl (.refl _) _ (bL l v R hv (by omega)) fun r L2 ⟨v2,e2,hv2⟩=>?_
 subst e2
 refine wf ?_
 refine wf ?_
 refine Bn (xs:= [.tmp 42]) L2 LF (f:=166) (cs:= []) (Bu _) rfl rfl (.refl _) _ (ak (sortD l) v2 L2 hv2 (by omega)) fun r L3 ⟨hr,hL3⟩=>?_
 subst hr
 subst hL3
 refine wf ?_
 refine wf ?_
 refine Al (.ros ?_)
 rw[nP,if_neg (by simp[h1]),←hl']⟩
end Go.Proofs
namespace Go.Proofs
open Go Go.Q Go.Sort
theorem Ll (l:List Dig):(sortD l).Pairwise fun x y=> ¬Dig.lt y x:=by
 have h:=List.pairwise_mergeSort (le:=fun x y=>!(ltOf DY) y x) (fun a b c h1 h2=>by
  simp only[AQ,ltOf,A8]at h1 h2 ⊢
  intro h3
  have h1: ¬Dig.lt b a:=h1
  have h2: ¬Dig.lt c b:=h2
  have h3:Dig.lt c a:=h3
  rcases Dig.tri a b with h|h|h
  ·exact h2 (Dig.lt_trans h3 h)
  ·subst h;exact h2 h3
  ·exact h1 h) (fun a b=>by
  simp only[Th,AQ,ltOf,A8]
  by_cases h:Dig.lt b a
  ·exact .inr (Dig.lt_asymm h)
  ·exact .inl h) l
 refine h.imp fun {a b} hab=>?_
 simp only[AQ,ltOf,A8]at hab
 exact hab
theorem VB {l:List Dig} (h:l.Pairwise fun x y=> ¬Dig.lt y x): ∀ j,j≤l.length→Eo (Wm (l.take j))∧ ∀ d,d∈Wm (l.take j)↔d∈l.take j:=by
 intro j
 induction j with
 |zero=>intro _;exact⟨Eo.nil,fun d=>by simp[Wm]⟩
 |succ j ih=>
  intro hj
  obtain⟨i1,i2⟩:=ih (by omega)
  have hlt:j < l.length:=by omega
  by_cases h0:j=0
  ·subst h0
   have e:l.take 1= [l[0]]:=by
    rw[A6 hlt];rfl
   rw[e]
   exact⟨Fj _ _,fun d=>Iff.rfl⟩
  rw[TQ (by omega) hlt]
  by_cases e:l[j]=l[j - 1]
  ·rw[if_pos e]
   refine⟨i1,fun d=>?_⟩
   rw[i2,A6 hlt]
   simp only[Ay,B9]
   refine⟨.inl,fun h=>h.elim id fun h=>?_⟩
   rw[h,e]
   exact EI.2 ⟨j - 1,by omega,rfl⟩
  ·rw[if_neg e]
   refine⟨?_,fun d=>?_⟩
   ·refine Mq.2 ⟨i1,Fj _ _,fun a ha b hb=>?_⟩
    rw[B9.1 hb]
    obtain⟨i,hi,rfl⟩:=EI.1 ((i2 a).1 ha)
    have hp:=BQ.1 h
    have h3: ¬Dig.lt l[j] l[j - 1]:=hp (j - 1) j (by omega) hlt (by omega)
    have h4:Dig.lt l[j - 1] l[j]:=by
     rcases Dig.tri l[j - 1] l[j]with h'|h'|h'
     ·exact h'
     ·exact absurd h'.symm e
     ·exact absurd h' h3
    by_cases h5:i=j - 1
    ·subst h5;exact h4
    ·have h6: ¬Dig.lt l[j - 1] l[i]:=hp i (j - 1) (by omega) (by omega) (by omega)
     rcases Dig.tri l[i] l[j - 1]with h'|h'|h'
     ·exact Dig.lt_trans h' h4
     ·rw[h'];exact h4
     ·exact absurd h' h6
   ·rw[A6 hlt]
    simp only[Ay,i2]
theorem rI (l:List Dig):Eo (Wm (sortD l)):=by
 have:=(VB (Ll l) (sortD l).length (B4 _)).1
 rwa [Cy]at this
theorem rF (l:List Dig) (d:Dig):d∈Wm (sortD l)↔d∈l:=by
 have:=(VB (Ll l) (sortD l).length (B4 _)).2 d
 rw[Cy]at this
 rw[this]
 exact List.mem_mergeSort
theorem Pj {l:List Ident} {d:Dig}:d∈FQ l↔ ∃ x∈l,x.patch≠Dig.zero∧x.patch=d:=by
 unfold FQ
 simp only[AX,o6,AQ,A8]
 constructor
 ·rintro⟨x,⟨h1,h2⟩,h3⟩;exact⟨x,h1,h2,h3⟩
 ·rintro⟨x,h1,h2,h3⟩;exact⟨x,⟨h1,h2⟩,h3⟩
theorem rZ (rs:List Rfc):cQ rs=FQ (rs.map Rfc.id):=by
 unfold cQ FQ
 rw[List.filter_map,DK]
 rfl
theorem qF {c:Chg} (h:C0 c=0):(¬(2≤c.kind∧c.kind≤6)→c.file=Ident.zero)∧(c.kind≠2→c.parent=Ident.zero)∧(¬(c.kind=5∨c.kind=6)→c.after=Ident.zero∧c.before=Ident.zero):=by
 unfold C0 at h
 split at h
 ·omega
 split at h
 ·omega
 rename_i h2
 simp only[Bool.not_eq_false,Fw,Bx,AJ]at h2
 obtain⟨⟨⟨⟨⟨⟨⟨⟨⟨a1,_⟩,a2⟩,_⟩,_⟩,_⟩,a3⟩,a4⟩,_⟩,_⟩:=h2
 refine⟨fun h=>?_,fun h=>?_,fun h=>⟨?_,?_⟩⟩
 ·have a:(if 2≤c.kind∧c.kind≤6 then Ident.zero else c.file)=Ident.zero:=a1
  rwa [if_neg h]at a
 ·have a:(if c.kind=2 then Ident.zero else c.parent)=Ident.zero:=a2
  rwa [if_neg h]at a
 ·have a:(if c.kind=5∨c.kind=6 then Ident.zero else c.after)=Ident.zero:=a3
  rwa [if_neg h]at a
 ·have a:(if c.kind=5∨c.kind=6 then Ident.zero else c.before)=Ident.zero:=a4
  rwa [if_neg h]at a
theorem Xn {c:Chg} (h:C0 c=0) (d:Dig):d∈cQ (Eb c)↔d∈FQ (Qe c):=by
 obtain⟨u1,u2,u3⟩:=qF h
 have hz:Ident.zero.patch=Dig.zero:=rfl
 rw[rZ,Pj,Pj]
 have key: ∀ x:Ident,x.patch≠Dig.zero→(x∈(Eb c).map Rfc.id↔x∈Qe c):=fun x hx=>by
  have hk:=Lv h
  have e4: ∀ l:List Ident,(Mb c l).map Rfc.id=l:=fun l=>by
   rw[Mb,DK]
   show l.map (fun x=>x)=l
   simp
  unfold Eb Qe
  simp only[Az,e4,Ay,AI,Ar,or_false]
  have n1:x=Ident.zero→False:=fun e=>hx (by rw[e];rfl)
  have n2:x=⟨Dig.zero,-1⟩→False:=fun e=>hx (by rw[e])
  rcases kinds hk with k|k|k|k|k|k|k<;>simp only[HS,K9,OJ,k]at u1 u2 u3 ⊢ <;>simp<;>grind
 constructor
 ·rintro⟨x,h1,h2,h3⟩;exact⟨x,(key x h2).1 h1,h2,h3⟩
 ·rintro⟨x,h1,h2,h3⟩;exact⟨x,(key x h2).2 h1,h2,h3⟩
theorem Mh: ∀ (l:List Chg) (own:List Atm),(DP l own).2=0→ ∀ c∈l,C0 c=0
 | [],_,_,c,hc=>by cases hc
 |x::l,own,h,c,hc=>by
  rw[DP]at h
  split at h
  ·rename_i h1;exact absurd h h1
  rename_i h1
  split at h
  ·rename_i h2;exact absurd h h2
  rcases AI.1 hc with rfl|hc
  ·simpa using h1
  ·exact Mh l _ h c hc
theorem Qj: ∀ (cs:List Chg) (m:List Dig) (d:Dig),d∈cs.foldl Nm m↔d∈m∨ ∃ c∈cs,d∈FQ (Qe c)
 | [],m,d=>by simp
 |c::cs,m,d=>by
  rw[ED,Qj cs,Nm,EO]
  simp only[AI,exists_eq_or_imp,or_assoc]
theorem Qk: ∀ (cs:List Chg) (m:List Dig),Eo m→Eo (cs.foldl Nm m)
 | [],m,h=>h
 |c::cs,m,h=>Qk cs _ (EL h)
theorem uW (p:Pat):nP p=BX p:=by
 unfold nP BX
 by_cases h:(Cj p).2≠0
 ·rw[if_pos h,if_pos h]
 rw[if_neg h,if_neg h]
 have h0:(Cv p).2=0:=by
  by_cases h1:(Cv p).2≠0
  ·rw[Cj,if_pos h1]at h;exact absurd h1 h
  ·simpa using h1
 have hF: ∀ c∈p.changes,C0 c=0:=by
  rw[Ht]at h0
  split at h0
  ·rename_i h1;exact absurd h0 h1
  ·exact Mh _ _ h0
 refine Eo.ext (rI _) (Qk _ _ (EL Eo.nil)) fun d=>?_
 rw[rF,Qj,EO,ir]
 simp only[Ay,Ra,Ar,false_or]
 constructor
 ·rintro(h|⟨c,hc,h⟩)
  ·exact .inl h
  ·exact .inr ⟨c,hc,(Xn (hF c hc) d).1 h⟩
 ·rintro(h|⟨c,hc,h⟩)
  ·exact .inl h
  ·exact .inr ⟨c,hc,(Xn (hF c hc) d).2 h⟩
instance tP (p:Pat) [hs:B0 (EA p=false)]:Bj Tryz.prog 115 [.agg (Cc p)] (.slice ((BX p).map eDig) .ro):=uW p ▸ dz p
end Go.Proofs
namespace Go.Proofs
open Go Go.Q
attribute [local irreducible] EB AW B2 FW
def gr (s:List Sto):List (Dig × List Dig):=s.foldl (fun m x=>HJ x.id (BX x.patch) m) []
theorem cH {s:List Sto} {k:Nat} (h:k < s.length):gr (s.take (k+1))=HJ s[k].id (BX s[k].patch) (gr (s.take k)):=by
 rw[A6 h,gr,DF];rfl
instance rQ (s:List Sto) (t:CZ) [hs:B0 (DX s)]:Bj Tryz.prog 152 [.slice (s.map eSto) t] (.fmap (Cq kDig (PD eDig) (gr s))):=⟨by
 have hs:=hs.out
 refine Aj Tryz.func152 Tryz.ntmps152 rfl (rs:= [.tmp 2]) rfl rfl fun hb LF=>?_
 refine tj fun b=>?_
 refine AV (σ:=Nat) (fun k=>k≤s.length) (fun k=>s.length - k) (fun k=> [(3,.raw (.map (some b))),(7,.slice (s.map eSto) t),(8,.raw (.int .i64 s.length)),(9,.raw (.int .i64 k))]) (fun k=> .map b (Cq kDig (PD eDig) (gr (s.take k)))::LF) 0 (by simp) ⟨rfl,rfl,rfl,rfl⟩ (.refl _) ?_
 intro k hk
 refine wf ?_
 refine A1 (fun hc=>?_) (fun hc=>?_)
 ·have hlt:k < s.length:=by omega
  have h8:=hs.1
  have:B0 (EA s[k].patch=false):=⟨hs.2 _ (AO hlt)⟩
  refine wz fun b5=>?_
  refine Ag 5 ?_
  refine wn ?_
  refine BR 6 ?_ ?_
  ·decide+kernel
  refine wf ?_
  refine⟨k+1,by omega,by dsimp only;omega,⟨rfl,rfl,rfl,rfl⟩,?_⟩
  dsimp only
  rw[cH hlt]
  exact .refl _
 ·refine H0 ?_
  rw[AA (by omega)]
  refine R9 [(3,.fmap (Cq kDig (PD eDig) (gr s)))] (.inr ⟨rfl,rfl⟩) (.refl _) ?_
  refine wf ?_
  exact Al (.refl _)⟩
def KP (out l:List Dig):List Dig:=l.foldl (fun o d=>if d∈o then o else o++ [d]) out
theorem ey {out l:List Dig} {k:Nat} (h:k < l.length):KP out (l.take (k+1))=if l[k]∈KP out (l.take k)then KP out (l.take k)else KP out (l.take k)++ [l[k]]:=by
 rw[A6 h,KP,DF];rfl
theorem kK (out:List Dig): ∀ l:List Dig,(KP out l).length≤out.length+l.length:=by
 intro l
 induction l generalizing out with
 |nil=>simp[KP]
 |cons x l ih=>
  have:=ih (if x∈out then out else out++ [x])
  rw[KP,ED]
  refine Cd this ?_
  split<;>simp<;>omega
def KR (met:List (Dig × Bool)) (out:List Dig):Prop:= ∀ d,(Dr d met).getD false=decide (d∈out)
theorem KR.add {met:List (Dig × Bool)} {out:List Dig} (h:KR met out) (d:Dig):KR (HJ d true met) (out++ [d]):=fun x=>by
 rw[K4]
 by_cases e:x=d
 ·subst e;simp
 ·rw[if_neg e,h x];simp[e]
def nv (b6 m b7:Nat) (out:List Dig) (L:List Res):Prop:= ∃ met v R,KR met out∧aw v out R∧L= .box b6 84 [.raw (.map (some m))]:: .map m (Cq kDig vBool met):: .box b7 39 [.raw v]::R
theorem KF {a b c:Res} {L LF:List Res}:(a::b::c::(L++LF)).Perm (L++(a::b::c::LF)):=((BA (l₁:=L)).trans (.cons a ((BA (l₁:=L)).trans (.cons b BA)))).symm
def QC (G:List (Dig × List Dig)) (l:List Dig):Bool:=l.all fun d=>(Dr d G).isSome
theorem cY (G:List (Dig × List Dig)) (l:List Dig) (t:CZ) (b6 m b7:Nat) (out:List Dig) (L:List Res) (hL:nv b6 m b7 out L) (hb:out.length+l.length≤1000):
  B2 Tryz.prog 233 [.slice (l.map eDig) t,.pt [.fmap (Cq kDig (PD eDig) G)] 0,.raw (.pointer (some ⟨b6,0,none⟩)),.raw (.pointer (some ⟨b7,0,none⟩))] L (fun r L'=>r= .raw (.bool (QC G l))∧ ∃ out',nv b6 m b7 out' L'∧(QC G l=true→out'=KP out l)):=by
 refine Bt Tryz.func233 rfl Tryz.ntmps233 (rs:= [.tmp 5]) rfl rfl fun hbd LF=>?_
 refine wf ?_
 refine AV (σ:=Nat × List Res) (fun k=>k.1≤l.length∧(∀ i (h:i < l.length),i < k.1→(Dr l[i] G).isSome=true)∧nv b6 m b7 (KP out (l.take k.1)) k.2) (fun k=>l.length - k.1) (fun k=> [(1,.pt [.fmap (Cq kDig (PD eDig) G)] 0),(2,.raw (.pointer (some ⟨b6,0,none⟩))),(3,.raw (.pointer (some ⟨b7,0,none⟩))),(10,.slice (l.map eDig) t),(11,.raw (.int .i64 l.length)),(12,.raw (.int .i64 k.1))]) (fun k=>k.2++LF) (0,L) ⟨by simp,by simp,hL⟩ ⟨rfl,rfl,rfl,rfl,rfl,rfl⟩ (.refl _) ?_
 rintro⟨k,L1⟩ ⟨hk,hall,met,v,R,hm,hv,rfl⟩
 dsimp only at hk hall hm hv ⊢
 refine wf ?_
 refine A1 (fun hc=>?_) (fun hc=>?_)
 ·have hlt:k < l.length:=by omega
  refine wz fun b=>?_
  refine Ag 7 ?_
  refine wf ?_
  refine AU (fun h=>?_) (fun h=>?_)
  ·have h0:(Dr l[k] G).isSome=false:=by simpa using h
   have hA:QC G l=false:=by
    unfold QC
    exact L9.2 ⟨l[k],AO hlt,by simp[h0]⟩
   refine wf ?_
   exact⟨trivial,_,_,.cons (.tmp 5) .nil,.refl _,by rw[hA];exact rfl,_,⟨met,v,R,hm,hv,rfl⟩,fun h=>by rw[hA]at h;cases h⟩
  have hi:(Dr l[k] G).isSome=true:=by simpa using h
  have hall': ∀ i (h:i < l.length),i < k+1→(Dr l[i] G).isSome=true:=fun i hi' hik=>by
   rcases BC i k with h'|h'
   ·exact hall i hi' h'
   ·have e:i=k:=by omega
    subst e;exact hi
  refine wf ?_
  have hml:=hm l[k]
  have ht:=ey (out:=out) hlt
  refine AU (fun h=>?_) (fun h=>?_)
  ·have hno:l[k]∉KP out (l.take k):=by
    rw[hml]at h;simpa using h
   rw[if_neg hno]at ht
   have hol:=kK out (l.take k)
   rw[AG]at hol
   refine wf ?_
   refine XZ (κ:=Dig) (ek:=kDig) (ev:=vBool) (k0:=l[k]) (x0:=true) (L':= .box b6 84 [.raw (.map (some m))]:: .box b7 39 [.raw v]::(R++LF)) rfl (.swap _ _ _) (.refl _) (.refl _) ?_
   refine AE ?_
   refine Fy (.swap _ _ _) ?_
   refine wf ?_
   refine PO (f:=eDig) (m:= [l[k]]) (R:=R) (LF:= .box b6 84 [.raw (.map (some m))]:: .map m (Cq kDig vBool (HJ l[k] true met)):: .box b7 39 [.raw v]::LF) (fun R'=> .box b6 84 [.raw (.map (some m))]:: .map m (Cq kDig vBool (HJ l[k] true met)):: .box b7 39 [.raw v]::(R'++LF)) rfl rfl hv KF (fun R'=>KF.symm) (by simp only[AH,Aa];omega) (by simp only[AH,Aa];omega) fun v2 R2 hv2=>?_
   refine wf ?_
   refine K7 [.raw v2] rfl rfl hv2.one rfl (by simp) ?_
   refine wf ?_
   refine wf ?_
   refine⟨(k+1,_),⟨by dsimp only;omega,hall',HJ l[k] true met,v2,R2,?_,?_,rfl⟩,by dsimp only;omega,⟨rfl,rfl,rfl,rfl,rfl,rfl⟩,.refl _⟩
   ·dsimp only;rw[ht];exact hm.add _
   ·dsimp only;rw[ht];exact hv2
  ·have hyes:l[k]∈KP out (l.take k):=by
    rw[hml]at h;simpa using h
   rw[if_pos hyes]at ht
   refine wf ?_
   exact⟨(k+1,_),⟨by dsimp only;omega,hall',met,v,R,by dsimp only;rw[ht];exact hm,by dsimp only;rw[ht];exact hv,rfl⟩,by dsimp only;omega,⟨rfl,rfl,rfl,rfl,rfl,rfl⟩,.refl _⟩
 ·have hA:QC G l=true:=by
   unfold QC
   refine B5.2 fun d hd=>?_
   obtain⟨i,hi,rfl⟩:=Ak.1 hd
   exact hall i hi (by omega)
  refine wf ?_
  rw[AA (by omega)]at hm hv
  exact⟨trivial,_,_,.cons (.tmp 5) .nil,.refl _,by rw[hA];exact rfl,_,⟨met,v,R,hm,hv,rfl⟩,fun _=>rfl⟩
end Go.Proofs
namespace Go.Proofs
open Go Go.Q
def ndG (G:List (Dig × List Dig)) (d:Dig):List Dig:=(Dr d G).getD []
theorem R4 (out:List Dig) (x:Dig) (l:List Dig):KP out (x::l)=KP (if x∈out then out else out++ [x]) l:=rfl
theorem KH: ∀ {l out:List Dig} {d:Dig},d∈KP out l↔d∈out∨d∈l
 | [],out,d=>by simp[KP]
 |x::l,out,d=>by
  rw[R4,KH]
  split
  ·rename_i h
   constructor
   ·rintro(h1|h1)
    ·exact .inl h1
    ·exact .inr (AD _ h1)
   ·rintro(h1|h1)
    ·exact .inl h1
    ·rcases AI.1 h1 with rfl|h1
     ·exact .inl h
     ·exact .inr h1
  ·simp[or_assoc]
theorem P4: ∀ {l out:List Dig},out.Nodup→(KP out l).Nodup
 | [],_,h=>h
 |x::l,out,h=>by
  rw[R4]
  refine P4 ?_
  split
  ·exact h
  ·rename_i hx
   refine Mq.2 ⟨h,Fj _ _,fun a ha b hb=>?_⟩
   rw[B9.1 hb]
   rintro rfl
   exact hx ha
theorem NY: ∀ {l out:List Dig},out <+:KP out l
 | [],_=>List.prefix_refl _
 |x::l,out=>by
  rw[R4]
  refine List.IsPrefix.trans ?_ NY
  split
  ·exact List.prefix_refl _
  ·exact List.prefix_append _ _
structure kU (nd:Dig→List Dig) (l out:List Dig) (i:Nat):Prop where
 nodup:out.Nodup
 sub: ∀ d∈l,d∈out
 reach: ∀ d∈out,Q.Reach nd l d
 done: ∀ j (h:j < out.length),j < i→ ∀ d∈nd out[j],d∈out
theorem kU.start (nd:Dig→List Dig) (l:List Dig):kU nd l (KP [] l) 0:=
 ⟨P4 .nil,fun d hd=>KH.2 (.inr hd),fun d hd=> .base ((KH.1 hd).elim (fun h=>absurd h (by simp)) id),fun _ _ h=>absurd h (by omega)⟩
theorem kU.step {nd:Dig→List Dig} {l out:List Dig} {i:Nat} (h:kU nd l out i) (hi:i < out.length):kU nd l (KP out (nd out[i])) (i+1):=by
 refine⟨P4 h.nodup,fun d hd=>KH.2 (.inl (h.sub d hd)),fun d hd=>?_,fun j hj hji d hd=>?_⟩
 ·rcases KH.1 hd with h1|h1
  ·exact h.reach d h1
  ·exact .step (h.reach _ (AO hi)) h1
 ·have hjo:j < out.length:=by omega
  have e:(KP out (nd out[i]))[j]=out[j]:=(NY.getElem hjo).symm
  rw[e]at hd
  by_cases hj2:j < i
  ·exact KH.2 (.inl (h.done j hjo hj2 d hd))
  ·have hje:j=i:=by omega
   subst hje
   exact KH.2 (.inr hd)
theorem kU.fin {nd:Dig→List Dig} {l out:List Dig} {i:Nat} (h:kU nd l out i) (hi:out.length≤i) (d:Dig):d∈out↔Q.Reach nd l d:=by
 refine⟨h.reach d,fun hr=>?_⟩
 induction hr with
 |base hd=>exact h.sub _ hd
 |step _ hd ih=>
  obtain⟨j,hj,rfl⟩:=Ak.1 ih
  exact h.done j hj (by omega) _ hd
theorem kU.len {nd:Dig→List Dig} {l out U:List Dig} {i:Nat} (h:kU nd l out i) (hU: ∀ x∈U,∀ d∈nd x,d∈U) (hl: ∀ d∈l,d∈U):out.length≤U.length:=
 FJ h.nodup fun d hd=>(h.reach d hd).in_ hU hl
theorem dJ {l:List Dig} (h:l.Nodup):Eo (sortD l):=by
 have h2:(sortD l).Nodup:=(List.mergeSort_perm l _).nodup_iff.2 h
 refine BQ.2 fun i j hi hj hij=>?_
 have a:=BQ.1 (Ll l) i j hi hj hij
 have b:=BQ.1 h2 i j hi hj hij
 rcases Dig.tri (sortD l)[i] (sortD l)[j]with h'|h'|h'
 ·exact h'
 ·exact absurd h' b
 ·exact absurd h' a
theorem dI {l:List Dig} {d:Dig}:d∈sortD l↔d∈l:=List.mem_mergeSort
theorem oy: ∀ (s:List Sto) (m:List (Dig × List Dig)) (d:Dig),(Dr d (s.foldl (fun m x=>HJ x.id (BX x.patch) m) m)).isSome=(decide (d∈ids s)||(Dr d m).isSome)
 | [],m,d=>by simp[ids]
 |x::s,m,d=>by
  rw[ED,oy s,K4]
  by_cases e:d=x.id<;>simp[ids,e]
theorem jM: ∀ (s:List Sto) (m:List (Dig × List Dig)) (d:Dig) (r:List Dig),Dr d (s.foldl (fun m x=>HJ x.id (BX x.patch) m) m)=some r→(∃ x∈s,x.id=d∧r=BX x.patch)∨Dr d m=some r
 | [],m,d,r,h=> .inr h
 |x::s,m,d,r,h=>by
  rw[ED]at h
  rcases jM s _ d r h with ⟨y,hy,h1,h2⟩|h1
  ·exact .inl ⟨y,AD _ hy,h1,h2⟩
  ·rw[K4]at h1
   split at h1
   ·rename_i e
    exact .inl ⟨x,AK,e.symm,(CF h1).symm⟩
   ·exact .inr h1
theorem WB (s:List Sto) (d:Dig):(Dr d (gr s)).isSome=decide (d∈ids s):=by
 rw[gr,oy];simp[Dr]
theorem Cg.ndG {s:List Sto} (v:Cg s):Go.Proofs.ndG (gr s)=Go.Proofs.ndS s:=by
 funext d
 have h1:=WB s d
 unfold Go.Proofs.ndG
 cases hg:Dr d (gr s)with
 |none=>
  rw[hg]at h1
  have hd: ¬d∈ids s:=by simpa using h1
  have hn:Go.Proofs.getS s d=none:=by
   cases hs:Go.Proofs.getS s d with
   |none=>rfl
   |some p=>
    obtain⟨x,hx,e,_⟩:=KL hs
    exact absurd (AX.2 ⟨x,hx,e⟩) hd
  rw[Go.Proofs.ndS,hn,De,De,Ox]
 |some r=>
  rcases jM s [] d r hg with ⟨x,hx,e,rfl⟩|h2
  ·subst e
   rw[v.ndS hx];rfl
  ·simp[Dr]at h2
attribute [local irreducible] EB AW B2 FW
def clG (G:List (Dig × List Dig)) (U l:List Dig):List Dig × Bool:=if QC G l=false then([],false)else(Jj (ndG G) U.length (C9 [] l),true)
structure nr (G:List (Dig × List Dig)) (U:List Dig):Prop where
 is: ∀ d,(Dr d G).isSome=decide (d∈U)
 len:U.length≤200
 cl: ∀ x∈U,∀ d∈ndG G x,d∈U
 nd: ∀ x,(ndG G x).length≤400
theorem nr.all {G:List (Dig × List Dig)} {U l:List Dig} (h:nr G U):QC G l=true↔ ∀ d∈l,d∈U:=by
 unfold QC
 rw[B5]
 exact⟨fun k d hd=>by have:=k d hd;rw[h.is]at this;exact An this,fun k d hd=>by rw[h.is];exact Bh (k d hd)⟩
theorem l9:Cu Tryz.prog 39 [.raw (.slice none 0 0)]:=Mv (v:= .slice none 0 0) (by kernel_rfl) rfl fun _=> .raw _
theorem Zj (G:List (Dig × List Dig)) (U:List Dig) (hG:nr G U) (l:List Dig) (t:CZ) (hl:l.length≤400):Bj Tryz.prog 197 [.fmap (Cq kDig (PD eDig) G),.slice (l.map eDig) t] (.tuple [.slice ((clG G U l).1.map eDig) .ro,.raw (.bool (clG G U l).2)]):=⟨by
 refine Aj Tryz.func197 Tryz.ntmps197 rfl (rs:= [.tmp 4,.tmp 5]) rfl rfl fun hb LF=>?_
 refine wf ?_
 refine Qq fun m=>?_
 refine BN fun b6=>?_
 refine wf ?_
 refine BN (hZ:=l9) fun b7=>?_
 refine wf ?_
 refine Bn (xs:= [.tmp 13]) [.box b6 84 [.raw (.map (some m))],.map m (Cq kDig vBool []),.box b7 39 [.raw (.slice none 0 0)]] LF (f:=233) (cs:= [.pt [.fmap (Cq kDig (PD eDig) G)] 0,.raw (.pointer (some ⟨b6,0,none⟩)),.raw (.pointer (some ⟨b7,0,none⟩))]) (.refl _) rfl rfl (BA (l₁:= [_,_])).symm _ (cY G l t b6 m b7 [] _ ⟨[],.slice none 0 0,[],fun d=>by simp[Dr],.nil none (by simp),rfl⟩ (by simp;omega)) fun r L1 ⟨hr,out0,hC,ho⟩=>?_
 subst hr
 refine wf ?_
 refine AU (fun h=>?_) (fun h=>?_)
 ·have h0:QC G l=false:=by simpa using h
  refine wf ?_
  refine Ei (hs:=Dj _ _) ?_
  rw[clG,if_pos h0]
  exact .tuple2 (.ro _ _) (.refl _)
 have h1:QC G l=true:=by simpa using h
 have hlU:=hG.all.1 h1
 rw[clG,if_neg (by simp[h1])]
 have ho:=ho h1
 subst ho
 refine wf ?_
 refine AV (σ:=Nat × List Dig × List Res) (fun k=>k.1≤k.2.1.length∧kU (ndG G) l k.2.1 k.1∧nv b6 m b7 k.2.1 k.2.2) (fun k=>U.length - k.1) (fun k=> [(2,.pt [.fmap (Cq kDig (PD eDig) G)] 0),(7,.raw (.pointer (some ⟨b7,0,none⟩))),(8,.clo 233 [.pt [.fmap (Cq kDig (PD eDig) G)] 0,.raw (.pointer (some ⟨b6,0,none⟩)),.raw (.pointer (some ⟨b7,0,none⟩))]),(9,.raw (.int .i64 k.1))]) (fun k=>k.2.2++LF) (0,KP [] l,L1) ⟨by simp,kU.start _ _,hC⟩ ⟨rfl,rfl,rfl,rfl⟩ (.refl _) ?_
 rintro⟨k,out,L2⟩ ⟨hk,hI,met,v,R,hm,hv,rfl⟩
 dsimp only at hk hI hm hv ⊢
 have hol:=hI.len hG.cl hlU
 have hUl:=hG.len
 obtain⟨o,c,rfl⟩:=hv.slice
 refine wf ?_
 refine FO rfl ?_
 refine wf ?_
 refine A1 (fun hc=>?_) (fun hc=>?_)
 ·have hlt:k < out.length:=by omega
  have hne:out≠ []:=fun e=>by subst e;simp at hlt
  obtain⟨_,r,cur,rest,rfl,rfl,hcur,hsz,hlc⟩:=hv.inv hne
  refine wn ?_
  refine BR 7 ?_ ?_
  ·decide+kernel
  refine wf ?_
  refine Gn (k:=k) rfl rfl hlt ?_
  refine Nj (f:=eDig) (a0:=out[k]) rfl (JA _ (AD _ (AD _ (AD _ AK)))) (by rw[hcur,B3];exact Oh FL out k hlt rest) (by omega) ?_
  refine wf ?_
  have hin:out[k]∈U:=(hI.reach _ (AO hlt)).in_ hG.cl hlU
  have hA:QC G (ndG G out[k])=true:=hG.all.2 (hG.cl _ hin)
  have hnd:=hG.nd out[k]
  refine Bn (xs:= [.tmp 28]) (.box b6 84 [.raw (.map (some m))]:: .map m (Cq kDig vBool met):: .box b7 39 [.raw (.slice (some ⟨r,0,none⟩) out.length c)]:: [.raw r (.cells cur 45 (0,0))]) LF (f:=233) (cs:= [.pt [.fmap (Cq kDig (PD eDig) G)] 0,.raw (.pointer (some ⟨b6,0,none⟩)),.raw (.pointer (some ⟨b7,0,none⟩))]) (.refl _) rfl rfl (.refl _) _ (cY G (ndG G out[k]) .ro b6 m b7 out _ ⟨met,_,_,hm,hv,rfl⟩ (by omega)) fun r L3 ⟨hr,out1,hC1,ho1⟩=>?_
  have ho1:=ho1 hA
  subst ho1
  refine wf ?_
  refine wf ?_
  have hpl:=(NY (out:=out) (l:=ndG G out[k])).length_le
  exact⟨(k+1,KP out (ndG G out[k]),L3),⟨by dsimp only;omega,hI.step hlt,hC1⟩,by dsimp only;omega,⟨rfl,rfl,rfl,rfl⟩,.refl _⟩
 have hfin:=hI.fin (by omega)
 have hmx:(sortD out).length≤maxN∧(sortD out).length*32≤maxN:=by
  have:maxN=140737488355328:=rfl
  have h2:(sortD out).length=out.length:=IZ _
  omega
 refine wf ?_
 refine Bn (xs:= [.tmp 30,.func 84]) R (.box b6 84 [.raw (.map (some m))]:: .map m (Cq kDig vBool met):: .box b7 39 [.raw (.slice o out.length c)]::LF) (f:=165) (cs:= []) (Bu _) rfl rfl KF _ (bL out _ R hv (by omega)) fun r L3 ⟨v2,e2,hv2⟩=>?_
 subst e2
 refine AE ?_
 refine Fy KF.symm ?_
 refine DU ?_
 refine CD (by kernel_rfl) ?_
 refine wo ?_
 refine AE ?_
 refine HY (f:=eDig) 4 hv2 hmx KF rfl ?_
 refine wf ?_
 refine Ei ?_
 have e:sortD out=Jj (ndG G) U.length (C9 [] l):=by
  refine Eo.ext (dJ hI.nodup) (Qs (EL .nil)) fun d=>?_
  rw[dI,hfin]
  exact(Qm hG.cl hlU (B4 _)).symm
 rw[e]
 exact .refl _⟩
theorem SP (p:Pat):Eo (BX p):=by
 unfold BX
 split
 ·exact .nil
 ·exact Qk _ _ (EL .nil)
theorem mh (s:List Sto) (d:Dig):Eo (ndS s d):=SP _
theorem Cg.grOk {s:List Sto} (v:Cg s):nr (gr s) (ids s):=by
 have h8:=v.close.1.1
 refine⟨WB s,by rw[E6];omega,fun x _ d hd=>?_,fun x=>?_⟩
 ·rw[v.ndG]at hd
  exact v.close.nd x d hd
 ·rw[v.ndG]
  have:=v.close.small (mh s x) (v.close.nd x)
  omega
theorem Cg.clG {s:List Sto} (v:Cg s) (l:List Dig):(Go.Proofs.clG (gr s) (ids s) l).1=(Df s l).1∧(Df s l).2=if(Go.Proofs.clG (gr s) (ids s) l).2=false then 7 else 0:=by
 have h1:QC (gr s) l=Ck (ids s) l:=by
  unfold QC Ck
  congr 1
  funext d
  exact WB s d
 unfold Go.Proofs.clG Df
 rw[h1,v.ndG,E6]
 split<;>simp
instance ZD (s:List Sto) (l:List Dig) (t u:CZ) [hs:B0 (Cg s)] [hl:B0 (l.length≤400)]:Bj Tryz.prog 159 [.slice (s.map eSto) t,.slice (l.map eDig) u] (.tuple [.slice ((Df s l).1.map eDig) .ro,.raw (.int .i64 (Df s l).2)]):=⟨by
 have v:=hs.out
 have i1:B0 (DX s):=⟨v.close.1⟩
 have i2:=fun t=>Zj (gr s) (ids s) v.grOk l t hl.out
 refine Aj Tryz.func159 Tryz.ntmps159 rfl (rs:= [.tmp 4,.tmp 5]) rfl rfl fun hb LF=>?_
 obtain⟨e1,e2⟩:=v.clG l
 refine wf ?_
 refine AU (fun h=>?_) (fun h=>?_)
 ·have h0:(clG (gr s) (ids s) l).2=false:=by simpa using h
  rw[if_pos h0]at e2
  have e3:(Df s l).1= []:=by
   unfold Df at e2 ⊢
   split
   ·rfl
   ·rename_i h3
    rw[if_neg h3]at e2
    simp at e2
  refine wf ?_
  refine Ei ?_
  rw[e2,e3]
  exact .tuple2 (.ro _ _) (.refl _)
 ·have h0:(clG (gr s) (ids s) l).2=true:=by simpa using h
  rw[h0]at e2
  simp at e2
  refine wf ?_
  refine Ei ?_
  rw[e2,←e1]
  exact .refl _⟩
end Go.Proofs
namespace Go.Q
open Go
theorem Fm.vr {b:Nat} {kvs:List (PV × PV)} {x y:PV} {g:Gh} {v:Value} (h:Fm b kvs x y) (hb:VR g (.map (some b)) (.fmap kvs)) (hv:VR g v x):VR g v y:=by
 rcases h with rfl|⟨rfl,rfl⟩
 ·exact hv
 ·rw[hv.raw_inv];exact hb
theorem DM.resLe {w:World} {g:Gh} {L:List Res} {r r':Res} (hi:DM w g (r::L)) (hb:r'.block=r.block) (h:r.holds w g→r'.holds w g):DM w g (r'::L):=
 ⟨hi.sat,hi.satM,fun s hs=>by
  rcases AI.1 hs with rfl|hs
  ·exact h (hi.res r AK)
  ·exact hi.res s (AD _ hs),by
  have:=hi.nodup
  simp only[Ao,BF,hb]at this ⊢
  exact this,hi.glob⟩
structure cy (b:Nat) (kvs:List (PV × PV)) (r r':Res):Prop where
 block:r'.block=r.block
 holds: ∀ w g,VR g (.map (some b)) (.fmap kvs)→r.holds w g→r'.holds w g
theorem cy.box {b bx T:Nat} {kvs:List (PV × PV)} {cs cs':List PV} (hl:cs'.length=cs.length) (h: ∀ i (h1:i < cs.length) (h2:i < cs'.length),Fm b kvs cs[i] cs'[i]):cy b kvs (.box bx T cs) (.box bx T cs'):=
 ⟨rfl,fun w g hb ⟨vs,h1,h2,h3,h4⟩=>⟨vs,h1,⟨h2.len.trans hl.symm,fun i a c=>(h i (by omega) c).vr hb (h2.at_ i a (by omega))⟩,h3,h4⟩⟩
section
variable {P:Program} {N:Nat} {ρ:Env} {L:List Res} {Q:PPost} {c:Code}
theorem Vt {b:Nat} {kvs:List (PV × PV)} {r r':Res} {L':List Res} (hp:L.Perm (.map b kvs::r::L')) (hr:cy b kvs r r') (k:EB P N c Q ρ (r'::L')):EB P N c Q ρ L:=
 HA (fun base a w g ha hI=>by
  obtain⟨g',h1,h2,h3,h4⟩:=hI.freezeM hp
  refine⟨g',⟨ha.size,ha.defers.mono h2.le,fun i=>(ha.slot i).mono h2.le⟩,h1.resLe hr.block (hr.holds w g' h4),h2,fun b' hb' hlt=>h3 b' ?_ hlt⟩
  have e:Ao (r'::L')=Ao (r::L'):=by simp only[Ao,BF,hr.block]
  rw[←e];exact hb') k
end
end Go.Q
