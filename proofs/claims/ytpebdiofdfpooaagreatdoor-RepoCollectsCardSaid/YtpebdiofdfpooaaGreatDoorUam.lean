/- Contracts: sets that are valid (the reference's layer 17). -/
import Derived.Test.YtpebdiofdfpooaaGreatDoorUal
import Derived.Test.YtpebdiofdfpooaaGreatDoorUae
import Derived.Test.YtpebdiofdfpooaaGreatDoorUak
import Derived.Test.YtpebdiofdfpooaaGreatDoorUag
import Derived.Shelf.SlSortCmp.NoneTotal
import Derived.Test.YtpebdiofdfpooaaGreatDoorUaj
import Derived.Shelf.SlGeneric
import Derived.Ground.SlsfProg
set_option linter.unusedSimpArgs false
set_option linter.unusedVariables false
set_option maxHeartbeats 8000000
namespace Go.Proofs
open Go Go.Q
attribute [local irreducible] EG AY B2 FZ
theorem oM {b:Bool} (h:(!b)=false):b=true:=by cases b<;>simp_all
def Eu (s:List Sto) (i:Nat):Int:=
 if(EF (s.getD i Sto.zero).patch).2≠0 then(EF (s.getD i Sto.zero).patch).2 else if(EF (s.getD i Sto.zero).patch).1≠(s.getD i Sto.zero).id then 13 else
 if 0 < (i:Int)∧0≤Dh (s.getD (i - 1) Sto.zero).id (EF (s.getD i Sto.zero).patch).1 then 9 else 0
def FJ (s:List Sto):Int:=
 if 400 < (s.length:Int)then 4 else if Aq (Eu s) (List.range s.length)≠0 then Aq (Eu s) (List.range s.length)else
 if s.all (fun x=>Ca (ids s) (Bf x.patch))=false then 19 else if((ED s).length:Int) < s.length then 20 else Aq (fun(x:Sto)=>FT s x.patch x.id) s
instance gM (s:List Sto) (t:CW) [hs:B3 (Dc s)]:Bl Tryz.prog 63 [.slice (s.map eSto) t] (.raw (.int .i64 (FJ s))):=⟨by
 obtain⟨hl8,hgr⟩:=hs.out
 refine Ak Tryz.func63 Tryz.ntmps63 rfl (rs:= [.tmp 2]) rfl rfl fun hb LF=>?_
 refine Ad ?_
 refine A1 (fun h1=>?_) (fun h1=>?_)
 ·omega
 rw[FJ,if_neg h1]
 refine Ad ?_
 refine AW (σ:=Nat) (fun k=>k≤s.length∧ ∀ i (h:i < (List.range s.length).length),i < k→Eu s (List.range s.length)[i]=0) (fun k=>s.length - k) (fun k=> [(0,.slice (s.map eSto) t),(3,.raw (.int .i64 k))]) (fun _=>LF) 0 ⟨by simp,by simp⟩ ⟨rfl,rfl⟩ (.refl _) ?_
 rintro k ⟨hk,he⟩
 refine Ad ?_
 refine A1 (fun hc=>?_) (fun hc=>?_)
 ·have hlt:k < s.length:=by omega
  have hltr:k < (List.range s.length).length:=by simpa using hlt
  have ek:(List.range s.length)[k]=k:=by simp
  have e0:s.getD k Sto.zero=s[k]:=by simp[List.getD,hlt]
  have i1:B3 (EE s[k].patch=false):=⟨hgr _ (AK hlt)⟩
  refine DB fun b=>?_
  refine AL (fun h2=>?_) (fun h2=>?_)
  ·refine Ad ?_
   refine Ah (.of_eq ?_)
   have e:Eu s (List.range s.length)[k]=(EF s[k].patch).2:=by rw[ek,Eu,e0,if_pos h2]
   have f:=CQ hltr he (by rw[e];exact h2)
   rw[if_pos (by rw[f,e];exact h2),f,e]
  refine Ad ?_
  refine AL (fun h3=>?_) (fun h3=>?_)
  ·refine Ad ?_
   refine Ah (.of_eq ?_)
   have e:Eu s (List.range s.length)[k]=13:=by rw[ek,Eu,e0,if_neg (by simp[h2]),if_pos h3]
   have f:=CQ hltr he (by rw[e];decide)
   rw[if_pos (by rw[f,e];decide),f,e]
  refine Ad ?_
  refine An (fun hp=>?_) (fun hp=>?_)
  ·have hp':0 < (k:Int):=Ab hp
   refine Bz ?_
   have e1:s.getD (k - 1) Sto.zero=s[((k:Int) - 1).toNat]:=by
    have:((k:Int) - 1).toNat=k - 1:=by omega
    simp only[this]
    have h':k - 1 < s.length:=by omega
    simp[List.getD,h']
   refine A1 (fun h4=>?_) (fun h4=>?_)
   ·refine Ad ?_
    refine Ah (.of_eq ?_)
    have e:Eu s (List.range s.length)[k]=9:=by rw[ek,Eu,e0,e1,if_neg (by simp[h2]),if_neg (by simp[h3]),if_pos ⟨hp',h4⟩]
    have f:=CQ hltr he (by rw[e];decide)
    rw[if_pos (by rw[f,e];decide),f,e]
   ·refine Ad ?_
    have e:Eu s (List.range s.length)[k]=0:=by rw[ek,Eu,e0,e1,if_neg (by simp[h2]),if_neg (by simp[h3]),if_neg (fun h=>h4 h.2)]
    exact⟨k+1,⟨by omega,DT he hltr e⟩,by dsimp only;omega,⟨rfl,rfl⟩,.cons _ (.refl _)⟩
  ·have hp': ¬0 < (k:Int):=BJ hp
   refine Bz ?_
   have e:Eu s (List.range s.length)[k]=0:=by rw[ek,Eu,e0,if_neg (by simp[h2]),if_neg (by simp[h3]),if_neg (fun h=>hp' h.1)]
   exact⟨k+1,⟨by omega,DT he hltr e⟩,by dsimp only;omega,⟨rfl,rfl⟩,.cons _ (.refl _)⟩
 have hA:Aq (Eu s) (List.range s.length)=0:=CG fun i h=>he i h (by simp at h;omega)
 rw[if_neg (by simp[hA])]
 clear he hA hk hc
 refine Ad ?_
 refine AW (σ:=Nat) (fun k=>k≤s.length∧ ∀ i (h:i < s.length),i < k→Ca (ids s) (Bf s[i].patch)=true) (fun k=>s.length - k) (fun k=> [(0,.slice (s.map eSto) t),(6,.slice ((ids s).map eDig) .ro),(7,.raw (.int .i64 k))]) (fun _=>LF) 0 ⟨by simp,by simp⟩ ⟨rfl,rfl,rfl⟩ (.refl _) ?_
 rintro k ⟨hk,he⟩
 refine Ad ?_
 refine A1 (fun hc=>?_) (fun hc=>?_)
 ·have hlt:k < s.length:=by omega
  have i1:B3 (EE s[k].patch=false):=⟨hgr _ (AK hlt)⟩
  refine Ad ?_
  refine AO (fun h=>?_) (fun h=>?_)
  ·refine Ad ?_
   refine Ah (.of_eq ?_)
   have hx:Ca (ids s) (Bf s[k].patch)=false:=LA h
   have hy:s.all (fun x=>Ca (ids s) (Bf x.patch))=false:=Fl hlt hx
   rw[if_pos hy]
  ·refine Ad ?_
   have hx:Ca (ids s) (Bf s[k].patch)=true:=oM h
   have hy: ∀ i (h:i < s.length),i < k+1→Ca (ids s) (Bf s[i].patch)=true:=fun i hi hik=>by
    rcases BB i k with h'|h'
    ·exact he i hi h'
    ·have e:i=k:=by omega
     subst e;exact hx
   exact⟨k+1,⟨by omega,hy⟩,by dsimp only;omega,⟨rfl,rfl,rfl⟩,.refl _⟩
 have hB:s.all (fun x=>Ca (ids s) (Bf x.patch))=true:=GZ fun i h=>he i h (by omega)
 rw[if_neg (by simp[hB])]
 clear he hB hk hc
 refine Ad ?_
 refine A1 (fun h=>?_) (fun h=>?_)
 ·refine Ad ?_
  refine Ah (.of_eq ?_)
  rw[if_pos h]
 rw[if_neg h]
 refine Ad ?_
 refine AW (σ:=Nat) (fun k=>k≤s.length∧ ∀ i (h:i < s.length),i < k→FT s s[i].patch s[i].id=0) (fun k=>s.length - k) (fun k=> [(0,.slice (s.map eSto) t),(8,.raw (.int .i64 k))]) (fun _=>LF) 0 ⟨by simp,by simp⟩ ⟨rfl,rfl⟩ (.refl _) ?_
 rintro k ⟨hk,he⟩
 refine Ad ?_
 refine A1 (fun hc=>?_) (fun hc=>?_)
 ·have hlt:k < s.length:=by omega
  refine Ad ?_
  refine AL (fun h2=>?_) (fun h2=>?_)
  ·refine Ad ?_
   refine Ah (.of_eq ?_)
   rw[CQ (f:=fun(x:Sto)=>FT s x.patch x.id) hlt he h2]
  ·refine Ad ?_
   exact⟨k+1,⟨by omega,DT (f:=fun(x:Sto)=>FT s x.patch x.id) he hlt h2⟩,by dsimp only;omega,⟨rfl,rfl⟩,.refl _⟩
 ·refine Ad ?_
  refine Ah (.of_eq ?_)
  rw[CG (f:=fun(x:Sto)=>FT s x.patch x.id) fun i h=>he i h (by omega)]⟩
theorem Kl {s:List Sto} (h:GD s=false):Dc s:=by
 unfold GD at h
 simp only[Bc,A7,FE]at h
 obtain⟨⟨h1,h2⟩,_⟩:=h
 refine⟨by omega,fun x hx=>?_⟩
 have:=h1 x (by rw[AA (by omega)];exact hx)
 exact UE (by simpa using this)
def QF (s:List Sto):Bool:=!GD s&&decide (FJ s=0)
instance yS (s:List Sto) (t:CW):Bl Tryz.prog 34 [.slice (s.map eSto) t] (.raw (.bool (QF s))):=⟨by
 refine Ak Tryz.func34 Tryz.ntmps34 rfl (rs:= [.tmp 2]) rfl rfl fun hb LF=>?_
 refine Ad ?_
 refine An (fun hp=>?_) (fun hp=>?_)
 ·have i1:B3 (Dc s):=⟨Kl (by simpa using hp)⟩
  refine Bz ?_
  refine Ah (.of_eq ?_)
  rw[QF,hp,Rh]
 ·refine Bz ?_
  refine Ah (.of_eq ?_)
  rw[QF,hp,Xt]⟩
def H6 (s:List Sto) (x:Sto):List Sto:=s.takeWhile (fun y=>decide (Dh y.id x.id < 0))++x::s.dropWhile (fun y=>decide (Dh y.id x.id < 0))
theorem Xa {P:Program} {ρ:Env} {L LF:List Res} {X:PV} {t u s T n b T':Nat} {cs:List PV} {x z:PV} [hT:FL P T n] (h:ρ u= .raw (.pointer (some ⟨b,0,none⟩))) (hX:Le (.tuple [x,.agg cs,z]) X) (hx:ρ t=x:=by conv=>lhs;whnf) (hz:ρ s=z:=by conv=>lhs;whnf) (hm:Res.box b T' cs∈L:=by repeat(first|exact AI|apply AD)) (hn:cs.length=n:=by simp) (hs:LF.Sublist L:=by repeat(first|exact Dd _|apply List.Sublist.cons)):
  gj P [.tmp t,.cell u T,.tmp s] (fun r L'=>Le r X∧L'= []) LF .ret ρ L:=⟨trivial,_,[],.cons (.tmp t) (.cons (.cell u T h hm hT.out hn) (.cons (.tmp s) .nil)),hs,by subst hx;subst hz;exact hX,rfl⟩
def LU (s:List Sto) (p:Pat):List Sto × Dig × Int:=
 if(EF p).2≠0 then([],Dig.zero,(EF p).2)else
 if(getS s (EF p).1).isSome=true then(if p=(getS s (EF p).1).getD Pat.zero then([],Dig.zero,6)else([],Dig.zero,14))else
 if Ca (ids s) (Bf p)=false then([],Dig.zero,19)else if FT s p (EF p).1≠0 then([],Dig.zero,FT s p (EF p).1)else
 if 400≤(s.length:Int)then([],Dig.zero,4)else(H6 s ⟨(EF p).1,p⟩,(EF p).1,0)
end Go.Proofs
namespace Go.Proofs
open Go Go.Q
theorem E0 {α:Type} {f:α→Int} {l:List α} (h:Aq f l=0): ∀ x∈l,f x=0:=by
 induction l with
 |nil=>intro x hx;cases hx
 |cons y l ih=>
  unfold Aq at h
  split at h
  ·rename_i h0
   intro x hx
   rcases AQ.1 hx with rfl|hx
   ·exact h0
   ·exact ih h x hx
  ·rename_i h0;exact absurd h h0
structure C7 (s:List Sto):Prop where
 close:La s
 id: ∀ x∈s,(EF x.patch).2=0∧(EF x.patch).1=x.id
 asc:Ej (ids s)
 order:s.length≤(ED s).length
 refs: ∀ x∈s,FT s x.patch x.id=0
theorem Iz: ∀ {l:List Dig},(∀ i (h:i+1 < l.length),Dig.lt l[i] l[i+1])→Ej l
 | [],_=> .nil
 | [x],_=>En _ _
 |x::y::l,h=>by
  have ih:Ej (y::l):=Iz fun i hi=>by have:=h (i+1) (by simpa using hi);simpa using this
  have h0:=h 0 (by simp)
  simp only[B9,Cn]at h0
  refine Ba.2 ⟨fun z hz=>?_,ih⟩
  rcases AQ.1 hz with rfl|hz
  ·exact h0
  ·exact Dig.lt_trans h0 ((Ba.1 ih).1 z hz)
theorem KI {s:List Sto} (hgood:Dc s) (hc:FJ s=0):C7 s:=by
 have hl:=hgood.1
 unfold FJ at hc
 rw[if_neg (by omega)]at hc
 split at hc
 ·rename_i h0;exact absurd hc h0
 rename_i h1
 have h1:Aq (Eu s) (List.range s.length)=0:=Aj.1 h1
 split at hc
 ·omega
 rename_i h2
 split at hc
 ·omega
 rename_i h3
 have hall: ∀ x∈s,Ca (ids s) (Bf x.patch)=true:=by
  have:s.all (fun x=>Ca (ids s) (Bf x.patch))=true:=by simpa using h2
  exact fun x hx=>Ar.1 this x hx
 have hchk: ∀ i (hi:i < s.length),(EF s[i].patch).2=0∧(EF s[i].patch).1=s[i].id∧(∀ h:0 < i,Dh (s[i - 1]'(by omega)).id s[i].id < 0):=by
  intro i hi
  have h4:=E0 h1 i (DQ.2 hi)
  have e0:s.getD i Sto.zero=s[i]:=by simp[List.getD,hi]
  unfold Eu at h4
  rw[e0]at h4
  split at h4
  ·rename_i h5;exact absurd h4 h5
  rename_i h5
  split at h4
  ·omega
  rename_i h6
  split at h4
  ·omega
  rename_i h7
  have h6:(EF s[i].patch).1=s[i].id:=Aj.1 h6
  refine⟨Aj.1 h5,h6,fun hp=>?_⟩
  have e1:s.getD (i - 1) Sto.zero=s[i - 1]'(by omega):=by
   have h':i - 1 < s.length:=by omega
   simp[List.getD,h']
  rw[e1,h6]at h7
  have: ¬0≤Dh (s[i - 1]'(by omega)).id s[i].id:=fun h8=>h7 ⟨by omega,h8⟩
  omega
 refine⟨⟨hgood,fun x hx d hd=>?_⟩,fun x hx=>?_,?_,by omega,fun x hx=>E0 hc x hx⟩
 ·have:=Ar.1 (hall x hx) d hd
  simpa using this
 ·obtain⟨i,hi,rfl⟩:=AX.1 hx
  exact⟨(hchk i hi).1,(hchk i hi).2.1⟩
 ·refine Iz fun i hi=>?_
  rw[Dj]at hi
  have:=(hchk (i+1) hi).2.2 (by omega)
  simpa [ids,Dig.lt]using this
theorem Sd {s:List Sto} (h:QF s=true):C7 s:=by
 unfold QF at h
 simp only[Bu,AG,AB]at h
 exact KI (Kl h.1) h.2
def N0 (s:List Sto) (out:List Dig):Prop:= ∀ k (h:k < out.length),∃ x∈s,x.id=out[k]∧(∀ d∈Bf x.patch,d∈out.take k)∧out[k]∉out.take k
theorem TQ {s:List Sto} {out:List Dig}: ∀ (n:Nat),n≤s.length→0≤(List.range n).foldl (Gg s out) (-1)→
  ∃ x∈s,s.getD ((List.range n).foldl (Gg s out) (-1)).toNat Sto.zero=x∧ ¬x.id∈out∧Ca out (Bf x.patch)=true
 |0,_,h=>by simp at h
 |n+1,hn,h=>by
  rw[Bn]at h ⊢
  generalize hk:(List.range n).foldl (Gg s out) (-1)=k at h ⊢
  unfold Gg at h ⊢
  split at h
  ·rename_i hc
   rw[if_pos hc]
   have e:s.getD n Sto.zero=s[n]:=by simp[List.getD,show n < s.length by omega]
   rw[e]at hc
   exact⟨s[n],AK _,by simpa using e,hc.1⟩
  ·rename_i hc
   rw[if_neg hc]
   have:=TQ (s:=s) (out:=out) n (by omega) (by rw[hk];exact h)
   rw[hk]at this;exact this
theorem QD {s:List Sto}: ∀ (n:Nat) (out:List Dig),N0 s out→N0 s (Nl s n out)
 |0,_,h=>h
 |n+1,out,h=>by
  unfold Nl
  split
  ·exact h
  ·rename_i hp
   refine QD n _ ?_
   obtain⟨x,hx,e,h1,h2⟩:=TQ (s:=s) (out:=out) s.length (B5 _) (by unfold L8 at hp;omega)
   have e':s.getD (L8 s out).toNat Sto.zero=x:=e
   rw[e']
   intro k hk
   rw[A8,CJ]at hk
   by_cases hko:k < out.length
   ·obtain⟨y,hy,q1,q2,q3⟩:=h k hko
    refine⟨y,hy,by rw[Bh hko];exact q1,?_,?_⟩
    ·rw[Fc (by omega)];exact q2
    ·rw[Bh hko,Fc (by omega)];exact q3
   ·have hke:k=out.length:=by omega
    subst hke
    refine⟨x,hx,by simp,?_,?_⟩
    ·intro d hd
     have:=Ar.1 h2 d hd
     simpa using this
    ·simpa using h1
theorem N0.nodup {s:List Sto} {out:List Dig} (h:N0 s out):out.Nodup:=by
 refine BN.2 fun i j hi hj hij e=>?_
 obtain⟨_,_,_,_,h3⟩:=h j hj
 exact h3 (e ▸ Dm.2 ⟨i,by omega,rfl⟩)
theorem fh {s:List Sto} (h:Ej (ids s)):(ids s).Nodup:=h.nodup
theorem KX {s:List Sto} (h:Ej (ids s)) {x y:Sto} (hx:x∈s) (hy:y∈s) (e:x.id=y.id):x=y:=by
 obtain⟨i,hi,rfl⟩:=AX.1 hx
 obtain⟨j,hj,rfl⟩:=AX.1 hy
 have hn:=fh h
 have hi':i < (ids s).length:=by rw[Dj];exact hi
 have hj':j < (ids s).length:=by rw[Dj];exact hj
 have:(ids s)[i]=(ids s)[j]:=by simpa [ids]using e
 have hp:=BN.1 hn
 rcases Fp i j with hij|hij|hij
 ·exact absurd this (hp i j hi' hj' hij)
 ·subst hij;rfl
 ·exact absurd this.symm (hp j i hj' hi' hij)
theorem N0.sub {s:List Sto} {out:List Dig} (h:N0 s out): ∀ d∈out,d∈ids s:=fun d hd=>by
 obtain⟨k,hk,rfl⟩:=AX.1 hd
 obtain⟨x,hx,e,_⟩:=h k hk
 exact AU.2 ⟨x,hx,e⟩
theorem GF (s:List Sto):N0 s (ED s):=QD _ _ (fun k hk=>absurd hk (Ia _))
theorem C7.mem_order {s:List Sto} (v:C7 s) {d:Dig} (hd:d∈ids s):d∈ED s:=by
 by_cases h:d∈ED s
 ·exact h
 ·have hn:(d::ED s).Nodup:=CH.2 ⟨h,(GF s).nodup⟩
  have:=Eh hn (m:=ids s) fun y hy=>by
   rcases AQ.1 hy with rfl|hy
   ·exact hd
   ·exact(GF s).sub y hy
  have h2:=v.order
  rw[Dj]at this
  simp only[AH]at this
  omega
theorem ZD {l:List Dig} {i:Nat} (h:i < l.length):l.idxOf l[i]≤i:=by
 induction l generalizing i with
 |nil=>simp at h
 |cons x l ih=>
  cases i with
  |zero=>simp
  |succ i=>
   simp only[Cn,List.idxOf_cons]
   have:=ih (by simpa using h)
   cases hb:(x==l[i]'(by simpa using h))with
   |true=>simp
   |false=>simp;omega
def Ni (s:List Sto) (d:Dig):Nat:=(ED s).idxOf d
theorem C7.rank {s:List Sto} (v:C7 s) {x:Sto} (hx:x∈s) {d:Dig} (hd:d∈Bf x.patch):Ni s d < Ni s x.id:=by
 have hm:=v.mem_order (AU.2 ⟨x,hx,rfl⟩)
 have hk:(ED s).idxOf x.id < (ED s).length:=List.idxOf_lt_length_of_mem hm
 obtain⟨y,hy,e,h1,_⟩:=GF s _ hk
 rw[cF]at e
 have:=KX v.asc hy hx e
 subst this
 obtain⟨i,hi,rfl⟩:=Dm.1 (h1 d hd)
 have h2:=ZD (l:=ED s) (i:=i) (by omega)
 unfold Ni
 omega
theorem C7.getS {s:List Sto} (v:C7 s) {x:Sto} (hx:x∈s):getS s x.id=some x.patch:=by
 cases hg:Go.Proofs.getS s x.id with
 |none=>
  exfalso
  have: ∀ (l:List Sto),x∈l→Go.Proofs.getS l x.id≠none:=by
   intro l
   induction l with
   |nil=>intro h;cases h
   |cons y l ih=>
    intro h
    unfold Go.Proofs.getS
    split
    ·simp
    ·rename_i hne
     rcases AQ.1 h with rfl|h
     ·exact absurd rfl hne
     ·exact ih h
  exact this s hx hg
 |some p=>
  obtain⟨y,hy,e,rfl⟩:=Km hg
  rw[KX v.asc hy hx e]
theorem C7.ndS {s:List Sto} (v:C7 s) {x:Sto} (hx:x∈s):ndS s x.id=Bf x.patch:=by
 unfold Go.Proofs.ndS;rw[v.getS hx];rfl
theorem C7.mem_clo {s:List Sto} (v:C7 s) {p:Dig} (hp:p∈ids s) (d:Dig):d∈pQ s p↔Q.Reach (Go.Proofs.ndS s) [p] d:=by
 have ha:Ca (ids s) [p]=true:=by simp[Ca,hp]
 unfold pQ DC
 rw[if_neg (by simp[ha])]
 exact OV (U:=ids s) (fun x _ d hd=>v.close.nd x d hd) (fun d hd=>by rw[B1.1 hd];exact hp) (Db (Dj s))
attribute [local irreducible] EG AY B2 FZ Mz
theorem fB (c:Chg) (first:Int): ∀ j (h:j < (EZ c first).length),((EZ c first)[j]).id=⟨Dig.zero,first+j⟩:=by
 intro j h
 have key:(∃ x:Atm,EZ c first= [x]∧x.id=⟨Dig.zero,first⟩)∨EZ c first=(List.range c.lines.length).map (Fa c first)++(List.range (c.lines.length+1)).map (Ep c first):=by
  unfold EZ
  repeat' split
  all_goals first|exact .inl ⟨_,rfl,rfl⟩|exact .inr rfl
 rcases key with ⟨x,e,hx⟩|e
 ·have hj:j=0:=by rw[e]at h;simpa using h
  subst hj
  simp only[e,B9,hx]
  simp
 ·have h2:=h
  simp only[e]at h2 ⊢
  rw[List.getElem_append]
  split
  ·simp[Fa]
  ·rename_i h3
   simp only[AR,H7]at h3
   simp only[BT,DW,Ep,AR,H7]
   congr 1
   omega
theorem Pb {own:List Atm} (c:Chg) (h:NI own):NI (own++EZ c own.length):=by
 intro i hi
 rw[List.getElem_append]
 split
 ·exact h i _
 ·rename_i h3
  rw[fB]
  congr 1
  omega
theorem Ma {c:Chg} (h:C0 c=0):1≤c.kind∧c.kind≤7:=by
 unfold C0 at h
 split at h
 ·omega
 ·omega
theorem YZ {l:List Dig} (h:Jh l=0): ∀ d∈l,d≠Dig.zero:=by
 intro d hd e
 unfold Jh at h
 split at h
 ·omega
 obtain⟨i,hi,rfl⟩:=AX.1 hd
 have h0:=E0 h i (by simpa using hi)
 rw[Hn,if_pos (by simp[List.getD,hi,e])]at h0
 omega
def L9 (p:Pat):List Atm × Str × Int:=if(Cq p).2≠0 then([],[],(Cq p).2)else if 65536 < ((NN p).length:Int)then([],[],4)else((Cq p).1,NN p,0)
theorem Mc {p:Pat} (h:J9 p=0):Cq p=DK p.changes []:=by rw[IV,if_neg (by simp[h])]
theorem TG {p:Pat} (h:J9 p=0):Jh p.deps=0:=by
 unfold J9 at h
 split at h
 ·omega
 split at h
 ·omega
 split at h
 ·omega
 split at h
 ·rename_i h4;exact absurd h h4
 ·rename_i h4;simpa using h4
def pX (b:Nat) (s:CW × List Atm) (LF:List Res):List Res:= .box b 199 [.slice (s.2.map eAtm) s.1]:: .tok s.1 s.2.length 172::LF
instance tW (p:Pat) [hs:B3 (EE p=false)]:Bl Tryz.prog 181 [.agg (CP p)] (.tuple [.slice ((L9 p).1.map eAtm) .ro,.str (L9 p).2.1,.raw (.int .i64 (L9 p).2.2)]):=⟨by
 obtain⟨hg1,hg2,hg3,hg4,hg5⟩:=IW hs.out
 refine Ak Tryz.func181 Tryz.ntmps181 rfl (rs:= [.tmp 2,.tmp 3,.tmp 4]) rfl rfl fun hb LF=>?_
 refine wf ?_
 refine AL (fun h1=>?_) (fun h1=>?_)
 ·refine wf ?_
  refine l0 ?_
  have e:Cq p=([],J9 p):=by rw[IV,if_pos h1]
  have e2:L9 p=([],[],J9 p):=by rw[L9,e,if_pos h1]
  rw[e2]
  exact .tuple3 (.ros rfl) (.refl _) (.refl _)
 have hH:=Mc h1
 refine aE fun b6=>?_
 refine Ee 172 ?_
 refine GI (.swap _ _ _) ?_
 refine AW (σ:=Nat × CW × List Atm) (fun k=>k.1≤p.changes.length∧k.2.2.length≤k.1*81∧NI k.2.2∧(∀ c∈p.changes.take k.1,1≤c.kind∧c.kind≤7)∧Cq p=DK (p.changes.drop k.1) k.2.2) (fun k=>p.changes.length - k.1) (fun k=> [(1,.pt (CP p) 0),(6,.raw (.pointer (some ⟨b6,0,none⟩))),(20,.slice (p.changes.map BC) .ro),(21,.raw (.int .i64 p.changes.length)),(22,.raw (.int .i64 k.1))]) (fun k=>pX b6 k.2 LF) (0,.nil,[]) ⟨by simp,by simp,fun i h=>absurd h (by simp),by simp,hH⟩ ⟨rfl,rfl,rfl,rfl,rfl⟩ (.refl _) ?_
 rintro⟨k,v,own⟩ ⟨hk,hlen,hid,hkd,he⟩
 dsimp only at hk hlen hid hkd he
 rw[show pX b6 (k,v,own).2 LF= .box b6 199 [.slice (own.map eAtm) v]:: .tok v own.length 172::LF from rfl]
 refine wf ?_
 refine A1 (fun hc=>?_) (fun hc=>?_)
 ·have hlt:k < p.changes.length:=by omega
  rw[LQ hlt]at he
  refine wz fun b8=>?_
  refine Ag 8 ?_
  refine wf ?_
  refine AL (fun h2=>?_) (fun h2=>?_)
  ·refine wf ?_
   rw[if_pos h2]at he
   have e2:L9 p=([],[],C0 p.changes[k]):=by rw[L9,he,if_pos h2]
   refine l0 ?_
   rw[e2]
   exact .tuple3 (.ros rfl) (.refl _) (.refl _)
  rw[if_neg (by simp[h2])]at he
  have hll:p.changes[k].lines.length≤2000:=JZ h2
  have hkk:1≤p.changes[k].kind∧p.changes[k].kind≤7:=Ma h2
  have hmm:=Lq p.changes[k] own.length
  have hl40:=(hg5 _ (AK hlt)).lines
  have i1:B3 (C0 p.changes[k]=0∧own.length≤100000∧NI own):=⟨h2,by omega,hid⟩
  refine wf ?_
  refine AL (fun h3=>?_) (fun h3=>?_)
  ·refine wf ?_
   rw[if_pos h3]at he
   have e2:L9 p=([],[],FY p.changes[k] own):=by rw[L9,he,if_pos h3]
   refine l0 ?_
   rw[e2]
   exact .tuple3 (.ros rfl) (.refl _) (.refl _)
  rw[if_neg (by simp[h3])]at he
  refine wf ?_
  refine Hp (Vj p.changes[k] own.length hkk ⟨hll,by omega,by omega⟩) [41] (σ:=CW × List Atm) (fun pre s=>s.2=own++pre) (fun _ _=>False) (fun s LF'=>pX b6 s LF') (v,own) LF ?_ rfl (fun _=>rfl) (by simp) (fun _ _=>rfl) (.refl _) (by simp) ?_ ?_ (fun _ _ h=>h.elim)
  ·exact .refl _
  ·rintro pre x ⟨v1,own1⟩ LF' hpre hI
   dsimp only at hI
   have hpl:=hpre.length_le
   have hol:own1.length≤90000:=by
    rw[hI,A8]
    rw[A8,CJ]at hpl
    omega
   rw[show pX b6 (v1,own1) LF'= .box b6 199 [.slice (own1.map eAtm) v1]:: .tok v1 own1.length 172::LF' from rfl]
   refine wz fun b11=>?_
   refine Ag 11 ?_
   refine Xw fun v2=>?_
   exact⟨(v2,own1++ [x]),by dsimp only;rw[hI,AJ],.refl _⟩
  ·rintro⟨v1,own1⟩ hI
   dsimp only at hI
   refine wf ?_
   refine⟨(k+1,v1,own1),⟨by dsimp only;omega,?_,?_,?_,?_⟩,by dsimp only;omega,⟨rfl,rfl,rfl,rfl,rfl⟩,.refl _⟩
   ·dsimp only
    rw[hI,A8];omega
   ·dsimp only
    rw[hI];exact Pb _ hid
   ·dsimp only
    intro c hcm
    rw[A6 hlt]at hcm
    rcases Ai.1 hcm with h|h
    ·exact hkd c h
    ·rw[B1.1 h];exact hkk
   ·dsimp only
    rw[hI];exact he
 have hkk:k=p.changes.length:=by omega
 rw[Cp (by omega)]at he
 rw[AA (by omega)]at hkd
 have he':Cq p=(own,0):=he
 have i1:B3 (bZ p):=⟨⟨Nw hs.out,YZ (TG h1),hkd⟩⟩
 refine wf ?_
 have h0: ¬(Cq p).2≠0:=by rw[he'];simp
 refine A1 (fun h=>?_) (fun h=>?_)
 ·refine wf ?_
  have e2:L9 p=([],[],4):=by rw[L9,if_neg h0,if_pos h]
  refine l0 ?_
  rw[e2]
  exact .tuple3 (.ros rfl) (.refl _) (.refl _)
 ·refine wf ?_
  have e2:L9 p=(own,NN p,0):=by rw[L9,if_neg h0,if_neg h,he']
  refine l0 ?_
  rw[e2]
  exact .tuple3 (.ros rfl) (.refl _) (.refl _)⟩
end Go.Proofs
namespace Go.Proofs
open Go Go.Q
attribute [local irreducible] EG AY B2 FZ
theorem X0 (p:Pat):(L9 p).2.2=(Cc p).2:=by
 unfold L9 Cc KC
 split
 ·rfl
 ·split<;>rfl
theorem nf (p:Pat):(L9 p).2.1=(Cc p).1:=by
 unfold L9 Cc KC
 split
 ·rfl
 ·split<;>rfl
instance uD (p:Pat) [hs:B3 (EE p=false)]:Bl Tryz.prog 161 [.agg (CP p)] (.raw (.int .i64 (Cc p).2)):=⟨by
 refine Ak Tryz.func161 Tryz.ntmps161 rfl (rs:= [.tmp 2]) rfl rfl fun hb LF=>?_
 refine wf ?_
 refine Ah (.of_eq ?_)
 rw[←X0]⟩
instance re (p:Pat) [hs:B3 (EE p=false)]:Bl Tryz.prog 142 [.agg (CP p)] (.tuple [.str (Cc p).1,.raw (.int .i64 (Cc p).2)]):=⟨by
 refine Ak Tryz.func142 Tryz.ntmps142 rfl (rs:= [.tmp 2,.tmp 3]) rfl rfl fun hb LF=>?_
 refine wf ?_
 refine GM ?_
 rw[←X0,←nf]
 exact .refl _⟩
def vDig (d:Dig):List Value:=NR d.bs
instance :Oj eDig vDig:=⟨fun d=>by simp[eDig,vDig,NR,eU8];intro a _;rfl,fun d x hx=>by
 obtain⟨b,_,rfl⟩:=AU.1 hx;rfl⟩
instance :WE Tryz.prog 39 45 32 32:=⟨by
 have h2:(Tryz.prog.info? 45).map (fun i=>(i.size,i.bytes,i.zero.isSome,(i.zero.getD undef).cells.size))=some (32,32,true,32):=by kernel_rfl
 obtain⟨i,hi,e⟩:=Bj.1 h2
 simp only[Prod.mk.injEq]at e
 obtain⟨e1,e2,e3,e4⟩:=e
 obtain⟨z,hz⟩:=E5.1 e3
 rw[hz]at e4
 exact⟨i,z,by kernel_rfl,hi,e1,e2,hz,e4,by decide,by decide⟩⟩
abbrev cA (v:Value) (l:List Dig) (R:List Res):Prop:=K2 vDig 45 32 v l R
theorem fx (l:List Dig) (t:CW) (hl:l.length≤1000000):B2 Tryz.prog 162 [.slice (l.map eDig) t] [] (fun r L'=> ∃ v,r= .raw v∧cA v l L'):=by
 refine Bw Tryz.func162 rfl Tryz.ntmps162 (rs:= [.tmp 2]) rfl rfl fun hb LF=>?_
 rw[BK]
 refine wf ?_
 refine SJ rfl fun b hnil=>?_
 refine wf ?_
 refine AO (fun h=>?_) (fun h=>?_)
 ·have h0:l= []:=by simpa using hnil h
  subst h0
  refine DU ?_
  refine CC (by kernel_rfl) ?_
  refine Jd ?_
  refine AN ?_
  refine wf ?_
  exact⟨trivial,_,[],.cons (.tmp 2) .nil,.refl _,_,rfl,.nil none (by simp)⟩
 refine GH ?_
 refine DU ?_
 refine CC (by kernel_rfl) ?_
 refine SL (vf:=vDig) fun v0 hv0=>?_
 refine wf ?_
 refine Q4 (f:=eDig) (R:= []) (LF:=LF) (fun R'=>R'++LF) rfl rfl hv0 (.refl _) (fun R'=> .refl _) (by simp only[Aa];omega) (by simp only[Aa];omega) fun v R' hv=>?_
 refine wf ?_
 refine wf ?_
 rw[BK]at hv
 exact⟨trivial,_,R',.cons (.tmp 2) .nil,.refl _,v,rfl,hv⟩
def xC (acc:List Dig) (x:Dig):List Dig:=if acc.getLast? =some x then acc else acc++ [x]
def Xf (l:List Dig):List Dig:=l.foldl xC []
theorem Zc (l:List Dig) (x:Dig):Xf (l++ [x])=if(Xf l).getLast? =some x then Xf l else Xf l++ [x]:=by rw[Xf,DR];rfl
theorem l8 (l:List Dig):(Xf l).getLast? =l.getLast?:=by
 rcases List.eq_nil_or_concat l with rfl|⟨m,x,rfl⟩
 ·rfl
 ·rw[List.concat_eq_append,Zc]
  split
  ·rename_i h;rw[h];simp
  ·simp
theorem U4 {l:List Dig} {j:Nat} (h0:0 < j) (h:j < l.length):Xf (l.take (j+1))=if l[j]=l[j - 1]then Xf (l.take j)else Xf (l.take j)++ [l[j]]:=by
 rw[A6 h,Zc,l8]
 have:(l.take j).getLast? =some l[j - 1]:=by
  rw[List.getLast?_eq_getElem?,AV,DD (by omega),Gl,if_pos (by omega)]
  simp
 rw[this]
 by_cases e:l[j]=l[j - 1]
 ·rw[if_pos (by rw[e]),if_pos e]
 ·rw[if_neg (fun h=>e (by injection h with h;exact h.symm)),if_neg e]
theorem FQ (d:Dig):(vDig d).length=32:=by
 have:(eDig d).length=32:=by simp
 rw[(inferInstance:Oj eDig vDig).out]at this
 simpa using this
theorem gv: ∀ i z,Tryz.prog.info? 45=some i→i.zero=some z→ ∀ x∈z.cells,x.oneCell'=true:=by
 have h:(Tryz.prog.info? 45).map (fun i=>(i.zero.getD undef).cells.all (·.oneCell'))=some true:=by kernel_rfl
 intro i z hi hz x hx
 rw[hi]at h
 simp only[FG,hz,Option.getD_some,Fo,EA]at h
 exact h x hx
theorem eG (l:List Dig) (k:Nat) (h:k≤l.length) (rest:List Value):(l.flatMap vDig++rest).take (k*32)=(l.take k).flatMap vDig:=by
 have e:(l.flatMap vDig++rest)=(l.take k).flatMap vDig++((l.drop k).flatMap vDig++rest):=by
  rw[←AJ,←GA,C4]
 rw[e]
 refine E1 ?_
 rw[Ns (f:=eDig) (sz:=32),AV,DD h]
theorem bj (l:List Dig) (v:Value) (R:List Res) (hv:cA v l R) (hl:l.length≤1000000):B2 Tryz.prog 166 [.raw v] R (fun r L'=>r= .slice ((Xf l).map eDig) .ro∧L'= []):=by
 refine Bw Tryz.func166 rfl Tryz.ntmps166 (rs:= [.tmp 2]) rfl rfl fun hb LF=>?_
 have hmx: ∀ m:List Dig,m.length≤l.length→m.length≤maxN∧m.length*32≤maxN:=fun m h=>by
  have:maxN=140737488355328:=rfl
  omega
 obtain⟨o,c,rfl⟩:=hv.slice
 refine wf ?_
 refine FS rfl ?_
 refine wf ?_
 refine A1 (fun h1=>?_) (fun h1=>?_)
 ·refine DU ?_
  refine CC (by kernel_rfl) ?_
  refine KA (by(conv=>lhs;whnf);done) ?_
  refine Jd ?_
  refine AN ?_
  have e:Xf l=l:=by
   match l,h1 with
   | [],_=>rfl
   | [x],_=>rfl
   |_::_::_,h=>simp at h;omega
  refine Hq (f:=eDig) 2 hv (hmx l (B5 _)) (.refl _) rfl ?_
  refine wf ?_
  exact⟨trivial,_,[],.cons (.tmp 2) .nil,.refl _,by rw[e];exact⟨rfl,rfl⟩⟩
 have hne:l≠ []:=fun e=>by subst e;exact h1 (by simp)
 obtain⟨_,r,cur,rest,rfl,rfl,hcur,hsz,hlc⟩:=hv.inv hne
 refine wf ?_
 refine AW (σ:=Nat) (fun k=>1≤k∧k≤l.length∧Xf (l.take k)=l.take k) (fun k=>l.length - k) (fun k=> [(0,.raw (.slice (some ⟨r,0,none⟩) l.length c)),(3,.raw (.int .i64 (k:Int)))]) (fun _=> [.raw r (.cells cur 45 (0,0))]++LF) 1 ⟨by omega,by omega,?_⟩ ⟨rfl,rfl⟩ (.refl _) ?_
 ·match l,h1 with
  | [],_=>rfl
  |x::_,_=>rfl
 rintro k ⟨hk1,hk,he⟩
 refine wf ?_
 refine FS rfl ?_
 refine wf ?_
 refine A1 (fun hc=>?_) (fun hc=>?_)
 ·have hlt:k < l.length:=by omega
  refine wn ?_
  refine BZ 10 ?_ ?_
  ·decide+kernel
  refine wf ?_
  refine H5 (k:=k) rfl rfl hlt ?_
  refine OE (f:=eDig) (a0:=l[k]) rfl AI (by rw[hcur,B4];exact PG FQ l k hlt rest) (by omega) ?_
  refine wf ?_
  refine H5 (k:=k - 1) rfl (by show PV.raw (Value.int .i64 ((k:Int) - 1))=PV.raw (Value.int .i64 ((k - 1:Nat):Int));congr 2;omega) (by omega) ?_
  refine OE (f:=eDig) (a0:=l[k - 1]) rfl AI (by rw[hcur,B4];exact PG FQ l (k - 1) (by omega) rest) (by omega) ?_
  refine wf ?_
  have hd:=U4 (l:=l) (j:=k) (by omega) hlt
  refine A1 (fun h2=>?_) (fun h2=>?_)
  ·rw[if_pos h2]at hd
   refine DU ?_
   refine CC (by kernel_rfl) ?_
   refine KA (by(conv=>lhs;whnf);done) ?_
   refine KA (by(conv=>lhs;whnf);done) ?_
   refine KZ k l.length rfl (by omega) (B5 _) (by omega) hlc (fun o e=>by cases e;exact⟨_,rfl⟩) (by simp) (by simp) (fun _=>rfl) ?_
   refine wf ?_
   refine AW (σ:=Nat × Nat × List Dig × Array Value) (fun j=>1≤j.1∧k+j.1≤l.length∧1≤j.2.1∧j.2.1+1≤k+j.1∧j.2.2.1.length=l.length∧j.2.2.1.take j.2.1=Xf (l.take (k+j.1))∧(∀ i,k+j.1≤i+1→j.2.2.1[i]? =l[i]?)∧j.2.2.2.toList=j.2.2.1.flatMap vDig++rest∧j.2.2.2.size=c*32) (fun j=>l.length - k - j.1) (fun j=> [(0,.raw (.slice (some ⟨r,0,none⟩) l.length c)),(3,.raw (.int .i64 (j.2.1:Int))),(4,.raw (.slice (some ⟨r,0+k*32,none⟩) (l.length - k) (c - k))),(5,.raw (.int .i64 (j.1:Int)))]) (fun j=> [.raw r (.cells j.2.2.2 45 (0,0))]++LF) (1,k,l,cur) ⟨by omega,by dsimp only;omega,by dsimp only;omega,by dsimp only;omega,rfl,by dsimp only;rw[hd,he],fun _ _=>rfl,hcur,hsz⟩ ⟨rfl,rfl,rfl,rfl⟩ (.refl _) ?_
   rintro⟨k2,kk,l1,cur1⟩ ⟨i1,i2,i3,i4,i5,i6,i7,i8,i9⟩
   dsimp only at i1 i2 i3 i4 i5 i6 i7 i8 i9 ⊢
   refine wf ?_
   refine FS rfl ?_
   refine wf ?_
   refine A1 (fun hc2=>?_) (fun hc2=>?_)
   ·have hlt2:k+k2 < l.length:=by omega
    have g1:l1[k+k2]'(by omega)=l[k+k2]:=by
     have:=i7 (k+k2) (by omega)
     rw[AZ (by omega),AZ hlt2]at this
     exact BX this
    have g2:l1[k+(k2 - 1)]'(by omega)=l[k+k2 - 1]:=by
     have:=i7 (k+(k2 - 1)) (by omega)
     rw[AZ (by omega),AZ (by omega)]at this
     have e:=BX this
     rw[e]
     congr 1
     omega
    have hd2:=U4 (l:=l) (j:=k+k2) (by omega) hlt2
    refine wn ?_
    refine BZ 10 ?_ ?_
    ·decide+kernel
    refine wf ?_
    refine H5 (k:=k2) rfl rfl (by omega) ?_
    refine OE (f:=eDig) (a0:=l[k+k2]) rfl AI (by rw[i8,show 0+k*32+k2*32=(k+k2)*32 by omega,PG FQ l1 (k+k2) (by omega) rest,g1]) (by omega) ?_
    refine wf ?_
    refine H5 (k:=k2 - 1) rfl (by show PV.raw (Value.int .i64 ((k2:Int) - 1))=PV.raw (Value.int .i64 ((k2 - 1:Nat):Int));congr 2;omega) (by omega) ?_
    refine OE (f:=eDig) (a0:=l[k+k2 - 1]) rfl AI (by rw[i8,show 0+k*32+(k2 - 1)*32=(k+(k2 - 1))*32 by omega,PG FQ l1 (k+(k2 - 1)) (by omega) rest,g2]) (by omega) ?_
    refine wf ?_
    refine AL (fun h3=>?_) (fun h3=>?_)
    ·rw[if_neg h3]at hd2
     refine wf ?_
     refine H5 (k:=k2) rfl rfl (by omega) ?_
     refine OE (f:=eDig) (a0:=l[k+k2]) rfl AI (by rw[i8,show 0+k*32+k2*32=(k+k2)*32 by omega,PG FQ l1 (k+k2) (by omega) rest,g1]) (by omega) ?_
     refine wf ?_
     refine H5 (k:=kk) rfl rfl (by omega) ?_
     refine nL (f:=eDig) (a0:=l[k+k2]) (E:=45) (cur:=cur1) (L':=LF) (fun x=> [x]++LF) rfl rfl (FQ _) (by omega) (.refl _) (fun _=> .refl _) ?_
     refine wf ?_
     refine wf ?_
     have hset:(l1.set kk l[k+k2]).take (kk+1)=l1.take kk++ [l[k+k2]]:=by
      rw[A6 (by simp;omega)]
      congr 1
      ·rw[Zt (by omega)]
      ·simp
     have hcl:(cur1.toList.take (0+kk*32)++vDig l[k+k2]++cur1.toList.drop (0+kk*32+32))=(l1.set kk l[k+k2]).flatMap vDig++rest:=by
      rw[i8,B4];exact ZO FQ l1 kk (by omega) _ rest
     refine⟨(k2+1,kk+1,l1.set kk l[k+k2],(cur1.toList.take (0+kk*32)++vDig l[k+k2]++cur1.toList.drop (0+kk*32+32)).toArray),⟨by dsimp only;omega,by dsimp only;omega,by dsimp only;omega,by dsimp only;omega,by dsimp only;rw[Bm];exact i5,by dsimp only;rw[hset,i6,←EH,hd2],fun i hi=>?_,hcl,?_⟩,by dsimp only;omega,⟨rfl,rfl,rfl,rfl⟩,.refl _⟩
     ·dsimp only at hi ⊢
      rw[NQ (by omega)]
      exact i7 i (by omega)
     ·dsimp only
      have hv32:=FQ l[k+k2]
      simp only[BH,A8,AV,Ao,C9,hv32]
      omega
    ·rw[if_pos h3]at hd2
     refine wf ?_
     refine⟨(k2+1,kk,l1,cur1),⟨by dsimp only;omega,by dsimp only;omega,i3,by dsimp only;omega,i5,by dsimp only;rw[i6,←EH,hd2],fun i hi=>i7 i (by dsimp only at hi;omega),i8,i9⟩,by dsimp only;omega,⟨rfl,rfl,rfl,rfl⟩,.refl _⟩
   have hkk:k+k2=l.length:=by omega
   rw[hkk,AA (B5 _)]at i6
   refine wf ?_
   refine KZ kk l.length rfl (by omega) (B5 _) (by omega) hlc (fun o e=>by cases e;exact⟨_,rfl⟩) (by simp) (by simp) (fun _=>rfl) ?_
   refine PF (E:=45) (cur:=cur1) (L':=LF) gv (fun x=> [x]++LF) rfl (by omega) (by omega) (.refl _) (fun _=> .refl _) fun zs hzs=>?_
   refine AN ?_
   refine DU ?_
   refine CC (by kernel_rfl) ?_
   refine KA (by(conv=>lhs;whnf);done) ?_
   refine KA (by(conv=>lhs;whnf);done) ?_
   refine KZ 0 kk rfl (by omega) (by omega) (by omega) hlc (by simp) (fun _=>rfl) (fun o e=>by cases e;exact⟨_,rfl⟩) (by simp) ?_
   refine Jd ?_
   refine AN ?_
   have hlk:(l1.take kk).length=kk:=by rw[AV,DD (by omega)]
   have hrow:K2 vDig 45 32 (.slice (some ⟨r,0,none⟩) (l1.take kk).length c) (l1.take kk) [.raw r (.cells (cur1.toList.take (0+kk*32)++zs++cur1.toList.drop (0+kk*32+(l.length - kk)*32)).toArray 45 (0,0))]:=by
    refine K2.mk (rest:=zs++cur1.toList.drop (0+kk*32+(l.length - kk)*32)) FQ ?_ ?_ (by rw[hlk];omega)
    ·simp only[AJ]
     rw[B4,i8,eG l1 kk (by omega)]
    ·simp only[BH,A8,AV,Ao,C9,hzs]
     omega
   refine Hq (f:=eDig) 2 hrow (hmx _ (by rw[hlk];omega)) (.refl _) (by
    show PV.raw (Value.slice (some ⟨r,0+0*32,none⟩) (kk - 0) (c - 0))=_
    rw[hlk];simp) ?_
   refine wf ?_
   exact⟨trivial,_,[],.cons (.tmp 2) .nil,.refl _,by rw[←i6];exact⟨rfl,rfl⟩⟩
  ·rw[if_neg h2]at hd
   refine wf ?_
   refine⟨k+1,⟨by omega,by omega,?_⟩,by dsimp only;omega,⟨rfl,rfl⟩,.refl _⟩
   rw[hd,he,←A6 hlt]
 have hkk:k=l.length:=by omega
 rw[AA (by omega)]at he
 refine HD ?_
 refine DU ?_
 refine CC (by kernel_rfl) ?_
 refine KA (by(conv=>lhs;whnf);done) ?_
 refine Jd ?_
 refine AN ?_
 refine Hq (f:=eDig) 2 hv (hmx l (B5 _)) (.refl _) rfl ?_
 refine wf ?_
 exact⟨trivial,_,[],.cons (.tmp 2) .nil,.refl _,by rw[he];exact⟨rfl,rfl⟩⟩
end Go.Proofs
namespace Go.Q
open Go Go.Proofs Go.Sort
theorem Tr {α:Type} {k:Nat} (hk0:0 < k) {enc:α→List Value} (hk: ∀ x,(enc x).length=k): ∀ (l:List α) (t:Nat),(l.flatMap enc)[t]? =(l[t / k]?).bind fun x=>(enc x)[t % k]?
 | [],t=>by simp
 |x::l,t=>by
  rw[Cf]
  by_cases h:t < k
  ·rw[Cy (by rw[hk];exact h),Nat.div_eq_of_lt h,E6 h]
   simp
  ·rw[FB (by rw[hk];omega),hk,Tr hk0 hk l (t - k)]
   have e1:t / k=(t - k) / k+1:=by
    rw[Nat.div_eq_sub_div hk0 (by omega)]
   have e2:t % k=(t - k) % k:=Nat.mod_eq_sub_mod (by omega)
   rw[e1,e2]
   simp
theorem Qa {α:Type} [Inhabited α] {k:Nat} (hk0:0 < k) {enc:α→List Value} (hk: ∀ x,(enc x).length=k) (l:List α):(flatK enc k l.toArray).toList=l.flatMap enc:=by
 refine gN fun t=>?_
 rw[Tr hk0 hk]
 by_cases h:t < l.length*k
 ·have h1:t / k < l.length:=Xp (by rw[Om];exact h)
  have h2:t % k < k:=cC _ hk0
  have h3:t < (flatK enc k l.toArray).toList.length:=by simpa using h
  rw[AZ h3,AZ h1]
  simp only[Hc]
  rw[AZ (by rw[hk];exact h2)]
  congr 1
  have:=get_flatK enc k l.toArray t (by simpa using h)
  simp only[Array.getElem_toList]
  rw[getElem!_pos _ t (by simpa using h)]at this
  rw[this]
  simp[h1,getElem!_pos,hk,h2]
 ·rw[J4 (by simpa using h)]
  have: ¬t / k < l.length:=fun h'=>h (by
   have:=Nat.lt_mul_of_div_lt h' hk0
   first|exact this|(rw[Om];exact this))
  rw[J4 (by omega)]
  rfl
section
variable {α:Type} [Inhabited α] {enc:α→List Value} {k:Nat} {w:World} {r:Nat} {cur:Array Value} {E:Nat}
theorem Oy (h:w.heap[r]? =some (.cells cur E (0,0))) (m:Nat) (dk:Array α) (os:Array Obj):(sortWorldK enc k w r 0 m dk os).heap[r]? =some (.cells (putCells id 0 (flatK enc k dk) cur) E (0,0)):=by
 have hlt:=(BP.1 h).1
 show((w.heap.modify r (onCells (putCells id 0 (flatK enc k dk))))++os)[r]? =_
 rw[FF (by simpa using hlt),MH,if_pos rfl,h]
 rfl
theorem Ff (m:Nat) (dk:Array α) (os:Array Obj): ∀ b,b < w.heap.size→b≠r→(sortWorldK enc k w r 0 m dk os).heap[b]? =w.heap[b]?:=fun b hb hn=>by
 show((w.heap.modify r (onCells (putCells id 0 (flatK enc k dk))))++os)[b]? =_
 rw[FF (by simpa using hb),MH,if_neg (Ne.symm hn)]
theorem NY (m:Nat) (dk:Array α) (os:Array Obj):w.heap.size≤(sortWorldK enc k w r 0 m dk os).heap.size:=by
 show _≤((w.heap.modify r (onCells (putCells id 0 (flatK enc k dk))))++os).size
 simp
theorem P4 (F:Array Value) (h:F.size≤cur.size):(putCells id 0 F cur).toList.take F.size=F.toList:=by
 refine GX (by simp[putCells];omega) fun j h1 h2=>?_
 have hj:j < F.size:=by simpa using h2
 simp[putCells,hj]
end
theorem DJ.laterBut {w w':World} {g:Gh} {L:List Res} {r:Nat} (hi:DJ w g L) (hH: ∀ o,g.H r o=none) (hM:g.M r=none) (hr:r∉Al L) (hk: ∀ k,k < w.heap.size→k≠r→w'.heap[k]? =w.heap[k]?):DJ w' g L:=by
 refine⟨fun b i v h=>?_,fun b z h=>(hi.satM b z h).congr (hk b (hi.satM b z h).lt (fun e=>by rw[e,hM]at h;cases h)),fun r' hr'=>?_,hi.nodup,hi.glob⟩
 ·have h0:=hi.sat b i v h
  have hb:b < w.heap.size:=by
   rcases BB b w.heap.size with h'|h'
   ·exact h'
   ·simp[World.cell?,Bk h']at h0
  simp only[World.cell?]at h0 ⊢
  rw[hk b hb (fun e=>by rw[e,hH]at h;cases h)];exact h0
 ·exact Res.holds_kept (.refl g) (hi.res r' hr') fun b hb=>⟨hk b (hi.lt (Bp.2 ⟨r',hr',hb⟩)) (fun e=>hr (Bp.2 ⟨r',hr',by rw[hb,e]⟩)),fun _=>rfl,rfl⟩
theorem ZH {w w':World} (h1:w'.os=w.os) (h2:w'.tape=w.tape) (h3:w'.output=w.output) (h4:w.drawn≤w'.drawn) (h5:w.heap.size≤w'.heap.size) (hk: ∀ k,k < w.heap.size→w'.heap[k]? =w.heap[k]?): ∃ q os,w'=grow (w.drewN q) os:=by
 refine⟨w'.drawn - w.drawn,w'.heap.extract w.heap.size w'.heap.size,?_⟩
 have hh:w'.heap=w.heap++w'.heap.extract w.heap.size w'.heap.size:=by
  refine Array.ext_getElem? fun i=>?_
  by_cases hi:i < w.heap.size
  ·rw[FF hi,hk i hi]
  ·rw[Array.getElem?_append_right (by omega)]
   by_cases h6:i < w'.heap.size
   ·rw[CZ h6,CZ (by simp;omega)]
    simp
    congr 1
    omega
   ·rw[Bk (by omega),Bk (by simp;omega)]
 have hd:w'.drawn=w.drawn+(w'.drawn - w.drawn):=by omega
 obtain⟨⟩:=w'
 obtain⟨⟩:=w
 simp only at h1 h2 h3 hh hd
 subst h1 h2 h3
 simp only[grow,World.drewN]
 rw[←hh,←hd]
end Go.Q
namespace Go.Proofs
open Go Go.Q Go.Shelf Go.Sort
attribute [local irreducible] EG AY FZ
instance :Inhabited Dig:=⟨Dig.zero⟩
theorem yg:SWO (ltOf Dh) where
 irrefl x:=by
  unfold ltOf
  exact Ck (fun h=>Dig.lt_irrefl x h)
 trans x y z h1 h2:=by
  unfold ltOf at*
  exact BL (Dig.lt_trans (Ab h1) (Ab h2))
 ntrans x y z h1 h2:=by
  unfold ltOf at*
  refine Ck fun h=>?_
  have h1:=BJ h1
  have h2:=BJ h2
  rcases Dig.tri x y with h'|h'|h'
  ·exact h1 h'
  ·subst h';exact h2 h
  ·rcases Dig.tri y z with h3|h3|h3
   ·exact h2 h3
   ·subst h3;exact h1 h
   ·exact Dig.lt_irrefl x (Dig.lt_trans h (Dig.lt_trans h3 h'))
def sortD (l:List Dig):List Dig:=l.mergeSort fun x y=>!(ltOf Dh) y x
theorem l9 {w:World} {g:Gh} {r n E:Nat} {cur:Array Value} (hi:DJ w g []) (h1:w.heap[r]? =some (.cells cur E (0,0))) (h2: ∀ o,g.H r o=none) (h3:g.M r=none):CmpLays Tryz.prog 84 #[] vDig 32 Dh r 0 n w:=by
 intro m os dk hdk x y
 have hI:DJ (sortWorldK vDig 32 w r 0 m dk os) g []:=hi.laterBut h2 h3 (by simp[Al]) (fun k hk hn=>Ff m dk os k hk hn)
 have hv:E8 g [.agg (vDig x).toArray,.agg (vDig y).toArray] [.agg (eDig x),.agg (eDig y)]:=by
  have e: ∀ d:Dig,VR g (.agg (vDig d).toArray) (.agg (eDig d)):=fun d=>by
   rw[(inferInstance:Oj eDig vDig).out]
   have:E8 g (vDig d) ((vDig d).map PV.raw):=⟨by simp,fun i h1 h2=>by simp;exact .raw _⟩
   exact this.agg
  exact .cons (e x) (.cons (e y) (.nil g))
 have:=(Yp x y).out _ (sortWorldK vDig 32 w r 0 m dk os) g [] hv hI
 refine Calls.mono this ?_
 rintro e w' ⟨v,x',g',L',rfl,k1,k2,k3,k4,rfl,rfl⟩
 refine⟨by rw[k1.raw_inv],?_⟩
 exact ZH k3.os k3.tape k3.output.1 k3.output.2 k3.size (fun k hk=>k3.keep k hk (by simp[Al]))
theorem cQ (l:List Dig) (v:Value) (R:List Res) (hv:cA v l R) (hl:l.length≤1000000):B2 Tryz.prog 165 [.raw v,.raw (.func (.func 84) #[] #[])] R (fun _ L'=> ∃ v',v'=v∧cA v' (sortD l) L'):=fun vs w g LF hvs hi=>by
 obtain⟨v1,v2,rfl⟩: ∃ a b,vs= [a,b]:=by
  have:=hvs.len
  match vs,this with
  | [a,b],_=>exact⟨a,b,rfl⟩
 rw[hvs.uncons.1.raw_inv,hvs.uncons.2.uncons.1.raw_inv]
 obtain⟨o,c,rfl⟩:=hv.slice
 by_cases hne:l= []
 ·subst hne
  refine(AnyF.slices_SortFunc_none Tryz.sortD o c _ w).mono ?_
  rintro e w' ⟨rfl,rfl⟩
  exact⟨_,.raw (.tuple #[]),g,R,rfl,.raw _,hi,.refl _ _ _,.refl _ _,_,rfl,by simpa [sortD]using hv⟩
 obtain⟨_,r,cur,rest,rfl,rfl,hcur,hsz,hlc⟩:=hv.inv hne
 obtain⟨k1,k2,k3,k4,k5⟩:=hi.rawHead
 have hlt:r < w.heap.size:=(BP.1 k1).1
 have hF:(flatK vDig 32 l.toArray).toList=l.flatMap vDig:=Qa (by decide) FQ l
 have hH:HoldsK vDig 32 w r 0 l.toArray:=fun j hj=>by
  have hj2:j < l.length*32:=by simpa using hj
  refine⟨?_,by simp[World.frozen?,k1]⟩
  have hj3:j < cur.size:=by omega
  simp only[World.cell?,k1,Option.isSome_none,BQ,if_false,B4]
  rw[getElem!_pos _ j hj]
  have e1:cur.toList[j]? =(flatK vDig 32 l.toArray).toList[j]?:=by
   rw[hcur,hF,Cy (by rw[Ns (f:=eDig) (sz:=32)];exact hj2)]
  rw[MG,MG,CZ hj]at e1
  exact e1
 refine(AnyQ.slices_SortFunc_total Tryz.sortD 32 (fun w=>?_) (fun w=>ER.run (inferInstance:ER Tryz.prog 45 32 32) w) vDig FQ (fun x v h=>(inferInstance:Oj eDig vDig).one x v h) Dh yg 84 #[] r 0 c l.toArray w (fun args w=>(inferInstance:Ax Tryz.prog 84).out args w) (l9 (hi.sub (List.nil_sublist _)) k1 k2 k3) hH hlt (by simp;omega) ?_).mono ?_
 ·have hu:Tryz.prog.underlying 45=some (.array 32 5):=by kernel_rfl
  show(isAgg 45).run Tryz.prog w=_
  simp[isAgg,run_underlying hu]
 ·intro x y h1 h2
  unfold ltOf at h1 h2
  have h1:=BJ h1
  have h2:=BJ h2
  rcases Dig.tri x y with h'|h'|h'
  ·exact absurd h' h1
  ·exact h'
  ·exact absurd h' h2
 ·rintro e w' ⟨rfl,n,os,rfl⟩
  have hlen:(sortD l).length=l.length:=J3 _
  have hFs:(flatK vDig 32 (sortD l).toArray).toList=(sortD l).flatMap vDig:=Qa (by decide) FQ (sortD l)
  have hFz:(flatK vDig 32 (sortD l).toArray).size=l.length*32:=by simp[hlen]
  have htk:=P4 (cur:=cur) (flatK vDig 32 (sortD l).toArray) (by omega)
  have hrow:K2 vDig 45 32 (.slice (some ⟨r,0,none⟩) (sortD l).length c) (sortD l) [.raw r (.cells (putCells id 0 (flatK vDig 32 (sortD l).toArray) cur) 45 (0,0))]:=by
   refine K2.mk (rest:=(putCells id 0 (flatK vDig 32 (sortD l).toArray) cur).toList.drop (l.length*32)) FQ ?_ (by simp[putCells,hsz]) (by omega)
   rw[←hFs,←htk,hFz,C4]
  rw[hlen]at hrow
  refine⟨_,.raw (.tuple #[]),g,[.raw r (.cells (putCells id 0 (flatK vDig 32 (sortD l).toArray) cur) 45 (0,0))],rfl,.raw _,?_,⟨rfl,rfl,⟨rfl,mE _ _⟩,NY n _ os,fun b hb hn=>Ff n _ os b hb (fun e=>hn (by rw[e];simp[Al,Res.block])),.refl g,fun _ _ _=>⟨fun _=>rfl,rfl⟩⟩,fun b hb _=>by simpa [Al,Res.block]using hb,_,rfl,hrow⟩
  exact(k5.laterBut k2 k3 k4 (fun k hk hn=>Ff n _ os k hk hn)).addRaw (Oy k1 n _ os) k2 k3 k4
end Go.Proofs
namespace Go.Proofs
open Go Go.Q
attribute [local irreducible] EG AY B2 FZ
def db (rs:List Rfc):List Dig:=(rs.filter fun r=>!decide (r.id.patch=Dig.zero)).map (·.id.patch)
theorem bW (a b:List Rfc):db (a++b)=db a++db b:=by simp[db]
theorem kt {rs:List Rfc} {j:Nat} (h:j < rs.length):db (rs.take (j+1))=db (rs.take j)++(if rs[j].id.patch=Dig.zero then []else [rs[j].id.patch]):=by
 rw[A6 h,bW]
 congr 1
 unfold db
 by_cases e:rs[j].id.patch=Dig.zero<;>simp[e]
def kD (p:Pat):List Dig:=p.deps++p.changes.flatMap fun c=>db (Ei c)
def nP (p:Pat):List Dig:=if(Cc p).2≠0 then []else Xf (sortD (kD p))
theorem fV (p:Pat) [hs:B3 (EE p=false)]:Bl Tryz.prog 115 [.agg (CP p)] (.slice ((nP p).map eDig) .ro):=⟨by
 obtain⟨hg1,hg2,hg3,hg4,hg5⟩:=IW hs.out
 refine Ak Tryz.func115 Tryz.ntmps115 rfl (rs:= [.tmp 2]) rfl rfl fun hb LF=>?_
 refine wf ?_
 refine AL (fun h1=>?_) (fun h1=>?_)
 ·refine wf ?_
  refine Ah (.ros ?_)
  rw[nP,if_pos h1];rfl
 refine wf ?_
 refine Bo (xs:= [.tmp 12]) [] LF (f:=162) (cs:= []) (Bx _) rfl rfl (.refl _) _ (fx p.deps .ro (by omega)) fun r L1 ⟨v0,hr,hv0⟩=>?_
 subst hr
 refine wf ?_
 refine wf ?_
 refine AW (σ:=Nat × Value × List Dig × List Res) (fun k=>k.1≤p.changes.length∧k.2.2.1.length≤200+k.1*404∧k.2.2.1=p.deps++(p.changes.take k.1).flatMap (fun c=>db (Ei c))∧cA k.2.1 k.2.2.1 k.2.2.2) (fun k=>p.changes.length - k.1) (fun k=> [(3,.raw k.2.1),(15,.slice (p.changes.map BC) .ro),(16,.raw (.int .i64 p.changes.length)),(17,.raw (.int .i64 k.1))]) (fun k=>k.2.2.2++LF) (0,v0,p.deps,L1) ⟨by simp,by simpa using hg3,by simp,hv0⟩ ⟨rfl,rfl,rfl,rfl⟩ (.refl _) ?_
 rintro⟨k,v,l,R⟩ ⟨hk,hlen,hl,hv⟩
 dsimp only at hk hlen hl hv
 refine wf ?_
 refine A1 (fun hc=>?_) (fun hc=>?_)
 ·have hlt:k < p.changes.length:=by omega
  have hov:=(hg5 _ (AK hlt)).over
  have i1:B3 (p.changes[k].over.length≤400):=⟨by omega⟩
  have hrl:=VW (c:=p.changes[k]) (by omega)
  refine wz fun b5=>?_
  refine Ag 5 ?_
  refine wf ?_
  refine AW (σ:=Nat × Value × List Dig × List Res) (fun j=>j.1≤(Ei p.changes[k]).length∧j.2.2.1.length≤200+k*404+j.1∧j.2.2.1=l++db ((Ei p.changes[k]).take j.1)∧cA j.2.1 j.2.2.1 j.2.2.2) (fun j=>(Ei p.changes[k]).length - j.1) (fun j=> [(3,.raw j.2.1),(15,.slice (p.changes.map BC) .ro),(16,.raw (.int .i64 p.changes.length)),(17,.raw (.int .i64 k)),(22,.slice ((Ei p.changes[k]).map eRfc) .ro),(23,.raw (.int .i64 (Ei p.changes[k]).length)),(24,.raw (.int .i64 j.1))]) (fun j=>j.2.2.2++LF) (0,v,l,R) ⟨by simp,by simpa using hlen,by simp[db],hv⟩ ⟨rfl,rfl,rfl,rfl,rfl,rfl,rfl⟩ (.refl _) ?_
  rintro⟨j,v1,l1,R1⟩ ⟨hj,hlen1,hl1,hv1⟩
  dsimp only at hj hlen1 hl1 hv1
  refine wf ?_
  refine A1 (fun hd=>?_) (fun hd=>?_)
  ·have hjt:j < (Ei p.changes[k]).length:=by omega
   have ht:=kt hjt
   refine wz fun b7=>?_
   refine Ag 7 ?_
   refine wf ?_
   refine AL (fun h2=>?_) (fun h2=>?_)
   ·rw[if_neg h2]at ht
    refine wf ?_
    refine Q4 (f:=eDig) (m:= [(Ei p.changes[k])[j].id.patch]) (R:=R1) (LF:=LF) (fun R'=>R'++LF) rfl rfl hv1 (.refl _) (fun R'=> .refl _) (by simp only[AH,Aa];omega) (by simp only[AH,Aa];omega) fun v2 R2 hv2=>?_
    refine wf ?_
    refine wf ?_
    refine⟨(j+1,v2,l1++ [(Ei p.changes[k])[j].id.patch],R2),⟨by dsimp only;omega,by simp only[A8,AH,Aa];omega,?_,hv2⟩,by dsimp only;omega,⟨rfl,rfl,rfl,rfl,rfl,rfl,rfl⟩,.refl _⟩
    dsimp only
    rw[ht,←AJ,hl1]
   ·rw[if_pos h2,B6]at ht
    refine wf ?_
    refine⟨(j+1,v1,l1,R1),⟨by dsimp only;omega,by dsimp only;omega,?_,hv1⟩,by dsimp only;omega,⟨rfl,rfl,rfl,rfl,rfl,rfl,rfl⟩,.refl _⟩
    dsimp only
    rw[ht,hl1]
  ·rw[AA (by omega)]at hl1
   refine wf ?_
   refine⟨(k+1,v1,l1,R1),⟨by dsimp only;omega,by dsimp only;omega,?_,hv1⟩,by dsimp only;omega,⟨rfl,rfl,rfl,rfl⟩,.refl _⟩
   dsimp only
   rw[hl1,hl,A6 hlt,GA,AJ]
   simp
 rw[AA (by omega)]at hl
 have hl':l=kD p:=hl
 have hsl:(sortD l).length=l.length:=J3 _
 refine wf ?_
 refine Bo (xs:= [.tmp 40,.func 84]) R LF (f:=165) (cs:= []) (Bx _) rfl rfl (.refl _) _ (cQ l v R hv (by omega)) fun r L2 ⟨v2,e2,hv2⟩=>?_
 subst e2
 refine wf ?_
 refine wf ?_
 refine Bo (xs:= [.tmp 42]) L2 LF (f:=166) (cs:= []) (Bx _) rfl rfl (.refl _) _ (bj (sortD l) v2 L2 hv2 (by omega)) fun r L3 ⟨hr,hL3⟩=>?_
 subst hr
 subst hL3
 refine wf ?_
 refine wf ?_
 refine Ah (.ros ?_)
 rw[nP,if_neg (by simp[h1]),←hl']⟩
end Go.Proofs
namespace Go.Proofs
open Go Go.Q Go.Sort
theorem MO (l:List Dig):(sortD l).Pairwise fun x y=> ¬Dig.lt y x:=by
 have h:=List.pairwise_mergeSort (le:=fun x y=>!(ltOf Dh) y x) (fun a b c h1 h2=>by
  simp only[AG,ltOf,A7]at h1 h2 ⊢
  intro h3
  have h1: ¬Dig.lt b a:=h1
  have h2: ¬Dig.lt c b:=h2
  have h3:Dig.lt c a:=h3
  rcases Dig.tri a b with h|h|h
  ·exact h2 (Dig.lt_trans h3 h)
  ·subst h;exact h2 h3
  ·exact h1 h) (fun a b=>by
  simp only[UM,AG,ltOf,A7]
  by_cases h:Dig.lt b a
  ·exact .inr (Dig.lt_asymm h)
  ·exact .inl h) l
 refine h.imp fun {a b} hab=>?_
 simp only[AG,ltOf,A7]at hab
 exact hab
theorem W4 {l:List Dig} (h:l.Pairwise fun x y=> ¬Dig.lt y x): ∀ j,j≤l.length→Ej (Xf (l.take j))∧ ∀ d,d∈Xf (l.take j)↔d∈l.take j:=by
 intro j
 induction j with
 |zero=>intro _;exact⟨Ej.nil,fun d=>by simp[Xf]⟩
 |succ j ih=>
  intro hj
  obtain⟨i1,i2⟩:=ih (by omega)
  have hlt:j < l.length:=by omega
  by_cases h0:j=0
  ·subst h0
   have e:l.take 1= [l[0]]:=by
    rw[A6 hlt];rfl
   rw[e]
   exact⟨En _ _,fun d=>Iff.rfl⟩
  rw[U4 (by omega) hlt]
  by_cases e:l[j]=l[j - 1]
  ·rw[if_pos e]
   refine⟨i1,fun d=>?_⟩
   rw[i2,A6 hlt]
   simp only[Ai,B1]
   refine⟨.inl,fun h=>h.elim id fun h=>?_⟩
   rw[h,e]
   exact Dm.2 ⟨j - 1,by omega,rfl⟩
  ·rw[if_neg e]
   refine⟨?_,fun d=>?_⟩
   ·refine JT.2 ⟨i1,En _ _,fun a ha b hb=>?_⟩
    rw[B1.1 hb]
    obtain⟨i,hi,rfl⟩:=Dm.1 ((i2 a).1 ha)
    have hp:=BN.1 h
    have h3: ¬Dig.lt l[j] l[j - 1]:=hp (j - 1) j (by omega) hlt (by omega)
    have h4:Dig.lt l[j - 1] l[j]:=by
     rcases Dig.tri l[j - 1] l[j]with h'|h'|h'
     ·exact h'
     ·exact absurd h'.symm e
     ·exact absurd h' h3
    by_cases h5:i=j - 1
    ·subst h5;exact h4
    ·have h6: ¬Dig.lt l[j - 1] l[i]:=hp i (j - 1) (by omega) (by omega) (by omega)
     rcases Dig.tri l[i] l[j - 1]with h'|h'|h'
     ·exact Dig.lt_trans h' h4
     ·rw[h'];exact h4
     ·exact absurd h' h6
   ·rw[A6 hlt]
    simp only[Ai,i2]
theorem sy (l:List Dig):Ej (Xf (sortD l)):=by
 have:=(W4 (MO l) (sortD l).length (B5 _)).1
 rwa [Cu]at this
theorem sv (l:List Dig) (d:Dig):d∈Xf (sortD l)↔d∈l:=by
 have:=(W4 (MO l) (sortD l).length (B5 _)).2 d
 rw[Cu]at this
 rw[this]
 exact List.mem_mergeSort
theorem QN {l:List Ident} {d:Dig}:d∈FU l↔ ∃ x∈l,x.patch≠Dig.zero∧x.patch=d:=by
 unfold FU
 simp only[AU,EI,AG,A7]
 constructor
 ·rintro⟨x,⟨h1,h2⟩,h3⟩;exact⟨x,h1,h2,h3⟩
 ·rintro⟨x,h1,h2,h3⟩;exact⟨x,⟨h1,h2⟩,h3⟩
theorem tN (rs:List Rfc):db rs=FU (rs.map Rfc.id):=by
 unfold db FU
 rw[List.filter_map,DI]
 rfl
theorem rm {c:Chg} (h:C0 c=0):(¬(2≤c.kind∧c.kind≤6)→c.file=Ident.zero)∧(c.kind≠2→c.parent=Ident.zero)∧(¬(c.kind=5∨c.kind=6)→c.after=Ident.zero∧c.before=Ident.zero):=by
 unfold C0 at h
 split at h
 ·omega
 split at h
 ·omega
 rename_i h2
 simp only[Bool.not_eq_false,GG,Bu,AB]at h2
 obtain⟨⟨⟨⟨⟨⟨⟨⟨⟨a1,_⟩,a2⟩,_⟩,_⟩,_⟩,a3⟩,a4⟩,_⟩,_⟩:=h2
 refine⟨fun h=>?_,fun h=>?_,fun h=>⟨?_,?_⟩⟩
 ·have a:(if 2≤c.kind∧c.kind≤6 then Ident.zero else c.file)=Ident.zero:=a1
  rwa [if_neg h]at a
 ·have a:(if c.kind=2 then Ident.zero else c.parent)=Ident.zero:=a2
  rwa [if_neg h]at a
 ·have a:(if c.kind=5∨c.kind=6 then Ident.zero else c.after)=Ident.zero:=a3
  rwa [if_neg h]at a
 ·have a:(if c.kind=5∨c.kind=6 then Ident.zero else c.before)=Ident.zero:=a4
  rwa [if_neg h]at a
theorem YT {c:Chg} (h:C0 c=0) (d:Dig):d∈db (Ei c)↔d∈FU (RB c):=by
 obtain⟨u1,u2,u3⟩:=rm h
 have hz:Ident.zero.patch=Dig.zero:=rfl
 rw[tN,QN,QN]
 have key: ∀ x:Ident,x.patch≠Dig.zero→(x∈(Ei c).map Rfc.id↔x∈RB c):=fun x hx=>by
  have hk:=Ma h
  have e4: ∀ l:List Ident,(N9 c l).map Rfc.id=l:=fun l=>by
   rw[N9,DI]
   show l.map (fun x=>x)=l
   simp
  unfold Ei RB
  simp only[Az,e4,Ai,AQ,BF,or_false]
  have n1:x=Ident.zero→False:=fun e=>hx (by rw[e];rfl)
  have n2:x=⟨Dig.zero,-1⟩→False:=fun e=>hx (by rw[e])
  rcases kinds hk with k|k|k|k|k|k|k<;>simp only[Hl,Kb,P0,k]at u1 u2 u3 ⊢ <;>simp<;>grind
 constructor
 ·rintro⟨x,h1,h2,h3⟩;exact⟨x,(key x h2).1 h1,h2,h3⟩
 ·rintro⟨x,h1,h2,h3⟩;exact⟨x,(key x h2).2 h1,h2,h3⟩
theorem NG: ∀ (l:List Chg) (own:List Atm),(DK l own).2=0→ ∀ c∈l,C0 c=0
 | [],_,_,c,hc=>by cases hc
 |x::l,own,h,c,hc=>by
  rw[DK]at h
  split at h
  ·rename_i h1;exact absurd h h1
  rename_i h1
  split at h
  ·rename_i h2;exact absurd h h2
  rcases AQ.1 hc with rfl|hc
  ·simpa using h1
  ·exact NG l _ h c hc
theorem RJ: ∀ (cs:List Chg) (m:List Dig) (d:Dig),d∈cs.foldl OI m↔d∈m∨ ∃ c∈cs,d∈FU (RB c)
 | [],m,d=>by simp
 |c::cs,m,d=>by
  rw[EJ,RJ cs,OI,Ec]
  simp only[AQ,exists_eq_or_imp,or_assoc]
theorem RK: ∀ (cs:List Chg) (m:List Dig),Ej m→Ej (cs.foldl OI m)
 | [],m,h=>h
 |c::cs,m,h=>RK cs _ (Eb h)
theorem wT (p:Pat):nP p=Bf p:=by
 unfold nP Bf
 by_cases h:(Cc p).2≠0
 ·rw[if_pos h,if_pos h]
 rw[if_neg h,if_neg h]
 have h0:(Cq p).2=0:=by
  by_cases h1:(Cq p).2≠0
  ·rw[Cc,if_pos h1]at h;exact absurd h1 h
  ·simpa using h1
 have hF: ∀ c∈p.changes,C0 c=0:=by
  rw[IV]at h0
  split at h0
  ·rename_i h1;exact absurd h0 h1
  ·exact NG _ _ h0
 refine Ej.ext (sy _) (RK _ _ (Eb Ej.nil)) fun d=>?_
 rw[sv,RJ,Ec,kD]
 simp only[Ai,mF,BF,false_or]
 constructor
 ·rintro(h|⟨c,hc,h⟩)
  ·exact .inl h
  ·exact .inr ⟨c,hc,(YT (hF c hc) d).1 h⟩
 ·rintro(h|⟨c,hc,h⟩)
  ·exact .inl h
  ·exact .inr ⟨c,hc,(YT (hF c hc) d).2 h⟩
instance uz (p:Pat) [hs:B3 (EE p=false)]:Bl Tryz.prog 115 [.agg (CP p)] (.slice ((Bf p).map eDig) .ro):=wT p ▸ fV p
end Go.Proofs
namespace Go.Proofs
open Go Go.Q
attribute [local irreducible] EG AY B2 FZ
def gr (s:List Sto):List (Dig × List Dig):=s.foldl (fun m x=>Hb x.id (Bf x.patch) m) []
theorem dX {s:List Sto} {k:Nat} (h:k < s.length):gr (s.take (k+1))=Hb s[k].id (Bf s[k].patch) (gr (s.take k)):=by
 rw[A6 h,gr,DR];rfl
instance tF (s:List Sto) (t:CW) [hs:B3 (Dc s)]:Bl Tryz.prog 152 [.slice (s.map eSto) t] (.fmap (Cj kDig (Pw eDig) (gr s))):=⟨by
 have hs:=hs.out
 refine Ak Tryz.func152 Tryz.ntmps152 rfl (rs:= [.tmp 2]) rfl rfl fun hb LF=>?_
 refine vS fun b=>?_
 refine AW (σ:=Nat) (fun k=>k≤s.length) (fun k=>s.length - k) (fun k=> [(3,.raw (.map (some b))),(7,.slice (s.map eSto) t),(8,.raw (.int .i64 s.length)),(9,.raw (.int .i64 k))]) (fun k=> .map b (Cj kDig (Pw eDig) (gr (s.take k)))::LF) 0 (by simp) ⟨rfl,rfl,rfl,rfl⟩ (.refl _) ?_
 intro k hk
 refine wf ?_
 refine A1 (fun hc=>?_) (fun hc=>?_)
 ·have hlt:k < s.length:=by omega
  have h8:=hs.1
  have:B3 (EE s[k].patch=false):=⟨hs.2 _ (AK hlt)⟩
  refine wz fun b5=>?_
  refine Ag 5 ?_
  refine wn ?_
  refine BZ 6 ?_ ?_
  ·decide+kernel
  refine wf ?_
  refine⟨k+1,by omega,by dsimp only;omega,⟨rfl,rfl,rfl,rfl⟩,?_⟩
  dsimp only
  rw[dX hlt]
  exact .refl _
 ·refine HD ?_
  rw[AA (by omega)]
  refine Rm [(3,.fmap (Cj kDig (Pw eDig) (gr s)))] (.inr ⟨rfl,rfl⟩) (.refl _) ?_
  refine wf ?_
  exact Ah (.refl _)⟩
def Kr (out l:List Dig):List Dig:=l.foldl (fun o d=>if d∈o then o else o++ [d]) out
theorem gH {out l:List Dig} {k:Nat} (h:k < l.length):Kr out (l.take (k+1))=if l[k]∈Kr out (l.take k)then Kr out (l.take k)else Kr out (l.take k)++ [l[k]]:=by
 rw[A6 h,Kr,DR];rfl
theorem lf (out:List Dig): ∀ l:List Dig,(Kr out l).length≤out.length+l.length:=by
 intro l
 induction l generalizing out with
 |nil=>simp[Kr]
 |cons x l ih=>
  have:=ih (if x∈out then out else out++ [x])
  rw[Kr,EJ]
  refine CX this ?_
  split<;>simp<;>omega
def Kt (met:List (Dig × Bool)) (out:List Dig):Prop:= ∀ d,(Dv d met).getD false=decide (d∈out)
theorem Kt.add {met:List (Dig × Bool)} {out:List Dig} (h:Kt met out) (d:Dig):Kt (Hb d true met) (out++ [d]):=fun x=>by
 rw[KR]
 by_cases e:x=d
 ·subst e;simp
 ·rw[if_neg e,h x];simp[e]
def py (b6 m b7:Nat) (out:List Dig) (L:List Res):Prop:= ∃ met v R,Kt met out∧cA v out R∧L= .box b6 84 [.raw (.map (some m))]:: .map m (Cj kDig vBool met):: .box b7 39 [.raw v]::R
theorem Kg {a b c:Res} {L LF:List Res}:(a::b::c::(L++LF)).Perm (L++(a::b::c::LF)):=((B8 (l₁:=L)).trans (.cons a ((B8 (l₁:=L)).trans (.cons b B8)))).symm
def Qk (G:List (Dig × List Dig)) (l:List Dig):Bool:=l.all fun d=>(Dv d G).isSome
theorem dp (G:List (Dig × List Dig)) (l:List Dig) (t:CW) (b6 m b7:Nat) (out:List Dig) (L:List Res) (hL:py b6 m b7 out L) (hb:out.length+l.length≤1000):
  B2 Tryz.prog 233 [.slice (l.map eDig) t,.pt [.fmap (Cj kDig (Pw eDig) G)] 0,.raw (.pointer (some ⟨b6,0,none⟩)),.raw (.pointer (some ⟨b7,0,none⟩))] L (fun r L'=>r= .raw (.bool (Qk G l))∧ ∃ out',py b6 m b7 out' L'∧(Qk G l=true→out'=Kr out l)):=by
 refine Bw Tryz.func233 rfl Tryz.ntmps233 (rs:= [.tmp 5]) rfl rfl fun hbd LF=>?_
 refine wf ?_
 refine AW (σ:=Nat × List Res) (fun k=>k.1≤l.length∧(∀ i (h:i < l.length),i < k.1→(Dv l[i] G).isSome=true)∧py b6 m b7 (Kr out (l.take k.1)) k.2) (fun k=>l.length - k.1) (fun k=> [(1,.pt [.fmap (Cj kDig (Pw eDig) G)] 0),(2,.raw (.pointer (some ⟨b6,0,none⟩))),(3,.raw (.pointer (some ⟨b7,0,none⟩))),(10,.slice (l.map eDig) t),(11,.raw (.int .i64 l.length)),(12,.raw (.int .i64 k.1))]) (fun k=>k.2++LF) (0,L) ⟨by simp,by simp,hL⟩ ⟨rfl,rfl,rfl,rfl,rfl,rfl⟩ (.refl _) ?_
 rintro⟨k,L1⟩ ⟨hk,hall,met,v,R,hm,hv,rfl⟩
 dsimp only at hk hall hm hv ⊢
 refine wf ?_
 refine A1 (fun hc=>?_) (fun hc=>?_)
 ·have hlt:k < l.length:=by omega
  refine wz fun b=>?_
  refine Ag 7 ?_
  refine wf ?_
  refine AO (fun h=>?_) (fun h=>?_)
  ·have h0:(Dv l[k] G).isSome=false:=by simpa using h
   have hA:Qk G l=false:=by
    unfold Qk
    exact Lj.2 ⟨l[k],AK hlt,by simp[h0]⟩
   refine wf ?_
   exact⟨trivial,_,_,.cons (.tmp 5) .nil,.refl _,by rw[hA];exact rfl,_,⟨met,v,R,hm,hv,rfl⟩,fun h=>by rw[hA]at h;cases h⟩
  have hi:(Dv l[k] G).isSome=true:=by simpa using h
  have hall': ∀ i (h:i < l.length),i < k+1→(Dv l[i] G).isSome=true:=fun i hi' hik=>by
   rcases BB i k with h'|h'
   ·exact hall i hi' h'
   ·have e:i=k:=by omega
    subst e;exact hi
  refine wf ?_
  have hml:=hm l[k]
  have ht:=gH (out:=out) hlt
  refine AO (fun h=>?_) (fun h=>?_)
  ·have hno:l[k]∉Kr out (l.take k):=by
    rw[hml]at h;simpa using h
   rw[if_neg hno]at ht
   have hol:=lf out (l.take k)
   rw[AV]at hol
   refine wf ?_
   refine YF (κ:=Dig) (ek:=kDig) (ev:=vBool) (k0:=l[k]) (x0:=true) (L':= .box b6 84 [.raw (.map (some m))]:: .box b7 39 [.raw v]::(R++LF)) rfl (.swap _ _ _) (.refl _) (.refl _) ?_
   refine AN ?_
   refine GI (.swap _ _ _) ?_
   refine wf ?_
   refine Q4 (f:=eDig) (m:= [l[k]]) (R:=R) (LF:= .box b6 84 [.raw (.map (some m))]:: .map m (Cj kDig vBool (Hb l[k] true met)):: .box b7 39 [.raw v]::LF) (fun R'=> .box b6 84 [.raw (.map (some m))]:: .map m (Cj kDig vBool (Hb l[k] true met)):: .box b7 39 [.raw v]::(R'++LF)) rfl rfl hv Kg (fun R'=>Kg.symm) (by simp only[AH,Aa];omega) (by simp only[AH,Aa];omega) fun v2 R2 hv2=>?_
   refine wf ?_
   refine KY [.raw v2] rfl rfl hv2.one rfl (by simp) ?_
   refine wf ?_
   refine wf ?_
   refine⟨(k+1,_),⟨by dsimp only;omega,hall',Hb l[k] true met,v2,R2,?_,?_,rfl⟩,by dsimp only;omega,⟨rfl,rfl,rfl,rfl,rfl,rfl⟩,.refl _⟩
   ·dsimp only;rw[ht];exact hm.add _
   ·dsimp only;rw[ht];exact hv2
  ·have hyes:l[k]∈Kr out (l.take k):=by
    rw[hml]at h;simpa using h
   rw[if_pos hyes]at ht
   refine wf ?_
   exact⟨(k+1,_),⟨by dsimp only;omega,hall',met,v,R,by dsimp only;rw[ht];exact hm,by dsimp only;rw[ht];exact hv,rfl⟩,by dsimp only;omega,⟨rfl,rfl,rfl,rfl,rfl,rfl⟩,.refl _⟩
 ·have hA:Qk G l=true:=by
   unfold Qk
   refine Ar.2 fun d hd=>?_
   obtain⟨i,hi,rfl⟩:=AX.1 hd
   exact hall i hi (by omega)
  refine wf ?_
  rw[AA (by omega)]at hm hv
  exact⟨trivial,_,_,.cons (.tmp 5) .nil,.refl _,by rw[hA];exact rfl,_,⟨met,v,R,hm,hv,rfl⟩,fun _=>rfl⟩
end Go.Proofs
namespace Go.Proofs
open Go Go.Q
def ndG (G:List (Dig × List Dig)) (d:Dig):List Dig:=(Dv d G).getD []
theorem Re (out:List Dig) (x:Dig) (l:List Dig):Kr out (x::l)=Kr (if x∈out then out else out++ [x]) l:=rfl
theorem Ki: ∀ {l out:List Dig} {d:Dig},d∈Kr out l↔d∈out∨d∈l
 | [],out,d=>by simp[Kr]
 |x::l,out,d=>by
  rw[Re,Ki]
  split
  ·rename_i h
   constructor
   ·rintro(h1|h1)
    ·exact .inl h1
    ·exact .inr (AD _ h1)
   ·rintro(h1|h1)
    ·exact .inl h1
    ·rcases AQ.1 h1 with rfl|h1
     ·exact .inl h
     ·exact .inr h1
  ·simp[or_assoc]
theorem Pf: ∀ {l out:List Dig},out.Nodup→(Kr out l).Nodup
 | [],_,h=>h
 |x::l,out,h=>by
  rw[Re]
  refine Pf ?_
  split
  ·exact h
  ·rename_i hx
   refine JT.2 ⟨h,En _ _,fun a ha b hb=>?_⟩
   rw[B1.1 hb]
   rintro rfl
   exact hx ha
theorem O4: ∀ {l out:List Dig},out <+:Kr out l
 | [],_=>List.prefix_refl _
 |x::l,out=>by
  rw[Re]
  refine List.IsPrefix.trans ?_ O4
  split
  ·exact List.prefix_refl _
  ·exact List.prefix_append _ _
structure lz (nd:Dig→List Dig) (l out:List Dig) (i:Nat):Prop where
 nodup:out.Nodup
 sub: ∀ d∈l,d∈out
 reach: ∀ d∈out,Q.Reach nd l d
 done: ∀ j (h:j < out.length),j < i→ ∀ d∈nd out[j],d∈out
theorem lz.start (nd:Dig→List Dig) (l:List Dig):lz nd l (Kr [] l) 0:=
 ⟨Pf .nil,fun d hd=>Ki.2 (.inr hd),fun d hd=> .base ((Ki.1 hd).elim (fun h=>absurd h (by simp)) id),fun _ _ h=>absurd h (by omega)⟩
theorem lz.step {nd:Dig→List Dig} {l out:List Dig} {i:Nat} (h:lz nd l out i) (hi:i < out.length):lz nd l (Kr out (nd out[i])) (i+1):=by
 refine⟨Pf h.nodup,fun d hd=>Ki.2 (.inl (h.sub d hd)),fun d hd=>?_,fun j hj hji d hd=>?_⟩
 ·rcases Ki.1 hd with h1|h1
  ·exact h.reach d h1
  ·exact .step (h.reach _ (AK hi)) h1
 ·have hjo:j < out.length:=by omega
  have e:(Kr out (nd out[i]))[j]=out[j]:=(O4.getElem hjo).symm
  rw[e]at hd
  by_cases hj2:j < i
  ·exact Ki.2 (.inl (h.done j hjo hj2 d hd))
  ·have hje:j=i:=by omega
   subst hje
   exact Ki.2 (.inr hd)
theorem lz.fin {nd:Dig→List Dig} {l out:List Dig} {i:Nat} (h:lz nd l out i) (hi:out.length≤i) (d:Dig):d∈out↔Q.Reach nd l d:=by
 refine⟨h.reach d,fun hr=>?_⟩
 induction hr with
 |base hd=>exact h.sub _ hd
 |step _ hd ih=>
  obtain⟨j,hj,rfl⟩:=AX.1 ih
  exact h.done j hj (by omega) _ hd
theorem lz.len {nd:Dig→List Dig} {l out U:List Dig} {i:Nat} (h:lz nd l out i) (hU: ∀ x∈U,∀ d∈nd x,d∈U) (hl: ∀ d∈l,d∈U):out.length≤U.length:=
 Eh h.nodup fun d hd=>(h.reach d hd).in_ hU hl
theorem eP {l:List Dig} (h:l.Nodup):Ej (sortD l):=by
 have h2:(sortD l).Nodup:=(List.mergeSort_perm l _).nodup_iff.2 h
 refine BN.2 fun i j hi hj hij=>?_
 have a:=BN.1 (MO l) i j hi hj hij
 have b:=BN.1 h2 i j hi hj hij
 rcases Dig.tri (sortD l)[i] (sortD l)[j]with h'|h'|h'
 ·exact h'
 ·exact absurd h' b
 ·exact absurd h' a
theorem eO {l:List Dig} {d:Dig}:d∈sortD l↔d∈l:=List.mem_mergeSort
theorem qm: ∀ (s:List Sto) (m:List (Dig × List Dig)) (d:Dig),(Dv d (s.foldl (fun m x=>Hb x.id (Bf x.patch) m) m)).isSome=(decide (d∈ids s)||(Dv d m).isSome)
 | [],m,d=>by simp[ids]
 |x::s,m,d=>by
  rw[EJ,qm s,KR]
  by_cases e:d=x.id<;>simp[ids,e]
theorem kb: ∀ (s:List Sto) (m:List (Dig × List Dig)) (d:Dig) (r:List Dig),Dv d (s.foldl (fun m x=>Hb x.id (Bf x.patch) m) m)=some r→(∃ x∈s,x.id=d∧r=Bf x.patch)∨Dv d m=some r
 | [],m,d,r,h=> .inr h
 |x::s,m,d,r,h=>by
  rw[EJ]at h
  rcases kb s _ d r h with ⟨y,hy,h1,h2⟩|h1
  ·exact .inl ⟨y,AD _ hy,h1,h2⟩
  ·rw[KR]at h1
   split at h1
   ·rename_i e
    exact .inl ⟨x,AI,e.symm,(BX h1).symm⟩
   ·exact .inr h1
theorem XH (s:List Sto) (d:Dig):(Dv d (gr s)).isSome=decide (d∈ids s):=by
 rw[gr,qm];simp[Dv]
theorem C7.ndG {s:List Sto} (v:C7 s):Go.Proofs.ndG (gr s)=Go.Proofs.ndS s:=by
 funext d
 have h1:=XH s d
 unfold Go.Proofs.ndG
 cases hg:Dv d (gr s)with
 |none=>
  rw[hg]at h1
  have hd: ¬d∈ids s:=by simpa using h1
  have hn:Go.Proofs.getS s d=none:=by
   cases hs:Go.Proofs.getS s d with
   |none=>rfl
   |some p=>
    obtain⟨x,hx,e,_⟩:=Km hs
    exact absurd (AU.2 ⟨x,hx,e⟩) hd
  rw[Go.Proofs.ndS,hn,Option.getD_none,Option.getD_none,Mi]
 |some r=>
  rcases kb s [] d r hg with ⟨x,hx,e,rfl⟩|h2
  ·subst e
   rw[v.ndS hx];rfl
  ·simp[Dv]at h2
attribute [local irreducible] EG AY B2 FZ
def clG (G:List (Dig × List Dig)) (U l:List Dig):List Dig × Bool:=if Qk G l=false then([],false)else(K6 (ndG G) U.length (CU [] l),true)
structure pq (G:List (Dig × List Dig)) (U:List Dig):Prop where
 is: ∀ d,(Dv d G).isSome=decide (d∈U)
 len:U.length≤200
 cl: ∀ x∈U,∀ d∈ndG G x,d∈U
 nd: ∀ x,(ndG G x).length≤400
theorem pq.all {G:List (Dig × List Dig)} {U l:List Dig} (h:pq G U):Qk G l=true↔ ∀ d∈l,d∈U:=by
 unfold Qk
 rw[Ar]
 exact⟨fun k d hd=>by have:=k d hd;rw[h.is]at this;exact Ab this,fun k d hd=>by rw[h.is];exact BL (k d hd)⟩
theorem mu:Ch Tryz.prog 39 [.raw (.slice none 0 0)]:=NS (v:= .slice none 0 0) (by kernel_rfl) rfl fun _=> .raw _
theorem aY (G:List (Dig × List Dig)) (U:List Dig) (hG:pq G U) (l:List Dig) (t:CW) (hl:l.length≤400):Bl Tryz.prog 197 [.fmap (Cj kDig (Pw eDig) G),.slice (l.map eDig) t] (.tuple [.slice ((clG G U l).1.map eDig) .ro,.raw (.bool (clG G U l).2)]):=⟨by
 refine Ak Tryz.func197 Tryz.ntmps197 rfl (rs:= [.tmp 4,.tmp 5]) rfl rfl fun hb LF=>?_
 refine wf ?_
 refine RQ fun m=>?_
 refine BR fun b6=>?_
 refine wf ?_
 refine BR (hZ:=mu) fun b7=>?_
 refine wf ?_
 refine Bo (xs:= [.tmp 13]) [.box b6 84 [.raw (.map (some m))],.map m (Cj kDig vBool []),.box b7 39 [.raw (.slice none 0 0)]] LF (f:=233) (cs:= [.pt [.fmap (Cj kDig (Pw eDig) G)] 0,.raw (.pointer (some ⟨b6,0,none⟩)),.raw (.pointer (some ⟨b7,0,none⟩))]) (.refl _) rfl rfl (B8 (l₁:= [_,_])).symm _ (dp G l t b6 m b7 [] _ ⟨[],.slice none 0 0,[],fun d=>by simp[Dv],.nil none (by simp),rfl⟩ (by simp;omega)) fun r L1 ⟨hr,out0,hC,ho⟩=>?_
 subst hr
 refine wf ?_
 refine AO (fun h=>?_) (fun h=>?_)
 ·have h0:Qk G l=false:=by simpa using h
  refine wf ?_
  refine GM (hs:=Dk _ _) ?_
  rw[clG,if_pos h0]
  exact .tuple2 (.ro _ _) (.refl _)
 have h1:Qk G l=true:=by simpa using h
 have hlU:=hG.all.1 h1
 rw[clG,if_neg (by simp[h1])]
 have ho:=ho h1
 subst ho
 refine wf ?_
 refine AW (σ:=Nat × List Dig × List Res) (fun k=>k.1≤k.2.1.length∧lz (ndG G) l k.2.1 k.1∧py b6 m b7 k.2.1 k.2.2) (fun k=>U.length - k.1) (fun k=> [(2,.pt [.fmap (Cj kDig (Pw eDig) G)] 0),(7,.raw (.pointer (some ⟨b7,0,none⟩))),(8,.clo 233 [.pt [.fmap (Cj kDig (Pw eDig) G)] 0,.raw (.pointer (some ⟨b6,0,none⟩)),.raw (.pointer (some ⟨b7,0,none⟩))]),(9,.raw (.int .i64 k.1))]) (fun k=>k.2.2++LF) (0,Kr [] l,L1) ⟨by simp,lz.start _ _,hC⟩ ⟨rfl,rfl,rfl,rfl⟩ (.refl _) ?_
 rintro⟨k,out,L2⟩ ⟨hk,hI,met,v,R,hm,hv,rfl⟩
 dsimp only at hk hI hm hv ⊢
 have hol:=hI.len hG.cl hlU
 have hUl:=hG.len
 obtain⟨o,c,rfl⟩:=hv.slice
 refine wf ?_
 refine FS rfl ?_
 refine wf ?_
 refine A1 (fun hc=>?_) (fun hc=>?_)
 ·have hlt:k < out.length:=by omega
  have hne:out≠ []:=fun e=>by subst e;simp at hlt
  obtain⟨_,r,cur,rest,rfl,rfl,hcur,hsz,hlc⟩:=hv.inv hne
  refine wn ?_
  refine BZ 7 ?_ ?_
  ·decide+kernel
  refine wf ?_
  refine H5 (k:=k) rfl rfl hlt ?_
  refine OE (f:=eDig) (a0:=out[k]) rfl (JU _ (AD _ (AD _ (AD _ AI)))) (by rw[hcur,B4];exact PG FQ out k hlt rest) (by omega) ?_
  refine wf ?_
  have hin:out[k]∈U:=(hI.reach _ (AK hlt)).in_ hG.cl hlU
  have hA:Qk G (ndG G out[k])=true:=hG.all.2 (hG.cl _ hin)
  have hnd:=hG.nd out[k]
  refine Bo (xs:= [.tmp 28]) (.box b6 84 [.raw (.map (some m))]:: .map m (Cj kDig vBool met):: .box b7 39 [.raw (.slice (some ⟨r,0,none⟩) out.length c)]:: [.raw r (.cells cur 45 (0,0))]) LF (f:=233) (cs:= [.pt [.fmap (Cj kDig (Pw eDig) G)] 0,.raw (.pointer (some ⟨b6,0,none⟩)),.raw (.pointer (some ⟨b7,0,none⟩))]) (.refl _) rfl rfl (.refl _) _ (dp G (ndG G out[k]) .ro b6 m b7 out _ ⟨met,_,_,hm,hv,rfl⟩ (by omega)) fun r L3 ⟨hr,out1,hC1,ho1⟩=>?_
  have ho1:=ho1 hA
  subst ho1
  refine wf ?_
  refine wf ?_
  have hpl:=(O4 (out:=out) (l:=ndG G out[k])).length_le
  exact⟨(k+1,Kr out (ndG G out[k]),L3),⟨by dsimp only;omega,hI.step hlt,hC1⟩,by dsimp only;omega,⟨rfl,rfl,rfl,rfl⟩,.refl _⟩
 have hfin:=hI.fin (by omega)
 have hmx:(sortD out).length≤maxN∧(sortD out).length*32≤maxN:=by
  have:maxN=140737488355328:=rfl
  have h2:(sortD out).length=out.length:=J3 _
  omega
 refine wf ?_
 refine Bo (xs:= [.tmp 30,.func 84]) R (.box b6 84 [.raw (.map (some m))]:: .map m (Cj kDig vBool met):: .box b7 39 [.raw (.slice o out.length c)]::LF) (f:=165) (cs:= []) (Bx _) rfl rfl Kg _ (cQ out _ R hv (by omega)) fun r L3 ⟨v2,e2,hv2⟩=>?_
 subst e2
 refine AN ?_
 refine GI Kg.symm ?_
 refine DU ?_
 refine CC (by kernel_rfl) ?_
 refine wo ?_
 refine AN ?_
 refine Hq (f:=eDig) 4 hv2 hmx Kg rfl ?_
 refine wf ?_
 refine GM ?_
 have e:sortD out=K6 (ndG G) U.length (CU [] l):=by
  refine Ej.ext (eP hI.nodup) (RR (Eb .nil)) fun d=>?_
  rw[eO,hfin]
  exact(OV hG.cl hlU (B5 _)).symm
 rw[e]
 exact .refl _⟩
theorem TF (p:Pat):Ej (Bf p):=by
 unfold Bf
 split
 ·exact .nil
 ·exact RK _ _ (Eb .nil)
theorem oT (s:List Sto) (d:Dig):Ej (ndS s d):=TF _
theorem C7.grOk {s:List Sto} (v:C7 s):pq (gr s) (ids s):=by
 have h8:=v.close.1.1
 refine⟨XH s,by rw[Dj];omega,fun x _ d hd=>?_,fun x=>?_⟩
 ·rw[v.ndG]at hd
  exact v.close.nd x d hd
 ·rw[v.ndG]
  have:=v.close.small (oT s x) (v.close.nd x)
  omega
theorem C7.clG {s:List Sto} (v:C7 s) (l:List Dig):(Go.Proofs.clG (gr s) (ids s) l).1=(DC s l).1∧(DC s l).2=if(Go.Proofs.clG (gr s) (ids s) l).2=false then 7 else 0:=by
 have h1:Qk (gr s) l=Ca (ids s) l:=by
  unfold Qk Ca
  congr 1
  funext d
  exact XH s d
 unfold Go.Proofs.clG DC
 rw[h1,v.ndG,Dj]
 split<;>simp
instance Zs (s:List Sto) (l:List Dig) (t u:CW) [hs:B3 (C7 s)] [hl:B3 (l.length≤400)]:Bl Tryz.prog 159 [.slice (s.map eSto) t,.slice (l.map eDig) u] (.tuple [.slice ((DC s l).1.map eDig) .ro,.raw (.int .i64 (DC s l).2)]):=⟨by
 have v:=hs.out
 have i1:B3 (Dc s):=⟨v.close.1⟩
 have i2:=fun t=>aY (gr s) (ids s) v.grOk l t hl.out
 refine Ak Tryz.func159 Tryz.ntmps159 rfl (rs:= [.tmp 4,.tmp 5]) rfl rfl fun hb LF=>?_
 obtain⟨e1,e2⟩:=v.clG l
 refine wf ?_
 refine AO (fun h=>?_) (fun h=>?_)
 ·have h0:(clG (gr s) (ids s) l).2=false:=by simpa using h
  rw[if_pos h0]at e2
  have e3:(DC s l).1= []:=by
   unfold DC at e2 ⊢
   split
   ·rfl
   ·rename_i h3
    rw[if_neg h3]at e2
    simp at e2
  refine wf ?_
  refine GM ?_
  rw[e2,e3]
  exact .tuple2 (.ro _ _) (.refl _)
 ·have h0:(clG (gr s) (ids s) l).2=true:=by simpa using h
  rw[h0]at e2
  simp at e2
  refine wf ?_
  refine GM ?_
  rw[e2,←e1]
  exact .refl _⟩
end Go.Proofs
namespace Go.Q
open Go
theorem Fm.vr {b:Nat} {kvs:List (PV × PV)} {x y:PV} {g:Gh} {v:Value} (h:Fm b kvs x y) (hb:VR g (.map (some b)) (.fmap kvs)) (hv:VR g v x):VR g v y:=by
 rcases h with rfl|⟨rfl,rfl⟩
 ·exact hv
 ·rw[hv.raw_inv];exact hb
theorem DJ.resLe {w:World} {g:Gh} {L:List Res} {r r':Res} (hi:DJ w g (r::L)) (hb:r'.block=r.block) (h:r.holds w g→r'.holds w g):DJ w g (r'::L):=
 ⟨hi.sat,hi.satM,fun s hs=>by
  rcases AQ.1 hs with rfl|hs
  ·exact h (hi.res r AI)
  ·exact hi.res s (AD _ hs),by
  have:=hi.nodup
  simp only[Al,BA,hb]at this ⊢
  exact this,hi.glob⟩
structure dz (b:Nat) (kvs:List (PV × PV)) (r r':Res):Prop where
 block:r'.block=r.block
 holds: ∀ w g,VR g (.map (some b)) (.fmap kvs)→r.holds w g→r'.holds w g
theorem dz.box {b bx T:Nat} {kvs:List (PV × PV)} {cs cs':List PV} (hl:cs'.length=cs.length) (h: ∀ i (h1:i < cs.length) (h2:i < cs'.length),Fm b kvs cs[i] cs'[i]):dz b kvs (.box bx T cs) (.box bx T cs'):=
 ⟨rfl,fun w g hb ⟨vs,h1,h2,h3,h4⟩=>⟨vs,h1,⟨h2.len.trans hl.symm,fun i a c=>(h i (by omega) c).vr hb (h2.at_ i a (by omega))⟩,h3,h4⟩⟩
section
variable {P:Program} {N:Nat} {ρ:Env} {L:List Res} {Q:PPost} {c:Code}
theorem X2 {b:Nat} {kvs:List (PV × PV)} {r r':Res} {L':List Res} (hp:L.Perm (.map b kvs::r::L')) (hr:dz b kvs r r') (k:EG P N c Q ρ (r'::L')):EG P N c Q ρ L:=
 HO (fun base a w g ha hI=>by
  obtain⟨g',h1,h2,h3,h4⟩:=hI.freezeM hp
  refine⟨g',⟨ha.size,ha.defers.mono h2.le,fun i=>(ha.slot i).mono h2.le⟩,h1.resLe hr.block (hr.holds w g' h4),h2,fun b' hb' hlt=>h3 b' ?_ hlt⟩
  have e:Al (r'::L')=Al (r::L'):=by simp only[Al,BA,hr.block]
  rw[←e];exact hb') k
end
end Go.Q
