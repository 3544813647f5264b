/- Contracts of the program: a search's start: the closures of all patches. -/
import Derived.Test.YtpebdiofdfpooaaGreatDoorWam
import Derived.Test.YtpebdiofdfpooaaGreatDoorWaj
import Derived.Test.YtpebdiofdfpooaaGreatDoorWag
import Derived.Test.YtpebdiofdfpooaaGreatDoorWad
import Derived.Test.YtpebdiofdfpooaaGreatDoorWaf
set_option linter.unusedSimpArgs false
set_option linter.unusedVariables false
set_option maxHeartbeats 8000000
namespace Go.Proofs
open Go Go.Q
attribute [local irreducible] EB AW B2 FW
def cm (l:List Dig):List (Dig × Bool):=l.foldl (fun m x=>HJ x true m) []
def cM (s l:List Sto):List (Dig × List (Dig × Bool)):=l.foldl (fun m x=>HJ x.id (cm (nU s x.id)) m) []
def xb (s:List Sto):List PV:= [.slice (s.map eSto) .ro]++ [.fmap (Cq kDig (xJ kDig vBool) (cM s s))]
@[simp] theorem uc (s:List Sto):(xb s).length=2:=rfl
instance xQ {a b c:PV}:Ek [a,b] 0 [c] [c,b]:=Cw (a:= [a]) (b:= [b]) (new:= [c]) rfl
instance xP {a b c:PV}:Ek [a,b] 1 [c] [a,c]:=Ad (a:= [a]) (n:=1) (off:=0) rfl (IJ (a:= [b]) (new:= [c]) rfl)
instance {b:Option Nat}:Dq (.raw (.map b)) [.raw (.map b)]:=⟨.one (EH.out)⟩
attribute [local irreducible] MV
end Go.Proofs
namespace Go.Proofs
open Go Go.Q
attribute [local irreducible] EB AW B2 FW
def mu (l:List Dig) (d:Dig):Int:=if d∈l then(l.idxOf d:Int)else -1
theorem YT {l:List Dig} {d:Dig} {k:Nat} (hk:k < l.length) (hn:d∉l.take k) (e:d=l[k]):l.idxOf d=k:=by
 induction l generalizing k with
 |nil=>simp at hk
 |cons x l ih=>
  cases k with
  |zero=>simp at e;subst e;simp
  |succ k=>
   simp only[O1,AI,not_or]at hn
   have:=ih (k:=k) (by simpa using hk) hn.2 (by simpa using e)
   rw[List.idxOf_cons,beq_eq_false_iff_ne.2 (Ne.symm hn.1),cond_false,this]
instance tU (l:List Dig) (d:Dig) (t:CZ):Bj Tryz.prog 136 [.slice (l.map eDig) t,.agg (eDig d)] (.raw (.int .i64 (mu l d))):=⟨by
 refine Aj Tryz.func136 Tryz.ntmps136 rfl (rs:= [.tmp 4]) rfl rfl fun hb LF=>?_
 have hlen:l.length≤140737488355328:=(hb (.slice (l.map eDig) t) (by simp)).slice_map
 refine wf ?_
 refine AV (σ:=Nat) (fun k=>k≤l.length∧d∉l.take k) (fun k=>l.length - k) (fun k=> [(0,.slice (l.map eDig) t),(3,.pt (eDig d) 0),(7,.raw (.int .i64 l.length)),(8,.raw (.int .i64 k))]) (fun _=>LF) 0 ⟨by simp,by simp⟩ ⟨rfl,rfl,rfl,rfl⟩ (.refl _) ?_
 rintro k ⟨hk,hn⟩
 refine wf ?_
 refine A1 (fun hc=>?_) (fun hc=>?_)
 ·have hlt:k < l.length:=by omega
  refine wf ?_
  refine A1 (fun h=>?_) (fun h=>?_)
  ·refine wf ?_
   refine Al (.of_eq ?_)
   rw[mu,if_pos (h ▸ AO hlt),YT hlt hn h]
  ·refine wf ?_
   refine⟨k+1,⟨by omega,?_⟩,by dsimp only;omega,⟨rfl,rfl,rfl,rfl⟩,.refl _⟩
   rw[A6 hlt,Ay,B9]
   rintro(h'|h')
   ·exact hn h'
   ·exact h h'
 ·refine wf ?_
  refine Al (.of_eq ?_)
  rw[AA (by omega)]at hn
  rw[mu,if_neg hn]⟩
instance nu (l:List Dig) (d:Dig) (t:CZ):Bj Tryz.prog 75 [.slice (l.map eDig) t,.agg (eDig d)] (.raw (.bool (decide (d∈l)))):=⟨by
 refine Aj Tryz.func75 Tryz.ntmps75 rfl (rs:= [.tmp 4]) rfl rfl fun hb LF=>?_
 refine wf ?_
 refine Al (.of_eq ?_)
 by_cases h:d∈l<;>simp[mu,h]⟩
instance vO (s:List Sto) (l:List Dig) (t u:CZ) [hs:B0 (s.length≤1000000)]:Bj Tryz.prog 69 [.slice (s.map eSto) t,.slice (l.map eDig) u] (.slice ((CU s l).map eSto) .ro):=⟨by
 refine Aj Tryz.func69 Tryz.ntmps69 rfl (rs:= [.tmp 4]) rfl rfl fun hb LF=>?_
 have hlen:s.length≤1000000:=hs.out
 refine wf ?_
 refine Dw 37 ?_
 refine AV (σ:=Nat × CZ) (fun k=>k.1≤s.length) (fun k=>s.length - k.1) (fun k=> [(1,.slice (l.map eDig) u),(5,.slice ((CU (s.take k.1) l).map eSto) k.2),(8,.slice (s.map eSto) t),(9,.raw (.int .i64 s.length)),(10,.raw (.int .i64 k.1))]) (fun k=> .tok k.2 (CU (s.take k.1) l).length 37::LF) (0,.nil) (by simp) ⟨rfl,rfl,rfl,rfl,rfl⟩ (.refl _) ?_
 rintro⟨k,v⟩ hk
 dsimp only at hk
 refine wf ?_
 refine A1 (fun hc=>?_) (fun hc=>?_)
 ·have hl:(CU (s.take k) l).length≤k:=Cd (CR _ _) (by simp;omega)
  have e:CU (s.take (k+1)) l=CU (s.take k) l++CU [s[k]] l:=by
   rw[A6 (by omega)];simp only[CU,DI]
  refine wz fun b7=>?_
  refine Ag 7 ?_
  refine wf ?_
  refine A1 (fun h=>?_) (fun h=>?_)
  ·refine QL fun v'=>?_
   have e2:CU [s[k]] l= [s[k]]:=by simp[CU,h]
   rw[e2]at e
   refine⟨(k+1,v'),by dsimp only;omega,by dsimp only;omega,⟨rfl,by dsimp only;rw[e];rfl,rfl,rfl,rfl⟩,by dsimp only;rw[e];exact .refl _⟩
  ·refine wf ?_
   have e2:CU [s[k]] l= []:=by simp[CU,h]
   rw[e2,B1]at e
   refine⟨(k+1,v),by dsimp only;omega,by dsimp only;omega,⟨rfl,by dsimp only;rw[e];rfl,rfl,rfl,rfl⟩,by dsimp only;rw[e];exact .refl _⟩
 ·refine wf ?_
  refine Al (.ros ?_)
  rw[AA (by omega)]⟩
theorem Ky {P:Program} {ρ:Env} {L LF:List Res} {X:PV} {t u s T n b T':Nat} {cs:List PV} {x z:PV} [hT:FG P T n] (h:ρ u= .raw (.pointer (some ⟨b,0,none⟩))) (hX:Le (.tuple [.agg cs,x,z]) X) (hx:ρ t=x:=by conv=>lhs;whnf) (hz:ρ s=z:=by conv=>lhs;whnf) (hm:Res.box b T' cs∈L:=by repeat(first|exact AK|apply AD)) (hn:cs.length=n:=by simp) (hs:LF.Sublist L:=by repeat(first|exact Dh _|apply List.Sublist.cons)):
  fR P [.cell u T,.tmp t,.tmp s] (fun r L'=>Le r X∧L'= []) LF .ret ρ L:=⟨trivial,_,[],.cons (.cell u T h hm hT.out hn) (.cons (.tmp t) (.cons (.tmp s) .nil)),hs,by subst hx;subst hz;exact hX,rfl⟩
end Go.Proofs
namespace Go.Proofs
open Go Go.Q
attribute [local irreducible] EB AW B2 FW
def EK {α:Type} (p:α→Bool) (l:List α):Int:=if l.any p=true then(l.findIdx p:Int)else -1
theorem Gi {α:Type} {p:α→Bool} {l:List α} {k:Nat} (hk:k < l.length) (hn:(l.take k).any p=false) (e:p l[k]=true):l.findIdx p=k:=by
 refine List.findIdx_eq hk |>.2 ⟨e,fun j hj=>?_⟩
 have:=Ew.1 hn (l[j]) (EI.2 ⟨j,by omega,rfl⟩)
 simpa using this
theorem Uk (F:Nat) (cs:List PV) (p:Dig→Bool) [hF:Av Tryz.prog F] [hp: ∀ d,Bj Tryz.prog F (.agg (eDig d)::cs) (.raw (.bool (p d)))] (l:List Dig) (t:CZ):
  Bj Tryz.prog 135 [.slice (l.map eDig) t,.clo F cs] (.raw (.int .i64 (EK p l))):=⟨by
 refine Aj Tryz.func135 Tryz.ntmps135 rfl (rs:= [.tmp 4]) rfl rfl fun hb LF=>?_
 have hlen:l.length≤140737488355328:=(hb (.slice (l.map eDig) t) (by simp)).slice_map
 refine wf ?_
 refine AV (σ:=Nat) (fun k=>k≤l.length∧(l.take k).any p=false) (fun k=>l.length - k) (fun k=> [(0,.slice (l.map eDig) t),(1,.clo F cs),(7,.raw (.int .i64 l.length)),(8,.raw (.int .i64 k))]) (fun _=>LF) 0 ⟨by simp,by simp⟩ ⟨rfl,rfl,rfl,rfl⟩ (.refl _) ?_
 rintro k ⟨hk,hn⟩
 refine wf ?_
 refine A1 (fun hc=>?_) (fun hc=>?_)
 ·have hlt:k < l.length:=by omega
  refine wf ?_
  refine AU (fun h=>?_) (fun h=>?_)
  ·refine wf ?_
   refine Al (.of_eq ?_)
   have e:l.any p=true:=Bg.2 ⟨l[k],AO hlt,h⟩
   rw[EK,if_pos e,Gi hlt hn h]
  ·refine wf ?_
   refine⟨k+1,⟨by omega,?_⟩,by dsimp only;omega,⟨rfl,rfl,rfl,rfl⟩,.refl _⟩
   rw[A6 hlt,FE,hn]
   simp[h]
 ·refine wf ?_
  refine Al (.of_eq ?_)
  rw[AA (by omega)]at hn
  rw[EK,if_neg (by simp[hn])]⟩
theorem Wt (F:Nat) (cs:List PV) (p:Dig→Bool) [hF:Av Tryz.prog F] [hp: ∀ d,Bj Tryz.prog F (.agg (eDig d)::cs) (.raw (.bool (p d)))] (l:List Dig) (t:CZ):
  Bj Tryz.prog 150 [.slice (l.map eDig) t,.clo F cs] (.raw (.bool (l.any p))):=⟨by
 have i1: ∀ t,Bj Tryz.prog 135 [.slice (l.map eDig) t,.clo F cs] (.raw (.int .i64 (EK p l))):=Uk F cs p l
 refine Aj Tryz.func150 Tryz.ntmps150 rfl (rs:= [.tmp 4]) rfl rfl fun hb LF=>?_
 refine wf ?_
 refine Al (.of_eq ?_)
 cases h:l.any p<;>simp[EK,h]⟩
theorem Ss (F:Nat) (cs:List PV) (p:Sto→Bool) [hF:Av Tryz.prog F] (l:List Sto) (t:CZ) (hp: ∀ d∈l,Bj Tryz.prog F (.agg (eSto d)::cs) (.raw (.bool (p d)))):
  Bj Tryz.prog 111 [.slice (l.map eSto) t,.clo F cs] (.raw (.int .i64 (EK p l))):=⟨by
 refine Aj Tryz.func111 Tryz.ntmps111 rfl (rs:= [.tmp 4]) rfl rfl fun hb LF=>?_
 have hlen:l.length≤140737488355328:=(hb (.slice (l.map eSto) t) (by simp)).slice_map
 refine wf ?_
 refine AV (σ:=Nat) (fun k=>k≤l.length∧(l.take k).any p=false) (fun k=>l.length - k) (fun k=> [(0,.slice (l.map eSto) t),(1,.clo F cs),(7,.raw (.int .i64 l.length)),(8,.raw (.int .i64 k))]) (fun _=>LF) 0 ⟨by simp,by simp⟩ ⟨rfl,rfl,rfl,rfl⟩ (.refl _) ?_
 rintro k ⟨hk,hn⟩
 refine wf ?_
 refine A1 (fun hc=>?_) (fun hc=>?_)
 ·have hlt:k < l.length:=by omega
  have hpk:=hp _ (AO hlt)
  refine wf ?_
  refine AU (fun h=>?_) (fun h=>?_)
  ·refine wf ?_
   refine Al (.of_eq ?_)
   have e:l.any p=true:=Bg.2 ⟨l[k],AO hlt,h⟩
   rw[EK,if_pos e,Gi hlt hn h]
  ·refine wf ?_
   refine⟨k+1,⟨by omega,?_⟩,by dsimp only;omega,⟨rfl,rfl,rfl,rfl⟩,.refl _⟩
   rw[A6 hlt,FE,hn]
   simp[h]
 ·refine wf ?_
  refine Al (.of_eq ?_)
  rw[AA (by omega)]at hn
  rw[EK,if_neg (by simp[hn])]⟩
theorem Uj (F:Nat) (cs:List PV) (p:Sto→Bool) [hF:Av Tryz.prog F] [hp: ∀ d,Bj Tryz.prog F (.agg (eSto d)::cs) (.raw (.bool (p d)))] (l:List Sto) (t:CZ):
  Bj Tryz.prog 111 [.slice (l.map eSto) t,.clo F cs] (.raw (.int .i64 (EK p l))):=Ss F cs p l t fun d _=>hp d
theorem Tx (F:Nat) (cs:List PV) (p:Sto→Bool) [hF:Av Tryz.prog F] (l:List Sto) (t:CZ) (hp: ∀ d∈l,Bj Tryz.prog F (.agg (eSto d)::cs) (.raw (.bool (p d)))):
  Bj Tryz.prog 177 [.slice (l.map eSto) t,.clo F cs] (.raw (.bool (l.any p))):=⟨by
 have i1: ∀ t,Bj Tryz.prog 111 [.slice (l.map eSto) t,.clo F cs] (.raw (.int .i64 (EK p l))):=fun t=>Ss F cs p l t hp
 refine Aj Tryz.func177 Tryz.ntmps177 rfl (rs:= [.tmp 4]) rfl rfl fun hb LF=>?_
 refine wf ?_
 refine Al (.of_eq ?_)
 cases h:l.any p<;>simp[EK,h]⟩
instance wy (p:Pat) [hs:B0 (EA p=false)]:Bj Tryz.prog 101 [.agg (Cc p)] (.tuple [.agg (eDig (EW p).1),.raw (.int .i64 (EW p).2)]):=⟨by
 have i1:B0 ((Cj p).1.length≤1000000):=⟨by have:=Pa p;omega⟩
 refine Aj Tryz.func101 Tryz.ntmps101 rfl (rs:= [.cell 2 45,.tmp 3]) rfl rfl fun hb LF=>?_
 refine wf ?_
 refine BN fun b2=>?_
 refine wf ?_
 refine AN (fun h=>?_) (fun h=>?_)
 ·refine wf ?_
  refine CJ rfl ?_
  rw[EW,if_pos h]
  exact .refl _
 ·refine wf ?_
  refine CJ rfl ?_
  rw[EW,if_neg (by simpa using h)]
  exact .refl _⟩
instance qP (x:Sto) (d:Dig):Bj Tryz.prog 174 [.agg (eSto x),.agg (eDig d)] (.raw (.int .i64 (DY x.id d))):=⟨by
 refine Aj Tryz.func174 Tryz.ntmps174 rfl (rs:= [.tmp 4]) rfl rfl fun hb LF=>?_
 refine wf ?_
 exact Al (.refl _)⟩
def JR (s:List Sto) (d:Dig):Nat:=s.findIdx fun x=>decide (0≤DY x.id d)
theorem Vx {s:List Sto} {d:Dig} {i:Nat} (hi:i≤s.length) (h1: ∀ k (h:k < s.length),k < i→DY s[k].id d < 0) (h2: ∀ k (h:k < s.length),i≤k→0≤DY s[k].id d):JR s d=i:=by
 unfold JR
 rcases BC i s.length with h|h
 ·refine(List.findIdx_eq h).2 ⟨Bh (h2 i h (B4 _)),fun j hj=>Ca ?_⟩
  have:=h1 j (by omega) hj
  omega
 ·have e:i=s.length:=by omega
  subst e
  refine List.findIdx_eq_length.2 fun x hx=>Ca ?_
  obtain⟨k,hk,rfl⟩:=Ak.1 hx
  have:=h1 k hk hk
  omega
theorem Y3 {s:List Sto} (ha:Eo (ids s)) {d:Dig} {i:Nat} (h1: ∀ k (h:k < s.length),k < i→DY s[k].id d < 0) (h2: ∀ k (h:k < s.length),i≤k→0≤DY s[k].id d):d∈ids s↔ ∃ h:i < s.length,DY s[i].id d=0:=by
 constructor
 ·intro h
  obtain⟨x,hx,rfl⟩:=AX.1 h
  obtain⟨k,hk,rfl⟩:=Ak.1 hx
  have hz:DY s[k].id s[k].id=0:=LS.2 rfl
  have hik:i≤k:=by
   rcases BC k i with h'|h'
   ·have:=h1 k hk h';omega
   ·exact h'
  have hi:i < s.length:=by omega
  refine⟨hi,?_⟩
  rcases BC i k with h'|h'
  ·have hp:=BQ.1 ha i k (by simpa [ids]using hi) (by simpa [ids]using hk) h'
   simp only[ids,BT]at hp
   have:=h2 i hi (B4 _)
   have hp:DY s[i].id s[k].id < 0:=hp
   omega
  ·have e:i=k:=by omega
   subst e;exact hz
 ·rintro⟨h,e⟩
  rw[←LS.1 e]
  exact AX.2 ⟨s[i],AO h,rfl⟩
theorem kI {s:List Sto} (ha:Eo (ids s)) {i k:Nat} (hk:k < s.length) (hik:i≤k) {d:Dig}:(DY s[k].id d < 0→DY s[i].id d < 0)∧(0≤DY s[i].id d→0≤DY s[k].id d):=by
 rcases BC i k with h|h
 ·have hp:=BQ.1 ha i k (by simp[ids];omega) (by simpa [ids]using hk) h
  simp only[ids,BT]at hp
  refine⟨fun h'=>Dig.lt_trans hp h',fun h'=>?_⟩
  rcases Tg (DY s[k].id d) 0 with h2|h2
  ·have:DY s[i].id d < 0:=Dig.lt_trans hp h2
   omega
  ·exact h2
 ·have e:i=k:=by omega
  subst e;exact⟨id,id⟩
theorem et (s:List Sto) (t:CZ) (d:Dig) (ha:Eo (ids s)) (hl:s.length≤1000000):Bj Tryz.prog 173 [.slice (s.map eSto) t,.agg (eDig d),.clo 174 []] (.tuple [.raw (.int .i64 (JR s d)),.raw (.bool (decide (d∈ids s)))]):=⟨by
 refine Aj Tryz.func173 Tryz.ntmps173 rfl (rs:= [.tmp 6,.tmp 7]) rfl rfl fun hb LF=>?_
 refine wf ?_
 refine AV (σ:=Nat × Nat) (fun k=>k.1≤k.2∧k.2≤s.length∧(∀ i (h:i < s.length),i < k.1→DY s[i].id d < 0)∧(∀ i (h:i < s.length),k.2≤i→0≤DY s[i].id d)) (fun k=>k.2 - k.1) (fun k=> [(0,.slice (s.map eSto) t),(2,.clo 174 []),(4,.pt (eDig d) 0),(8,.raw (.int .i64 s.length)),(9,.raw (.int .i64 k.1)),(10,.raw (.int .i64 k.2))]) (fun _=>LF) (0,s.length) ⟨by simp,by simp,fun i h h'=>by omega,fun i h h'=>by omega⟩ ⟨rfl,rfl,rfl,rfl,rfl,rfl⟩ (.refl _) ?_
 rintro⟨i,j⟩ ⟨hij,hjn,h1,h2⟩
 dsimp only at hij hjn h1 h2 ⊢
 refine wf ?_
 refine A1 (fun hc=>?_) (fun hc=>?_)
 ·have hlt:i < j:=by omega
  obtain⟨m,hm⟩: ∃ m,m=(i+j) / 2 ^ (min 1 64):=⟨_,rfl⟩
  have hm2:m=(i+j) / 2:=hm
  have hmn:m < s.length:=by omega
  refine wf ?_
  refine ba (n:=(((i+j) / 2 ^ (min 1 64):Nat):Int)) rfl (IntWalk.i64_in _ ⟨by omega,by omega⟩) ?_
  rw[←hm]
  refine wf ?_
  refine A1 (fun h=>?_) (fun h=>?_)
  ·refine wf ?_
   exact⟨(m+1,j),⟨by dsimp only;omega,hjn,fun k hk hkm=>(kI (d:=d) ha hmn (by omega)).1 h,h2⟩,by dsimp only;omega,⟨rfl,rfl,rfl,rfl,rfl,rfl⟩,.refl _⟩
  ·refine wf ?_
   exact⟨(i,m),⟨by dsimp only;omega,by dsimp only;omega,h1,fun k hk hkm=>(kI (d:=d) ha hk hkm).2 (Int.not_lt.1 h)⟩,by dsimp only;omega,⟨rfl,rfl,rfl,rfl,rfl,rfl⟩,.refl _⟩
 ·have e:i=j:=by omega
  subst e
  refine Decidable.byCases (p:=i < s.length) (fun hin=>?_) (fun hin=>?_)
  ·have g:decide ((i:Int) < (s.length:Int))=true:=Bh (by omega)
   refine wf ?_
   refine Ei (.of_eq ?_)
   have hpm:=Y3 ha h1 h2
   rw[Vx hjn h1 h2]
   have e2:decide (d∈ids s)=decide (DY s[i].id d=0):=by
    rw[decide_eq_decide,hpm]
    exact⟨fun⟨_,h⟩=>h,fun h=>⟨hin,h⟩⟩
   rw[e2]
  ·have g:decide ((i:Int) < (s.length:Int))=false:=Ca (by omega)
   refine wf ?_
   refine Ei (.of_eq ?_)
   have hpm:=Y3 ha h1 h2
   rw[Vx hjn h1 h2,Ca (fun h=>hin (hpm.1 h).1)]⟩
theorem Rz (s:List Sto) (t:CZ) (d:Dig) (ha:Eo (ids s)) (hl:s.length≤1000000):Bj Tryz.prog 130 [.slice (s.map eSto) t,.agg (eDig d)] (.tuple [.raw (.int .i64 (JR s d)),.raw (.bool (decide (d∈ids s)))]):=⟨by
 have i1: ∀ t,Bj Tryz.prog 173 [.slice (s.map eSto) t,.agg (eDig d),.clo 174 []] (.tuple [.raw (.int .i64 (JR s d)),.raw (.bool (decide (d∈ids s)))]):=fun t=>et s t d ha hl
 refine Aj Tryz.func130 Tryz.ntmps130 rfl (rs:= [.tmp 4,.tmp 5]) rfl rfl fun hb LF=>?_
 refine wf ?_
 exact Ei (.refl _)⟩
theorem eH (s:List Sto) (t:CZ) (d:Dig) (ha:Eo (ids s)) (hl:s.length≤1000000):Bj Tryz.prog 151 [.agg (eDig d),.pt [.slice (s.map eSto) t] 0] (.raw (.bool (!decide (d∈ids s)))):=⟨by
 have i1: ∀ t,Bj Tryz.prog 130 [.slice (s.map eSto) t,.agg (eDig d)] (.tuple [.raw (.int .i64 (JR s d)),.raw (.bool (decide (d∈ids s)))]):=fun t=>Rz s t d ha hl
 refine Aj Tryz.func151 Tryz.ntmps151 rfl (rs:= [.tmp 3]) rfl rfl fun hb LF=>?_
 refine wf ?_
 exact Al (.refl _)⟩
theorem YN (s:List Sto) (t:CZ) (p:Pat) (ha:Eo (ids s)) (hl:s.length≤1000000) (hg:EA p=false):Bj Tryz.prog 102 [.slice (s.map eSto) t,.agg (Cc p)] (.raw (.bool (!Ck (ids s) (BX p)))):=⟨by
 have i0:B0 (EA p=false):=⟨hg⟩
 have i1: ∀ t d,Bj Tryz.prog 151 [.agg (eDig d),.pt [.slice (s.map eSto) t] 0] (.raw (.bool (!decide (d∈ids s)))):=fun t d=>eH s t d ha hl
 have i2: ∀ t u,Bj Tryz.prog 150 [.slice ((BX p).map eDig) t,.clo 151 [.pt [.slice (s.map eSto) u] 0]] (.raw (.bool ((BX p).any fun d=>!decide (d∈ids s)))):=fun t u=>Wt 151 [.pt [.slice (s.map eSto) u] 0] (fun d=>!decide (d∈ids s)) (BX p) t
 refine Aj Tryz.func102 Tryz.ntmps102 rfl (rs:= [.tmp 4]) rfl rfl fun hb LF=>?_
 refine wf ?_
 refine Al (.of_eq ?_)
 rw[Ck,x9]⟩
instance lJ:VK Tryz.prog 23 47 37 120:=⟨by
 have h2:(Tryz.prog.info? 47).map (fun i=>(i.size,i.bytes,i.zero.isSome,(i.zero.getD undef).cells.size))=some (37,120,true,37):=by kernel_rfl
 obtain⟨i,hi,e⟩:=Bk.1 h2
 simp only[Prod.mk.injEq]at e
 obtain⟨e1,e2,e3,e4⟩:=e
 obtain⟨z,hz⟩:=E0.1 e3
 rw[hz]at e4
 exact⟨i,z,by kernel_rfl,hi,e1,e2,hz,e4,by decide,by decide⟩⟩
instance vl:VK Tryz.prog 22 47 37 120:=⟨by
 obtain⟨i,z,_,h⟩:=lJ.out
 exact⟨i,z,by kernel_rfl,h⟩⟩
theorem E4 {X cs:List Value} {o:Nat} (h:o+cs.length≤X.length):(CA X o cs).length=X.length:=by
 unfold CA
 simp only[A7,AG,Ab];omega
theorem Ni {X cs:List Value} {o:Nat} (h:o+cs.length≤X.length) (k:Nat):(CA X o cs)[k]? =if k < o then X[k]? else if k < o+cs.length then cs[k - o]? else X[k]?:=by
 unfold CA
 have h1:(X.take o).length=o:=by rw[AG];omega
 by_cases a:k < o
 ·rw[if_pos a,AL,DB (by omega),FS a]
 ·rw[if_neg a,AL,Et (by omega),h1]
  by_cases b:k < o+cs.length
  ·rw[if_pos b,DB (by omega)]
  ·rw[if_neg b,Et (by omega),GW]
   congr 1;omega
theorem UF {us cv:List Value} {a:Nat} (h:a≤us.length) (k:Nat):(us.take a++cv++us.drop a)[k]? =if k < a then us[k]? else if k < a+cv.length then cv[k - a]? else us[k - cv.length]?:=by
 have h1:(us.take a).length=a:=by rw[AG];omega
 by_cases b:k < a
 ·rw[if_pos b,AL,DB (by omega),FS b]
 ·rw[if_neg b,AL,Et (by omega),h1]
  by_cases c:k < a+cv.length
  ·rw[if_pos c,DB (by omega)]
  ·rw[if_neg c,Et (by omega),GW]
   congr 1;omega
theorem Iv {us cv:List Value} {a:Nat} (h:a≤us.length):(us.take a++cv++us.drop a).length=us.length+cv.length:=by
 simp only[A7,AG,Ab];omega
theorem NJ {us cv zs:List Value} {a:Nat} (h:a≤us.length) (hz:cv.length+(us.length - a)≤zs.length):(CA (CA (us.take a++zs) a cv) (a+cv.length) (us.drop a)).take (us.length+cv.length)=us.take a++cv++us.drop a:=by
 have h1:(us.take a).length=a:=by rw[AG];omega
 have hX:(us.take a++zs).length=a+zs.length:=by rw[A7,h1]
 have hB:(us.drop a).length=us.length - a:=Ab
 have q1:a+cv.length≤(us.take a++zs).length:=by omega
 have q2:=E4 q1
 have q3:a+cv.length+(us.drop a).length≤(CA (us.take a++zs) a cv).length:=by omega
 refine fE fun k=>?_
 rw[UF h,GV]
 by_cases hk:k < us.length+cv.length
 ·rw[if_pos hk,Ni q3,Ni q1]
  by_cases b:k < a
  ·rw[if_pos (by omega),if_pos b,if_pos b,DB (by omega),FS b]
  ·rw[if_neg b,if_neg b]
   by_cases c:k < a+cv.length
   ·rw[if_pos c,if_pos c,if_pos c]
   ·rw[if_neg c,if_pos (by omega),if_neg c,GW]
    congr 1;omega
 ·rw[if_neg hk,if_neg (by omega),if_neg (by omega),Ia (by omega)]
theorem Ln {us cv X:List Value} {a:Nat} (h:a≤us.length) (hX:us.length+cv.length≤X.length) (ht:X.take us.length=us):(CA (CA X (a+cv.length) (us.drop a)) a cv).take (us.length+cv.length)=us.take a++cv++us.drop a:=by
 have hB:(us.drop a).length=us.length - a:=Ab
 have q1:a+cv.length+(us.drop a).length≤X.length:=by omega
 have q2:=E4 q1
 have q3:a+cv.length≤(CA X (a+cv.length) (us.drop a)).length:=by omega
 refine fE fun k=>?_
 rw[UF h,GV]
 by_cases hk:k < us.length+cv.length
 ·rw[if_pos hk,Ni q3,Ni q1]
  by_cases b:k < a
  ·rw[if_pos b,if_pos (by omega),if_pos b]
   conv=>rhs;rw[←ht]
   rw[FS (by omega)]
  ·rw[if_neg b,if_neg b]
   by_cases c:k < a+cv.length
   ·rw[if_pos c,if_pos c]
   ·rw[if_neg c,if_neg c,if_neg c,if_pos (by omega),GW]
    congr 1;omega
 ·rw[if_neg hk,if_neg (by omega),if_neg (by omega),Ia (by omega)]
theorem MR {cur:Array Value} {us:List Value} (h:cur.toList.take us.length=us) (a:Nat):IY cur 0 (us.take a):=fun j hj=>by
 rw[AG]at hj
 rw[B3,Ep,←AZ (by omega)]
 conv=>rhs;rw[←h]
 rw[FS (by omega)]
theorem Fc {cur:Array Value} {us:List Value} (h:cur.toList.take us.length=us) (a:Nat):IY cur a (us.drop a):=fun j hj=>by
 rw[Ab]at hj
 rw[Gv,←AZ (by omega)]
 conv=>rhs;rw[←h]
 rw[FS (by omega)]
theorem aN (v:Value) (n:Nat) (us:List Value) (R:List Res) (hv:Hy 47 37 v n us R) (i:Nat) (hi:i≤n) (hn:n≤1000) (rv:Nat) (cv:Array Value) (hcv:cv.size=37) (h1v: ∀ x∈cv.toList,x.oneCell'=true) (h1u: ∀ x∈us,x.oneCell'=true):
  B2 Tryz.prog 131 [.raw v,.raw (.int .i64 (i:Int)),.raw (.slice (some ⟨rv,0,none⟩) 1 1)] (R++ [.raw rv (.cells cv 47 (0,0))])
   (fun x L'=> ∃ v' R',x= .raw v'∧Hy 47 37 v' (n+1) (us.take (i*37)++cv.toList++us.drop (i*37)) R'∧L'=R'++ [.raw rv (.cells cv 47 (0,0))]):=by
 refine Bt Tryz.func131 rfl Tryz.ntmps131 (rs:= [.tmp 6]) rfl rfl fun hb LF=>?_
 have hul:=hv.len
 have hcl:cv.toList.length=37:=by simpa using hcv
 have hcat:IY cv 0 cv.toList:=fun j hj=>by rw[B3,AZ hj]
 obtain⟨o,c,hvs⟩:=hv.slice
 have hnc:n≤c:=by cases hv<;>(injection hvs with _ _ e;omega)
 subst hvs
 refine wf ?_
 refine S6 rfl rfl hi hnc fun u=>?_
 refine wf ?_
 refine FO rfl ?_
 refine wf ?_
 refine FO rfl ?_
 refine wf ?_
 refine A1 (fun h=>?_) (fun h=>?_)
 ·have hin:i=n:=by omega
  subst hin
  refine wf ?_
  refine Vi (us:=us) (vs:=cv.toList) (R:=R) (LF:= .raw rv (.cells cv 47 (0,0))::LF) (fun R'=>R'++(.raw rv (.cells cv 47 (0,0))::LF)) rfl rfl hv (.of_eq (by simp)) (fun R'=> .refl _) (by omega) h1v ⟨cv,_,_,AK,hcat⟩ (by omega) (by omega) fun v' R' hv'=>?_
  refine wf ?_
  refine wf ?_
  refine⟨trivial,_,R'++ [.raw rv (.cells cv 47 (0,0))],.cons (.tmp 6) .nil,by rw[AL];exact .refl _,v',R',rfl,?_,rfl⟩
  rw[AA (by omega),CY (by omega),B1]
  exact hv'
 have hin:i < n:=by omega
 cases hv with
 |nil o ho=>omega
 |row hlc hs hu hc=>
 rename_i r cur
 have hc':cur.toList.take us.length=us:=by rw[hul];exact hc
 have hcs:cur.toList.length=c*37:=by simpa using hs
 have hia:i*37≤us.length:=by omega
 have htl:(us.take (i*37)).length=i*37:=by rw[AG];omega
 have hdl:(us.drop (i*37)).length=(n - i)*37:=by rw[Ab];omega
 refine wf ?_
 refine S7 rfl ?_
 refine wf ?_
 refine A1 (fun h2=>?_) (fun h2=>?_)
 ·refine wf ?_
  refine E9 0 i rfl (by omega) (by omega) (by omega) hlc (fun _ e=>by cases e) (fun _=>rfl) (fun o e=>by cases e;exact⟨_,rfl⟩) (fun e=>by cases e) ?_
  refine wf ?_
  refine Ze (T₂:=3) (us:=us.take (i*37)) (n:=i) (m:=n+1 - i) (c:=c) (o:=0) (cur:=cur) (by kernel_rfl) rfl (by show PV.raw (Value.int .i64 ((n:Int)+1 - i))=PV.raw (Value.int .i64 ((n+1 - i:Nat):Int));congr 2;omega) AK rfl htl (MR hc' _) (by omega) (by omega) (by omega) (by omega) fun r' nc zs hnc hzl=>?_
  have e1:i+(n+1 - i)=n+1:=by omega
  rw[e1]at hnc ⊢
  have hz37:cv.toList.length+(us.length - i*37)≤zs.length:=by
   rw[A7,htl]at hzl
   have:(n+1)*37≤nc*37:=Au _ hnc
   omega
  refine wf ?_
  refine wf ?_
  refine E9 i (n+1) rfl (by omega) hnc (by omega) hnc (fun o e=>by cases e;exact⟨_,rfl⟩) (fun e=>by cases e) (fun _ e=>by cases e) (fun _=>rfl) ?_
  refine wf ?_
  refine Hd (r:=r') (cur:=(us.take (i*37)++zs).toArray) cv.toList (fun c=>c::([.raw r (.cells cur 47 (0,0))]++ [.raw rv (.cells cv 47 (0,0))]++LF)) rfl rfl (.refl _) (fun c=> .refl _) (by rw[show Nat.min 1 (n+1 - i)=1 by show min 1 (n+1 - i)=1;omega];omega) h1v (by simp only[BJ,A7,htl];omega) ⟨cv,_,_,AD _ (AD _ AK),hcat⟩ ?_
  rw[show 0+i*37=i*37 from B3 _]
  rw[show(us.take (i*37)++zs).toArray.toList=us.take (i*37)++zs from rfl]
  refine AE ?_
  refine wn ?_
  refine BR 8 ?_ ?_
  ·decide+kernel
  refine wf ?_
  refine E9 (i+1) (n+1) rfl (by omega) hnc (by omega) hnc (fun o e=>by cases e;exact⟨_,rfl⟩) (fun e=>by cases e) (fun _ e=>by cases e) (fun _=>rfl) ?_
  refine wf ?_
  refine E9 i n rfl (by omega) (by omega) (by omega) hlc (fun o e=>by cases e;exact⟨_,rfl⟩) (fun e=>by cases e) (fun _ e=>by cases e) (fun _=>rfl) ?_
  refine wf ?_
  have hsp:(CA (us.take (i*37)++zs) (i*37) cv.toList).length=nc*37:=by
   rw[E4 (by rw[A7,htl];omega),hzl]
  have hnz:(n+1)*37≤nc*37:=Au _ hnc
  refine Hd (r:=r') (cur:=(CA (us.take (i*37)++zs) (i*37) cv.toList).toArray) (us.drop (i*37)) (fun c=>c::([.raw r (.cells cur 47 (0,0))]++ [.raw rv (.cells cv 47 (0,0))]++LF)) rfl rfl (.refl _) (fun c=> .refl _) (by rw[show Nat.min (n - i) (n+1 - (i+1))=n - i by show min (n - i) (n+1 - (i+1))=n - i;omega];exact hdl) (fun x hx=>h1u x (Di hx)) (by rw[BJ,hsp,hdl];omega) ⟨cur,_,_,AD _ AK,by rw[B3];exact Fc hc' _⟩ ?_
  rw[show 0+(i+1)*37=(i+1)*37 from B3 _]
  rw[show(CA (us.take (i*37)++zs) (i*37) cv.toList).toArray.toList=CA (us.take (i*37)++zs) (i*37) cv.toList from rfl]
  refine wf ?_
  refine wf ?_
  refine⟨trivial,_,[.raw r' (.cells (CA (CA (us.take (i*37)++zs) (i*37) cv.toList) ((i+1)*37) (us.drop (i*37))).toArray 47 (0,0))]++ [.raw rv (.cells cv 47 (0,0))],.cons (.tmp 6) .nil,.cons_cons _ (.cons _ (.refl _)),_,_,rfl,.row hnc ?_ ?_ ?_,rfl⟩
  ·rw[BJ,E4 (by rw[hsp,hdl];omega),hsp]
  ·rw[Iv hia,hul];omega
  ·have e3:=NJ (us:=us) (cv:=cv.toList) (zs:=zs) hia hz37
   rw[hcl,hul,show i*37+37=(i+1)*37 by omega,show n*37+37=(n+1)*37 by omega]at e3
   exact e3
 have hroom:n+1≤c:=by omega
 have hnz:(n+1)*37≤c*37:=Au _ hroom
 refine wf ?_
 refine E9 0 (n+1) rfl (by omega) hroom (by omega) hlc (fun _ e=>by cases e) (fun _=>rfl) (fun o e=>by cases e;exact⟨_,rfl⟩) (fun e=>by cases e) ?_
 refine wf ?_
 refine E9 (i+1) (n+1) rfl (by omega) (by omega) (by omega) (by omega) (fun o e=>by cases e;exact⟨_,rfl⟩) (fun e=>by cases e) (fun _ e=>by cases e) (fun _=>rfl) ?_
 refine Oe (f:=175) (T:=22) (B:=4) (L':=LF) Tryz.func175 (by kernel_rfl) (by kernel_rfl) (by kernel_rfl) (by kernel_rfl) rfl rfl (.swap _ _ _) (by omega) ?_
 refine wo ?_
 refine AE ?_
 refine wn ?_
 refine BR 8 ?_ ?_
 ·decide+kernel
 refine wf ?_
 refine E9 (i+1) (n+1) rfl (by omega) (by omega) (by omega) (by omega) (fun o e=>by cases e;exact⟨_,rfl⟩) (fun e=>by cases e) (fun _ e=>by cases e) (fun _=>rfl) ?_
 refine wf ?_
 refine E9 i (n+1) rfl (by omega) (by omega) (by omega) (by omega) (fun o e=>by cases e;exact⟨_,rfl⟩) (fun e=>by cases e) (fun _ e=>by cases e) (fun _=>rfl) ?_
 refine wf ?_
 refine Hd (r:=r) (cur:=cur) (us.drop (i*37)) (fun c=>c::([.raw rv (.cells cv 47 (0,0))]++LF)) rfl rfl (.refl _) (fun c=> .refl _) (by rw[hdl];congr 1;show n - i=min _ _;omega) (fun x hx=>h1u x (Di hx)) (by rw[hs,hdl];omega) ⟨cur,_,_,AK,by rw[show 0+0*37+i*37=i*37 by omega];exact Fc hc' _⟩ ?_
 rw[show 0+0*37+(i+1)*37=(i+1)*37 by omega]
 have hsp:(CA cur.toList ((i+1)*37) (us.drop (i*37))).length=c*37:=by
  rw[E4 (by rw[hcs,hdl];omega),hcs]
 refine AE ?_
 refine wf ?_
 refine E9 i (n+1) rfl (by omega) (by omega) (by omega) (by omega) (fun o e=>by cases e;exact⟨_,rfl⟩) (fun e=>by cases e) (fun _ e=>by cases e) (fun _=>rfl) ?_
 refine wf ?_
 refine Hd (r:=r) (cur:=(CA cur.toList ((i+1)*37) (us.drop (i*37))).toArray) cv.toList (fun c=>c::([.raw rv (.cells cv 47 (0,0))]++LF)) rfl rfl (.refl _) (fun c=> .refl _) (by rw[hcl];show 37=min 1 _*37;omega) h1v (by rw[BJ,hsp,hcl];omega) ⟨cv,_,_,AD _ AK,hcat⟩ ?_
 rw[show 0+0*37+i*37=i*37 by omega,show(CA cur.toList ((i+1)*37) (us.drop (i*37))).toArray.toList=CA cur.toList ((i+1)*37) (us.drop (i*37)) from rfl]
 refine AE ?_
 refine wf ?_
 refine⟨trivial,_,[.raw r (.cells (CA (CA cur.toList ((i+1)*37) (us.drop (i*37))) (i*37) cv.toList).toArray 47 (0,0))]++ [.raw rv (.cells cv 47 (0,0))],.cons (.tmp 6) .nil,.refl _,_,_,rfl,.row hroom ?_ ?_ ?_,rfl⟩
 ·rw[BJ,E4 (by rw[hsp,hcl];omega),hsp,Te]
 ·rw[Iv hia,hul];omega
 ·have e3:=Ln (us:=us) (cv:=cv.toList) (X:=cur.toList) hia (by omega) hc'
  rw[hcl,hul,show i*37+37=(i+1)*37 by omega,show n*37+37=(n+1)*37 by omega]at e3
  exact e3
end Go.Proofs
namespace Go.Q
open Go
theorem MN {sz:Nat} {xs:List (List PV)} (hs: ∀ e∈xs,e.length=sz) {i:Nat} (hi:i < xs.length):xs.flatten=(xs.take i).flatten++(xs[i]++(xs.drop (i+1)).flatten)∧(xs.take i).flatten.length=i*sz:=by
 constructor
 ·conv=>lhs;rw[←CB i xs,C7,Dk hi,CH]
 ·rw[Cp (sz:=sz) fun e he=>hs e (Ee he),AG,DE (by omega)]
theorem Pz {sz:Nat} {xs:List (List PV)} {rest:List PV} (hs: ∀ e∈xs,e.length=sz) {i:Nat} (hi:i < xs.length):VL (xs.flatten++rest) (0+i*sz) sz xs[i]:=by
 obtain⟨h1,h2⟩:=MN hs hi
 have h3:=hs _ (AO hi)
 rw[B3,h1,AL]
 refine⟨?_,?_⟩
 ·rw[←h2,sW,AL,←h3,List.take_left]
 ·simp only[A7];omega
theorem Q1 {sz:Nat} {xs:List (List PV)} {rest new:List PV} (hs: ∀ e∈xs,e.length=sz) {i:Nat} (hi:i < xs.length) (hn:new.length=sz):Ek (xs.flatten++rest) (0+i*sz) new ((xs.set i new).flatten++rest):=by
 obtain⟨h1,h2⟩:=MN hs hi
 have h3:=hs _ (AO hi)
 have h4:(xs.set i new).flatten=(xs.take i).flatten++(new++(xs.drop (i+1)).flatten):=by
  rw[Gk,if_pos hi,C7,CH]
 rw[B3,h1,h4]
 refine⟨?_,?_⟩
 ·have e1:((xs.take i).flatten++(xs[i]++(xs.drop (i+1)).flatten)++rest).take (i*sz)=(xs.take i).flatten:=by
   rw[AL,←h2,List.take_left]
  have e2:((xs.take i).flatten++(xs[i]++(xs.drop (i+1)).flatten)++rest).drop (i*sz+new.length)=(xs.drop (i+1)).flatten++rest:=by
   rw[hn,←h2,←h3,←L8,AL,sW,AL,sW]
  rw[e1,e2]
  simp only[AL]
 ·simp only[A7];omega
theorem E7.inv {E sz n c:Nat} {o:Option Addr} {xs:List (List PV)} {R:List Res} (h:E7 E sz (.slice o n c) xs R) (h0:0 < n): ∃ r rest,o=some ⟨r,0,none⟩∧R= [.box r E (xs.flatten++rest)]∧xs.length=n∧n≤c∧(∀ e∈xs,e.length=sz)∧xs.flatten.length+rest.length=c*sz:=by
 generalize hv:Value.slice o n c=v at h
 cases h with
 |nil o' ho=>injection hv with _ e2 _;omega
 |row hn hl hs hc=>injection hv with e1 e2 e3;subst e1 e2 e3;exact⟨_,_,rfl,rfl,hn,hl,hs,hc⟩
theorem E7.freeze {E sz:Nat} {w:World} {g:Gh} {R L':List Res} {v:Value} {xs:List (List PV)} (hi:DM w g (R++L')) (hv:E7 E sz v xs R) (hm:xs.length≤maxN∧xs.length*sz≤maxN):
  ∃ g',DM w g' L'∧Ej (Ao (R++L')) w g w g'∧DV w (R++L') L'∧VR g' v (.slice xs .ro):=by
 cases hv with
 |nil o ho=>exact⟨g,hi,.refl _ _ _,.refl _ _,.nilR⟩
 |row hn hl hs hc=>
  rename_i r n cap rest
  subst hn
  obtain⟨us,h1,h2⟩:=DM.boxRaw hi
  obtain⟨k1,k2,k3,k4,k5⟩:=h2.rawHead
  have hul:us.length=xs.flatten.length+rest.length:=by rw[h1.len,A7]
  let u:=us.take xs.flatten.length
  have hu0:u.length=xs.flatten.length:=by simp only[u,AG];omega
  have hu:E5 g u xs.flatten:=⟨hu0,fun i k1 k2=>by
   have:=h1.at_ i (by omega) (by rw[A7];omega)
   rw[Bf k2]at this
   simpa [u]using this⟩
  have hle:=Gh.le_lay (g:=g) (b:=r) (from_:=0) (us:=u) (fun o _=>k2 o)
  have hcell: ∀ j (h:j < u.length),w.cell? ⟨r,j,none⟩=some u[j]:=fun j h=>by
   have hj:j < us.length:=by omega
   simp only[World.cell?,k1,BZ,BP,if_false,UA]
   rw[AZ hj]
   simp[u]
  refine⟨g.lay r 0 u,⟨fun b' o v hv=>?_,fun b' z hz=>hi.satM b' z hz,fun r' hr'=>?_,k5.nodup,hi.glob.mono hle⟩,⟨rfl,rfl,⟨rfl,B4 _⟩,B4 _,fun _ _ _=>rfl,hle,fun k _ hn=>⟨fun o=>Gh.lay_out (fun h=>hn (by rw[h.1];simp[Ao,Res.block])),rfl⟩⟩,fun b hb _=>?_,?_⟩
  ·by_cases hin:b'=r∧0≤o∧o < 0+u.length
   ·obtain⟨rfl,_,h6⟩:=hin
    have hj:o < u.length:=by omega
    have:=Gh.lay_in (g:=g) (b:=b') (from_:=0) hj
    rw[B3,hv]at this
    cases this
    exact hcell o hj
   ·rw[Gh.lay_out hin]at hv;exact hi.sat b' o v hv
  ·exact Res.holds_kept hle (k5.res r' hr') fun b' hb'=>⟨rfl,fun o=>Gh.lay_out (fun h=>k4 (Bo.2 ⟨r',hr',by rw[hb',h.1]⟩)),rfl⟩
  ·simp only[Ao,CC]at hb ⊢;exact EP _ hb
  ·exact VR.of_cells (g:=g.lay r 0 u) (t:= .ro) (sz:=sz) (b:=r) (off:=0) (cap:=cap) hs hl hm (us:=u) (hu.mono hle) (fun j hj=>Gh.lay_in hj) (fun b' cap' e=>by cases e) (by simp)
section
variable {P:Program} {N:Nat} {ρ:Env} {L:List Res}
theorem Gz {E sz:Nat} {R L':List Res} {v:Value} {xs:List (List PV)} {c:Code} {Q:PPost} (i:Nat) (hv:E7 E sz v xs R) (hm:xs.length≤maxN∧xs.length*sz≤maxN) (hp:L.Perm (R++L')) (hi:ρ i= .raw v) (k:EB P N c Q (CT ρ i (.slice xs .ro)) L'):EB P N c Q ρ L:=
 HA (fun base a w g ha hI=>by
  obtain⟨g',h1,h2,h3,h4⟩:=E7.freeze (hI.perm hp) hv hm
  refine⟨g',⟨ha.size,ha.defers.mono h2.le,fun j=>?_⟩,h1,h2.grow (fun b hb=>(DC hp).symm.subset hb),fun b hb hlt=>(DC hp).symm.subset (h3 b hb hlt)⟩
  have hj:=(ha.slot j).mono h2.le
  by_cases e:j=i
  ·subst e
   rw[hi]at hj
   show VR g' _ (CT ρ j _ j)
   rw[C4,hj.raw_inv];exact h4
  ·show VR g' _ (CT ρ i _ j)
   rw[GM _ _ e];exact hj) k
end
section
variable {P:Program} {N:Nat} {all:Array Oper} {K:Env→List Res→Prop} {fl:List Bool} {os:List Oper} {ρ:Env} {L:List Res} {d:Nat} {ty:TypeId} {pos:String} {af:Array Edge}
theorem Jz {T E sz by_:Nat} [hT:VK P T E sz by_] {x0:Operand} {cs:List PV} (hc:Dv (ρ.ev x0) cs) (hl:cs.length=sz) (h24:sz≤16777216)
  (k: ∀ b,AW P N all K fl.tail os (CT ρ d (.raw (.slice (some ⟨b,0,none⟩) 1 1))) (.box b E cs::L)) (hd:Nat.blt d N=true:=by rfl) (hfl:fl.headD true=true:=by rfl):AW P N all K fl (⟨some d,.buildSlice T 1 #[(0,x0)],ty,pos,af,none⟩::os) ρ L:=
 Dp rfl (QF hd) hfl (fun a w g ha hi=>by
  obtain⟨i,z,t1,t2,t3,t4,t5,t6,t7,t8⟩:=hT.out
  obtain⟨us,e1,e2⟩:=hc g _ (ha x0 (by simp[Op.operands]))
  have hul:us.length=sz:=by rw[e2.len,hl]
  have hr:(execOp a.eval ⟨some d,.buildSlice T 1 #[(0,x0)],ty,pos,af,none⟩).run P w= .ok (.value (.slice (some ⟨w.heap.size,0,none⟩) 1 1)) { w with heap:=w.heap.push (.cells us.toArray E (0,0)) }:=by
   have hz: ∀ (zz:Array Value),Instr.fill (fun i=>some (i*sz,sz)) ((Array.range (1*sz)).map (zz[·% zz.size]!)) [(0,a.eval x0)]=some us.toArray:=fun zz=>by
    have e:(Array.range (1*sz)).map (zz[·% zz.size]!)=((List.range (1*sz)).map (zz[·% zz.size]!)).toArray:=by
     apply MY;simp
    have:=NM (sz:=sz) [us] [a.eval x0] 0 ((List.range (1*sz)).map (zz[·% zz.size]!)) rfl (fun i h1 h2=>by
     have h0:i=0:=by simp at h1;omega
     subst h0
     exact⟨e1,hul⟩) (by simp)
    rw[e]
    simpa using this
   show(do pure (Next.value (←Instr.buildSlice T 1 (#[(0,x0)].map fun(p:Nat × Operand)=>(p.1,a.eval p.2)))):Sem Next).run P w=_
   simp only[Instr.buildSlice,Sem.run_bind,run_underlying t1,Result.andThen_ok,sizeOf,typeInfo,run_program,t2,Sem.run_pure,t3]
   rw[if_neg (by have:(2:Nat) ^ 24=16777216:=by decide
                 omega)]
   have hzv:(zeroValue E).run P w= .ok z w:=by simp[zeroValue,typeInfo,t2,t5]
   split
   ·simp only[Sem.run_bind,Sem.run_pure,Result.andThen_ok,HO,BH,CX,hz #[],newRow,run_newObj]
   ·simp only[Sem.run_bind,hzv,Sem.run_pure,Result.andThen_ok,HO,BH,CX,hz z.cells,newRow,run_newObj]
  obtain⟨j1,j2,j3⟩:=hi.alloc e2 E
  refine Oper.wq_of_run hr ?_
  exact⟨_,.raw _,g,_,rfl,.raw _,j1,j2,j3,k _⟩)
end
end Go.Q
namespace Go.Proofs
open Go Go.Q
attribute [local irreducible] EB AW B2 FW
theorem O0 (l:List Sto) (t:CZ) (hl:l.length≤1000000):B2 Tryz.prog 55 [.slice (l.map eSto) t] [] (fun r L'=> ∃ v,r= .raw v∧E7 47 37 v (l.map eSto) L'):=by
 refine Bt Tryz.func55 rfl Tryz.ntmps55 (rs:= [.tmp 2]) rfl rfl fun hb LF=>?_
 rw[BL]
 refine wf ?_
 refine Re rfl fun b hnil=>?_
 refine wf ?_
 refine AU (fun h=>?_) (fun h=>?_)
 ·have h0:l= []:=by simpa using hnil h
  subst h0
  refine DU ?_
  refine CD (by kernel_rfl) ?_
  refine JJ ?_
  refine AE ?_
  refine wf ?_
  exact⟨trivial,_,[],.cons (.tmp 2) .nil,.refl _,_,rfl,.nil none (by simp)⟩
 refine Fx ?_
 refine DU ?_
 refine CD (by kernel_rfl) ?_
 refine Rh (vf:=fun(_:Sto)=> []) fun v0 hv0=>?_
 have hv1:E7 47 37 v0 [] []:=by
  generalize hR:([]:List Res)=R at hv0
  generalize hn:([]:List Sto).length=n at hv0
  unfold Jf at hv0
  rw[hn]at hv0
  cases hv0 with
  |nil o ho=>exact .nil o ho
  |row _ _ _ _=>cases hR
 refine wf ?_
 refine QU (f:=eSto) (R:= []) (LF:=LF) (fun R'=>R'++LF) rfl rfl hv1 (.refl _) (fun R'=> .refl _) (by simp only[Aa];omega) (by simp only[Aa];omega) fun v R' hv=>?_
 refine wf ?_
 refine wf ?_
 rw[BL]at hv
 exact⟨trivial,_,R',.cons (.tmp 2) .nil,.refl _,v,rfl,hv⟩
theorem J4 {α:Type} {f:α→List PV} {sz:Nat} [hf:KY f sz] (l:List α) (i:Nat) (hi:i≤l.length):(l.map f).flatten.take (i*sz)=((l.take i).map f).flatten∧(l.map f).flatten.drop (i*sz)=((l.drop i).map f).flatten:=by
 have e:(l.map f).flatten=((l.take i).map f).flatten++((l.drop i).map f).flatten:=by
  rw[←C7,←Az,CB]
 have hlen:((l.take i).map f).flatten.length=i*sz:=by
  rw[Cp (sz:=sz) (fun e he=>by obtain⟨a,_,rfl⟩:=AX.1 he;exact hf.out a),AF,AG,DE hi]
 rw[e]
 exact⟨Dy hlen,o7 hlen⟩
theorem Sr (v:Value) (l:List Sto) (R:List Res) (hv:E7 47 37 v (l.map eSto) R) (i:Nat) (hi:i≤l.length) (hn:l.length≤1000) (rv:Nat) (x:Sto):
  B2 Tryz.prog 131 [.raw v,.raw (.int .i64 (i:Int)),.raw (.slice (some ⟨rv,0,none⟩) 1 1)] (R++ [.box rv 47 (eSto x)])
   (fun r L'=> ∃ v' R',r= .raw v'∧E7 47 37 v' ((l.take i++x::l.drop i).map eSto) R'∧L'=R'++ [.box rv 47 (eSto x)]):=by
 have hfl: ∀ (m:List Sto),JU (m.map eSto).flatten:=fun m c hc=>by
  obtain⟨e,he,hce⟩:=HN.1 hc
  obtain⟨a,_,rfl⟩:=AX.1 he
  exact(inferInstance:Gd eSto).out a c hce
 unfold B2
 intro vs w g LF hvv hI
 have hI1:DM w g (R++([.box rv 47 (eSto x)]++LF)):=by rw[←AL];exact hI
 obtain⟨us,R₁,q1,q2,q3,q4⟩:=hv.open hI1
 have hI2:DM w g (.box rv 47 (eSto x)::(R₁++LF)):=q3.perm BA
 obtain⟨uv,p1,p2⟩:=DM.boxRaw hI2
 have hI3:DM w g ((R₁++ [.raw rv (.cells uv.toArray 47 (0,0))])++LF):=p2.perm (by rw[AL];exact BA.symm)
 rw[AF]at q2
 have huv:uv.length=37:=by rw[p1.len];exact(inferInstance:KY eSto 37).out x
 have hbl1:Ao (R₁++ [.raw rv (.cells uv.toArray 47 (0,0))]++LF)=Ao (R++ [.box rv 47 (eSto x)]++LF):=by
  simp only[Ao,CC]at q4 ⊢
  rw[q4];rfl
 have key:=aN v l.length us R₁ q2 i hi hn rv uv.toArray (by simpa using huv) (by simpa using p1.one (fun c hc=>(inferInstance:Gd eSto).out x c hc)) (q1.one (hfl l))
 unfold B2 at key
 refine(key vs w g LF hvv hI3).mono ?_
 rintro e w' ⟨v',x',g',L',rfl,k2,k3,k4,k5,v2,R',rfl,k6,rfl⟩
 have k3':DM w' g' (.raw rv (.cells uv.toArray 47 (0,0))::(R'++LF)):=k3.perm (by rw[AL];exact BA)
 have k7:DM w' g' (.box rv 47 (eSto x)::(R'++LF)):=DM.rawBox k3' (by simpa using p1.mono k4.le)
 have k8:DM w' g' (R'++([.box rv 47 (eSto x)]++LF)):=k7.perm BA.symm
 obtain⟨f1,f2⟩:=J4 (f:=eSto) (sz:=37) l i hi
 have hus:E5 g' (us.take (i*37)++uv++us.drop (i*37)) ((l.take i++x::l.drop i).map eSto).flatten:=by
  have h1:=(q1.mono k4.le).take (i*37)
  have h2:=(q1.mono k4.le).drop (i*37)
  rw[f1]at h1
  rw[f2]at h2
  rw[Az,BH,C7,CH,←AL]
  exact(h1.append (p1.mono k4.le)).append h2
 have hln:((l.take i++x::l.drop i).map eSto).length=l.length+1:=by
  simp only[AF,A7,AG,AH,Ab];omega
 obtain⟨R2,z1,z2,z3⟩:=E7.close (xs:=(l.take i++x::l.drop i).map eSto) hln (fun e he=>by obtain⟨a,_,rfl⟩:=AX.1 he;exact(inferInstance:KY eSto 37).out a) k6 hus k8
 have hbl2:Ao (R2++ [.box rv 47 (eSto x)]++LF)=Ao (R'++ [.raw rv (.cells uv.toArray 47 (0,0))]++LF):=by
  simp only[Ao,CC]at z3 ⊢
  rw[z3];rfl
 refine⟨v',.raw v2,g',R2++ [.box rv 47 (eSto x)],rfl,k2,by rw[AL];exact z2,hbl1 ▸ k4,fun b hb hlt=>?_,v2,R2,rfl,z1,rfl⟩
 rw[hbl2]at hb
 rw[←hbl1]
 exact k5 b hb hlt
instance vn:VK Tryz.prog 24 78 2 40:=⟨by
 have h2:(Tryz.prog.info? 78).map (fun i=>(i.size,i.bytes,i.zero.isSome,(i.zero.getD undef).cells.size))=some (2,40,true,2):=by kernel_rfl
 obtain⟨i,hi,e⟩:=Bk.1 h2
 simp only[Prod.mk.injEq]at e
 obtain⟨e1,e2,e3,e4⟩:=e
 obtain⟨z,hz⟩:=E0.1 e3
 rw[hz]at e4
 exact⟨i,z,by kernel_rfl,hi,e1,e2,hz,e4,by decide,by decide⟩⟩
theorem RF (F:Nat) (cs:List PV) (p:Brn→Bool) [hF:Av Tryz.prog F] [hp: ∀ d,Bj Tryz.prog F (.agg (eBrn d)::cs) (.raw (.bool (p d)))] (l:List Brn) (t:CZ):
  Bj Tryz.prog 118 [.slice (l.map eBrn) t,.clo F cs] (.raw (.int .i64 (EK p l))):=⟨by
 refine Aj Tryz.func118 Tryz.ntmps118 rfl (rs:= [.tmp 4]) rfl rfl fun hb LF=>?_
 have hlen:l.length≤140737488355328:=(hb (.slice (l.map eBrn) t) (by simp)).slice_map
 refine wf ?_
 refine AV (σ:=Nat) (fun k=>k≤l.length∧(l.take k).any p=false) (fun k=>l.length - k) (fun k=> [(0,.slice (l.map eBrn) t),(1,.clo F cs),(7,.raw (.int .i64 l.length)),(8,.raw (.int .i64 k))]) (fun _=>LF) 0 ⟨by simp,by simp⟩ ⟨rfl,rfl,rfl,rfl⟩ (.refl _) ?_
 rintro k ⟨hk,hn⟩
 refine wf ?_
 refine A1 (fun hc=>?_) (fun hc=>?_)
 ·have hlt:k < l.length:=by omega
  refine wf ?_
  refine AU (fun h=>?_) (fun h=>?_)
  ·refine wf ?_
   refine Al (.of_eq ?_)
   have e:l.any p=true:=Bg.2 ⟨l[k],AO hlt,h⟩
   rw[EK,if_pos e,Gi hlt hn h]
  ·refine wf ?_
   refine⟨k+1,⟨by omega,?_⟩,by dsimp only;omega,⟨rfl,rfl,rfl,rfl⟩,.refl _⟩
   rw[A6 hlt,FE,hn]
   simp[h]
 ·refine wf ?_
  refine Al (.of_eq ?_)
  rw[AA (by omega)]at hn
  rw[EK,if_neg (by simp[hn])]⟩
theorem Kk (l:List Brn) (t:CZ) (hl:l.length≤1000000):B2 Tryz.prog 94 [.slice (l.map eBrn) t] [] (fun r L'=> ∃ v,r= .raw v∧E7 78 2 v (l.map eBrn) L'):=by
 refine Bt Tryz.func94 rfl Tryz.ntmps94 (rs:= [.tmp 2]) rfl rfl fun hb LF=>?_
 rw[BL]
 refine wf ?_
 refine Re rfl fun b hnil=>?_
 refine wf ?_
 refine AU (fun h=>?_) (fun h=>?_)
 ·have h0:l= []:=by simpa using hnil h
  subst h0
  refine DU ?_
  refine CD (by kernel_rfl) ?_
  refine JJ ?_
  refine AE ?_
  refine wf ?_
  exact⟨trivial,_,[],.cons (.tmp 2) .nil,.refl _,_,rfl,.nil none (by simp)⟩
 refine Fx ?_
 refine DU ?_
 refine CD (by kernel_rfl) ?_
 refine Rh (vf:=fun(_:Brn)=> []) fun v0 hv0=>?_
 have hv1:E7 78 2 v0 [] []:=by
  generalize hR:([]:List Res)=R at hv0
  generalize hn:([]:List Brn).length=n at hv0
  unfold Jf at hv0
  rw[hn]at hv0
  cases hv0 with
  |nil o ho=>exact .nil o ho
  |row _ _ _ _=>cases hR
 refine wf ?_
 refine QU (f:=eBrn) (R:= []) (LF:=LF) (fun R'=>R'++LF) rfl rfl hv1 (.refl _) (fun R'=> .refl _) (by simp only[Aa];omega) (by simp only[Aa];omega) fun v R' hv=>?_
 refine wf ?_
 refine wf ?_
 rw[BL]at hv
 exact⟨trivial,_,R',.cons (.tmp 2) .nil,.refl _,v,rfl,hv⟩
theorem Tn (v:Value) (n:Nat) (us:List Value) (R:List Res) (hv:Hy 78 2 v n us R) (i:Nat) (hi:i≤n) (hn:n≤1000) (rv:Nat) (cv:Array Value) (hcv:cv.size=2) (h1v: ∀ x∈cv.toList,x.oneCell'=true) (h1u: ∀ x∈us,x.oneCell'=true):
  B2 Tryz.prog 144 [.raw v,.raw (.int .i64 (i:Int)),.raw (.slice (some ⟨rv,0,none⟩) 1 1)] (R++ [.raw rv (.cells cv 78 (0,0))])
   (fun x L'=> ∃ v' R',x= .raw v'∧Hy 78 2 v' (n+1) (us.take (i*2)++cv.toList++us.drop (i*2)) R'∧L'=R'++ [.raw rv (.cells cv 78 (0,0))]):=by
 refine Bt Tryz.func144 rfl Tryz.ntmps144 (rs:= [.tmp 6]) rfl rfl fun hb LF=>?_
 have hul:=hv.len
 have hcl:cv.toList.length=2:=by simpa using hcv
 have hcat:IY cv 0 cv.toList:=fun j hj=>by rw[B3,AZ hj]
 obtain⟨o,c,hvs⟩:=hv.slice
 have hnc:n≤c:=by cases hv<;>(injection hvs with _ _ e;omega)
 subst hvs
 refine wf ?_
 refine S6 rfl rfl hi hnc fun u=>?_
 refine wf ?_
 refine FO rfl ?_
 refine wf ?_
 refine FO rfl ?_
 refine wf ?_
 refine A1 (fun h=>?_) (fun h=>?_)
 ·have hin:i=n:=by omega
  subst hin
  refine wf ?_
  refine Vi (us:=us) (vs:=cv.toList) (R:=R) (LF:= .raw rv (.cells cv 78 (0,0))::LF) (fun R'=>R'++(.raw rv (.cells cv 78 (0,0))::LF)) rfl rfl hv (.of_eq (by simp)) (fun R'=> .refl _) (by omega) h1v ⟨cv,_,_,AK,hcat⟩ (by omega) (by omega) fun v' R' hv'=>?_
  refine wf ?_
  refine wf ?_
  refine⟨trivial,_,R'++ [.raw rv (.cells cv 78 (0,0))],.cons (.tmp 6) .nil,by rw[AL];exact .refl _,v',R',rfl,?_,rfl⟩
  rw[AA (by omega),CY (by omega),B1]
  exact hv'
 have hin:i < n:=by omega
 cases hv with
 |nil o ho=>omega
 |row hlc hs hu hc=>
 rename_i r cur
 have hc':cur.toList.take us.length=us:=by rw[hul];exact hc
 have hcs:cur.toList.length=c*2:=by simpa using hs
 have hia:i*2≤us.length:=by omega
 have htl:(us.take (i*2)).length=i*2:=by rw[AG];omega
 have hdl:(us.drop (i*2)).length=(n - i)*2:=by rw[Ab];omega
 refine wf ?_
 refine S7 rfl ?_
 refine wf ?_
 refine A1 (fun h2=>?_) (fun h2=>?_)
 ·refine wf ?_
  refine E9 0 i rfl (by omega) (by omega) (by omega) hlc (fun _ e=>by cases e) (fun _=>rfl) (fun o e=>by cases e;exact⟨_,rfl⟩) (fun e=>by cases e) ?_
  refine wf ?_
  refine Ze (T₂:=3) (us:=us.take (i*2)) (n:=i) (m:=n+1 - i) (c:=c) (o:=0) (cur:=cur) (by kernel_rfl) rfl (by show PV.raw (Value.int .i64 ((n:Int)+1 - i))=PV.raw (Value.int .i64 ((n+1 - i:Nat):Int));congr 2;omega) AK rfl htl (MR hc' _) (by omega) (by omega) (by omega) (by omega) fun r' nc zs hnc hzl=>?_
  have e1:i+(n+1 - i)=n+1:=by omega
  rw[e1]at hnc ⊢
  have hz37:cv.toList.length+(us.length - i*2)≤zs.length:=by
   rw[A7,htl]at hzl
   have:(n+1)*2≤nc*2:=Au _ hnc
   omega
  refine wf ?_
  refine wf ?_
  refine E9 i (n+1) rfl (by omega) hnc (by omega) hnc (fun o e=>by cases e;exact⟨_,rfl⟩) (fun e=>by cases e) (fun _ e=>by cases e) (fun _=>rfl) ?_
  refine wf ?_
  refine Hd (r:=r') (cur:=(us.take (i*2)++zs).toArray) cv.toList (fun c=>c::([.raw r (.cells cur 78 (0,0))]++ [.raw rv (.cells cv 78 (0,0))]++LF)) rfl rfl (.refl _) (fun c=> .refl _) (by rw[show Nat.min 1 (n+1 - i)=1 by show min 1 (n+1 - i)=1;omega];omega) h1v (by simp only[BJ,A7,htl];omega) ⟨cv,_,_,AD _ (AD _ AK),hcat⟩ ?_
  rw[show 0+i*2=i*2 from B3 _]
  rw[show(us.take (i*2)++zs).toArray.toList=us.take (i*2)++zs from rfl]
  refine AE ?_
  refine wn ?_
  refine BR 8 ?_ ?_
  ·decide+kernel
  refine wf ?_
  refine E9 (i+1) (n+1) rfl (by omega) hnc (by omega) hnc (fun o e=>by cases e;exact⟨_,rfl⟩) (fun e=>by cases e) (fun _ e=>by cases e) (fun _=>rfl) ?_
  refine wf ?_
  refine E9 i n rfl (by omega) (by omega) (by omega) hlc (fun o e=>by cases e;exact⟨_,rfl⟩) (fun e=>by cases e) (fun _ e=>by cases e) (fun _=>rfl) ?_
  refine wf ?_
  have hsp:(CA (us.take (i*2)++zs) (i*2) cv.toList).length=nc*2:=by
   rw[E4 (by rw[A7,htl];omega),hzl]
  have hnz:(n+1)*2≤nc*2:=Au _ hnc
  refine Hd (r:=r') (cur:=(CA (us.take (i*2)++zs) (i*2) cv.toList).toArray) (us.drop (i*2)) (fun c=>c::([.raw r (.cells cur 78 (0,0))]++ [.raw rv (.cells cv 78 (0,0))]++LF)) rfl rfl (.refl _) (fun c=> .refl _) (by rw[show Nat.min (n - i) (n+1 - (i+1))=n - i by show min (n - i) (n+1 - (i+1))=n - i;omega];exact hdl) (fun x hx=>h1u x (Di hx)) (by rw[BJ,hsp,hdl];omega) ⟨cur,_,_,AD _ AK,by rw[B3];exact Fc hc' _⟩ ?_
  rw[show 0+(i+1)*2=(i+1)*2 from B3 _]
  rw[show(CA (us.take (i*2)++zs) (i*2) cv.toList).toArray.toList=CA (us.take (i*2)++zs) (i*2) cv.toList from rfl]
  refine wf ?_
  refine wf ?_
  refine⟨trivial,_,[.raw r' (.cells (CA (CA (us.take (i*2)++zs) (i*2) cv.toList) ((i+1)*2) (us.drop (i*2))).toArray 78 (0,0))]++ [.raw rv (.cells cv 78 (0,0))],.cons (.tmp 6) .nil,.cons_cons _ (.cons _ (.refl _)),_,_,rfl,.row hnc ?_ ?_ ?_,rfl⟩
  ·rw[BJ,E4 (by rw[hsp,hdl];omega),hsp]
  ·rw[Iv hia,hul];omega
  ·have e3:=NJ (us:=us) (cv:=cv.toList) (zs:=zs) hia hz37
   rw[hcl,hul,show i*2+2=(i+1)*2 by omega,show n*2+2=(n+1)*2 by omega]at e3
   exact e3
 have hroom:n+1≤c:=by omega
 have hnz:(n+1)*2≤c*2:=Au _ hroom
 refine wf ?_
 refine E9 0 (n+1) rfl (by omega) hroom (by omega) hlc (fun _ e=>by cases e) (fun _=>rfl) (fun o e=>by cases e;exact⟨_,rfl⟩) (fun e=>by cases e) ?_
 refine wf ?_
 refine E9 (i+1) (n+1) rfl (by omega) (by omega) (by omega) (by omega) (fun o e=>by cases e;exact⟨_,rfl⟩) (fun e=>by cases e) (fun _ e=>by cases e) (fun _=>rfl) ?_
 refine Oe (f:=182) (T:=24) (B:=4) (L':=LF) Tryz.func182 (by kernel_rfl) (by kernel_rfl) (by kernel_rfl) (by kernel_rfl) rfl rfl (.swap _ _ _) (by omega) ?_
 refine wo ?_
 refine AE ?_
 refine wn ?_
 refine BR 8 ?_ ?_
 ·decide+kernel
 refine wf ?_
 refine E9 (i+1) (n+1) rfl (by omega) (by omega) (by omega) (by omega) (fun o e=>by cases e;exact⟨_,rfl⟩) (fun e=>by cases e) (fun _ e=>by cases e) (fun _=>rfl) ?_
 refine wf ?_
 refine E9 i (n+1) rfl (by omega) (by omega) (by omega) (by omega) (fun o e=>by cases e;exact⟨_,rfl⟩) (fun e=>by cases e) (fun _ e=>by cases e) (fun _=>rfl) ?_
 refine wf ?_
 refine Hd (r:=r) (cur:=cur) (us.drop (i*2)) (fun c=>c::([.raw rv (.cells cv 78 (0,0))]++LF)) rfl rfl (.refl _) (fun c=> .refl _) (by rw[hdl];congr 1;show n - i=min _ _;omega) (fun x hx=>h1u x (Di hx)) (by rw[hs,hdl];omega) ⟨cur,_,_,AK,by rw[show 0+0*2+i*2=i*2 by omega];exact Fc hc' _⟩ ?_
 rw[show 0+0*2+(i+1)*2=(i+1)*2 by omega]
 have hsp:(CA cur.toList ((i+1)*2) (us.drop (i*2))).length=c*2:=by
  rw[E4 (by rw[hcs,hdl];omega),hcs]
 refine AE ?_
 refine wf ?_
 refine E9 i (n+1) rfl (by omega) (by omega) (by omega) (by omega) (fun o e=>by cases e;exact⟨_,rfl⟩) (fun e=>by cases e) (fun _ e=>by cases e) (fun _=>rfl) ?_
 refine wf ?_
 refine Hd (r:=r) (cur:=(CA cur.toList ((i+1)*2) (us.drop (i*2))).toArray) cv.toList (fun c=>c::([.raw rv (.cells cv 78 (0,0))]++LF)) rfl rfl (.refl _) (fun c=> .refl _) (by rw[hcl];show 2=min 1 _*2;omega) h1v (by rw[BJ,hsp,hcl];omega) ⟨cv,_,_,AD _ AK,hcat⟩ ?_
 rw[show 0+0*2+i*2=i*2 by omega,show(CA cur.toList ((i+1)*2) (us.drop (i*2))).toArray.toList=CA cur.toList ((i+1)*2) (us.drop (i*2)) from rfl]
 refine AE ?_
 refine wf ?_
 refine⟨trivial,_,[.raw r (.cells (CA (CA cur.toList ((i+1)*2) (us.drop (i*2))) (i*2) cv.toList).toArray 78 (0,0))]++ [.raw rv (.cells cv 78 (0,0))],.cons (.tmp 6) .nil,.refl _,_,_,rfl,.row hroom ?_ ?_ ?_,rfl⟩
 ·rw[BJ,E4 (by rw[hsp,hcl];omega),hsp,Te]
 ·rw[Iv hia,hul];omega
 ·have e3:=Ln (us:=us) (cv:=cv.toList) (X:=cur.toList) hia (by omega) hc'
  rw[hcl,hul,show i*2+2=(i+1)*2 by omega,show n*2+2=(n+1)*2 by omega]at e3
  exact e3
theorem Pr (v:Value) (l:List Brn) (R:List Res) (hv:E7 78 2 v (l.map eBrn) R) (i:Nat) (hi:i≤l.length) (hn:l.length≤1000) (rv:Nat) (x:Brn):
  B2 Tryz.prog 144 [.raw v,.raw (.int .i64 (i:Int)),.raw (.slice (some ⟨rv,0,none⟩) 1 1)] (R++ [.box rv 78 (eBrn x)])
   (fun r L'=> ∃ v' R',r= .raw v'∧E7 78 2 v' ((l.take i++x::l.drop i).map eBrn) R'∧L'=R'++ [.box rv 78 (eBrn x)]):=by
 have hfl: ∀ (m:List Brn),JU (m.map eBrn).flatten:=fun m c hc=>by
  obtain⟨e,he,hce⟩:=HN.1 hc
  obtain⟨a,_,rfl⟩:=AX.1 he
  exact(inferInstance:Gd eBrn).out a c hce
 unfold B2
 intro vs w g LF hvv hI
 have hI1:DM w g (R++([.box rv 78 (eBrn x)]++LF)):=by rw[←AL];exact hI
 obtain⟨us,R₁,q1,q2,q3,q4⟩:=hv.open hI1
 have hI2:DM w g (.box rv 78 (eBrn x)::(R₁++LF)):=q3.perm BA
 obtain⟨uv,p1,p2⟩:=DM.boxRaw hI2
 have hI3:DM w g ((R₁++ [.raw rv (.cells uv.toArray 78 (0,0))])++LF):=p2.perm (by rw[AL];exact BA.symm)
 rw[AF]at q2
 have huv:uv.length=2:=by rw[p1.len];exact(inferInstance:KY eBrn 2).out x
 have hbl1:Ao (R₁++ [.raw rv (.cells uv.toArray 78 (0,0))]++LF)=Ao (R++ [.box rv 78 (eBrn x)]++LF):=by
  simp only[Ao,CC]at q4 ⊢
  rw[q4];rfl
 have key:=Tn v l.length us R₁ q2 i hi hn rv uv.toArray (by simpa using huv) (by simpa using p1.one (fun c hc=>(inferInstance:Gd eBrn).out x c hc)) (q1.one (hfl l))
 unfold B2 at key
 refine(key vs w g LF hvv hI3).mono ?_
 rintro e w' ⟨v',x',g',L',rfl,k2,k3,k4,k5,v2,R',rfl,k6,rfl⟩
 have k3':DM w' g' (.raw rv (.cells uv.toArray 78 (0,0))::(R'++LF)):=k3.perm (by rw[AL];exact BA)
 have k7:DM w' g' (.box rv 78 (eBrn x)::(R'++LF)):=DM.rawBox k3' (by simpa using p1.mono k4.le)
 have k8:DM w' g' (R'++([.box rv 78 (eBrn x)]++LF)):=k7.perm BA.symm
 obtain⟨f1,f2⟩:=J4 (f:=eBrn) (sz:=2) l i hi
 have hus:E5 g' (us.take (i*2)++uv++us.drop (i*2)) ((l.take i++x::l.drop i).map eBrn).flatten:=by
  have h1:=(q1.mono k4.le).take (i*2)
  have h2:=(q1.mono k4.le).drop (i*2)
  rw[f1]at h1
  rw[f2]at h2
  rw[Az,BH,C7,CH,←AL]
  exact(h1.append (p1.mono k4.le)).append h2
 have hln:((l.take i++x::l.drop i).map eBrn).length=l.length+1:=by
  simp only[AF,A7,AG,AH,Ab];omega
 obtain⟨R2,z1,z2,z3⟩:=E7.close (xs:=(l.take i++x::l.drop i).map eBrn) hln (fun e he=>by obtain⟨a,_,rfl⟩:=AX.1 he;exact(inferInstance:KY eBrn 2).out a) k6 hus k8
 have hbl2:Ao (R2++ [.box rv 78 (eBrn x)]++LF)=Ao (R'++ [.raw rv (.cells uv.toArray 78 (0,0))]++LF):=by
  simp only[Ao,CC]at z3 ⊢
  rw[z3];rfl
 refine⟨v',.raw v2,g',R2++ [.box rv 78 (eBrn x)],rfl,k2,by rw[AL];exact z2,hbl1 ▸ k4,fun b hb hlt=>?_,v2,R2,rfl,z1,rfl⟩
 rw[hbl2]at hb
 rw[←hbl1]
 exact k5 b hb hlt
instance vm:VK Tryz.prog 25 80 3 56:=⟨by
 have h2:(Tryz.prog.info? 80).map (fun i=>(i.size,i.bytes,i.zero.isSome,(i.zero.getD undef).cells.size))=some (3,56,true,3):=by kernel_rfl
 obtain⟨i,hi,e⟩:=Bk.1 h2
 simp only[Prod.mk.injEq]at e
 obtain⟨e1,e2,e3,e4⟩:=e
 obtain⟨z,hz⟩:=E0.1 e3
 rw[hz]at e4
 exact⟨i,z,by kernel_rfl,hi,e1,e2,hz,e4,by decide,by decide⟩⟩
theorem RE (F:Nat) (cs:List PV) (p:Tgg→Bool) [hF:Av Tryz.prog F] [hp: ∀ d,Bj Tryz.prog F (.agg (eTgg d)::cs) (.raw (.bool (p d)))] (l:List Tgg) (t:CZ):
  Bj Tryz.prog 145 [.slice (l.map eTgg) t,.clo F cs] (.raw (.int .i64 (EK p l))):=⟨by
 refine Aj Tryz.func145 Tryz.ntmps145 rfl (rs:= [.tmp 4]) rfl rfl fun hb LF=>?_
 have hlen:l.length≤140737488355328:=(hb (.slice (l.map eTgg) t) (by simp)).slice_map
 refine wf ?_
 refine AV (σ:=Nat) (fun k=>k≤l.length∧(l.take k).any p=false) (fun k=>l.length - k) (fun k=> [(0,.slice (l.map eTgg) t),(1,.clo F cs),(7,.raw (.int .i64 l.length)),(8,.raw (.int .i64 k))]) (fun _=>LF) 0 ⟨by simp,by simp⟩ ⟨rfl,rfl,rfl,rfl⟩ (.refl _) ?_
 rintro k ⟨hk,hn⟩
 refine wf ?_
 refine A1 (fun hc=>?_) (fun hc=>?_)
 ·have hlt:k < l.length:=by omega
  refine wf ?_
  refine AU (fun h=>?_) (fun h=>?_)
  ·refine wf ?_
   refine Al (.of_eq ?_)
   have e:l.any p=true:=Bg.2 ⟨l[k],AO hlt,h⟩
   rw[EK,if_pos e,Gi hlt hn h]
  ·refine wf ?_
   refine⟨k+1,⟨by omega,?_⟩,by dsimp only;omega,⟨rfl,rfl,rfl,rfl⟩,.refl _⟩
   rw[A6 hlt,FE,hn]
   simp[h]
 ·refine wf ?_
  refine Al (.of_eq ?_)
  rw[AA (by omega)]at hn
  rw[EK,if_neg (by simp[hn])]⟩
theorem NS (l:List Tgg) (t:CZ) (hl:l.length≤1000000):B2 Tryz.prog 92 [.slice (l.map eTgg) t] [] (fun r L'=> ∃ v,r= .raw v∧E7 80 3 v (l.map eTgg) L'):=by
 refine Bt Tryz.func92 rfl Tryz.ntmps92 (rs:= [.tmp 2]) rfl rfl fun hb LF=>?_
 rw[BL]
 refine wf ?_
 refine Re rfl fun b hnil=>?_
 refine wf ?_
 refine AU (fun h=>?_) (fun h=>?_)
 ·have h0:l= []:=by simpa using hnil h
  subst h0
  refine DU ?_
  refine CD (by kernel_rfl) ?_
  refine JJ ?_
  refine AE ?_
  refine wf ?_
  exact⟨trivial,_,[],.cons (.tmp 2) .nil,.refl _,_,rfl,.nil none (by simp)⟩
 refine Fx ?_
 refine DU ?_
 refine CD (by kernel_rfl) ?_
 refine Rh (vf:=fun(_:Tgg)=> []) fun v0 hv0=>?_
 have hv1:E7 80 3 v0 [] []:=by
  generalize hR:([]:List Res)=R at hv0
  generalize hn:([]:List Tgg).length=n at hv0
  unfold Jf at hv0
  rw[hn]at hv0
  cases hv0 with
  |nil o ho=>exact .nil o ho
  |row _ _ _ _=>cases hR
 refine wf ?_
 refine QU (f:=eTgg) (R:= []) (LF:=LF) (fun R'=>R'++LF) rfl rfl hv1 (.refl _) (fun R'=> .refl _) (by simp only[Aa];omega) (by simp only[Aa];omega) fun v R' hv=>?_
 refine wf ?_
 refine wf ?_
 rw[BL]at hv
 exact⟨trivial,_,R',.cons (.tmp 2) .nil,.refl _,v,rfl,hv⟩
theorem Tm (v:Value) (n:Nat) (us:List Value) (R:List Res) (hv:Hy 80 3 v n us R) (i:Nat) (hi:i≤n) (hn:n≤1000) (rv:Nat) (cv:Array Value) (hcv:cv.size=3) (h1v: ∀ x∈cv.toList,x.oneCell'=true) (h1u: ∀ x∈us,x.oneCell'=true):
  B2 Tryz.prog 148 [.raw v,.raw (.int .i64 (i:Int)),.raw (.slice (some ⟨rv,0,none⟩) 1 1)] (R++ [.raw rv (.cells cv 80 (0,0))])
   (fun x L'=> ∃ v' R',x= .raw v'∧Hy 80 3 v' (n+1) (us.take (i*3)++cv.toList++us.drop (i*3)) R'∧L'=R'++ [.raw rv (.cells cv 80 (0,0))]):=by
 refine Bt Tryz.func148 rfl Tryz.ntmps148 (rs:= [.tmp 6]) rfl rfl fun hb LF=>?_
 have hul:=hv.len
 have hcl:cv.toList.length=3:=by simpa using hcv
 have hcat:IY cv 0 cv.toList:=fun j hj=>by rw[B3,AZ hj]
 obtain⟨o,c,hvs⟩:=hv.slice
 have hnc:n≤c:=by cases hv<;>(injection hvs with _ _ e;omega)
 subst hvs
 refine wf ?_
 refine S6 rfl rfl hi hnc fun u=>?_
 refine wf ?_
 refine FO rfl ?_
 refine wf ?_
 refine FO rfl ?_
 refine wf ?_
 refine A1 (fun h=>?_) (fun h=>?_)
 ·have hin:i=n:=by omega
  subst hin
  refine wf ?_
  refine Vi (us:=us) (vs:=cv.toList) (R:=R) (LF:= .raw rv (.cells cv 80 (0,0))::LF) (fun R'=>R'++(.raw rv (.cells cv 80 (0,0))::LF)) rfl rfl hv (.of_eq (by simp)) (fun R'=> .refl _) (by omega) h1v ⟨cv,_,_,AK,hcat⟩ (by omega) (by omega) fun v' R' hv'=>?_
  refine wf ?_
  refine wf ?_
  refine⟨trivial,_,R'++ [.raw rv (.cells cv 80 (0,0))],.cons (.tmp 6) .nil,by rw[AL];exact .refl _,v',R',rfl,?_,rfl⟩
  rw[AA (by omega),CY (by omega),B1]
  exact hv'
 have hin:i < n:=by omega
 cases hv with
 |nil o ho=>omega
 |row hlc hs hu hc=>
 rename_i r cur
 have hc':cur.toList.take us.length=us:=by rw[hul];exact hc
 have hcs:cur.toList.length=c*3:=by simpa using hs
 have hia:i*3≤us.length:=by omega
 have htl:(us.take (i*3)).length=i*3:=by rw[AG];omega
 have hdl:(us.drop (i*3)).length=(n - i)*3:=by rw[Ab];omega
 refine wf ?_
 refine S7 rfl ?_
 refine wf ?_
 refine A1 (fun h2=>?_) (fun h2=>?_)
 ·refine wf ?_
  refine E9 0 i rfl (by omega) (by omega) (by omega) hlc (fun _ e=>by cases e) (fun _=>rfl) (fun o e=>by cases e;exact⟨_,rfl⟩) (fun e=>by cases e) ?_
  refine wf ?_
  refine Ze (T₂:=3) (us:=us.take (i*3)) (n:=i) (m:=n+1 - i) (c:=c) (o:=0) (cur:=cur) (by kernel_rfl) rfl (by show PV.raw (Value.int .i64 ((n:Int)+1 - i))=PV.raw (Value.int .i64 ((n+1 - i:Nat):Int));congr 2;omega) AK rfl htl (MR hc' _) (by omega) (by omega) (by omega) (by omega) fun r' nc zs hnc hzl=>?_
  have e1:i+(n+1 - i)=n+1:=by omega
  rw[e1]at hnc ⊢
  have hz37:cv.toList.length+(us.length - i*3)≤zs.length:=by
   rw[A7,htl]at hzl
   have:(n+1)*3≤nc*3:=Au _ hnc
   omega
  refine wf ?_
  refine wf ?_
  refine E9 i (n+1) rfl (by omega) hnc (by omega) hnc (fun o e=>by cases e;exact⟨_,rfl⟩) (fun e=>by cases e) (fun _ e=>by cases e) (fun _=>rfl) ?_
  refine wf ?_
  refine Hd (r:=r') (cur:=(us.take (i*3)++zs).toArray) cv.toList (fun c=>c::([.raw r (.cells cur 80 (0,0))]++ [.raw rv (.cells cv 80 (0,0))]++LF)) rfl rfl (.refl _) (fun c=> .refl _) (by rw[show Nat.min 1 (n+1 - i)=1 by show min 1 (n+1 - i)=1;omega];omega) h1v (by simp only[BJ,A7,htl];omega) ⟨cv,_,_,AD _ (AD _ AK),hcat⟩ ?_
  rw[show 0+i*3=i*3 from B3 _]
  rw[show(us.take (i*3)++zs).toArray.toList=us.take (i*3)++zs from rfl]
  refine AE ?_
  refine wn ?_
  refine BR 8 ?_ ?_
  ·decide+kernel
  refine wf ?_
  refine E9 (i+1) (n+1) rfl (by omega) hnc (by omega) hnc (fun o e=>by cases e;exact⟨_,rfl⟩) (fun e=>by cases e) (fun _ e=>by cases e) (fun _=>rfl) ?_
  refine wf ?_
  refine E9 i n rfl (by omega) (by omega) (by omega) hlc (fun o e=>by cases e;exact⟨_,rfl⟩) (fun e=>by cases e) (fun _ e=>by cases e) (fun _=>rfl) ?_
  refine wf ?_
  have hsp:(CA (us.take (i*3)++zs) (i*3) cv.toList).length=nc*3:=by
   rw[E4 (by rw[A7,htl];omega),hzl]
  have hnz:(n+1)*3≤nc*3:=Au _ hnc
  refine Hd (r:=r') (cur:=(CA (us.take (i*3)++zs) (i*3) cv.toList).toArray) (us.drop (i*3)) (fun c=>c::([.raw r (.cells cur 80 (0,0))]++ [.raw rv (.cells cv 80 (0,0))]++LF)) rfl rfl (.refl _) (fun c=> .refl _) (by rw[show Nat.min (n - i) (n+1 - (i+1))=n - i by show min (n - i) (n+1 - (i+1))=n - i;omega];exact hdl) (fun x hx=>h1u x (Di hx)) (by rw[BJ,hsp,hdl];omega) ⟨cur,_,_,AD _ AK,by rw[B3];exact Fc hc' _⟩ ?_
  rw[show 0+(i+1)*3=(i+1)*3 from B3 _]
  rw[show(CA (us.take (i*3)++zs) (i*3) cv.toList).toArray.toList=CA (us.take (i*3)++zs) (i*3) cv.toList from rfl]
  refine wf ?_
  refine wf ?_
  refine⟨trivial,_,[.raw r' (.cells (CA (CA (us.take (i*3)++zs) (i*3) cv.toList) ((i+1)*3) (us.drop (i*3))).toArray 80 (0,0))]++ [.raw rv (.cells cv 80 (0,0))],.cons (.tmp 6) .nil,.cons_cons _ (.cons _ (.refl _)),_,_,rfl,.row hnc ?_ ?_ ?_,rfl⟩
  ·rw[BJ,E4 (by rw[hsp,hdl];omega),hsp]
  ·rw[Iv hia,hul];omega
  ·have e3:=NJ (us:=us) (cv:=cv.toList) (zs:=zs) hia hz37
   rw[hcl,hul,show i*3+3=(i+1)*3 by omega,show n*3+3=(n+1)*3 by omega]at e3
   exact e3
 have hroom:n+1≤c:=by omega
 have hnz:(n+1)*3≤c*3:=Au _ hroom
 refine wf ?_
 refine E9 0 (n+1) rfl (by omega) hroom (by omega) hlc (fun _ e=>by cases e) (fun _=>rfl) (fun o e=>by cases e;exact⟨_,rfl⟩) (fun e=>by cases e) ?_
 refine wf ?_
 refine E9 (i+1) (n+1) rfl (by omega) (by omega) (by omega) (by omega) (fun o e=>by cases e;exact⟨_,rfl⟩) (fun e=>by cases e) (fun _ e=>by cases e) (fun _=>rfl) ?_
 refine Oe (f:=184) (T:=25) (B:=4) (L':=LF) Tryz.func184 (by kernel_rfl) (by kernel_rfl) (by kernel_rfl) (by kernel_rfl) rfl rfl (.swap _ _ _) (by omega) ?_
 refine wo ?_
 refine AE ?_
 refine wn ?_
 refine BR 8 ?_ ?_
 ·decide+kernel
 refine wf ?_
 refine E9 (i+1) (n+1) rfl (by omega) (by omega) (by omega) (by omega) (fun o e=>by cases e;exact⟨_,rfl⟩) (fun e=>by cases e) (fun _ e=>by cases e) (fun _=>rfl) ?_
 refine wf ?_
 refine E9 i (n+1) rfl (by omega) (by omega) (by omega) (by omega) (fun o e=>by cases e;exact⟨_,rfl⟩) (fun e=>by cases e) (fun _ e=>by cases e) (fun _=>rfl) ?_
 refine wf ?_
 refine Hd (r:=r) (cur:=cur) (us.drop (i*3)) (fun c=>c::([.raw rv (.cells cv 80 (0,0))]++LF)) rfl rfl (.refl _) (fun c=> .refl _) (by rw[hdl];congr 1;show n - i=min _ _;omega) (fun x hx=>h1u x (Di hx)) (by rw[hs,hdl];omega) ⟨cur,_,_,AK,by rw[show 0+0*3+i*3=i*3 by omega];exact Fc hc' _⟩ ?_
 rw[show 0+0*3+(i+1)*3=(i+1)*3 by omega]
 have hsp:(CA cur.toList ((i+1)*3) (us.drop (i*3))).length=c*3:=by
  rw[E4 (by rw[hcs,hdl];omega),hcs]
 refine AE ?_
 refine wf ?_
 refine E9 i (n+1) rfl (by omega) (by omega) (by omega) (by omega) (fun o e=>by cases e;exact⟨_,rfl⟩) (fun e=>by cases e) (fun _ e=>by cases e) (fun _=>rfl) ?_
 refine wf ?_
 refine Hd (r:=r) (cur:=(CA cur.toList ((i+1)*3) (us.drop (i*3))).toArray) cv.toList (fun c=>c::([.raw rv (.cells cv 80 (0,0))]++LF)) rfl rfl (.refl _) (fun c=> .refl _) (by rw[hcl];show 3=min 1 _*3;omega) h1v (by rw[BJ,hsp,hcl];omega) ⟨cv,_,_,AD _ AK,hcat⟩ ?_
 rw[show 0+0*3+i*3=i*3 by omega,show(CA cur.toList ((i+1)*3) (us.drop (i*3))).toArray.toList=CA cur.toList ((i+1)*3) (us.drop (i*3)) from rfl]
 refine AE ?_
 refine wf ?_
 refine⟨trivial,_,[.raw r (.cells (CA (CA cur.toList ((i+1)*3) (us.drop (i*3))) (i*3) cv.toList).toArray 80 (0,0))]++ [.raw rv (.cells cv 80 (0,0))],.cons (.tmp 6) .nil,.refl _,_,_,rfl,.row hroom ?_ ?_ ?_,rfl⟩
 ·rw[BJ,E4 (by rw[hsp,hcl];omega),hsp,Te]
 ·rw[Iv hia,hul];omega
 ·have e3:=Ln (us:=us) (cv:=cv.toList) (X:=cur.toList) hia (by omega) hc'
  rw[hcl,hul,show i*3+3=(i+1)*3 by omega,show n*3+3=(n+1)*3 by omega]at e3
  exact e3
theorem Pq (v:Value) (l:List Tgg) (R:List Res) (hv:E7 80 3 v (l.map eTgg) R) (i:Nat) (hi:i≤l.length) (hn:l.length≤1000) (rv:Nat) (x:Tgg):
  B2 Tryz.prog 148 [.raw v,.raw (.int .i64 (i:Int)),.raw (.slice (some ⟨rv,0,none⟩) 1 1)] (R++ [.box rv 80 (eTgg x)])
   (fun r L'=> ∃ v' R',r= .raw v'∧E7 80 3 v' ((l.take i++x::l.drop i).map eTgg) R'∧L'=R'++ [.box rv 80 (eTgg x)]):=by
 have hfl: ∀ (m:List Tgg),JU (m.map eTgg).flatten:=fun m c hc=>by
  obtain⟨e,he,hce⟩:=HN.1 hc
  obtain⟨a,_,rfl⟩:=AX.1 he
  exact(inferInstance:Gd eTgg).out a c hce
 unfold B2
 intro vs w g LF hvv hI
 have hI1:DM w g (R++([.box rv 80 (eTgg x)]++LF)):=by rw[←AL];exact hI
 obtain⟨us,R₁,q1,q2,q3,q4⟩:=hv.open hI1
 have hI2:DM w g (.box rv 80 (eTgg x)::(R₁++LF)):=q3.perm BA
 obtain⟨uv,p1,p2⟩:=DM.boxRaw hI2
 have hI3:DM w g ((R₁++ [.raw rv (.cells uv.toArray 80 (0,0))])++LF):=p2.perm (by rw[AL];exact BA.symm)
 rw[AF]at q2
 have huv:uv.length=3:=by rw[p1.len];exact(inferInstance:KY eTgg 3).out x
 have hbl1:Ao (R₁++ [.raw rv (.cells uv.toArray 80 (0,0))]++LF)=Ao (R++ [.box rv 80 (eTgg x)]++LF):=by
  simp only[Ao,CC]at q4 ⊢
  rw[q4];rfl
 have key:=Tm v l.length us R₁ q2 i hi hn rv uv.toArray (by simpa using huv) (by simpa using p1.one (fun c hc=>(inferInstance:Gd eTgg).out x c hc)) (q1.one (hfl l))
 unfold B2 at key
 refine(key vs w g LF hvv hI3).mono ?_
 rintro e w' ⟨v',x',g',L',rfl,k2,k3,k4,k5,v2,R',rfl,k6,rfl⟩
 have k3':DM w' g' (.raw rv (.cells uv.toArray 80 (0,0))::(R'++LF)):=k3.perm (by rw[AL];exact BA)
 have k7:DM w' g' (.box rv 80 (eTgg x)::(R'++LF)):=DM.rawBox k3' (by simpa using p1.mono k4.le)
 have k8:DM w' g' (R'++([.box rv 80 (eTgg x)]++LF)):=k7.perm BA.symm
 obtain⟨f1,f2⟩:=J4 (f:=eTgg) (sz:=3) l i hi
 have hus:E5 g' (us.take (i*3)++uv++us.drop (i*3)) ((l.take i++x::l.drop i).map eTgg).flatten:=by
  have h1:=(q1.mono k4.le).take (i*3)
  have h2:=(q1.mono k4.le).drop (i*3)
  rw[f1]at h1
  rw[f2]at h2
  rw[Az,BH,C7,CH,←AL]
  exact(h1.append (p1.mono k4.le)).append h2
 have hln:((l.take i++x::l.drop i).map eTgg).length=l.length+1:=by
  simp only[AF,A7,AG,AH,Ab];omega
 obtain⟨R2,z1,z2,z3⟩:=E7.close (xs:=(l.take i++x::l.drop i).map eTgg) hln (fun e he=>by obtain⟨a,_,rfl⟩:=AX.1 he;exact(inferInstance:KY eTgg 3).out a) k6 hus k8
 have hbl2:Ao (R2++ [.box rv 80 (eTgg x)]++LF)=Ao (R'++ [.raw rv (.cells uv.toArray 80 (0,0))]++LF):=by
  simp only[Ao,CC]at z3 ⊢
  rw[z3];rfl
 refine⟨v',.raw v2,g',R2++ [.box rv 80 (eTgg x)],rfl,k2,by rw[AL];exact z2,hbl1 ▸ k4,fun b hb hlt=>?_,v2,R2,rfl,z1,rfl⟩
 rw[hbl2]at hb
 rw[←hbl1]
 exact k5 b hb hlt
end Go.Proofs
namespace Go.Q
open Go
def Gq (a b:Str):Bool:=Go.Op.bytesLess a b
theorem Sk (a:UInt8) (x:Str) (b:UInt8) (y:Str):Gq (a::x) (b::y)=(decide (a < b)||(a==b&&Gq x y)):=rfl
theorem cA (a:Str):Gq a []=false:=by cases a<;>rfl
theorem KJ: ∀ a:Str,Gq a a=false
 | []=>rfl
 |a::x=>by
  rw[Sk,KJ x]
  have: ¬a < a:=by rw[UInt8.lt_iff_toNat_lt];omega
  simp[this]
theorem Nv: ∀ {a b c:Str},Gq a b=true→Gq b c=true→Gq a c=true
 |_,_,[],_,h=>by rw[cA]at h;cases h
 |_,[],_::_,h,_=>by rw[cA]at h;cases h
 | [],_::_,_::_,_,_=>rfl
 |a::x,b::y,c::z,h1,h2=>by
  rw[Sk]at h1 h2 ⊢
  simp only[Th,AJ,Bx,beq_iff_eq,UInt8.lt_iff_toNat_lt]at h1 h2 ⊢
  rcases h1 with h1|⟨rfl,h1⟩
  ·rcases h2 with h2|⟨rfl,h2⟩
   ·exact .inl (by omega)
   ·exact .inl h1
  ·rcases h2 with h2|⟨rfl,h2⟩
   ·exact .inl h2
   ·exact .inr ⟨rfl,Nv h1 h2⟩
theorem Qp: ∀ {a b:Str},a≠b→Gq a b=false→Gq b a=true
 | [],[],h,_=>absurd rfl h
 | [],_::_,_,h=>by cases h
 |_::_,[],_,_=>rfl
 |a::x,b::y,hne,h=>by
  rw[Sk]at h ⊢
  simp only[Bz,A8,UInt8.lt_iff_toNat_lt]at h
  obtain⟨h1,h2⟩:=h
  by_cases e:a=b
  ·subst e
   have hxy:x≠y:=fun e=>hne (by rw[e])
   simp only[beq_self_eq_true,vY]at h2 ⊢
   rw[Qp hxy h2];simp
  ·have:b < a:=by
    rw[UInt8.lt_iff_toNat_lt]
    have:a.toNat≠b.toNat:=fun h=>e (UInt8.toNat_inj.1 h)
    omega
   simp[this]
theorem Uh {a b:Str} (h:Gq a b=true):Gq b a=false:=by
 cases h2:Gq b a with
 |false=>rfl
 |true=>have:=Nv h h2;rw[KJ]at this;cases this
theorem ix {a b:Str} (h:Gq a b=true):a≠b:=fun e=>by rw[e,KJ]at h;cases h
section
variable {α:Type} (nm:α→Str)
def O8 (l:List α):Prop:=l.Pairwise fun x y=>Gq (nm x) (nm y)=true
def IK (l:List α) (n:Str):Nat:=(l.takeWhile fun y=>Gq (nm y) n).length
def Bw (l:List α) (n:Str):Int:=match l.findIdx? fun y=>decide (nm y=n)with|some i=>(i:Int)|none=> -1
theorem Q4 (l:List α) (n:Str): -1≤Bw nm l n∧Bw nm l n < l.length:=by
 unfold Bw
 cases h:l.findIdx? fun y=>decide (nm y=n)with
 |none=>simp;omega
 |some i=>
  obtain⟨hi,_⟩:=Dz.1 h
  simp;omega
theorem EZ {l:List α} {n:Str}:Bw nm l n < 0↔ ∀ x∈l,nm x≠n:=by
 unfold Bw
 cases h:l.findIdx? fun y=>decide (nm y=n)with
 |none=>
  rw[Jb]at h
  simp only[Int.reduceNeg,Int.neg_lt_zero_iff,Int.one_pos,true_iff]at*
  intro x hx;simpa using h x hx
 |some i=>
  obtain⟨hi,h1,_⟩:=Dz.1 h
  simp only
  constructor
  ·intro h;omega
  ·intro h;exact absurd (by simpa using h1) (h _ (AO hi))
theorem Fp {l:List α} {n:Str} {i:Nat} (h:Bw nm l n=i): ∃ hi:i < l.length,nm l[i]=n∧ ∀ j (hj:j < i),nm (l[j]'(by omega))≠n:=by
 unfold Bw at h
 cases h2:l.findIdx? fun y=>decide (nm y=n)with
 |none=>rw[h2]at h;exact absurd (show(-1:Int)=i from h) (by omega)
 |some k=>
  rw[h2]at h
  have:k=i:=by have h':(k:Int)=i:=h;omega
  subst this
  obtain⟨hi,h1,h3⟩:=Dz.1 h2
  exact⟨hi,by simpa using h1,fun j hj=>by simpa using h3 j hj⟩
theorem O8.get {l:List α} (h:O8 nm l) {i j:Nat} (hij:i < j) (hj:j < l.length):Gq (nm (l[i]'(by omega))) (nm l[j])=true:=(BQ.1 h) i j (by omega) hj hij
theorem O8.inj {l:List α} (h:O8 nm l) {i j:Nat} (hi:i < l.length) (hj:j < l.length) (e:nm l[i]=nm l[j]):i=j:=by
 rcases Fi i j with h1|h1|h1
 ·exact absurd e (ix (h.get nm h1 hj))
 ·exact h1
 ·exact absurd e.symm (ix (h.get nm h1 hi))
theorem Nq (l:List α) (n:Str):IK nm l n≤l.length:=(List.takeWhile_sublist _).length_le
theorem Vw {l:List α} {n:Str} {j:Nat} (hj:j < IK nm l n):Gq (nm (l[j]'(by have:=Nq nm l n;omega))) n=true:=by
 have h1:(l.takeWhile fun y=>Gq (nm y) n)[j]∈l.takeWhile fun y=>Gq (nm y) n:=AO hj
 have h2:=List.all_takeWhile (p:=fun y=>Gq (nm y) n) (l:=l)
 have h3:=B5.1 h2 _ h1
 have e:(l.takeWhile fun y=>Gq (nm y) n)[j]=l[j]'(by have:=Nq nm l n;omega):=by
  have:=List.takeWhile_prefix (l:=l) fun y=>Gq (nm y) n
  exact this.getElem hj
 rw[e]at h3;exact h3
theorem bp {l:List α} {n:Str} (h:IK nm l n < l.length):Gq (nm l[IK nm l n]) n=false:=by
 unfold IK at h ⊢
 induction l with
 |nil=>simp at h
 |cons x l ih=>
  by_cases hx:Gq (nm x) n=true
  ·simp only[List.takeWhile_cons,hx,if_true,AH]at h ⊢
   exact ih (by omega)
  ·simp only[List.takeWhile_cons,hx,BP,if_false,Aa,B8]
theorem Vv {l:List α} {n:Str} {k:Nat} (hk:k≤l.length) (h1: ∀ j (hj:j < k),Gq (nm (l[j]'(by omega))) n=true) (h2: ∀ h:k < l.length,Gq (nm l[k]) n=false):IK nm l n=k:=by
 have hp:=Nq nm l n
 rcases Fi (IK nm l n) k with h|h|h
 ·have:=bp nm (l:=l) (n:=n) (by omega)
  rw[h1 _ h]at this;cases this
 ·exact h
 ·have:=Vw nm h
  rw[h2 (by omega)]at this;cases this
def Jg (l:List α) (x:α):List α:=
 let k:=IK nm l (nm x)
 if(∃ h:k < l.length,nm l[k]=nm x)then l.take k++x::l.drop (k+1)else l.take k++x::l.drop k
theorem XB {l:List α} (ha:O8 nm l) {x:α} {i:Nat} (hi:i < l.length) (e:nm l[i]=nm x):Jg nm l x=l.set i x:=by
 have hk:IK nm l (nm x)=i:=Vv nm (by omega) (fun j hj=>by rw[←e];exact ha.get nm hj hi) fun _=>by rw[e];exact KJ _
 unfold Jg
 simp only[hk]
 rw[if_pos ⟨hi,e⟩,Gk,if_pos hi]
theorem QK {l:List α} {x:α} (h: ∀ y∈l,nm y≠nm x):Jg nm l x=l.take (IK nm l (nm x))++x::l.drop (IK nm l (nm x)):=by
 unfold Jg
 simp only
 rw[if_neg]
 rintro⟨hk,e⟩
 exact h _ (AO hk) e
theorem Zt {l:List α} (ha:O8 nm l) {n:Str} (h: ∀ y∈l,nm y≠n):(∀ y∈l.take (IK nm l n),Gq (nm y) n=true)∧ ∀ y∈l.drop (IK nm l n),Gq n (nm y)=true:=by
 constructor
 ·intro y hy
  obtain⟨j,hj,rfl⟩:=Ak.1 hy
  rw[AG]at hj
  rw[Ep]
  exact Vw nm (by omega)
 ·intro y hy
  obtain⟨j,hj,rfl⟩:=Ak.1 hy
  rw[Ab]at hj
  rw[Gv]
  have h0:=bp nm (l:=l) (n:=n) (by omega)
  have h1:=Qp (h _ (AO (show IK nm l n < l.length by omega))) h0
  rcases P8 j with e|e
  ·simpa [e]using h1
  ·exact Nv h1 (ha.get nm (show IK nm l n < IK nm l n+j by omega) (by omega))
theorem Zu {l:List α} (ha:O8 nm l) {n:Str} (h: ∀ y∈l,nm y≠n):(match l.findIdx? fun y=>Gq n (nm y)with|some i=>i|none=>l.length)=IK nm l n:=by
 obtain⟨h1,h2⟩:=Zt nm ha h
 have hp:=Nq nm l n
 cases hf:l.findIdx? fun y=>Gq n (nm y)with
 |none=>
  rw[Jb]at hf
  refine(Nat.le_antisymm hp ?_).symm
  refine Nat.le_of_not_lt fun hlt=>?_
  have hm:l[IK nm l n]∈l.drop (IK nm l n):=Ak.2 ⟨0,by rw[Ab];omega,by simp⟩
  have:=h2 _ hm
  rw[hf _ (AO hlt)]at this;cases this
 |some i=>
  obtain⟨hi,a1,a2⟩:=Dz.1 hf
  show i=_
  rcases Fi i (IK nm l n)with h'|h'|h'
  ·have:=Uh (Vw nm h')
   rw[a1]at this;cases this
  ·exact h'
  ·have hm:l[IK nm l n]'(by omega)∈l.drop (IK nm l n):=Ak.2 ⟨0,by rw[Ab];omega,by simp⟩
   exact absurd (h2 _ hm) (a2 _ h')
end
end Go.Q
