/- Contracts of the program: a search's start: the closures of all patches. -/
import Derived.Test.YtpebdiofdfpooaaGreatDoorUam
import Derived.Test.YtpebdiofdfpooaaGreatDoorUaj
import Derived.Test.YtpebdiofdfpooaaGreatDoorUag
import Derived.Test.YtpebdiofdfpooaaGreatDoorUad
import Derived.Test.YtpebdiofdfpooaaGreatDoorUaf
set_option linter.unusedSimpArgs false
set_option linter.unusedVariables false
set_option maxHeartbeats 8000000
namespace Go.Proofs
open Go Go.Q
attribute [local irreducible] EG AY B2 FZ
def cm (l:List Dig):List (Dig × Bool):=l.foldl (fun m x=>Hb x true m) []
def cM (s l:List Sto):List (Dig × List (Dig × Bool)):=l.foldl (fun m x=>Hb x.id (cm (pQ s x.id)) m) []
def yr (s:List Sto):List PV:= [.slice (s.map eSto) .ro]++ [.fmap (Cj kDig (yd kDig vBool) (cM s s))]
@[simp] theorem wb (s:List Sto):(yr s).length=2:=rfl
instance yj {a b c:PV}:Et [a,b] 0 [c] [c,b]:=Cr (a:= [a]) (b:= [b]) (new:= [c]) rfl
instance yi {a b c:PV}:Et [a,b] 1 [c] [a,c]:=Ae (a:= [a]) (n:=1) (off:=0) rfl (Ij (a:= [b]) (new:= [c]) rfl)
instance {b:Option Nat}:Dt (.raw (.map b)) [.raw (.map b)]:=⟨.one (EU.out)⟩
attribute [local irreducible] Mz
end Go.Proofs
namespace Go.Proofs
open Go Go.Q
attribute [local irreducible] EG AY B2 FZ
def oc (l:List Dig) (d:Dig):Int:=if d∈l then(l.idxOf d:Int)else -1
theorem ZE {l:List Dig} {d:Dig} {k:Nat} (hk:k < l.length) (hn:d∉l.take k) (e:d=l[k]):l.idxOf d=k:=by
 induction l generalizing k with
 |nil=>simp at hk
 |cons x l ih=>
  cases k with
  |zero=>simp at e;subst e;simp
  |succ k=>
   simp only[Oe,AQ,not_or]at hn
   have:=ih (k:=k) (by simpa using hk) hn.2 (by simpa using e)
   rw[List.idxOf_cons,beq_eq_false_iff_ne.2 (Ne.symm hn.1),cond_false,this]
instance vD (l:List Dig) (d:Dig) (t:CW):Bl Tryz.prog 136 [.slice (l.map eDig) t,.agg (eDig d)] (.raw (.int .i64 (oc l d))):=⟨by
 refine Ak Tryz.func136 Tryz.ntmps136 rfl (rs:= [.tmp 4]) rfl rfl fun hb LF=>?_
 have hlen:l.length≤140737488355328:=(hb (.slice (l.map eDig) t) (by simp)).slice_map
 refine wf ?_
 refine AW (σ:=Nat) (fun k=>k≤l.length∧d∉l.take k) (fun k=>l.length - k) (fun k=> [(0,.slice (l.map eDig) t),(3,.pt (eDig d) 0),(7,.raw (.int .i64 l.length)),(8,.raw (.int .i64 k))]) (fun _=>LF) 0 ⟨by simp,by simp⟩ ⟨rfl,rfl,rfl,rfl⟩ (.refl _) ?_
 rintro k ⟨hk,hn⟩
 refine wf ?_
 refine A1 (fun hc=>?_) (fun hc=>?_)
 ·have hlt:k < l.length:=by omega
  refine wf ?_
  refine A1 (fun h=>?_) (fun h=>?_)
  ·refine wf ?_
   refine Ah (.of_eq ?_)
   rw[oc,if_pos (h ▸ AK hlt),ZE hlt hn h]
  ·refine wf ?_
   refine⟨k+1,⟨by omega,?_⟩,by dsimp only;omega,⟨rfl,rfl,rfl,rfl⟩,.refl _⟩
   rw[A6 hlt,Ai,B1]
   rintro(h'|h')
   ·exact hn h'
   ·exact h h'
 ·refine wf ?_
  refine Ah (.of_eq ?_)
  rw[AA (by omega)]at hn
  rw[oc,if_neg hn]⟩
instance px (l:List Dig) (d:Dig) (t:CW):Bl Tryz.prog 75 [.slice (l.map eDig) t,.agg (eDig d)] (.raw (.bool (decide (d∈l)))):=⟨by
 refine Ak Tryz.func75 Tryz.ntmps75 rfl (rs:= [.tmp 4]) rfl rfl fun hb LF=>?_
 refine wf ?_
 refine Ah (.of_eq ?_)
 by_cases h:d∈l<;>simp[oc,h]⟩
instance xT (s:List Sto) (l:List Dig) (t u:CW) [hs:B3 (s.length≤1000000)]:Bl Tryz.prog 69 [.slice (s.map eSto) t,.slice (l.map eDig) u] (.slice ((Bt s l).map eSto) .ro):=⟨by
 refine Ak Tryz.func69 Tryz.ntmps69 rfl (rs:= [.tmp 4]) rfl rfl fun hb LF=>?_
 have hlen:s.length≤1000000:=hs.out
 refine wf ?_
 refine Ee 37 ?_
 refine AW (σ:=Nat × CW) (fun k=>k.1≤s.length) (fun k=>s.length - k.1) (fun k=> [(1,.slice (l.map eDig) u),(5,.slice ((Bt (s.take k.1) l).map eSto) k.2),(8,.slice (s.map eSto) t),(9,.raw (.int .i64 s.length)),(10,.raw (.int .i64 k.1))]) (fun k=> .tok k.2 (Bt (s.take k.1) l).length 37::LF) (0,.nil) (by simp) ⟨rfl,rfl,rfl,rfl,rfl⟩ (.refl _) ?_
 rintro⟨k,v⟩ hk
 dsimp only at hk
 refine wf ?_
 refine A1 (fun hc=>?_) (fun hc=>?_)
 ·have hl:(Bt (s.take k) l).length≤k:=CX (Cv _ _) (by simp;omega)
  have e:Bt (s.take (k+1)) l=Bt (s.take k) l++Bt [s[k]] l:=by
   rw[A6 (by omega)];simp only[Bt,Du]
  refine wz fun b7=>?_
  refine Ag 7 ?_
  refine wf ?_
  refine A1 (fun h=>?_) (fun h=>?_)
  ·refine Xw fun v'=>?_
   have e2:Bt [s[k]] l= [s[k]]:=by simp[Bt,h]
   rw[e2]at e
   refine⟨(k+1,v'),by dsimp only;omega,by dsimp only;omega,⟨rfl,by dsimp only;rw[e];rfl,rfl,rfl,rfl⟩,by dsimp only;rw[e];exact .refl _⟩
  ·refine wf ?_
   have e2:Bt [s[k]] l= []:=by simp[Bt,h]
   rw[e2,B6]at e
   refine⟨(k+1,v),by dsimp only;omega,by dsimp only;omega,⟨rfl,by dsimp only;rw[e];rfl,rfl,rfl,rfl⟩,by dsimp only;rw[e];exact .refl _⟩
 ·refine wf ?_
  refine Ah (.ros ?_)
  rw[AA (by omega)]⟩
theorem Tx {P:Program} {ρ:Env} {L LF:List Res} {X:PV} {t u s T n b T':Nat} {cs:List PV} {x z:PV} [hT:FL P T n] (h:ρ u= .raw (.pointer (some ⟨b,0,none⟩))) (hX:Le (.tuple [.agg cs,x,z]) X) (hx:ρ t=x:=by conv=>lhs;whnf) (hz:ρ s=z:=by conv=>lhs;whnf) (hm:Res.box b T' cs∈L:=by repeat(first|exact AI|apply AD)) (hn:cs.length=n:=by simp) (hs:LF.Sublist L:=by repeat(first|exact Dd _|apply List.Sublist.cons)):
  gj P [.cell u T,.tmp t,.tmp s] (fun r L'=>Le r X∧L'= []) LF .ret ρ L:=⟨trivial,_,[],.cons (.cell u T h hm hT.out hn) (.cons (.tmp t) (.cons (.tmp s) .nil)),hs,by subst hx;subst hz;exact hX,rfl⟩
end Go.Proofs
namespace Go.Proofs
open Go Go.Q
attribute [local irreducible] EG AY B2 FZ
def Ea {α:Type} (p:α→Bool) (l:List α):Int:=if l.any p=true then(l.findIdx p:Int)else -1
theorem Gz {α:Type} {p:α→Bool} {l:List α} {k:Nat} (hk:k < l.length) (hn:(l.take k).any p=false) (e:p l[k]=true):l.findIdx p=k:=by
 refine List.findIdx_eq hk |>.2 ⟨e,fun j hj=>?_⟩
 have:=FE.1 hn (l[j]) (Dm.2 ⟨j,by omega,rfl⟩)
 simpa using this
theorem Vo (F:Nat) (cs:List PV) (p:Dig→Bool) [hF:Ax Tryz.prog F] [hp: ∀ d,Bl Tryz.prog F (.agg (eDig d)::cs) (.raw (.bool (p d)))] (l:List Dig) (t:CW):
  Bl Tryz.prog 135 [.slice (l.map eDig) t,.clo F cs] (.raw (.int .i64 (Ea p l))):=⟨by
 refine Ak Tryz.func135 Tryz.ntmps135 rfl (rs:= [.tmp 4]) rfl rfl fun hb LF=>?_
 have hlen:l.length≤140737488355328:=(hb (.slice (l.map eDig) t) (by simp)).slice_map
 refine wf ?_
 refine AW (σ:=Nat) (fun k=>k≤l.length∧(l.take k).any p=false) (fun k=>l.length - k) (fun k=> [(0,.slice (l.map eDig) t),(1,.clo F cs),(7,.raw (.int .i64 l.length)),(8,.raw (.int .i64 k))]) (fun _=>LF) 0 ⟨by simp,by simp⟩ ⟨rfl,rfl,rfl,rfl⟩ (.refl _) ?_
 rintro k ⟨hk,hn⟩
 refine wf ?_
 refine A1 (fun hc=>?_) (fun hc=>?_)
 ·have hlt:k < l.length:=by omega
  refine wf ?_
  refine AO (fun h=>?_) (fun h=>?_)
  ·refine wf ?_
   refine Ah (.of_eq ?_)
   have e:l.any p=true:=BW.2 ⟨l[k],AK hlt,h⟩
   rw[Ea,if_pos e,Gz hlt hn h]
  ·refine wf ?_
   refine⟨k+1,⟨by omega,?_⟩,by dsimp only;omega,⟨rfl,rfl,rfl,rfl⟩,.refl _⟩
   rw[A6 hlt,FH,hn]
   simp[h]
 ·refine wf ?_
  refine Ah (.of_eq ?_)
  rw[AA (by omega)]at hn
  rw[Ea,if_neg (by simp[hn])]⟩
theorem Xg (F:Nat) (cs:List PV) (p:Dig→Bool) [hF:Ax Tryz.prog F] [hp: ∀ d,Bl Tryz.prog F (.agg (eDig d)::cs) (.raw (.bool (p d)))] (l:List Dig) (t:CW):
  Bl Tryz.prog 150 [.slice (l.map eDig) t,.clo F cs] (.raw (.bool (l.any p))):=⟨by
 have i1: ∀ t,Bl Tryz.prog 135 [.slice (l.map eDig) t,.clo F cs] (.raw (.int .i64 (Ea p l))):=Vo F cs p l
 refine Ak Tryz.func150 Tryz.ntmps150 rfl (rs:= [.tmp 4]) rfl rfl fun hb LF=>?_
 refine wf ?_
 refine Ah (.of_eq ?_)
 cases h:l.any p<;>simp[Ea,h]⟩
theorem Th (F:Nat) (cs:List PV) (p:Sto→Bool) [hF:Ax Tryz.prog F] (l:List Sto) (t:CW) (hp: ∀ d∈l,Bl Tryz.prog F (.agg (eSto d)::cs) (.raw (.bool (p d)))):
  Bl Tryz.prog 111 [.slice (l.map eSto) t,.clo F cs] (.raw (.int .i64 (Ea p l))):=⟨by
 refine Ak Tryz.func111 Tryz.ntmps111 rfl (rs:= [.tmp 4]) rfl rfl fun hb LF=>?_
 have hlen:l.length≤140737488355328:=(hb (.slice (l.map eSto) t) (by simp)).slice_map
 refine wf ?_
 refine AW (σ:=Nat) (fun k=>k≤l.length∧(l.take k).any p=false) (fun k=>l.length - k) (fun k=> [(0,.slice (l.map eSto) t),(1,.clo F cs),(7,.raw (.int .i64 l.length)),(8,.raw (.int .i64 k))]) (fun _=>LF) 0 ⟨by simp,by simp⟩ ⟨rfl,rfl,rfl,rfl⟩ (.refl _) ?_
 rintro k ⟨hk,hn⟩
 refine wf ?_
 refine A1 (fun hc=>?_) (fun hc=>?_)
 ·have hlt:k < l.length:=by omega
  have hpk:=hp _ (AK hlt)
  refine wf ?_
  refine AO (fun h=>?_) (fun h=>?_)
  ·refine wf ?_
   refine Ah (.of_eq ?_)
   have e:l.any p=true:=BW.2 ⟨l[k],AK hlt,h⟩
   rw[Ea,if_pos e,Gz hlt hn h]
  ·refine wf ?_
   refine⟨k+1,⟨by omega,?_⟩,by dsimp only;omega,⟨rfl,rfl,rfl,rfl⟩,.refl _⟩
   rw[A6 hlt,FH,hn]
   simp[h]
 ·refine wf ?_
  refine Ah (.of_eq ?_)
  rw[AA (by omega)]at hn
  rw[Ea,if_neg (by simp[hn])]⟩
theorem Vn (F:Nat) (cs:List PV) (p:Sto→Bool) [hF:Ax Tryz.prog F] [hp: ∀ d,Bl Tryz.prog F (.agg (eSto d)::cs) (.raw (.bool (p d)))] (l:List Sto) (t:CW):
  Bl Tryz.prog 111 [.slice (l.map eSto) t,.clo F cs] (.raw (.int .i64 (Ea p l))):=Th F cs p l t fun d _=>hp d
theorem Uj (F:Nat) (cs:List PV) (p:Sto→Bool) [hF:Ax Tryz.prog F] (l:List Sto) (t:CW) (hp: ∀ d∈l,Bl Tryz.prog F (.agg (eSto d)::cs) (.raw (.bool (p d)))):
  Bl Tryz.prog 177 [.slice (l.map eSto) t,.clo F cs] (.raw (.bool (l.any p))):=⟨by
 have i1: ∀ t,Bl Tryz.prog 111 [.slice (l.map eSto) t,.clo F cs] (.raw (.int .i64 (Ea p l))):=fun t=>Th F cs p l t hp
 refine Ak Tryz.func177 Tryz.ntmps177 rfl (rs:= [.tmp 4]) rfl rfl fun hb LF=>?_
 refine wf ?_
 refine Ah (.of_eq ?_)
 cases h:l.any p<;>simp[Ea,h]⟩
instance yQ (p:Pat) [hs:B3 (EE p=false)]:Bl Tryz.prog 101 [.agg (CP p)] (.tuple [.agg (eDig (EF p).1),.raw (.int .i64 (EF p).2)]):=⟨by
 have i1:B3 ((Cc p).1.length≤1000000):=⟨by have:=QG p;omega⟩
 refine Ak Tryz.func101 Tryz.ntmps101 rfl (rs:= [.cell 2 45,.tmp 3]) rfl rfl fun hb LF=>?_
 refine wf ?_
 refine BR fun b2=>?_
 refine wf ?_
 refine AL (fun h=>?_) (fun h=>?_)
 ·refine wf ?_
  refine DX rfl ?_
  rw[EF,if_pos h]
  exact .refl _
 ·refine wf ?_
  refine DX rfl ?_
  rw[EF,if_neg (by simpa using h)]
  exact .refl _⟩
instance s7 (x:Sto) (d:Dig):Bl Tryz.prog 174 [.agg (eSto x),.agg (eDig d)] (.raw (.int .i64 (Dh x.id d))):=⟨by
 refine Ak Tryz.func174 Tryz.ntmps174 rfl (rs:= [.tmp 4]) rfl rfl fun hb LF=>?_
 refine wf ?_
 exact Ah (.refl _)⟩
def Jk (s:List Sto) (d:Dig):Nat:=s.findIdx fun x=>decide (0≤Dh x.id d)
theorem X5 {s:List Sto} {d:Dig} {i:Nat} (hi:i≤s.length) (h1: ∀ k (h:k < s.length),k < i→Dh s[k].id d < 0) (h2: ∀ k (h:k < s.length),i≤k→0≤Dh s[k].id d):Jk s d=i:=by
 unfold Jk
 rcases BB i s.length with h|h
 ·refine(List.findIdx_eq h).2 ⟨BL (h2 i h (B5 _)),fun j hj=>Ck ?_⟩
  have:=h1 j (by omega) hj
  omega
 ·have e:i=s.length:=by omega
  subst e
  refine List.findIdx_eq_length.2 fun x hx=>Ck ?_
  obtain⟨k,hk,rfl⟩:=AX.1 hx
  have:=h1 k hk hk
  omega
theorem Yi {s:List Sto} (ha:Ej (ids s)) {d:Dig} {i:Nat} (h1: ∀ k (h:k < s.length),k < i→Dh s[k].id d < 0) (h2: ∀ k (h:k < s.length),i≤k→0≤Dh s[k].id d):d∈ids s↔ ∃ h:i < s.length,Dh s[i].id d=0:=by
 constructor
 ·intro h
  obtain⟨x,hx,rfl⟩:=AU.1 h
  obtain⟨k,hk,rfl⟩:=AX.1 hx
  have hz:Dh s[k].id s[k].id=0:=MB.2 rfl
  have hik:i≤k:=by
   rcases BB k i with h'|h'
   ·have:=h1 k hk h';omega
   ·exact h'
  have hi:i < s.length:=by omega
  refine⟨hi,?_⟩
  rcases BB i k with h'|h'
  ·have hp:=BN.1 ha i k (by simpa [ids]using hi) (by simpa [ids]using hk) h'
   simp only[ids,BT]at hp
   have:=h2 i hi (B5 _)
   have hp:Dh s[i].id s[k].id < 0:=hp
   omega
  ·have e:i=k:=by omega
   subst e;exact hz
 ·rintro⟨h,e⟩
  rw[←MB.1 e]
  exact AU.2 ⟨s[i],AK h,rfl⟩
theorem la {s:List Sto} (ha:Ej (ids s)) {i k:Nat} (hk:k < s.length) (hik:i≤k) {d:Dig}:(Dh s[k].id d < 0→Dh s[i].id d < 0)∧(0≤Dh s[i].id d→0≤Dh s[k].id d):=by
 rcases BB i k with h|h
 ·have hp:=BN.1 ha i k (by simp[ids];omega) (by simpa [ids]using hk) h
  simp only[ids,BT]at hp
  refine⟨fun h'=>Dig.lt_trans hp h',fun h'=>?_⟩
  rcases UK (Dh s[k].id d) 0 with h2|h2
  ·have:Dh s[i].id d < 0:=Dig.lt_trans hp h2
   omega
  ·exact h2
 ·have e:i=k:=by omega
  subst e;exact⟨id,id⟩
theorem gD (s:List Sto) (t:CW) (d:Dig) (ha:Ej (ids s)) (hl:s.length≤1000000):Bl Tryz.prog 173 [.slice (s.map eSto) t,.agg (eDig d),.clo 174 []] (.tuple [.raw (.int .i64 (Jk s d)),.raw (.bool (decide (d∈ids s)))]):=⟨by
 refine Ak Tryz.func173 Tryz.ntmps173 rfl (rs:= [.tmp 6,.tmp 7]) rfl rfl fun hb LF=>?_
 refine wf ?_
 refine AW (σ:=Nat × Nat) (fun k=>k.1≤k.2∧k.2≤s.length∧(∀ i (h:i < s.length),i < k.1→Dh s[i].id d < 0)∧(∀ i (h:i < s.length),k.2≤i→0≤Dh s[i].id d)) (fun k=>k.2 - k.1) (fun k=> [(0,.slice (s.map eSto) t),(2,.clo 174 []),(4,.pt (eDig d) 0),(8,.raw (.int .i64 s.length)),(9,.raw (.int .i64 k.1)),(10,.raw (.int .i64 k.2))]) (fun _=>LF) (0,s.length) ⟨by simp,by simp,fun i h h'=>by omega,fun i h h'=>by omega⟩ ⟨rfl,rfl,rfl,rfl,rfl,rfl⟩ (.refl _) ?_
 rintro⟨i,j⟩ ⟨hij,hjn,h1,h2⟩
 dsimp only at hij hjn h1 h2 ⊢
 refine wf ?_
 refine A1 (fun hc=>?_) (fun hc=>?_)
 ·have hlt:i < j:=by omega
  obtain⟨m,hm⟩: ∃ m,m=(i+j) / 2 ^ (min 1 64):=⟨_,rfl⟩
  have hm2:m=(i+j) / 2:=hm
  have hmn:m < s.length:=by omega
  refine wf ?_
  refine cn (n:=(((i+j) / 2 ^ (min 1 64):Nat):Int)) rfl (IntWalk.i64_in _ ⟨by omega,by omega⟩) ?_
  rw[←hm]
  refine wf ?_
  refine A1 (fun h=>?_) (fun h=>?_)
  ·refine wf ?_
   exact⟨(m+1,j),⟨by dsimp only;omega,hjn,fun k hk hkm=>(la (d:=d) ha hmn (by omega)).1 h,h2⟩,by dsimp only;omega,⟨rfl,rfl,rfl,rfl,rfl,rfl⟩,.refl _⟩
  ·refine wf ?_
   exact⟨(i,m),⟨by dsimp only;omega,by dsimp only;omega,h1,fun k hk hkm=>(la (d:=d) ha hk hkm).2 (Int.not_lt.1 h)⟩,by dsimp only;omega,⟨rfl,rfl,rfl,rfl,rfl,rfl⟩,.refl _⟩
 ·have e:i=j:=by omega
  subst e
  refine Decidable.byCases (p:=i < s.length) (fun hin=>?_) (fun hin=>?_)
  ·have g:decide ((i:Int) < (s.length:Int))=true:=BL (by omega)
   refine wf ?_
   refine GM (.of_eq ?_)
   have hpm:=Yi ha h1 h2
   rw[X5 hjn h1 h2]
   have e2:decide (d∈ids s)=decide (Dh s[i].id d=0):=by
    rw[decide_eq_decide,hpm]
    exact⟨fun⟨_,h⟩=>h,fun h=>⟨hin,h⟩⟩
   rw[e2]
  ·have g:decide ((i:Int) < (s.length:Int))=false:=Ck (by omega)
   refine wf ?_
   refine GM (.of_eq ?_)
   have hpm:=Yi ha h1 h2
   rw[X5 hjn h1 h2,Ck (fun h=>hin (hpm.1 h).1)]⟩
theorem Sh (s:List Sto) (t:CW) (d:Dig) (ha:Ej (ids s)) (hl:s.length≤1000000):Bl Tryz.prog 130 [.slice (s.map eSto) t,.agg (eDig d)] (.tuple [.raw (.int .i64 (Jk s d)),.raw (.bool (decide (d∈ids s)))]):=⟨by
 have i1: ∀ t,Bl Tryz.prog 173 [.slice (s.map eSto) t,.agg (eDig d),.clo 174 []] (.tuple [.raw (.int .i64 (Jk s d)),.raw (.bool (decide (d∈ids s)))]):=fun t=>gD s t d ha hl
 refine Ak Tryz.func130 Tryz.ntmps130 rfl (rs:= [.tmp 4,.tmp 5]) rfl rfl fun hb LF=>?_
 refine wf ?_
 exact GM (.refl _)⟩
theorem fb (s:List Sto) (t:CW) (d:Dig) (ha:Ej (ids s)) (hl:s.length≤1000000):Bl Tryz.prog 151 [.agg (eDig d),.pt [.slice (s.map eSto) t] 0] (.raw (.bool (!decide (d∈ids s)))):=⟨by
 have i1: ∀ t,Bl Tryz.prog 130 [.slice (s.map eSto) t,.agg (eDig d)] (.tuple [.raw (.int .i64 (Jk s d)),.raw (.bool (decide (d∈ids s)))]):=fun t=>Sh s t d ha hl
 refine Ak Tryz.func151 Tryz.ntmps151 rfl (rs:= [.tmp 3]) rfl rfl fun hb LF=>?_
 refine wf ?_
 exact Ah (.refl _)⟩
theorem Z8 (s:List Sto) (t:CW) (p:Pat) (ha:Ej (ids s)) (hl:s.length≤1000000) (hg:EE p=false):Bl Tryz.prog 102 [.slice (s.map eSto) t,.agg (CP p)] (.raw (.bool (!Ca (ids s) (Bf p)))):=⟨by
 have i0:B3 (EE p=false):=⟨hg⟩
 have i1: ∀ t d,Bl Tryz.prog 151 [.agg (eDig d),.pt [.slice (s.map eSto) t] 0] (.raw (.bool (!decide (d∈ids s)))):=fun t d=>fb s t d ha hl
 have i2: ∀ t u,Bl Tryz.prog 150 [.slice ((Bf p).map eDig) t,.clo 151 [.pt [.slice (s.map eSto) u] 0]] (.raw (.bool ((Bf p).any fun d=>!decide (d∈ids s)))):=fun t u=>Xg 151 [.pt [.slice (s.map eSto) u] 0] (fun d=>!decide (d∈ids s)) (Bf p) t
 refine Ak Tryz.func102 Tryz.ntmps102 rfl (rs:= [.tmp 4]) rfl rfl fun hb LF=>?_
 refine wf ?_
 refine Ah (.of_eq ?_)
 rw[Ca,yT]⟩
instance n5:WE Tryz.prog 23 47 37 120:=⟨by
 have h2:(Tryz.prog.info? 47).map (fun i=>(i.size,i.bytes,i.zero.isSome,(i.zero.getD undef).cells.size))=some (37,120,true,37):=by kernel_rfl
 obtain⟨i,hi,e⟩:=Bj.1 h2
 simp only[Prod.mk.injEq]at e
 obtain⟨e1,e2,e3,e4⟩:=e
 obtain⟨z,hz⟩:=E5.1 e3
 rw[hz]at e4
 exact⟨i,z,by kernel_rfl,hi,e1,e2,hz,e4,by decide,by decide⟩⟩
instance xm:WE Tryz.prog 22 47 37 120:=⟨by
 obtain⟨i,z,_,h⟩:=n5.out
 exact⟨i,z,by kernel_rfl,h⟩⟩
theorem E7 {X cs:List Value} {o:Nat} (h:o+cs.length≤X.length):(CA X o cs).length=X.length:=by
 unfold CA
 simp only[A8,AV,Ao];omega
theorem OD {X cs:List Value} {o:Nat} (h:o+cs.length≤X.length) (k:Nat):(CA X o cs)[k]? =if k < o then X[k]? else if k < o+cs.length then cs[k - o]? else X[k]?:=by
 unfold CA
 have h1:(X.take o).length=o:=by rw[AV];omega
 by_cases a:k < o
 ·rw[if_pos a,AJ,Cy (by omega),FX a]
 ·rw[if_neg a,AJ,FB (by omega),h1]
  by_cases b:k < o+cs.length
  ·rw[if_pos b,Cy (by omega)]
  ·rw[if_neg b,FB (by omega),Gm]
   congr 1;omega
theorem VG {us cv:List Value} {a:Nat} (h:a≤us.length) (k:Nat):(us.take a++cv++us.drop a)[k]? =if k < a then us[k]? else if k < a+cv.length then cv[k - a]? else us[k - cv.length]?:=by
 have h1:(us.take a).length=a:=by rw[AV];omega
 by_cases b:k < a
 ·rw[if_pos b,AJ,Cy (by omega),FX b]
 ·rw[if_neg b,AJ,FB (by omega),h1]
  by_cases c:k < a+cv.length
  ·rw[if_pos c,Cy (by omega)]
  ·rw[if_neg c,FB (by omega),Gm]
   congr 1;omega
theorem JE {us cv:List Value} {a:Nat} (h:a≤us.length):(us.take a++cv++us.drop a).length=us.length+cv.length:=by
 simp only[A8,AV,Ao];omega
theorem Nt {us cv zs:List Value} {a:Nat} (h:a≤us.length) (hz:cv.length+(us.length - a)≤zs.length):(CA (CA (us.take a++zs) a cv) (a+cv.length) (us.drop a)).take (us.length+cv.length)=us.take a++cv++us.drop a:=by
 have h1:(us.take a).length=a:=by rw[AV];omega
 have hX:(us.take a++zs).length=a+zs.length:=by rw[A8,h1]
 have hB:(us.drop a).length=us.length - a:=Ao
 have q1:a+cv.length≤(us.take a++zs).length:=by omega
 have q2:=E7 q1
 have q3:a+cv.length+(us.drop a).length≤(CA (us.take a++zs) a cv).length:=by omega
 refine gN fun k=>?_
 rw[VG h,Gl]
 by_cases hk:k < us.length+cv.length
 ·rw[if_pos hk,OD q3,OD q1]
  by_cases b:k < a
  ·rw[if_pos (by omega),if_pos b,if_pos b,Cy (by omega),FX b]
  ·rw[if_neg b,if_neg b]
   by_cases c:k < a+cv.length
   ·rw[if_pos c,if_pos c,if_pos c]
   ·rw[if_neg c,if_pos (by omega),if_neg c,Gm]
    congr 1;omega
 ·rw[if_neg hk,if_neg (by omega),if_neg (by omega),J4 (by omega)]
theorem MQ {us cv X:List Value} {a:Nat} (h:a≤us.length) (hX:us.length+cv.length≤X.length) (ht:X.take us.length=us):(CA (CA X (a+cv.length) (us.drop a)) a cv).take (us.length+cv.length)=us.take a++cv++us.drop a:=by
 have hB:(us.drop a).length=us.length - a:=Ao
 have q1:a+cv.length+(us.drop a).length≤X.length:=by omega
 have q2:=E7 q1
 have q3:a+cv.length≤(CA X (a+cv.length) (us.drop a)).length:=by omega
 refine gN fun k=>?_
 rw[VG h,Gl]
 by_cases hk:k < us.length+cv.length
 ·rw[if_pos hk,OD q3,OD q1]
  by_cases b:k < a
  ·rw[if_pos b,if_pos (by omega),if_pos b]
   conv=>rhs;rw[←ht]
   rw[FX (by omega)]
  ·rw[if_neg b,if_neg b]
   by_cases c:k < a+cv.length
   ·rw[if_pos c,if_pos c]
   ·rw[if_neg c,if_neg c,if_neg c,if_pos (by omega),Gm]
    congr 1;omega
 ·rw[if_neg hk,if_neg (by omega),if_neg (by omega),J4 (by omega)]
theorem Mx {cur:Array Value} {us:List Value} (h:cur.toList.take us.length=us) (a:Nat):J2 cur 0 (us.take a):=fun j hj=>by
 rw[AV]at hj
 rw[B4,FA,←AZ (by omega)]
 conv=>rhs;rw[←h]
 rw[FX (by omega)]
theorem Fk {cur:Array Value} {us:List Value} (h:cur.toList.take us.length=us) (a:Nat):J2 cur a (us.drop a):=fun j hj=>by
 rw[Ao]at hj
 rw[H8,←AZ (by omega)]
 conv=>rhs;rw[←h]
 rw[FX (by omega)]
theorem bK (v:Value) (n:Nat) (us:List Value) (R:List Res) (hv:IZ 47 37 v n us R) (i:Nat) (hi:i≤n) (hn:n≤1000) (rv:Nat) (cv:Array Value) (hcv:cv.size=37) (h1v: ∀ x∈cv.toList,x.oneCell'=true) (h1u: ∀ x∈us,x.oneCell'=true):
  B2 Tryz.prog 131 [.raw v,.raw (.int .i64 (i:Int)),.raw (.slice (some ⟨rv,0,none⟩) 1 1)] (R++ [.raw rv (.cells cv 47 (0,0))])
   (fun x L'=> ∃ v' R',x= .raw v'∧IZ 47 37 v' (n+1) (us.take (i*37)++cv.toList++us.drop (i*37)) R'∧L'=R'++ [.raw rv (.cells cv 47 (0,0))]):=by
 refine Bw Tryz.func131 rfl Tryz.ntmps131 (rs:= [.tmp 6]) rfl rfl fun hb LF=>?_
 have hul:=hv.len
 have hcl:cv.toList.length=37:=by simpa using hcv
 have hcat:J2 cv 0 cv.toList:=fun j hj=>by rw[B4,AZ hj]
 obtain⟨o,c,hvs⟩:=hv.slice
 have hnc:n≤c:=by cases hv<;>(injection hvs with _ _ e;omega)
 subst hvs
 refine wf ?_
 refine Sn rfl rfl hi hnc fun u=>?_
 refine wf ?_
 refine FS rfl ?_
 refine wf ?_
 refine FS rfl ?_
 refine wf ?_
 refine A1 (fun h=>?_) (fun h=>?_)
 ·have hin:i=n:=by omega
  subst hin
  refine wf ?_
  refine Wm (us:=us) (vs:=cv.toList) (R:=R) (LF:= .raw rv (.cells cv 47 (0,0))::LF) (fun R'=>R'++(.raw rv (.cells cv 47 (0,0))::LF)) rfl rfl hv (.of_eq (by simp)) (fun R'=> .refl _) (by omega) h1v ⟨cv,_,_,AI,hcat⟩ (by omega) (by omega) fun v' R' hv'=>?_
  refine wf ?_
  refine wf ?_
  refine⟨trivial,_,R'++ [.raw rv (.cells cv 47 (0,0))],.cons (.tmp 6) .nil,by rw[AJ];exact .refl _,v',R',rfl,?_,rfl⟩
  rw[AA (by omega),Cp (by omega),B6]
  exact hv'
 have hin:i < n:=by omega
 cases hv with
 |nil o ho=>omega
 |row hlc hs hu hc=>
 rename_i r cur
 have hc':cur.toList.take us.length=us:=by rw[hul];exact hc
 have hcs:cur.toList.length=c*37:=by simpa using hs
 have hia:i*37≤us.length:=by omega
 have htl:(us.take (i*37)).length=i*37:=by rw[AV];omega
 have hdl:(us.drop (i*37)).length=(n - i)*37:=by rw[Ao];omega
 refine wf ?_
 refine So rfl ?_
 refine wf ?_
 refine A1 (fun h2=>?_) (fun h2=>?_)
 ·refine wf ?_
  refine EC 0 i rfl (by omega) (by omega) (by omega) hlc (fun _ e=>by cases e) (fun _=>rfl) (fun o e=>by cases e;exact⟨_,rfl⟩) (fun e=>by cases e) ?_
  refine wf ?_
  refine aR (T₂:=3) (us:=us.take (i*37)) (n:=i) (m:=n+1 - i) (c:=c) (o:=0) (cur:=cur) (by kernel_rfl) rfl (by show PV.raw (Value.int .i64 ((n:Int)+1 - i))=PV.raw (Value.int .i64 ((n+1 - i:Nat):Int));congr 2;omega) AI rfl htl (Mx hc' _) (by omega) (by omega) (by omega) (by omega) fun r' nc zs hnc hzl=>?_
  have e1:i+(n+1 - i)=n+1:=by omega
  rw[e1]at hnc ⊢
  have hz37:cv.toList.length+(us.length - i*37)≤zs.length:=by
   rw[A8,htl]at hzl
   have:(n+1)*37≤nc*37:=Au _ hnc
   omega
  refine wf ?_
  refine wf ?_
  refine EC i (n+1) rfl (by omega) hnc (by omega) hnc (fun o e=>by cases e;exact⟨_,rfl⟩) (fun e=>by cases e) (fun _ e=>by cases e) (fun _=>rfl) ?_
  refine wf ?_
  refine Hv (r:=r') (cur:=(us.take (i*37)++zs).toArray) cv.toList (fun c=>c::([.raw r (.cells cur 47 (0,0))]++ [.raw rv (.cells cv 47 (0,0))]++LF)) rfl rfl (.refl _) (fun c=> .refl _) (by rw[show Nat.min 1 (n+1 - i)=1 by show min 1 (n+1 - i)=1;omega];omega) h1v (by simp only[BH,A8,htl];omega) ⟨cv,_,_,AD _ (AD _ AI),hcat⟩ ?_
  rw[show 0+i*37=i*37 from B4 _]
  rw[show(us.take (i*37)++zs).toArray.toList=us.take (i*37)++zs from rfl]
  refine AN ?_
  refine wn ?_
  refine BZ 8 ?_ ?_
  ·decide+kernel
  refine wf ?_
  refine EC (i+1) (n+1) rfl (by omega) hnc (by omega) hnc (fun o e=>by cases e;exact⟨_,rfl⟩) (fun e=>by cases e) (fun _ e=>by cases e) (fun _=>rfl) ?_
  refine wf ?_
  refine EC i n rfl (by omega) (by omega) (by omega) hlc (fun o e=>by cases e;exact⟨_,rfl⟩) (fun e=>by cases e) (fun _ e=>by cases e) (fun _=>rfl) ?_
  refine wf ?_
  have hsp:(CA (us.take (i*37)++zs) (i*37) cv.toList).length=nc*37:=by
   rw[E7 (by rw[A8,htl];omega),hzl]
  have hnz:(n+1)*37≤nc*37:=Au _ hnc
  refine Hv (r:=r') (cur:=(CA (us.take (i*37)++zs) (i*37) cv.toList).toArray) (us.drop (i*37)) (fun c=>c::([.raw r (.cells cur 47 (0,0))]++ [.raw rv (.cells cv 47 (0,0))]++LF)) rfl rfl (.refl _) (fun c=> .refl _) (by rw[show Nat.min (n - i) (n+1 - (i+1))=n - i by show min (n - i) (n+1 - (i+1))=n - i;omega];exact hdl) (fun x hx=>h1u x (Di hx)) (by rw[BH,hsp,hdl];omega) ⟨cur,_,_,AD _ AI,by rw[B4];exact Fk hc' _⟩ ?_
  rw[show 0+(i+1)*37=(i+1)*37 from B4 _]
  rw[show(CA (us.take (i*37)++zs) (i*37) cv.toList).toArray.toList=CA (us.take (i*37)++zs) (i*37) cv.toList from rfl]
  refine wf ?_
  refine wf ?_
  refine⟨trivial,_,[.raw r' (.cells (CA (CA (us.take (i*37)++zs) (i*37) cv.toList) ((i+1)*37) (us.drop (i*37))).toArray 47 (0,0))]++ [.raw rv (.cells cv 47 (0,0))],.cons (.tmp 6) .nil,.cons_cons _ (.cons _ (.refl _)),_,_,rfl,.row hnc ?_ ?_ ?_,rfl⟩
  ·rw[BH,E7 (by rw[hsp,hdl];omega),hsp]
  ·rw[JE hia,hul];omega
  ·have e3:=Nt (us:=us) (cv:=cv.toList) (zs:=zs) hia hz37
   rw[hcl,hul,show i*37+37=(i+1)*37 by omega,show n*37+37=(n+1)*37 by omega]at e3
   exact e3
 have hroom:n+1≤c:=by omega
 have hnz:(n+1)*37≤c*37:=Au _ hroom
 refine wf ?_
 refine EC 0 (n+1) rfl (by omega) hroom (by omega) hlc (fun _ e=>by cases e) (fun _=>rfl) (fun o e=>by cases e;exact⟨_,rfl⟩) (fun e=>by cases e) ?_
 refine wf ?_
 refine EC (i+1) (n+1) rfl (by omega) (by omega) (by omega) (by omega) (fun o e=>by cases e;exact⟨_,rfl⟩) (fun e=>by cases e) (fun _ e=>by cases e) (fun _=>rfl) ?_
 refine PE (f:=175) (T:=22) (B:=4) (L':=LF) Tryz.func175 (by kernel_rfl) (by kernel_rfl) (by kernel_rfl) (by kernel_rfl) rfl rfl (.swap _ _ _) (by omega) ?_
 refine wo ?_
 refine AN ?_
 refine wn ?_
 refine BZ 8 ?_ ?_
 ·decide+kernel
 refine wf ?_
 refine EC (i+1) (n+1) rfl (by omega) (by omega) (by omega) (by omega) (fun o e=>by cases e;exact⟨_,rfl⟩) (fun e=>by cases e) (fun _ e=>by cases e) (fun _=>rfl) ?_
 refine wf ?_
 refine EC i (n+1) rfl (by omega) (by omega) (by omega) (by omega) (fun o e=>by cases e;exact⟨_,rfl⟩) (fun e=>by cases e) (fun _ e=>by cases e) (fun _=>rfl) ?_
 refine wf ?_
 refine Hv (r:=r) (cur:=cur) (us.drop (i*37)) (fun c=>c::([.raw rv (.cells cv 47 (0,0))]++LF)) rfl rfl (.refl _) (fun c=> .refl _) (by rw[hdl];congr 1;show n - i=min _ _;omega) (fun x hx=>h1u x (Di hx)) (by rw[hs,hdl];omega) ⟨cur,_,_,AI,by rw[show 0+0*37+i*37=i*37 by omega];exact Fk hc' _⟩ ?_
 rw[show 0+0*37+(i+1)*37=(i+1)*37 by omega]
 have hsp:(CA cur.toList ((i+1)*37) (us.drop (i*37))).length=c*37:=by
  rw[E7 (by rw[hcs,hdl];omega),hcs]
 refine AN ?_
 refine wf ?_
 refine EC i (n+1) rfl (by omega) (by omega) (by omega) (by omega) (fun o e=>by cases e;exact⟨_,rfl⟩) (fun e=>by cases e) (fun _ e=>by cases e) (fun _=>rfl) ?_
 refine wf ?_
 refine Hv (r:=r) (cur:=(CA cur.toList ((i+1)*37) (us.drop (i*37))).toArray) cv.toList (fun c=>c::([.raw rv (.cells cv 47 (0,0))]++LF)) rfl rfl (.refl _) (fun c=> .refl _) (by rw[hcl];show 37=min 1 _*37;omega) h1v (by rw[BH,hsp,hcl];omega) ⟨cv,_,_,AD _ AI,hcat⟩ ?_
 rw[show 0+0*37+i*37=i*37 by omega,show(CA cur.toList ((i+1)*37) (us.drop (i*37))).toArray.toList=CA cur.toList ((i+1)*37) (us.drop (i*37)) from rfl]
 refine AN ?_
 refine wf ?_
 refine⟨trivial,_,[.raw r (.cells (CA (CA cur.toList ((i+1)*37) (us.drop (i*37))) (i*37) cv.toList).toArray 47 (0,0))]++ [.raw rv (.cells cv 47 (0,0))],.cons (.tmp 6) .nil,.refl _,_,_,rfl,.row hroom ?_ ?_ ?_,rfl⟩
 ·rw[BH,E7 (by rw[hsp,hcl];omega),hsp,UI]
 ·rw[JE hia,hul];omega
 ·have e3:=MQ (us:=us) (cv:=cv.toList) (X:=cur.toList) hia (by omega) hc'
  rw[hcl,hul,show i*37+37=(i+1)*37 by omega,show n*37+37=(n+1)*37 by omega]at e3
  exact e3
end Go.Proofs
namespace Go.Q
open Go
theorem Mu {sz:Nat} {xs:List (List PV)} (hs: ∀ e∈xs,e.length=sz) {i:Nat} (hi:i < xs.length):xs.flatten=(xs.take i).flatten++(xs[i]++(xs.drop (i+1)).flatten)∧(xs.take i).flatten.length=i*sz:=by
 constructor
 ·conv=>lhs;rw[←C4 i xs,C8,EW hi,CD]
 ·rw[Cg (sz:=sz) fun e he=>hs e (Fe he),AV,DD (by omega)]
theorem QY {sz:Nat} {xs:List (List PV)} {rest:List PV} (hs: ∀ e∈xs,e.length=sz) {i:Nat} (hi:i < xs.length):Xl (xs.flatten++rest) (0+i*sz) sz xs[i]:=by
 obtain⟨h1,h2⟩:=Mu hs hi
 have h3:=hs _ (AK hi)
 rw[B4,h1,AJ]
 refine⟨?_,?_⟩
 ·rw[←h2,uF,AJ,←h3,List.take_left]
 ·simp only[A8];omega
theorem QZ {sz:Nat} {xs:List (List PV)} {rest new:List PV} (hs: ∀ e∈xs,e.length=sz) {i:Nat} (hi:i < xs.length) (hn:new.length=sz):Et (xs.flatten++rest) (0+i*sz) new ((xs.set i new).flatten++rest):=by
 obtain⟨h1,h2⟩:=Mu hs hi
 have h3:=hs _ (AK hi)
 have h4:(xs.set i new).flatten=(xs.take i).flatten++(new++(xs.drop (i+1)).flatten):=by
  rw[H0,if_pos hi,C8,CD]
 rw[B4,h1,h4]
 refine⟨?_,?_⟩
 ·have e1:((xs.take i).flatten++(xs[i]++(xs.drop (i+1)).flatten)++rest).take (i*sz)=(xs.take i).flatten:=by
   rw[AJ,←h2,List.take_left]
  have e2:((xs.take i).flatten++(xs[i]++(xs.drop (i+1)).flatten)++rest).drop (i*sz+new.length)=(xs.drop (i+1)).flatten++rest:=by
   rw[hn,←h2,←h3,←Lh,AJ,uF,AJ,uF]
  rw[e1,e2]
  simp only[AJ]
 ·simp only[A8];omega
theorem E9.inv {E sz n c:Nat} {o:Option Addr} {xs:List (List PV)} {R:List Res} (h:E9 E sz (.slice o n c) xs R) (h0:0 < n): ∃ r rest,o=some ⟨r,0,none⟩∧R= [.box r E (xs.flatten++rest)]∧xs.length=n∧n≤c∧(∀ e∈xs,e.length=sz)∧xs.flatten.length+rest.length=c*sz:=by
 generalize hv:Value.slice o n c=v at h
 cases h with
 |nil o' ho=>injection hv with _ e2 _;omega
 |row hn hl hs hc=>injection hv with e1 e2 e3;subst e1 e2 e3;exact⟨_,_,rfl,rfl,hn,hl,hs,hc⟩
theorem E9.freeze {E sz:Nat} {w:World} {g:Gh} {R L':List Res} {v:Value} {xs:List (List PV)} (hi:DJ w g (R++L')) (hv:E9 E sz v xs R) (hm:xs.length≤maxN∧xs.length*sz≤maxN):
  ∃ g',DJ w g' L'∧Ez (Al (R++L')) w g w g'∧DV w (R++L') L'∧VR g' v (.slice xs .ro):=by
 cases hv with
 |nil o ho=>exact⟨g,hi,.refl _ _ _,.refl _ _,.nilR⟩
 |row hn hl hs hc=>
  rename_i r n cap rest
  subst hn
  obtain⟨us,h1,h2⟩:=DJ.boxRaw hi
  obtain⟨k1,k2,k3,k4,k5⟩:=h2.rawHead
  have hul:us.length=xs.flatten.length+rest.length:=by rw[h1.len,A8]
  let u:=us.take xs.flatten.length
  have hu0:u.length=xs.flatten.length:=by simp only[u,AV];omega
  have hu:E8 g u xs.flatten:=⟨hu0,fun i k1 k2=>by
   have:=h1.at_ i (by omega) (by rw[A8];omega)
   rw[Bh k2]at this
   simpa [u]using this⟩
  have hle:=Gh.le_lay (g:=g) (b:=r) (from_:=0) (us:=u) (fun o _=>k2 o)
  have hcell: ∀ j (h:j < u.length),w.cell? ⟨r,j,none⟩=some u[j]:=fun j h=>by
   have hj:j < us.length:=by omega
   simp only[World.cell?,k1,Option.isSome_none,BQ,if_false,V7]
   rw[AZ hj]
   simp[u]
  refine⟨g.lay r 0 u,⟨fun b' o v hv=>?_,fun b' z hz=>hi.satM b' z hz,fun r' hr'=>?_,k5.nodup,hi.glob.mono hle⟩,⟨rfl,rfl,⟨rfl,B5 _⟩,B5 _,fun _ _ _=>rfl,hle,fun k _ hn=>⟨fun o=>Gh.lay_out (fun h=>hn (by rw[h.1];simp[Al,Res.block])),rfl⟩⟩,fun b hb _=>?_,?_⟩
  ·by_cases hin:b'=r∧0≤o∧o < 0+u.length
   ·obtain⟨rfl,_,h6⟩:=hin
    have hj:o < u.length:=by omega
    have:=Gh.lay_in (g:=g) (b:=b') (from_:=0) hj
    rw[B4,hv]at this
    cases this
    exact hcell o hj
   ·rw[Gh.lay_out hin]at hv;exact hi.sat b' o v hv
  ·exact Res.holds_kept hle (k5.res r' hr') fun b' hb'=>⟨rfl,fun o=>Gh.lay_out (fun h=>k4 (Bp.2 ⟨r',hr',by rw[hb',h.1]⟩)),rfl⟩
  ·simp only[Al,CB]at hb ⊢;exact Ed _ hb
  ·exact VR.of_cells (g:=g.lay r 0 u) (t:= .ro) (sz:=sz) (b:=r) (off:=0) (cap:=cap) hs hl hm (us:=u) (hu.mono hle) (fun j hj=>Gh.lay_in hj) (fun b' cap' e=>by cases e) (by simp)
section
variable {P:Program} {N:Nat} {ρ:Env} {L:List Res}
theorem HC {E sz:Nat} {R L':List Res} {v:Value} {xs:List (List PV)} {c:Code} {Q:PPost} (i:Nat) (hv:E9 E sz v xs R) (hm:xs.length≤maxN∧xs.length*sz≤maxN) (hp:L.Perm (R++L')) (hi:ρ i= .raw v) (k:EG P N c Q (CN ρ i (.slice xs .ro)) L'):EG P N c Q ρ L:=
 HO (fun base a w g ha hI=>by
  obtain⟨g',h1,h2,h3,h4⟩:=E9.freeze (hI.perm hp) hv hm
  refine⟨g',⟨ha.size,ha.defers.mono h2.le,fun j=>?_⟩,h1,h2.grow (fun b hb=>(DA hp).symm.subset hb),fun b hb hlt=>(DA hp).symm.subset (h3 b hb hlt)⟩
  have hj:=(ha.slot j).mono h2.le
  by_cases e:j=i
  ·subst e
   rw[hi]at hj
   show VR g' _ (CN ρ j _ j)
   rw[CK,hj.raw_inv];exact h4
  ·show VR g' _ (CN ρ i _ j)
   rw[Gb _ _ e];exact hj) k
end
section
variable {P:Program} {N:Nat} {all:Array Oper} {K:Env→List Res→Prop} {fl:List Bool} {os:List Oper} {ρ:Env} {L:List Res} {d:Nat} {ty:TypeId} {pos:String} {af:Array Edge}
theorem KL {T E sz by_:Nat} [hT:WE P T E sz by_] {x0:Operand} {cs:List PV} (hc:E4 (ρ.ev x0) cs) (hl:cs.length=sz) (h24:sz≤16777216)
  (k: ∀ b,AY P N all K fl.tail os (CN ρ d (.raw (.slice (some ⟨b,0,none⟩) 1 1))) (.box b E cs::L)) (hd:Nat.blt d N=true:=by rfl) (hfl:fl.headD true=true:=by rfl):AY P N all K fl (⟨some d,.buildSlice T 1 #[(0,x0)],ty,pos,af,none⟩::os) ρ L:=
 Dr rfl (Qn hd) hfl (fun a w g ha hi=>by
  obtain⟨i,z,t1,t2,t3,t4,t5,t6,t7,t8⟩:=hT.out
  obtain⟨us,e1,e2⟩:=hc g _ (ha x0 (by simp[Op.operands]))
  have hul:us.length=sz:=by rw[e2.len,hl]
  have hr:(execOp a.eval ⟨some d,.buildSlice T 1 #[(0,x0)],ty,pos,af,none⟩).run P w= .ok (.value (.slice (some ⟨w.heap.size,0,none⟩) 1 1)) { w with heap:=w.heap.push (.cells us.toArray E (0,0)) }:=by
   have hz: ∀ (zz:Array Value),Instr.fill (fun i=>some (i*sz,sz)) ((Array.range (1*sz)).map (zz[·% zz.size]!)) [(0,a.eval x0)]=some us.toArray:=fun zz=>by
    have e:(Array.range (1*sz)).map (zz[·% zz.size]!)=((List.range (1*sz)).map (zz[·% zz.size]!)).toArray:=by
     apply N2;simp
    have:=Nu (sz:=sz) [us] [a.eval x0] 0 ((List.range (1*sz)).map (zz[·% zz.size]!)) rfl (fun i h1 h2=>by
     have h0:i=0:=by simp at h1;omega
     subst h0
     exact⟨e1,hul⟩) (by simp)
    rw[e]
    simpa using this
   show(do pure (Next.value (←Instr.buildSlice T 1 (#[(0,x0)].map fun(p:Nat × Operand)=>(p.1,a.eval p.2)))):Sem Next).run P w=_
   simp only[Instr.buildSlice,Sem.run_bind,run_underlying t1,Result.andThen_ok,sizeOf,typeInfo,run_program,t2,Sem.run_pure,t3]
   rw[if_neg (by have:(2:Nat) ^ 24=16777216:=by decide
                 omega)]
   have hzv:(zeroValue E).run P w= .ok z w:=by simp[zeroValue,typeInfo,t2,t5]
   split
   ·simp only[Sem.run_bind,Sem.run_pure,Result.andThen_ok,Hf,BG,CY,hz #[],newRow,run_newObj]
   ·simp only[Sem.run_bind,hzv,Sem.run_pure,Result.andThen_ok,Hf,BG,CY,hz z.cells,newRow,run_newObj]
  obtain⟨j1,j2,j3⟩:=hi.alloc e2 E
  refine Oper.wq_of_run hr ?_
  exact⟨_,.raw _,g,_,rfl,.raw _,j1,j2,j3,k _⟩)
end
end Go.Q
namespace Go.Proofs
open Go Go.Q
attribute [local irreducible] EG AY B2 FZ
theorem Oc (l:List Sto) (t:CW) (hl:l.length≤1000000):B2 Tryz.prog 55 [.slice (l.map eSto) t] [] (fun r L'=> ∃ v,r= .raw v∧E9 47 37 v (l.map eSto) L'):=by
 refine Bw Tryz.func55 rfl Tryz.ntmps55 (rs:= [.tmp 2]) rfl rfl fun hb LF=>?_
 rw[BK]
 refine wf ?_
 refine SJ rfl fun b hnil=>?_
 refine wf ?_
 refine AO (fun h=>?_) (fun h=>?_)
 ·have h0:l= []:=by simpa using hnil h
  subst h0
  refine DU ?_
  refine CC (by kernel_rfl) ?_
  refine Jd ?_
  refine AN ?_
  refine wf ?_
  exact⟨trivial,_,[],.cons (.tmp 2) .nil,.refl _,_,rfl,.nil none (by simp)⟩
 refine GH ?_
 refine DU ?_
 refine CC (by kernel_rfl) ?_
 refine SL (vf:=fun(_:Sto)=> []) fun v0 hv0=>?_
 have hv1:E9 47 37 v0 [] []:=by
  generalize hR:([]:List Res)=R at hv0
  generalize hn:([]:List Sto).length=n at hv0
  unfold K2 at hv0
  rw[hn]at hv0
  cases hv0 with
  |nil o ho=>exact .nil o ho
  |row _ _ _ _=>cases hR
 refine wf ?_
 refine R4 (f:=eSto) (R:= []) (LF:=LF) (fun R'=>R'++LF) rfl rfl hv1 (.refl _) (fun R'=> .refl _) (by simp only[Aa];omega) (by simp only[Aa];omega) fun v R' hv=>?_
 refine wf ?_
 refine wf ?_
 rw[BK]at hv
 exact⟨trivial,_,R',.cons (.tmp 2) .nil,.refl _,v,rfl,hv⟩
theorem JM {α:Type} {f:α→List PV} {sz:Nat} [hf:Kz f sz] (l:List α) (i:Nat) (hi:i≤l.length):(l.map f).flatten.take (i*sz)=((l.take i).map f).flatten∧(l.map f).flatten.drop (i*sz)=((l.drop i).map f).flatten:=by
 have e:(l.map f).flatten=((l.take i).map f).flatten++((l.drop i).map f).flatten:=by
  rw[←C8,←Az,C4]
 have hlen:((l.take i).map f).flatten.length=i*sz:=by
  rw[Cg (sz:=sz) (fun e he=>by obtain⟨a,_,rfl⟩:=AU.1 he;exact hf.out a),AR,AV,DD hi]
 rw[e]
 exact⟨E1 hlen,qD hlen⟩
theorem Tg (v:Value) (l:List Sto) (R:List Res) (hv:E9 47 37 v (l.map eSto) R) (i:Nat) (hi:i≤l.length) (hn:l.length≤1000) (rv:Nat) (x:Sto):
  B2 Tryz.prog 131 [.raw v,.raw (.int .i64 (i:Int)),.raw (.slice (some ⟨rv,0,none⟩) 1 1)] (R++ [.box rv 47 (eSto x)])
   (fun r L'=> ∃ v' R',r= .raw v'∧E9 47 37 v' ((l.take i++x::l.drop i).map eSto) R'∧L'=R'++ [.box rv 47 (eSto x)]):=by
 have hfl: ∀ (m:List Sto),Jl (m.map eSto).flatten:=fun m c hc=>by
  obtain⟨e,he,hce⟩:=Hd.1 hc
  obtain⟨a,_,rfl⟩:=AU.1 he
  exact(inferInstance:Gw eSto).out a c hce
 unfold B2
 intro vs w g LF hvv hI
 have hI1:DJ w g (R++([.box rv 47 (eSto x)]++LF)):=by rw[←AJ];exact hI
 obtain⟨us,R₁,q1,q2,q3,q4⟩:=hv.open hI1
 have hI2:DJ w g (.box rv 47 (eSto x)::(R₁++LF)):=q3.perm B8
 obtain⟨uv,p1,p2⟩:=DJ.boxRaw hI2
 have hI3:DJ w g ((R₁++ [.raw rv (.cells uv.toArray 47 (0,0))])++LF):=p2.perm (by rw[AJ];exact B8.symm)
 rw[AR]at q2
 have huv:uv.length=37:=by rw[p1.len];exact(inferInstance:Kz eSto 37).out x
 have hbl1:Al (R₁++ [.raw rv (.cells uv.toArray 47 (0,0))]++LF)=Al (R++ [.box rv 47 (eSto x)]++LF):=by
  simp only[Al,CB]at q4 ⊢
  rw[q4];rfl
 have key:=bK v l.length us R₁ q2 i hi hn rv uv.toArray (by simpa using huv) (by simpa using p1.one (fun c hc=>(inferInstance:Gw eSto).out x c hc)) (q1.one (hfl l))
 unfold B2 at key
 refine(key vs w g LF hvv hI3).mono ?_
 rintro e w' ⟨v',x',g',L',rfl,k2,k3,k4,k5,v2,R',rfl,k6,rfl⟩
 have k3':DJ w' g' (.raw rv (.cells uv.toArray 47 (0,0))::(R'++LF)):=k3.perm (by rw[AJ];exact B8)
 have k7:DJ w' g' (.box rv 47 (eSto x)::(R'++LF)):=DJ.rawBox k3' (by simpa using p1.mono k4.le)
 have k8:DJ w' g' (R'++([.box rv 47 (eSto x)]++LF)):=k7.perm B8.symm
 obtain⟨f1,f2⟩:=JM (f:=eSto) (sz:=37) l i hi
 have hus:E8 g' (us.take (i*37)++uv++us.drop (i*37)) ((l.take i++x::l.drop i).map eSto).flatten:=by
  have h1:=(q1.mono k4.le).take (i*37)
  have h2:=(q1.mono k4.le).drop (i*37)
  rw[f1]at h1
  rw[f2]at h2
  rw[Az,BG,C8,CD,←AJ]
  exact(h1.append (p1.mono k4.le)).append h2
 have hln:((l.take i++x::l.drop i).map eSto).length=l.length+1:=by
  simp only[AR,A8,AV,AH,Ao];omega
 obtain⟨R2,z1,z2,z3⟩:=E9.close (xs:=(l.take i++x::l.drop i).map eSto) hln (fun e he=>by obtain⟨a,_,rfl⟩:=AU.1 he;exact(inferInstance:Kz eSto 37).out a) k6 hus k8
 have hbl2:Al (R2++ [.box rv 47 (eSto x)]++LF)=Al (R'++ [.raw rv (.cells uv.toArray 47 (0,0))]++LF):=by
  simp only[Al,CB]at z3 ⊢
  rw[z3];rfl
 refine⟨v',.raw v2,g',R2++ [.box rv 47 (eSto x)],rfl,k2,by rw[AJ];exact z2,hbl1 ▸ k4,fun b hb hlt=>?_,v2,R2,rfl,z1,rfl⟩
 rw[hbl2]at hb
 rw[←hbl1]
 exact k5 b hb hlt
instance xo:WE Tryz.prog 24 78 2 40:=⟨by
 have h2:(Tryz.prog.info? 78).map (fun i=>(i.size,i.bytes,i.zero.isSome,(i.zero.getD undef).cells.size))=some (2,40,true,2):=by kernel_rfl
 obtain⟨i,hi,e⟩:=Bj.1 h2
 simp only[Prod.mk.injEq]at e
 obtain⟨e1,e2,e3,e4⟩:=e
 obtain⟨z,hz⟩:=E5.1 e3
 rw[hz]at e4
 exact⟨i,z,by kernel_rfl,hi,e1,e2,hz,e4,by decide,by decide⟩⟩
theorem Rr (F:Nat) (cs:List PV) (p:Brn→Bool) [hF:Ax Tryz.prog F] [hp: ∀ d,Bl Tryz.prog F (.agg (eBrn d)::cs) (.raw (.bool (p d)))] (l:List Brn) (t:CW):
  Bl Tryz.prog 118 [.slice (l.map eBrn) t,.clo F cs] (.raw (.int .i64 (Ea p l))):=⟨by
 refine Ak Tryz.func118 Tryz.ntmps118 rfl (rs:= [.tmp 4]) rfl rfl fun hb LF=>?_
 have hlen:l.length≤140737488355328:=(hb (.slice (l.map eBrn) t) (by simp)).slice_map
 refine wf ?_
 refine AW (σ:=Nat) (fun k=>k≤l.length∧(l.take k).any p=false) (fun k=>l.length - k) (fun k=> [(0,.slice (l.map eBrn) t),(1,.clo F cs),(7,.raw (.int .i64 l.length)),(8,.raw (.int .i64 k))]) (fun _=>LF) 0 ⟨by simp,by simp⟩ ⟨rfl,rfl,rfl,rfl⟩ (.refl _) ?_
 rintro k ⟨hk,hn⟩
 refine wf ?_
 refine A1 (fun hc=>?_) (fun hc=>?_)
 ·have hlt:k < l.length:=by omega
  refine wf ?_
  refine AO (fun h=>?_) (fun h=>?_)
  ·refine wf ?_
   refine Ah (.of_eq ?_)
   have e:l.any p=true:=BW.2 ⟨l[k],AK hlt,h⟩
   rw[Ea,if_pos e,Gz hlt hn h]
  ·refine wf ?_
   refine⟨k+1,⟨by omega,?_⟩,by dsimp only;omega,⟨rfl,rfl,rfl,rfl⟩,.refl _⟩
   rw[A6 hlt,FH,hn]
   simp[h]
 ·refine wf ?_
  refine Ah (.of_eq ?_)
  rw[AA (by omega)]at hn
  rw[Ea,if_neg (by simp[hn])]⟩
theorem LH (l:List Brn) (t:CW) (hl:l.length≤1000000):B2 Tryz.prog 94 [.slice (l.map eBrn) t] [] (fun r L'=> ∃ v,r= .raw v∧E9 78 2 v (l.map eBrn) L'):=by
 refine Bw Tryz.func94 rfl Tryz.ntmps94 (rs:= [.tmp 2]) rfl rfl fun hb LF=>?_
 rw[BK]
 refine wf ?_
 refine SJ rfl fun b hnil=>?_
 refine wf ?_
 refine AO (fun h=>?_) (fun h=>?_)
 ·have h0:l= []:=by simpa using hnil h
  subst h0
  refine DU ?_
  refine CC (by kernel_rfl) ?_
  refine Jd ?_
  refine AN ?_
  refine wf ?_
  exact⟨trivial,_,[],.cons (.tmp 2) .nil,.refl _,_,rfl,.nil none (by simp)⟩
 refine GH ?_
 refine DU ?_
 refine CC (by kernel_rfl) ?_
 refine SL (vf:=fun(_:Brn)=> []) fun v0 hv0=>?_
 have hv1:E9 78 2 v0 [] []:=by
  generalize hR:([]:List Res)=R at hv0
  generalize hn:([]:List Brn).length=n at hv0
  unfold K2 at hv0
  rw[hn]at hv0
  cases hv0 with
  |nil o ho=>exact .nil o ho
  |row _ _ _ _=>cases hR
 refine wf ?_
 refine R4 (f:=eBrn) (R:= []) (LF:=LF) (fun R'=>R'++LF) rfl rfl hv1 (.refl _) (fun R'=> .refl _) (by simp only[Aa];omega) (by simp only[Aa];omega) fun v R' hv=>?_
 refine wf ?_
 refine wf ?_
 rw[BK]at hv
 exact⟨trivial,_,R',.cons (.tmp 2) .nil,.refl _,v,rfl,hv⟩
theorem Ua (v:Value) (n:Nat) (us:List Value) (R:List Res) (hv:IZ 78 2 v n us R) (i:Nat) (hi:i≤n) (hn:n≤1000) (rv:Nat) (cv:Array Value) (hcv:cv.size=2) (h1v: ∀ x∈cv.toList,x.oneCell'=true) (h1u: ∀ x∈us,x.oneCell'=true):
  B2 Tryz.prog 144 [.raw v,.raw (.int .i64 (i:Int)),.raw (.slice (some ⟨rv,0,none⟩) 1 1)] (R++ [.raw rv (.cells cv 78 (0,0))])
   (fun x L'=> ∃ v' R',x= .raw v'∧IZ 78 2 v' (n+1) (us.take (i*2)++cv.toList++us.drop (i*2)) R'∧L'=R'++ [.raw rv (.cells cv 78 (0,0))]):=by
 refine Bw Tryz.func144 rfl Tryz.ntmps144 (rs:= [.tmp 6]) rfl rfl fun hb LF=>?_
 have hul:=hv.len
 have hcl:cv.toList.length=2:=by simpa using hcv
 have hcat:J2 cv 0 cv.toList:=fun j hj=>by rw[B4,AZ hj]
 obtain⟨o,c,hvs⟩:=hv.slice
 have hnc:n≤c:=by cases hv<;>(injection hvs with _ _ e;omega)
 subst hvs
 refine wf ?_
 refine Sn rfl rfl hi hnc fun u=>?_
 refine wf ?_
 refine FS rfl ?_
 refine wf ?_
 refine FS rfl ?_
 refine wf ?_
 refine A1 (fun h=>?_) (fun h=>?_)
 ·have hin:i=n:=by omega
  subst hin
  refine wf ?_
  refine Wm (us:=us) (vs:=cv.toList) (R:=R) (LF:= .raw rv (.cells cv 78 (0,0))::LF) (fun R'=>R'++(.raw rv (.cells cv 78 (0,0))::LF)) rfl rfl hv (.of_eq (by simp)) (fun R'=> .refl _) (by omega) h1v ⟨cv,_,_,AI,hcat⟩ (by omega) (by omega) fun v' R' hv'=>?_
  refine wf ?_
  refine wf ?_
  refine⟨trivial,_,R'++ [.raw rv (.cells cv 78 (0,0))],.cons (.tmp 6) .nil,by rw[AJ];exact .refl _,v',R',rfl,?_,rfl⟩
  rw[AA (by omega),Cp (by omega),B6]
  exact hv'
 have hin:i < n:=by omega
 cases hv with
 |nil o ho=>omega
 |row hlc hs hu hc=>
 rename_i r cur
 have hc':cur.toList.take us.length=us:=by rw[hul];exact hc
 have hcs:cur.toList.length=c*2:=by simpa using hs
 have hia:i*2≤us.length:=by omega
 have htl:(us.take (i*2)).length=i*2:=by rw[AV];omega
 have hdl:(us.drop (i*2)).length=(n - i)*2:=by rw[Ao];omega
 refine wf ?_
 refine So rfl ?_
 refine wf ?_
 refine A1 (fun h2=>?_) (fun h2=>?_)
 ·refine wf ?_
  refine EC 0 i rfl (by omega) (by omega) (by omega) hlc (fun _ e=>by cases e) (fun _=>rfl) (fun o e=>by cases e;exact⟨_,rfl⟩) (fun e=>by cases e) ?_
  refine wf ?_
  refine aR (T₂:=3) (us:=us.take (i*2)) (n:=i) (m:=n+1 - i) (c:=c) (o:=0) (cur:=cur) (by kernel_rfl) rfl (by show PV.raw (Value.int .i64 ((n:Int)+1 - i))=PV.raw (Value.int .i64 ((n+1 - i:Nat):Int));congr 2;omega) AI rfl htl (Mx hc' _) (by omega) (by omega) (by omega) (by omega) fun r' nc zs hnc hzl=>?_
  have e1:i+(n+1 - i)=n+1:=by omega
  rw[e1]at hnc ⊢
  have hz37:cv.toList.length+(us.length - i*2)≤zs.length:=by
   rw[A8,htl]at hzl
   have:(n+1)*2≤nc*2:=Au _ hnc
   omega
  refine wf ?_
  refine wf ?_
  refine EC i (n+1) rfl (by omega) hnc (by omega) hnc (fun o e=>by cases e;exact⟨_,rfl⟩) (fun e=>by cases e) (fun _ e=>by cases e) (fun _=>rfl) ?_
  refine wf ?_
  refine Hv (r:=r') (cur:=(us.take (i*2)++zs).toArray) cv.toList (fun c=>c::([.raw r (.cells cur 78 (0,0))]++ [.raw rv (.cells cv 78 (0,0))]++LF)) rfl rfl (.refl _) (fun c=> .refl _) (by rw[show Nat.min 1 (n+1 - i)=1 by show min 1 (n+1 - i)=1;omega];omega) h1v (by simp only[BH,A8,htl];omega) ⟨cv,_,_,AD _ (AD _ AI),hcat⟩ ?_
  rw[show 0+i*2=i*2 from B4 _]
  rw[show(us.take (i*2)++zs).toArray.toList=us.take (i*2)++zs from rfl]
  refine AN ?_
  refine wn ?_
  refine BZ 8 ?_ ?_
  ·decide+kernel
  refine wf ?_
  refine EC (i+1) (n+1) rfl (by omega) hnc (by omega) hnc (fun o e=>by cases e;exact⟨_,rfl⟩) (fun e=>by cases e) (fun _ e=>by cases e) (fun _=>rfl) ?_
  refine wf ?_
  refine EC i n rfl (by omega) (by omega) (by omega) hlc (fun o e=>by cases e;exact⟨_,rfl⟩) (fun e=>by cases e) (fun _ e=>by cases e) (fun _=>rfl) ?_
  refine wf ?_
  have hsp:(CA (us.take (i*2)++zs) (i*2) cv.toList).length=nc*2:=by
   rw[E7 (by rw[A8,htl];omega),hzl]
  have hnz:(n+1)*2≤nc*2:=Au _ hnc
  refine Hv (r:=r') (cur:=(CA (us.take (i*2)++zs) (i*2) cv.toList).toArray) (us.drop (i*2)) (fun c=>c::([.raw r (.cells cur 78 (0,0))]++ [.raw rv (.cells cv 78 (0,0))]++LF)) rfl rfl (.refl _) (fun c=> .refl _) (by rw[show Nat.min (n - i) (n+1 - (i+1))=n - i by show min (n - i) (n+1 - (i+1))=n - i;omega];exact hdl) (fun x hx=>h1u x (Di hx)) (by rw[BH,hsp,hdl];omega) ⟨cur,_,_,AD _ AI,by rw[B4];exact Fk hc' _⟩ ?_
  rw[show 0+(i+1)*2=(i+1)*2 from B4 _]
  rw[show(CA (us.take (i*2)++zs) (i*2) cv.toList).toArray.toList=CA (us.take (i*2)++zs) (i*2) cv.toList from rfl]
  refine wf ?_
  refine wf ?_
  refine⟨trivial,_,[.raw r' (.cells (CA (CA (us.take (i*2)++zs) (i*2) cv.toList) ((i+1)*2) (us.drop (i*2))).toArray 78 (0,0))]++ [.raw rv (.cells cv 78 (0,0))],.cons (.tmp 6) .nil,.cons_cons _ (.cons _ (.refl _)),_,_,rfl,.row hnc ?_ ?_ ?_,rfl⟩
  ·rw[BH,E7 (by rw[hsp,hdl];omega),hsp]
  ·rw[JE hia,hul];omega
  ·have e3:=Nt (us:=us) (cv:=cv.toList) (zs:=zs) hia hz37
   rw[hcl,hul,show i*2+2=(i+1)*2 by omega,show n*2+2=(n+1)*2 by omega]at e3
   exact e3
 have hroom:n+1≤c:=by omega
 have hnz:(n+1)*2≤c*2:=Au _ hroom
 refine wf ?_
 refine EC 0 (n+1) rfl (by omega) hroom (by omega) hlc (fun _ e=>by cases e) (fun _=>rfl) (fun o e=>by cases e;exact⟨_,rfl⟩) (fun e=>by cases e) ?_
 refine wf ?_
 refine EC (i+1) (n+1) rfl (by omega) (by omega) (by omega) (by omega) (fun o e=>by cases e;exact⟨_,rfl⟩) (fun e=>by cases e) (fun _ e=>by cases e) (fun _=>rfl) ?_
 refine PE (f:=182) (T:=24) (B:=4) (L':=LF) Tryz.func182 (by kernel_rfl) (by kernel_rfl) (by kernel_rfl) (by kernel_rfl) rfl rfl (.swap _ _ _) (by omega) ?_
 refine wo ?_
 refine AN ?_
 refine wn ?_
 refine BZ 8 ?_ ?_
 ·decide+kernel
 refine wf ?_
 refine EC (i+1) (n+1) rfl (by omega) (by omega) (by omega) (by omega) (fun o e=>by cases e;exact⟨_,rfl⟩) (fun e=>by cases e) (fun _ e=>by cases e) (fun _=>rfl) ?_
 refine wf ?_
 refine EC i (n+1) rfl (by omega) (by omega) (by omega) (by omega) (fun o e=>by cases e;exact⟨_,rfl⟩) (fun e=>by cases e) (fun _ e=>by cases e) (fun _=>rfl) ?_
 refine wf ?_
 refine Hv (r:=r) (cur:=cur) (us.drop (i*2)) (fun c=>c::([.raw rv (.cells cv 78 (0,0))]++LF)) rfl rfl (.refl _) (fun c=> .refl _) (by rw[hdl];congr 1;show n - i=min _ _;omega) (fun x hx=>h1u x (Di hx)) (by rw[hs,hdl];omega) ⟨cur,_,_,AI,by rw[show 0+0*2+i*2=i*2 by omega];exact Fk hc' _⟩ ?_
 rw[show 0+0*2+(i+1)*2=(i+1)*2 by omega]
 have hsp:(CA cur.toList ((i+1)*2) (us.drop (i*2))).length=c*2:=by
  rw[E7 (by rw[hcs,hdl];omega),hcs]
 refine AN ?_
 refine wf ?_
 refine EC i (n+1) rfl (by omega) (by omega) (by omega) (by omega) (fun o e=>by cases e;exact⟨_,rfl⟩) (fun e=>by cases e) (fun _ e=>by cases e) (fun _=>rfl) ?_
 refine wf ?_
 refine Hv (r:=r) (cur:=(CA cur.toList ((i+1)*2) (us.drop (i*2))).toArray) cv.toList (fun c=>c::([.raw rv (.cells cv 78 (0,0))]++LF)) rfl rfl (.refl _) (fun c=> .refl _) (by rw[hcl];show 2=min 1 _*2;omega) h1v (by rw[BH,hsp,hcl];omega) ⟨cv,_,_,AD _ AI,hcat⟩ ?_
 rw[show 0+0*2+i*2=i*2 by omega,show(CA cur.toList ((i+1)*2) (us.drop (i*2))).toArray.toList=CA cur.toList ((i+1)*2) (us.drop (i*2)) from rfl]
 refine AN ?_
 refine wf ?_
 refine⟨trivial,_,[.raw r (.cells (CA (CA cur.toList ((i+1)*2) (us.drop (i*2))) (i*2) cv.toList).toArray 78 (0,0))]++ [.raw rv (.cells cv 78 (0,0))],.cons (.tmp 6) .nil,.refl _,_,_,rfl,.row hroom ?_ ?_ ?_,rfl⟩
 ·rw[BH,E7 (by rw[hsp,hcl];omega),hsp,UI]
 ·rw[JE hia,hul];omega
 ·have e3:=MQ (us:=us) (cv:=cv.toList) (X:=cur.toList) hia (by omega) hc'
  rw[hcl,hul,show i*2+2=(i+1)*2 by omega,show n*2+2=(n+1)*2 by omega]at e3
  exact e3
theorem QT (v:Value) (l:List Brn) (R:List Res) (hv:E9 78 2 v (l.map eBrn) R) (i:Nat) (hi:i≤l.length) (hn:l.length≤1000) (rv:Nat) (x:Brn):
  B2 Tryz.prog 144 [.raw v,.raw (.int .i64 (i:Int)),.raw (.slice (some ⟨rv,0,none⟩) 1 1)] (R++ [.box rv 78 (eBrn x)])
   (fun r L'=> ∃ v' R',r= .raw v'∧E9 78 2 v' ((l.take i++x::l.drop i).map eBrn) R'∧L'=R'++ [.box rv 78 (eBrn x)]):=by
 have hfl: ∀ (m:List Brn),Jl (m.map eBrn).flatten:=fun m c hc=>by
  obtain⟨e,he,hce⟩:=Hd.1 hc
  obtain⟨a,_,rfl⟩:=AU.1 he
  exact(inferInstance:Gw eBrn).out a c hce
 unfold B2
 intro vs w g LF hvv hI
 have hI1:DJ w g (R++([.box rv 78 (eBrn x)]++LF)):=by rw[←AJ];exact hI
 obtain⟨us,R₁,q1,q2,q3,q4⟩:=hv.open hI1
 have hI2:DJ w g (.box rv 78 (eBrn x)::(R₁++LF)):=q3.perm B8
 obtain⟨uv,p1,p2⟩:=DJ.boxRaw hI2
 have hI3:DJ w g ((R₁++ [.raw rv (.cells uv.toArray 78 (0,0))])++LF):=p2.perm (by rw[AJ];exact B8.symm)
 rw[AR]at q2
 have huv:uv.length=2:=by rw[p1.len];exact(inferInstance:Kz eBrn 2).out x
 have hbl1:Al (R₁++ [.raw rv (.cells uv.toArray 78 (0,0))]++LF)=Al (R++ [.box rv 78 (eBrn x)]++LF):=by
  simp only[Al,CB]at q4 ⊢
  rw[q4];rfl
 have key:=Ua v l.length us R₁ q2 i hi hn rv uv.toArray (by simpa using huv) (by simpa using p1.one (fun c hc=>(inferInstance:Gw eBrn).out x c hc)) (q1.one (hfl l))
 unfold B2 at key
 refine(key vs w g LF hvv hI3).mono ?_
 rintro e w' ⟨v',x',g',L',rfl,k2,k3,k4,k5,v2,R',rfl,k6,rfl⟩
 have k3':DJ w' g' (.raw rv (.cells uv.toArray 78 (0,0))::(R'++LF)):=k3.perm (by rw[AJ];exact B8)
 have k7:DJ w' g' (.box rv 78 (eBrn x)::(R'++LF)):=DJ.rawBox k3' (by simpa using p1.mono k4.le)
 have k8:DJ w' g' (R'++([.box rv 78 (eBrn x)]++LF)):=k7.perm B8.symm
 obtain⟨f1,f2⟩:=JM (f:=eBrn) (sz:=2) l i hi
 have hus:E8 g' (us.take (i*2)++uv++us.drop (i*2)) ((l.take i++x::l.drop i).map eBrn).flatten:=by
  have h1:=(q1.mono k4.le).take (i*2)
  have h2:=(q1.mono k4.le).drop (i*2)
  rw[f1]at h1
  rw[f2]at h2
  rw[Az,BG,C8,CD,←AJ]
  exact(h1.append (p1.mono k4.le)).append h2
 have hln:((l.take i++x::l.drop i).map eBrn).length=l.length+1:=by
  simp only[AR,A8,AV,AH,Ao];omega
 obtain⟨R2,z1,z2,z3⟩:=E9.close (xs:=(l.take i++x::l.drop i).map eBrn) hln (fun e he=>by obtain⟨a,_,rfl⟩:=AU.1 he;exact(inferInstance:Kz eBrn 2).out a) k6 hus k8
 have hbl2:Al (R2++ [.box rv 78 (eBrn x)]++LF)=Al (R'++ [.raw rv (.cells uv.toArray 78 (0,0))]++LF):=by
  simp only[Al,CB]at z3 ⊢
  rw[z3];rfl
 refine⟨v',.raw v2,g',R2++ [.box rv 78 (eBrn x)],rfl,k2,by rw[AJ];exact z2,hbl1 ▸ k4,fun b hb hlt=>?_,v2,R2,rfl,z1,rfl⟩
 rw[hbl2]at hb
 rw[←hbl1]
 exact k5 b hb hlt
instance xn:WE Tryz.prog 25 80 3 56:=⟨by
 have h2:(Tryz.prog.info? 80).map (fun i=>(i.size,i.bytes,i.zero.isSome,(i.zero.getD undef).cells.size))=some (3,56,true,3):=by kernel_rfl
 obtain⟨i,hi,e⟩:=Bj.1 h2
 simp only[Prod.mk.injEq]at e
 obtain⟨e1,e2,e3,e4⟩:=e
 obtain⟨z,hz⟩:=E5.1 e3
 rw[hz]at e4
 exact⟨i,z,by kernel_rfl,hi,e1,e2,hz,e4,by decide,by decide⟩⟩
theorem Rq (F:Nat) (cs:List PV) (p:Tgg→Bool) [hF:Ax Tryz.prog F] [hp: ∀ d,Bl Tryz.prog F (.agg (eTgg d)::cs) (.raw (.bool (p d)))] (l:List Tgg) (t:CW):
  Bl Tryz.prog 145 [.slice (l.map eTgg) t,.clo F cs] (.raw (.int .i64 (Ea p l))):=⟨by
 refine Ak Tryz.func145 Tryz.ntmps145 rfl (rs:= [.tmp 4]) rfl rfl fun hb LF=>?_
 have hlen:l.length≤140737488355328:=(hb (.slice (l.map eTgg) t) (by simp)).slice_map
 refine wf ?_
 refine AW (σ:=Nat) (fun k=>k≤l.length∧(l.take k).any p=false) (fun k=>l.length - k) (fun k=> [(0,.slice (l.map eTgg) t),(1,.clo F cs),(7,.raw (.int .i64 l.length)),(8,.raw (.int .i64 k))]) (fun _=>LF) 0 ⟨by simp,by simp⟩ ⟨rfl,rfl,rfl,rfl⟩ (.refl _) ?_
 rintro k ⟨hk,hn⟩
 refine wf ?_
 refine A1 (fun hc=>?_) (fun hc=>?_)
 ·have hlt:k < l.length:=by omega
  refine wf ?_
  refine AO (fun h=>?_) (fun h=>?_)
  ·refine wf ?_
   refine Ah (.of_eq ?_)
   have e:l.any p=true:=BW.2 ⟨l[k],AK hlt,h⟩
   rw[Ea,if_pos e,Gz hlt hn h]
  ·refine wf ?_
   refine⟨k+1,⟨by omega,?_⟩,by dsimp only;omega,⟨rfl,rfl,rfl,rfl⟩,.refl _⟩
   rw[A6 hlt,FH,hn]
   simp[h]
 ·refine wf ?_
  refine Ah (.of_eq ?_)
  rw[AA (by omega)]at hn
  rw[Ea,if_neg (by simp[hn])]⟩
theorem Ny (l:List Tgg) (t:CW) (hl:l.length≤1000000):B2 Tryz.prog 92 [.slice (l.map eTgg) t] [] (fun r L'=> ∃ v,r= .raw v∧E9 80 3 v (l.map eTgg) L'):=by
 refine Bw Tryz.func92 rfl Tryz.ntmps92 (rs:= [.tmp 2]) rfl rfl fun hb LF=>?_
 rw[BK]
 refine wf ?_
 refine SJ rfl fun b hnil=>?_
 refine wf ?_
 refine AO (fun h=>?_) (fun h=>?_)
 ·have h0:l= []:=by simpa using hnil h
  subst h0
  refine DU ?_
  refine CC (by kernel_rfl) ?_
  refine Jd ?_
  refine AN ?_
  refine wf ?_
  exact⟨trivial,_,[],.cons (.tmp 2) .nil,.refl _,_,rfl,.nil none (by simp)⟩
 refine GH ?_
 refine DU ?_
 refine CC (by kernel_rfl) ?_
 refine SL (vf:=fun(_:Tgg)=> []) fun v0 hv0=>?_
 have hv1:E9 80 3 v0 [] []:=by
  generalize hR:([]:List Res)=R at hv0
  generalize hn:([]:List Tgg).length=n at hv0
  unfold K2 at hv0
  rw[hn]at hv0
  cases hv0 with
  |nil o ho=>exact .nil o ho
  |row _ _ _ _=>cases hR
 refine wf ?_
 refine R4 (f:=eTgg) (R:= []) (LF:=LF) (fun R'=>R'++LF) rfl rfl hv1 (.refl _) (fun R'=> .refl _) (by simp only[Aa];omega) (by simp only[Aa];omega) fun v R' hv=>?_
 refine wf ?_
 refine wf ?_
 rw[BK]at hv
 exact⟨trivial,_,R',.cons (.tmp 2) .nil,.refl _,v,rfl,hv⟩
theorem UZ (v:Value) (n:Nat) (us:List Value) (R:List Res) (hv:IZ 80 3 v n us R) (i:Nat) (hi:i≤n) (hn:n≤1000) (rv:Nat) (cv:Array Value) (hcv:cv.size=3) (h1v: ∀ x∈cv.toList,x.oneCell'=true) (h1u: ∀ x∈us,x.oneCell'=true):
  B2 Tryz.prog 148 [.raw v,.raw (.int .i64 (i:Int)),.raw (.slice (some ⟨rv,0,none⟩) 1 1)] (R++ [.raw rv (.cells cv 80 (0,0))])
   (fun x L'=> ∃ v' R',x= .raw v'∧IZ 80 3 v' (n+1) (us.take (i*3)++cv.toList++us.drop (i*3)) R'∧L'=R'++ [.raw rv (.cells cv 80 (0,0))]):=by
 refine Bw Tryz.func148 rfl Tryz.ntmps148 (rs:= [.tmp 6]) rfl rfl fun hb LF=>?_
 have hul:=hv.len
 have hcl:cv.toList.length=3:=by simpa using hcv
 have hcat:J2 cv 0 cv.toList:=fun j hj=>by rw[B4,AZ hj]
 obtain⟨o,c,hvs⟩:=hv.slice
 have hnc:n≤c:=by cases hv<;>(injection hvs with _ _ e;omega)
 subst hvs
 refine wf ?_
 refine Sn rfl rfl hi hnc fun u=>?_
 refine wf ?_
 refine FS rfl ?_
 refine wf ?_
 refine FS rfl ?_
 refine wf ?_
 refine A1 (fun h=>?_) (fun h=>?_)
 ·have hin:i=n:=by omega
  subst hin
  refine wf ?_
  refine Wm (us:=us) (vs:=cv.toList) (R:=R) (LF:= .raw rv (.cells cv 80 (0,0))::LF) (fun R'=>R'++(.raw rv (.cells cv 80 (0,0))::LF)) rfl rfl hv (.of_eq (by simp)) (fun R'=> .refl _) (by omega) h1v ⟨cv,_,_,AI,hcat⟩ (by omega) (by omega) fun v' R' hv'=>?_
  refine wf ?_
  refine wf ?_
  refine⟨trivial,_,R'++ [.raw rv (.cells cv 80 (0,0))],.cons (.tmp 6) .nil,by rw[AJ];exact .refl _,v',R',rfl,?_,rfl⟩
  rw[AA (by omega),Cp (by omega),B6]
  exact hv'
 have hin:i < n:=by omega
 cases hv with
 |nil o ho=>omega
 |row hlc hs hu hc=>
 rename_i r cur
 have hc':cur.toList.take us.length=us:=by rw[hul];exact hc
 have hcs:cur.toList.length=c*3:=by simpa using hs
 have hia:i*3≤us.length:=by omega
 have htl:(us.take (i*3)).length=i*3:=by rw[AV];omega
 have hdl:(us.drop (i*3)).length=(n - i)*3:=by rw[Ao];omega
 refine wf ?_
 refine So rfl ?_
 refine wf ?_
 refine A1 (fun h2=>?_) (fun h2=>?_)
 ·refine wf ?_
  refine EC 0 i rfl (by omega) (by omega) (by omega) hlc (fun _ e=>by cases e) (fun _=>rfl) (fun o e=>by cases e;exact⟨_,rfl⟩) (fun e=>by cases e) ?_
  refine wf ?_
  refine aR (T₂:=3) (us:=us.take (i*3)) (n:=i) (m:=n+1 - i) (c:=c) (o:=0) (cur:=cur) (by kernel_rfl) rfl (by show PV.raw (Value.int .i64 ((n:Int)+1 - i))=PV.raw (Value.int .i64 ((n+1 - i:Nat):Int));congr 2;omega) AI rfl htl (Mx hc' _) (by omega) (by omega) (by omega) (by omega) fun r' nc zs hnc hzl=>?_
  have e1:i+(n+1 - i)=n+1:=by omega
  rw[e1]at hnc ⊢
  have hz37:cv.toList.length+(us.length - i*3)≤zs.length:=by
   rw[A8,htl]at hzl
   have:(n+1)*3≤nc*3:=Au _ hnc
   omega
  refine wf ?_
  refine wf ?_
  refine EC i (n+1) rfl (by omega) hnc (by omega) hnc (fun o e=>by cases e;exact⟨_,rfl⟩) (fun e=>by cases e) (fun _ e=>by cases e) (fun _=>rfl) ?_
  refine wf ?_
  refine Hv (r:=r') (cur:=(us.take (i*3)++zs).toArray) cv.toList (fun c=>c::([.raw r (.cells cur 80 (0,0))]++ [.raw rv (.cells cv 80 (0,0))]++LF)) rfl rfl (.refl _) (fun c=> .refl _) (by rw[show Nat.min 1 (n+1 - i)=1 by show min 1 (n+1 - i)=1;omega];omega) h1v (by simp only[BH,A8,htl];omega) ⟨cv,_,_,AD _ (AD _ AI),hcat⟩ ?_
  rw[show 0+i*3=i*3 from B4 _]
  rw[show(us.take (i*3)++zs).toArray.toList=us.take (i*3)++zs from rfl]
  refine AN ?_
  refine wn ?_
  refine BZ 8 ?_ ?_
  ·decide+kernel
  refine wf ?_
  refine EC (i+1) (n+1) rfl (by omega) hnc (by omega) hnc (fun o e=>by cases e;exact⟨_,rfl⟩) (fun e=>by cases e) (fun _ e=>by cases e) (fun _=>rfl) ?_
  refine wf ?_
  refine EC i n rfl (by omega) (by omega) (by omega) hlc (fun o e=>by cases e;exact⟨_,rfl⟩) (fun e=>by cases e) (fun _ e=>by cases e) (fun _=>rfl) ?_
  refine wf ?_
  have hsp:(CA (us.take (i*3)++zs) (i*3) cv.toList).length=nc*3:=by
   rw[E7 (by rw[A8,htl];omega),hzl]
  have hnz:(n+1)*3≤nc*3:=Au _ hnc
  refine Hv (r:=r') (cur:=(CA (us.take (i*3)++zs) (i*3) cv.toList).toArray) (us.drop (i*3)) (fun c=>c::([.raw r (.cells cur 80 (0,0))]++ [.raw rv (.cells cv 80 (0,0))]++LF)) rfl rfl (.refl _) (fun c=> .refl _) (by rw[show Nat.min (n - i) (n+1 - (i+1))=n - i by show min (n - i) (n+1 - (i+1))=n - i;omega];exact hdl) (fun x hx=>h1u x (Di hx)) (by rw[BH,hsp,hdl];omega) ⟨cur,_,_,AD _ AI,by rw[B4];exact Fk hc' _⟩ ?_
  rw[show 0+(i+1)*3=(i+1)*3 from B4 _]
  rw[show(CA (us.take (i*3)++zs) (i*3) cv.toList).toArray.toList=CA (us.take (i*3)++zs) (i*3) cv.toList from rfl]
  refine wf ?_
  refine wf ?_
  refine⟨trivial,_,[.raw r' (.cells (CA (CA (us.take (i*3)++zs) (i*3) cv.toList) ((i+1)*3) (us.drop (i*3))).toArray 80 (0,0))]++ [.raw rv (.cells cv 80 (0,0))],.cons (.tmp 6) .nil,.cons_cons _ (.cons _ (.refl _)),_,_,rfl,.row hnc ?_ ?_ ?_,rfl⟩
  ·rw[BH,E7 (by rw[hsp,hdl];omega),hsp]
  ·rw[JE hia,hul];omega
  ·have e3:=Nt (us:=us) (cv:=cv.toList) (zs:=zs) hia hz37
   rw[hcl,hul,show i*3+3=(i+1)*3 by omega,show n*3+3=(n+1)*3 by omega]at e3
   exact e3
 have hroom:n+1≤c:=by omega
 have hnz:(n+1)*3≤c*3:=Au _ hroom
 refine wf ?_
 refine EC 0 (n+1) rfl (by omega) hroom (by omega) hlc (fun _ e=>by cases e) (fun _=>rfl) (fun o e=>by cases e;exact⟨_,rfl⟩) (fun e=>by cases e) ?_
 refine wf ?_
 refine EC (i+1) (n+1) rfl (by omega) (by omega) (by omega) (by omega) (fun o e=>by cases e;exact⟨_,rfl⟩) (fun e=>by cases e) (fun _ e=>by cases e) (fun _=>rfl) ?_
 refine PE (f:=184) (T:=25) (B:=4) (L':=LF) Tryz.func184 (by kernel_rfl) (by kernel_rfl) (by kernel_rfl) (by kernel_rfl) rfl rfl (.swap _ _ _) (by omega) ?_
 refine wo ?_
 refine AN ?_
 refine wn ?_
 refine BZ 8 ?_ ?_
 ·decide+kernel
 refine wf ?_
 refine EC (i+1) (n+1) rfl (by omega) (by omega) (by omega) (by omega) (fun o e=>by cases e;exact⟨_,rfl⟩) (fun e=>by cases e) (fun _ e=>by cases e) (fun _=>rfl) ?_
 refine wf ?_
 refine EC i (n+1) rfl (by omega) (by omega) (by omega) (by omega) (fun o e=>by cases e;exact⟨_,rfl⟩) (fun e=>by cases e) (fun _ e=>by cases e) (fun _=>rfl) ?_
 refine wf ?_
 refine Hv (r:=r) (cur:=cur) (us.drop (i*3)) (fun c=>c::([.raw rv (.cells cv 80 (0,0))]++LF)) rfl rfl (.refl _) (fun c=> .refl _) (by rw[hdl];congr 1;show n - i=min _ _;omega) (fun x hx=>h1u x (Di hx)) (by rw[hs,hdl];omega) ⟨cur,_,_,AI,by rw[show 0+0*3+i*3=i*3 by omega];exact Fk hc' _⟩ ?_
 rw[show 0+0*3+(i+1)*3=(i+1)*3 by omega]
 have hsp:(CA cur.toList ((i+1)*3) (us.drop (i*3))).length=c*3:=by
  rw[E7 (by rw[hcs,hdl];omega),hcs]
 refine AN ?_
 refine wf ?_
 refine EC i (n+1) rfl (by omega) (by omega) (by omega) (by omega) (fun o e=>by cases e;exact⟨_,rfl⟩) (fun e=>by cases e) (fun _ e=>by cases e) (fun _=>rfl) ?_
 refine wf ?_
 refine Hv (r:=r) (cur:=(CA cur.toList ((i+1)*3) (us.drop (i*3))).toArray) cv.toList (fun c=>c::([.raw rv (.cells cv 80 (0,0))]++LF)) rfl rfl (.refl _) (fun c=> .refl _) (by rw[hcl];show 3=min 1 _*3;omega) h1v (by rw[BH,hsp,hcl];omega) ⟨cv,_,_,AD _ AI,hcat⟩ ?_
 rw[show 0+0*3+i*3=i*3 by omega,show(CA cur.toList ((i+1)*3) (us.drop (i*3))).toArray.toList=CA cur.toList ((i+1)*3) (us.drop (i*3)) from rfl]
 refine AN ?_
 refine wf ?_
 refine⟨trivial,_,[.raw r (.cells (CA (CA cur.toList ((i+1)*3) (us.drop (i*3))) (i*3) cv.toList).toArray 80 (0,0))]++ [.raw rv (.cells cv 80 (0,0))],.cons (.tmp 6) .nil,.refl _,_,_,rfl,.row hroom ?_ ?_ ?_,rfl⟩
 ·rw[BH,E7 (by rw[hsp,hcl];omega),hsp,UI]
 ·rw[JE hia,hul];omega
 ·have e3:=MQ (us:=us) (cv:=cv.toList) (X:=cur.toList) hia (by omega) hc'
  rw[hcl,hul,show i*3+3=(i+1)*3 by omega,show n*3+3=(n+1)*3 by omega]at e3
  exact e3
theorem QS (v:Value) (l:List Tgg) (R:List Res) (hv:E9 80 3 v (l.map eTgg) R) (i:Nat) (hi:i≤l.length) (hn:l.length≤1000) (rv:Nat) (x:Tgg):
  B2 Tryz.prog 148 [.raw v,.raw (.int .i64 (i:Int)),.raw (.slice (some ⟨rv,0,none⟩) 1 1)] (R++ [.box rv 80 (eTgg x)])
   (fun r L'=> ∃ v' R',r= .raw v'∧E9 80 3 v' ((l.take i++x::l.drop i).map eTgg) R'∧L'=R'++ [.box rv 80 (eTgg x)]):=by
 have hfl: ∀ (m:List Tgg),Jl (m.map eTgg).flatten:=fun m c hc=>by
  obtain⟨e,he,hce⟩:=Hd.1 hc
  obtain⟨a,_,rfl⟩:=AU.1 he
  exact(inferInstance:Gw eTgg).out a c hce
 unfold B2
 intro vs w g LF hvv hI
 have hI1:DJ w g (R++([.box rv 80 (eTgg x)]++LF)):=by rw[←AJ];exact hI
 obtain⟨us,R₁,q1,q2,q3,q4⟩:=hv.open hI1
 have hI2:DJ w g (.box rv 80 (eTgg x)::(R₁++LF)):=q3.perm B8
 obtain⟨uv,p1,p2⟩:=DJ.boxRaw hI2
 have hI3:DJ w g ((R₁++ [.raw rv (.cells uv.toArray 80 (0,0))])++LF):=p2.perm (by rw[AJ];exact B8.symm)
 rw[AR]at q2
 have huv:uv.length=3:=by rw[p1.len];exact(inferInstance:Kz eTgg 3).out x
 have hbl1:Al (R₁++ [.raw rv (.cells uv.toArray 80 (0,0))]++LF)=Al (R++ [.box rv 80 (eTgg x)]++LF):=by
  simp only[Al,CB]at q4 ⊢
  rw[q4];rfl
 have key:=UZ v l.length us R₁ q2 i hi hn rv uv.toArray (by simpa using huv) (by simpa using p1.one (fun c hc=>(inferInstance:Gw eTgg).out x c hc)) (q1.one (hfl l))
 unfold B2 at key
 refine(key vs w g LF hvv hI3).mono ?_
 rintro e w' ⟨v',x',g',L',rfl,k2,k3,k4,k5,v2,R',rfl,k6,rfl⟩
 have k3':DJ w' g' (.raw rv (.cells uv.toArray 80 (0,0))::(R'++LF)):=k3.perm (by rw[AJ];exact B8)
 have k7:DJ w' g' (.box rv 80 (eTgg x)::(R'++LF)):=DJ.rawBox k3' (by simpa using p1.mono k4.le)
 have k8:DJ w' g' (R'++([.box rv 80 (eTgg x)]++LF)):=k7.perm B8.symm
 obtain⟨f1,f2⟩:=JM (f:=eTgg) (sz:=3) l i hi
 have hus:E8 g' (us.take (i*3)++uv++us.drop (i*3)) ((l.take i++x::l.drop i).map eTgg).flatten:=by
  have h1:=(q1.mono k4.le).take (i*3)
  have h2:=(q1.mono k4.le).drop (i*3)
  rw[f1]at h1
  rw[f2]at h2
  rw[Az,BG,C8,CD,←AJ]
  exact(h1.append (p1.mono k4.le)).append h2
 have hln:((l.take i++x::l.drop i).map eTgg).length=l.length+1:=by
  simp only[AR,A8,AV,AH,Ao];omega
 obtain⟨R2,z1,z2,z3⟩:=E9.close (xs:=(l.take i++x::l.drop i).map eTgg) hln (fun e he=>by obtain⟨a,_,rfl⟩:=AU.1 he;exact(inferInstance:Kz eTgg 3).out a) k6 hus k8
 have hbl2:Al (R2++ [.box rv 80 (eTgg x)]++LF)=Al (R'++ [.raw rv (.cells uv.toArray 80 (0,0))]++LF):=by
  simp only[Al,CB]at z3 ⊢
  rw[z3];rfl
 refine⟨v',.raw v2,g',R2++ [.box rv 80 (eTgg x)],rfl,k2,by rw[AJ];exact z2,hbl1 ▸ k4,fun b hb hlt=>?_,v2,R2,rfl,z1,rfl⟩
 rw[hbl2]at hb
 rw[←hbl1]
 exact k5 b hb hlt
end Go.Proofs
namespace Go.Q
open Go
def Hz (a b:Str):Bool:=Go.Op.bytesLess a b
theorem Ta (a:UInt8) (x:Str) (b:UInt8) (y:Str):Hz (a::x) (b::y)=(decide (a < b)||(a==b&&Hz x y)):=rfl
theorem dR (a:Str):Hz a []=false:=by cases a<;>rfl
theorem Kk: ∀ a:Str,Hz a a=false
 | []=>rfl
 |a::x=>by
  rw[Ta,Kk x]
  have: ¬a < a:=by rw[UInt8.lt_iff_toNat_lt];omega
  simp[this]
theorem Lx: ∀ {a b c:Str},Hz a b=true→Hz b c=true→Hz a c=true
 |_,_,[],_,h=>by rw[dR]at h;cases h
 |_,[],_::_,h,_=>by rw[dR]at h;cases h
 | [],_::_,_::_,_,_=>rfl
 |a::x,b::y,c::z,h1,h2=>by
  rw[Ta]at h1 h2 ⊢
  simp only[UM,AB,Bu,beq_iff_eq,UInt8.lt_iff_toNat_lt]at h1 h2 ⊢
  rcases h1 with h1|⟨rfl,h1⟩
  ·rcases h2 with h2|⟨rfl,h2⟩
   ·exact .inl (by omega)
   ·exact .inl h1
  ·rcases h2 with h2|⟨rfl,h2⟩
   ·exact .inl h2
   ·exact .inr ⟨rfl,Lx h1 h2⟩
theorem RP: ∀ {a b:Str},a≠b→Hz a b=false→Hz b a=true
 | [],[],h,_=>absurd rfl h
 | [],_::_,_,h=>by cases h
 |_::_,[],_,_=>rfl
 |a::x,b::y,hne,h=>by
  rw[Ta]at h ⊢
  simp only[Bc,A7,UInt8.lt_iff_toNat_lt]at h
  obtain⟨h1,h2⟩:=h
  by_cases e:a=b
  ·subst e
   have hxy:x≠y:=fun e=>hne (by rw[e])
   simp only[beq_self_eq_true,Rh]at h2 ⊢
   rw[RP hxy h2];simp
  ·have:b < a:=by
    rw[UInt8.lt_iff_toNat_lt]
    have:a.toNat≠b.toNat:=fun h=>e (UInt8.toNat_inj.1 h)
    omega
   simp[this]
theorem Vk {a b:Str} (h:Hz a b=true):Hz b a=false:=by
 cases h2:Hz b a with
 |false=>rfl
 |true=>have:=Lx h h2;rw[Kk]at this;cases this
theorem kG {a b:Str} (h:Hz a b=true):a≠b:=fun e=>by rw[e,Kk]at h;cases h
section
variable {α:Type} (nm:α→Str)
def Ju (l:List α):Prop:=l.Pairwise fun x y=>Hz (nm x) (nm y)=true
def Ik (l:List α) (n:Str):Nat:=(l.takeWhile fun y=>Hz (nm y) n).length
def C3 (l:List α) (n:Str):Int:=match l.findIdx? fun y=>decide (nm y=n)with|some i=>(i:Int)|none=> -1
theorem ZU (l:List α) (n:Str): -1≤C3 nm l n∧C3 nm l n < l.length:=by
 unfold C3
 cases h:l.findIdx? fun y=>decide (nm y=n)with
 |none=>simp;omega
 |some i=>
  obtain⟨hi,_⟩:=E3.1 h
  simp;omega
theorem Df {l:List α} {n:Str}:C3 nm l n < 0↔ ∀ x∈l,nm x≠n:=by
 unfold C3
 cases h:l.findIdx? fun y=>decide (nm y=n)with
 |none=>
  rw[Jw]at h
  simp only[Int.reduceNeg,Int.neg_lt_zero_iff,Int.one_pos,true_iff]at*
  intro x hx;simpa using h x hx
 |some i=>
  obtain⟨hi,h1,_⟩:=E3.1 h
  simp only
  constructor
  ·intro h;omega
  ·intro h;exact absurd (by simpa using h1) (h _ (AK hi))
theorem Ew {l:List α} {n:Str} {i:Nat} (h:C3 nm l n=i): ∃ hi:i < l.length,nm l[i]=n∧ ∀ j (hj:j < i),nm (l[j]'(by omega))≠n:=by
 unfold C3 at h
 cases h2:l.findIdx? fun y=>decide (nm y=n)with
 |none=>rw[h2]at h;exact absurd (show(-1:Int)=i from h) (by omega)
 |some k=>
  rw[h2]at h
  have:k=i:=by have h':(k:Int)=i:=h;omega
  subst this
  obtain⟨hi,h1,h3⟩:=E3.1 h2
  exact⟨hi,by simpa using h1,fun j hj=>by simpa using h3 j hj⟩
theorem Ju.get {l:List α} (h:Ju nm l) {i j:Nat} (hij:i < j) (hj:j < l.length):Hz (nm (l[i]'(by omega))) (nm l[j])=true:=(BN.1 h) i j (by omega) hj hij
theorem Ju.inj {l:List α} (h:Ju nm l) {i j:Nat} (hi:i < l.length) (hj:j < l.length) (e:nm l[i]=nm l[j]):i=j:=by
 rcases Fp i j with h1|h1|h1
 ·exact absurd e (kG (h.get nm h1 hj))
 ·exact h1
 ·exact absurd e.symm (kG (h.get nm h1 hi))
theorem Mg (l:List α) (n:Str):Ik nm l n≤l.length:=(zB _).length_le
theorem X4 {l:List α} {n:Str} {j:Nat} (hj:j < Ik nm l n):Hz (nm (l[j]'(by have:=Mg nm l n;omega))) n=true:=by
 have h1:(l.takeWhile fun y=>Hz (nm y) n)[j]∈l.takeWhile fun y=>Hz (nm y) n:=AK hj
 have h2:=List.all_takeWhile (p:=fun y=>Hz (nm y) n) (l:=l)
 have h3:=Ar.1 h2 _ h1
 have e:(l.takeWhile fun y=>Hz (nm y) n)[j]=l[j]'(by have:=Mg nm l n;omega):=by
  have:=List.takeWhile_prefix (l:=l) fun y=>Hz (nm y) n
  exact this.getElem hj
 rw[e]at h3;exact h3
theorem dE {l:List α} {n:Str} (h:Ik nm l n < l.length):Hz (nm l[Ik nm l n]) n=false:=by
 unfold Ik at h ⊢
 induction l with
 |nil=>simp at h
 |cons x l ih=>
  by_cases hx:Hz (nm x) n=true
  ·simp only[List.takeWhile_cons,hx,if_true,AH]at h ⊢
   exact ih (by omega)
  ·simp only[List.takeWhile_cons,hx,BQ,if_false,Aa,B9]
theorem o8 {l:List α} {n:Str} {k:Nat} (hk:k≤l.length) (h1: ∀ j (hj:j < k),Hz (nm (l[j]'(by omega))) n=true) (h2: ∀ h:k < l.length,Hz (nm l[k]) n=false):Ik nm l n=k:=by
 have hp:=Mg nm l n
 rcases Fp (Ik nm l n) k with h|h|h
 ·have:=dE nm (l:=l) (n:=n) (by omega)
  rw[h1 _ h]at this;cases this
 ·exact h
 ·have:=X4 nm h
  rw[h2 (by omega)]at this;cases this
def Dw (l:List α) (x:α):List α:=
 let k:=Ik nm l (nm x)
 if(∃ h:k < l.length,nm l[k]=nm x)then l.take k++x::l.drop (k+1)else l.take k++x::l.drop k
theorem GY {l:List α} (ha:Ju nm l) {x:α} {i:Nat} (hi:i < l.length) (e:nm l[i]=nm x):Dw nm l x=l.set i x:=by
 have hk:Ik nm l (nm x)=i:=o8 nm (by omega) (fun j hj=>by rw[←e];exact ha.get nm hj hi) fun _=>by rw[e];exact Kk _
 unfold Dw
 simp only[hk]
 rw[if_pos ⟨hi,e⟩,H0,if_pos hi]
theorem O9 {l:List α} {x:α} (h: ∀ y∈l,nm y≠nm x):Dw nm l x=l.take (Ik nm l (nm x))++x::l.drop (Ik nm l (nm x)):=by
 unfold Dw
 simp only
 rw[if_neg]
 rintro⟨hk,e⟩
 exact h _ (AK hk) e
theorem TP {l:List α} (ha:Ju nm l) {n:Str} (h: ∀ y∈l,nm y≠n):(∀ y∈l.take (Ik nm l n),Hz (nm y) n=true)∧ ∀ y∈l.drop (Ik nm l n),Hz n (nm y)=true:=by
 constructor
 ·intro y hy
  obtain⟨j,hj,rfl⟩:=AX.1 hy
  rw[AV]at hj
  rw[FA]
  exact X4 nm (by omega)
 ·intro y hy
  obtain⟨j,hj,rfl⟩:=AX.1 hy
  rw[Ao]at hj
  rw[H8]
  have h0:=dE nm (l:=l) (n:=n) (by omega)
  have h1:=RP (h _ (AK (show Ik nm l n < l.length by omega))) h0
  rcases Po j with e|e
  ·simpa [e]using h1
  ·exact Lx h1 (ha.get nm (show Ik nm l n < Ik nm l n+j by omega) (by omega))
theorem Ll {l:List α} (ha:Ju nm l) (x:α):Ju nm (Dw nm l x):=by
 by_cases h: ∀ y∈l,nm y≠nm x
 ·rw[O9 nm h]
  obtain⟨h1,h2⟩:=TP nm ha h
  refine JT.2 ⟨ha.sublist (List.take_sublist _ _),Ba.2 ⟨h2,ha.sublist (List.drop_sublist _ _)⟩,fun a ha' b hb=>?_⟩
  rcases AQ.1 hb with rfl|hb
  ·exact h1 a ha'
  ·exact Lx (h1 a ha') (h2 b hb)
 ·have: ∃ y∈l,nm y=nm x:=Dn fun h2=>h fun y hy e=>h2 ⟨y,hy,e⟩
  obtain⟨y,hy,e⟩:=this
  obtain⟨i,hi,rfl⟩:=AX.1 hy
  rw[GY nm ha hi e]
  refine BN.2 fun a b h1 h2 hab=>?_
  rw[Bm]at h1 h2
  rw[Jv,Jv]
  by_cases ea:i=a
  ·subst ea
   rw[if_pos rfl,if_neg (by omega),←e]
   exact ha.get nm hab h2
  ·rw[if_neg ea]
   by_cases eb:i=b
   ·subst eb
    rw[if_pos rfl,←e]
    exact ha.get nm hab h2
   ·rw[if_neg eb];exact ha.get nm hab h2
theorem al {l:List α} (ha:Ju nm l) {n:Str} (h: ∀ y∈l,nm y≠n):(match l.findIdx? fun y=>Hz n (nm y)with|some i=>i|none=>l.length)=Ik nm l n:=by
 obtain⟨h1,h2⟩:=TP nm ha h
 have hp:=Mg nm l n
 cases hf:l.findIdx? fun y=>Hz n (nm y)with
 |none=>
  rw[Jw]at hf
  refine(Nat.le_antisymm hp ?_).symm
  refine Nat.le_of_not_lt fun hlt=>?_
  have hm:l[Ik nm l n]∈l.drop (Ik nm l n):=AX.2 ⟨0,by rw[Ao];omega,by simp⟩
  have:=h2 _ hm
  rw[hf _ (AK hlt)]at this;cases this
 |some i=>
  obtain⟨hi,a1,a2⟩:=E3.1 hf
  show i=_
  rcases Fp i (Ik nm l n)with h'|h'|h'
  ·have:=Vk (X4 nm h')
   rw[a1]at this;cases this
  ·exact h'
  ·have hm:l[Ik nm l n]'(by omega)∈l.drop (Ik nm l n):=AX.2 ⟨0,by rw[Ao];omega,by simp⟩
   exact absurd (h2 _ hm) (a2 _ h')
end
end Go.Q
