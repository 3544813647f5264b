/- Contracts of the program: searches by closures that read a map in use; the order of a set. -/
import Derived.Test.YtpebdiofdfpooaaGreatDoorWan
import Derived.Test.YtpebdiofdfpooaaGreatDoorWam
set_option linter.unusedSimpArgs false
set_option linter.unusedVariables false
namespace Go.Proofs
open Go Go.Q
attribute [local irreducible] EB AW B2 FW
theorem aQ (F:Nat) (cs:List PV) (p:Dig→Bool) (LR:List Res) [hF:Av Tryz.prog F] (hp: ∀ d,B2 Tryz.prog F (.agg (eDig d)::cs) LR (fun r L'=>r= .raw (.bool (p d))∧L'=LR)) (l:List Dig) (t:CZ):
  B2 Tryz.prog 135 [.slice (l.map eDig) t,.clo F cs] LR (fun r L'=>r= .raw (.int .i64 (EK p l))∧L'=LR):=by
 refine Bt Tryz.func135 rfl Tryz.ntmps135 (rs:= [.tmp 4]) rfl rfl fun hb LF=>?_
 have hlen:l.length≤140737488355328:=(hb (.slice (l.map eDig) t) (by simp)).slice_map
 refine wf ?_
 refine AV (σ:=Nat) (fun k=>k≤l.length∧(l.take k).any p=false) (fun k=>l.length - k) (fun k=> [(0,.slice (l.map eDig) t),(1,.clo F cs),(7,.raw (.int .i64 l.length)),(8,.raw (.int .i64 k))]) (fun _=>LR++LF) 0 ⟨by simp,by simp⟩ ⟨rfl,rfl,rfl,rfl⟩ (.refl _) ?_
 rintro k ⟨hk,hn⟩
 refine wf ?_
 refine A1 (fun hc=>?_) (fun hc=>?_)
 ·have hlt:k < l.length:=by omega
  refine wf ?_
  refine Bn (xs:= [.tmp 15]) LR LF (f:=F) (cs:=cs) (.refl _) rfl rfl (.refl _) _ (hp l[k]) fun r L' ⟨e1,e2⟩=>?_
  subst e1 e2
  refine wf ?_
  refine wf ?_
  refine AU (fun h=>?_) (fun h=>?_)
  ·refine wf ?_
   have e:l.any p=true:=Bg.2 ⟨l[k],AO hlt,h⟩
   exact⟨trivial,_,_,.cons (.tmp 4) .nil,.refl _,by rw[EK,if_pos e,Gi hlt hn h];rfl,rfl⟩
  ·refine wf ?_
   refine⟨k+1,⟨by omega,?_⟩,by dsimp only;omega,⟨rfl,rfl,rfl,rfl⟩,.refl _⟩
   rw[A6 hlt,FE,hn]
   simp[h]
 ·refine wf ?_
  rw[AA (by omega)]at hn
  exact⟨trivial,_,_,.cons (.tmp 4) .nil,.refl _,by rw[EK,if_neg (by simp[hn])];rfl,rfl⟩
theorem Tz (F:Nat) (cs:List PV) (p:Dig→Bool) (LR:List Res) [hF:Av Tryz.prog F] (hp: ∀ d,B2 Tryz.prog F (.agg (eDig d)::cs) LR (fun r L'=>r= .raw (.bool (p d))∧L'=LR)) (l:List Dig) (t:CZ):
  B2 Tryz.prog 150 [.slice (l.map eDig) t,.clo F cs] LR (fun r L'=>r= .raw (.bool (l.any p))∧L'=LR):=by
 refine Bt Tryz.func150 rfl Tryz.ntmps150 (rs:= [.tmp 4]) rfl rfl fun hb LF=>?_
 refine wf ?_
 refine Bn (xs:= [.tmp 5,.tmp 6]) LR LF (f:=135) (cs:= []) (Bu _) rfl rfl (.refl _) _ (aQ F cs p LR hp l t) fun r L' ⟨e1,e2⟩=>?_
 subst e1 e2
 refine wf ?_
 refine wf ?_
 refine⟨trivial,_,_,.cons (.tmp 4) .nil,.refl _,?_,rfl⟩
 show PV.raw (.bool (decide (0≤EK p l)))=_
 cases h:l.any p<;>simp[EK,h]
theorem aO (F:Nat) (cs:List PV) (p:Sto→Bool) (LR:List Res) [hF:Av Tryz.prog F] (hp: ∀ d,B2 Tryz.prog F (.agg (eSto d)::cs) LR (fun r L'=>r= .raw (.bool (p d))∧L'=LR)) (l:List Sto) (t:CZ):
  B2 Tryz.prog 111 [.slice (l.map eSto) t,.clo F cs] LR (fun r L'=>r= .raw (.int .i64 (EK p l))∧L'=LR):=by
 refine Bt Tryz.func111 rfl Tryz.ntmps111 (rs:= [.tmp 4]) rfl rfl fun hb LF=>?_
 have hlen:l.length≤140737488355328:=(hb (.slice (l.map eSto) t) (by simp)).slice_map
 refine wf ?_
 refine AV (σ:=Nat) (fun k=>k≤l.length∧(l.take k).any p=false) (fun k=>l.length - k) (fun k=> [(0,.slice (l.map eSto) t),(1,.clo F cs),(7,.raw (.int .i64 l.length)),(8,.raw (.int .i64 k))]) (fun _=>LR++LF) 0 ⟨by simp,by simp⟩ ⟨rfl,rfl,rfl,rfl⟩ (.refl _) ?_
 rintro k ⟨hk,hn⟩
 refine wf ?_
 refine A1 (fun hc=>?_) (fun hc=>?_)
 ·have hlt:k < l.length:=by omega
  refine wf ?_
  refine Bn (xs:= [.tmp 15]) LR LF (f:=F) (cs:=cs) (.refl _) rfl rfl (.refl _) _ (hp l[k]) fun r L' ⟨e1,e2⟩=>?_
  subst e1 e2
  refine wf ?_
  refine wf ?_
  refine AU (fun h=>?_) (fun h=>?_)
  ·refine wf ?_
   have e:l.any p=true:=Bg.2 ⟨l[k],AO hlt,h⟩
   exact⟨trivial,_,_,.cons (.tmp 4) .nil,.refl _,by rw[EK,if_pos e,Gi hlt hn h];rfl,rfl⟩
  ·refine wf ?_
   refine⟨k+1,⟨by omega,?_⟩,by dsimp only;omega,⟨rfl,rfl,rfl,rfl⟩,.refl _⟩
   rw[A6 hlt,FE,hn]
   simp[h]
 ·refine wf ?_
  rw[AA (by omega)]at hn
  exact⟨trivial,_,_,.cons (.tmp 4) .nil,.refl _,by rw[EK,if_neg (by simp[hn])];rfl,rfl⟩
theorem YU {α:Type} (p:α→Bool) (l:List α) (x:α):EK p (l++ [x])=if l.any p=true then EK p l else if p x=true then(l.length:Int)else -1:=by
 unfold EK
 rw[FE,List.findIdx_append]
 by_cases h:l.any p=true
 ·have h2:l.findIdx p < l.length:=Hn.2 (Bg.1 h)
  rw[if_pos h,if_pos h,if_pos h2,if_pos (by simp[h])]
 ·have h2: ¬l.findIdx p < l.length:=fun h'=>h (Bg.2 (Hn.1 h'))
  rw[if_neg h,if_neg h2]
  cases hx:p x with
  |true=>simp[h,hx]
  |false=>simp[h,hx]
def Ml (out:List Dig) (x:Sto):Bool:=decide (¬x.id∈out∧Ck out (BX x.patch)=true)
theorem ML {α:Type} (p:α→Bool) (l:List α): -1≤EK p l∧EK p l < l.length∧(l.any p=true→0≤EK p l):=by
 unfold EK
 by_cases h:l.any p=true
 ·rw[if_pos h]
  have:=Hn.2 (Bg.1 h)
  exact⟨by omega,by omega,fun _=>by omega⟩
 ·rw[if_neg h]
  exact⟨by omega,by omega,fun h'=>absurd h' h⟩
theorem R7 {s:List Sto} (h:Eo (ids s)) (out:List Dig):Kf s out=EK (Ml out) s:=by
 have key: ∀ n,n≤s.length→(List.range n).foldl (GQ s out) (-1)=EK (Ml out) (s.take n):=fun n=>by
  induction n with
  |zero=>intro _;rfl
  |succ n ih=>
   intro hn
   have hlt:n < s.length:=by omega
   have e0:s.getD n Sto.zero=s[n]:=by simp[List.getD,hlt]
   rw[Bm,ih (by omega),A6 hlt,YU,GQ,e0]
   obtain⟨r1,r2,r3⟩:=ML (Ml out) (s.take n)
   rw[AG]at r2
   by_cases ha:(s.take n).any (Ml out)=true
   ·have r3:=r3 ha
    generalize EK (Ml out) (s.take n)=k at*
    rw[if_pos ha,if_neg]
    rintro⟨_,h2⟩
    rcases h2 with h2|h2
    ·omega
    ·have hk:k.toNat < s.length:=by omega
     have e1:s.getD k.toNat Sto.zero=s[k.toNat]:=by simp[List.getD,hk]
     rw[e1]at h2
     have:=BQ.1 h k.toNat n (by simpa [ids]using hk) (by simpa [ids]using hlt) (by omega)
     simp only[ids,BT]at this
     exact Dig.lt_asymm this h2
   ·have hk:EK (Ml out) (s.take n)= -1:=by unfold EK;rw[if_neg ha]
    rw[if_neg ha,hk]
    by_cases he: ¬s[n].id∈out∧Ck out (BX s[n].patch)=true
    ·rw[if_pos ⟨he,.inl (by omega)⟩,if_pos (by simpa [Ml]using he),AG,DE (by omega)]
    ·rw[if_neg (fun h'=>he h'.1),if_neg (by simpa [Ml]using he)]
 have:=key s.length (B4 _)
 rwa [Cy]at this
theorem mm {s:List Sto} (h:Eo (ids s)) {x:Sto} (hx:x∈s):Dr x.id (gr s)=some (BX x.patch):=by
 have key: ∀ n,n≤s.length→ ∀ i (hi:i < s.length),i < n→Dr s[i].id (gr (s.take n))=some (BX s[i].patch):=fun n=>by
  induction n with
  |zero=>intro _ i _ h';omega
  |succ n ih=>
   intro hn i hi hin
   have hlt:n < s.length:=by omega
   rw[cH hlt,K4]
   by_cases e:i=n
   ·subst e;rw[if_pos rfl]
   ·have hp:=BQ.1 h i n (by simpa [ids]using hi) (by simpa [ids]using hlt) (by omega)
    simp only[ids,BT]at hp
    rw[if_neg (fun e'=>Dig.lt_irrefl _ (e' ▸ hp))]
    exact ih (by omega) i hi (by omega)
 obtain⟨i,hi,rfl⟩:=Ak.1 hx
 have:=key s.length (B4 _) i hi hi
 rwa [Cy]at this
theorem Zw (m:Nat) (done:List (Dig × Bool)) (d:Dig):B2 Tryz.prog 154 [.agg (eDig d),.pt [.raw (.map (some m))] 0] [.map m (Cq kDig vBool done)] (fun r L'=>r= .raw (.bool (!(Dr d done).getD false))∧L'= [.map m (Cq kDig vBool done)]):=by
 refine Bt Tryz.func154 rfl Tryz.ntmps154 (rs:= [.tmp 3]) rfl rfl fun hb LF=>?_
 refine wf ?_
 exact⟨trivial,_,_,.cons (.tmp 3) .nil,.refl _,rfl,rfl⟩
def TK (G:List (Dig × List Dig)) (done:List (Dig × Bool)) (x:Sto):Bool:=!(Dr x.id done).getD false&&!(((Dr x.id G).getD []).any fun d=>!(Dr d done).getD false)
theorem dq (m:Nat) (G:List (Dig × List Dig)) (done:List (Dig × Bool)) (x:Sto):B2 Tryz.prog 153 [.agg (eSto x),.pt [.raw (.map (some m))] 0,.pt [.fmap (Cq kDig (PD eDig) G)] 0] [.map m (Cq kDig vBool done)] (fun r L'=>r= .raw (.bool (TK G done x))∧L'= [.map m (Cq kDig vBool done)]):=by
 refine Bt Tryz.func153 rfl Tryz.ntmps153 (rs:= [.tmp 4]) rfl rfl fun hb LF=>?_
 refine wf ?_
 refine Aw (fun hp=>?_) (fun hp=>?_)
 ·have h0:(Dr x.id done).getD false=false:=by simpa using hp
  refine wf ?_
  refine Bn (xs:= [.tmp 14,.tmp 15]) [.map m (Cq kDig vBool done)] LF (f:=150) (cs:= []) (Bu _) rfl rfl (.refl _) _ (Tz 154 [.pt [.raw (.map (some m))] 0] (fun d=>!(Dr d done).getD false) [.map m (Cq kDig vBool done)] (Zw m done) ((Dr x.id G).getD []) .ro) fun r L' ⟨e1,e2⟩=>?_
  subst e1 e2
  refine wf ?_
  refine wf ?_
  exact⟨trivial,_,_,.cons (.tmp 4) .nil,.refl _,by rw[TK,h0];rfl,rfl⟩
 ·have h0:(Dr x.id done).getD false=true:=by simpa using hp
  refine wf ?_
  exact⟨trivial,_,_,.cons (.tmp 4) .nil,.refl _,by rw[TK,h0];rfl,rfl⟩
theorem aR {α:Type} {p q:α→Bool}: ∀ {l:List α},(∀ x∈l,p x=q x)→EK p l=EK q l:=fun {l} h=>by
 have h1:l.any p=l.any q:=by
  rw[IA,Bg,Bg]
  exact⟨fun⟨x,hx,e⟩=>⟨x,hx,(h x hx) ▸ e⟩,fun⟨x,hx,e⟩=>⟨x,hx,(h x hx).symm ▸ e⟩⟩
 have h2:l.findIdx p=l.findIdx q:=by
  clear h1
  induction l with
  |nil=>rfl
  |cons x l ih=>
   rw[QI,QI,h x (by simp),ih fun y hy=>h y (AD _ hy)]
 unfold EK
 rw[h1,h2]
theorem nN {s:List Sto} (h:Eo (ids s)) {done:List (Dig × Bool)} {out:List Dig} (hm:KR done out) {x:Sto} (hx:x∈s):TK (gr s) done x=Ml out x:=by
 unfold TK Ml
 rw[hm x.id,mm h hx,BO]
 have e:((BX x.patch).any fun d=>!(Dr d done).getD false)=!Ck out (BX x.patch):=by
  rw[Ck,x9]
  congr 1
  funext d
  rw[hm d]
 rw[e,Bool.not_not]
 by_cases h1:x.id∈out<;>simp[h1]
set_option maxHeartbeats 2000000 in
theorem dp (s:List Sto) (t:CZ) (hg:DX s) (ha:Eo (ids s)):Bj Tryz.prog 103 [.slice (s.map eSto) t] (.slice ((Fv s).map eDig) .ro):=⟨by
 have h8:=hg.1
 have i1:B0 (DX s):=⟨hg⟩
 refine Aj Tryz.func103 Tryz.ntmps103 rfl (rs:= [.tmp 2]) rfl rfl fun hb LF=>?_
 refine wf ?_
 refine BN fun b3=>?_
 refine wo ?_
 refine AE ?_
 refine Ag 3 ?_
 refine wf ?_
 refine QT fun m=>?_
 refine wf ?_
 refine BN fun b4=>?_
 refine wo ?_
 refine AE ?_
 refine Ag 4 ?_
 refine wf ?_
 refine Dw 32 ?_
 refine Fy (.swap _ _ _) ?_
 refine AV (σ:=Nat × List Dig × CZ × List (Dig × Bool)) (fun k=>k.1≤s.length∧k.2.1.length=k.1∧KR k.2.2.2 k.2.1∧Fv s=NA s (s.length - k.1) k.2.1) (fun k=>s.length - k.1) (fun k=> [(0,.slice (s.map eSto) t),(3,.pt [.fmap (Cq kDig (PD eDig) (gr s))] 0),(4,.pt [.raw (.map (some m))] 0),(5,.slice (k.2.1.map eDig) k.2.2.1),(11,.raw (.int .i64 s.length)),(12,.raw (.int .i64 k.1))]) (fun k=> .map m (Cq kDig vBool k.2.2.2):: .tok k.2.2.1 k.2.1.length 32::LF) (0,[],.nil,[]) ⟨by simp,rfl,fun d=>by simp[Dr],rfl⟩ ⟨rfl,rfl,rfl,rfl,rfl,rfl⟩ (.refl _) ?_
 rintro⟨k,out,u,done⟩ ⟨hk,hol,hmo,hro⟩
 dsimp only at hk hol hmo hro ⊢
 refine wf ?_
 refine A1 (fun hc=>?_) (fun hc=>?_)
 ·have hlt:k < s.length:=by omega
  have hpk:EK (TK (gr s) done) s=Kf s out:=by rw[R7 ha,aR fun x hx=>nN ha hmo hx]
  have hrs:NA s (s.length - k) out=if Kf s out < 0 then out else NA s (s.length - (k+1)) (out++ [(s.getD (Kf s out).toNat Sto.zero).id]):=by
   rw[show s.length - k=(s.length - (k+1))+1 by omega,NA]
  have hrr:=Kr (s:=s) (out:=out) s.length
  change -1≤Kf s out∧Kf s out < s.length at hrr
  refine wf ?_
  refine Bn (xs:= [.tmp 14,.tmp 15]) [.map m (Cq kDig vBool done)] (.tok u out.length 32::LF) (f:=111) (cs:= []) (Bu _) rfl rfl (.refl _) _ (aO 153 [.pt [.raw (.map (some m))] 0,.pt [.fmap (Cq kDig (PD eDig) (gr s))] 0] (TK (gr s) done) [.map m (Cq kDig vBool done)] (dq m (gr s) done) s t) fun r L' ⟨e1,e2⟩=>?_
  subst e1 e2
  rw[hpk,BM,BL]
  generalize hpp:Kf s out=i at hrr hrs ⊢
  refine wf ?_
  refine wf ?_
  refine A1 (fun hi=>?_) (fun hi=>?_)
  ·refine wf ?_
   refine Al (.ros ?_)
   rw[hro,hrs,if_pos (by omega)]
  ·obtain⟨j,rfl⟩: ∃ j:Nat,i=(j:Int):=⟨i.toNat,by omega⟩
   have hj:j < s.length:=by omega
   rw[if_neg hi,Br,show s.getD j Sto.zero=s[j] by simp[List.getD,hj]]at hrs
   refine wn ?_
   refine BR 6 ?_ ?_
   ·decide+kernel
   refine wf ?_
   refine QL fun u'=>?_
   refine⟨(k+1,out++ [s[j].id],u',HJ s[j].id true done),⟨by dsimp only;omega,by dsimp only;rw[A7,hol];rfl,hmo.add _,by dsimp only;rw[hro,hrs]⟩,by dsimp only;omega,⟨rfl,rfl,rfl,rfl,rfl,rfl⟩,.refl _⟩
 ·have hkk:k=s.length:=by omega
  refine wf ?_
  refine Al (.ros ?_)
  rw[hro,show s.length - k=0 by omega,NA]⟩
end Go.Proofs
namespace Go.Proofs
open Go Go.Q
structure P6 (s:List Sto) (r:Dig→Nat):Prop where
 asc:Eo (ids s)
 close: ∀ x∈s,∀ d∈BX x.patch,d∈ids s
 rank: ∀ x∈s,∀ d∈BX x.patch,r d < r x.id
theorem P6.pick {s:List Sto} {r:Dig→Nat} (h:P6 s r) {out:List Dig} (hlt:out.length < s.length):0≤Kf s out:=by
 rw[R7 h.asc]
 refine(ML (Ml out) s).2.2 ?_
 have hmiss: ∃ x∈s,x.id∉out:=FH fun hn=>by
  have hall: ∀ d∈ids s,d∈out:=fun d hd=>by
   obtain⟨x,hx,rfl⟩:=AX.1 hd
   exact FH fun h'=>hn ⟨x,hx,h'⟩
  have:=FJ h.asc.nodup (m:=out) hall
  rw[E6]at this;omega
 have key: ∀ n,∀ x∈s,x.id∉out→r x.id=n→ ∃ y∈s,Ml out y=true:=fun n=>by
  induction n using Nat.strongRecOn with
  |_ n ih=>
   intro x hx hxo hn
   by_cases ha: ∀ d∈BX x.patch,d∈out
   ·exact⟨x,hx,Bh ⟨hxo,B5.2 fun d hd=>Bh (ha d hd)⟩⟩
   ·obtain⟨d,hd,hdo⟩: ∃ d∈BX x.patch,d∉out:=FH fun hn=>ha fun d hd=>FH fun h'=>hn ⟨d,hd,h'⟩
    obtain⟨y,hy,rfl⟩:=AX.1 (h.close x hx d hd)
    exact ih (r y.id) (hn ▸ h.rank x hx _ hd) y hy hdo rfl
 obtain⟨x,hx,hxo⟩:=hmiss
 obtain⟨y,hy,he⟩:=key _ x hx hxo rfl
 exact Bg.2 ⟨y,hy,he⟩
theorem P6.order {s:List Sto} {r:Dig→Nat} (h:P6 s r):(Fv s).length=s.length:=by
 have key: ∀ n out,out.length+n=s.length→(NA s n out).length=s.length:=fun n=>by
  induction n with
  |zero=>intro out ho;rw[NA];omega
  |succ n ih=>
   intro out ho
   have hp:=h.pick (out:=out) (by omega)
   rw[NA,if_neg (by omega)]
   exact ih _ (by rw[A7,CQ];omega)
 exact key _ [] (by simp)
theorem TR {s:List Sto} (v:Cg s):En s=0:=by
 have h8:=v.close.1.1
 have h1:Aq (El s) (List.range s.length)=0:=CN fun i hi=>by
  have hi':i < s.length:=by simpa using hi
  have e0:s.getD i Sto.zero=s[i]:=by simp[List.getD,hi']
  obtain⟨a1,a2⟩:=v.id s[i] (AO hi')
  rw[DW,El,e0,if_neg (by simp[a1]),if_neg (by simp[a2]),if_neg]
  rintro⟨h1,h2⟩
  have hi0:0 < i:=by omega
  have e1:s.getD (i - 1) Sto.zero=s[i - 1]'(by omega):=by
   have h':i - 1 < s.length:=by omega
   simp[List.getD,h']
  have hp:=BQ.1 v.asc (i - 1) i (by simp[ids];omega) (by simpa [ids]using hi') (by omega)
  simp only[ids,BT]at hp
  rw[e1,a2]at h2
  have hp:DY (s[i - 1]'(by omega)).id s[i].id < 0:=hp
  omega
 have h2:s.all (fun x=>Ck (ids s) (BX x.patch))=true:=B5.2 fun x hx=>B5.2 fun d hd=>Bh (v.close.2 x hx d hd)
 have h3:=v.order
 unfold En
 rw[if_neg (by omega),if_neg (by simp[h1]),if_neg (by simp[h2]),if_neg (by omega)]
 exact CN fun i hi=>v.refs _ (AO hi)
theorem HB {s:List Sto} {C:List Dig} {x:Sto}:x∈CU s C↔x∈s∧x.id∈C:=by simp[CU]
theorem Pk {s:List Sto} {C:List Dig} {d:Dig}:d∈ids (CU s C)↔d∈ids s∧d∈C:=by
 constructor
 ·intro h
  obtain⟨x,hx,rfl⟩:=AX.1 h
  obtain⟨h1,h2⟩:=HB.1 hx
  exact⟨AX.2 ⟨x,h1,rfl⟩,h2⟩
 ·rintro⟨h1,h2⟩
  obtain⟨x,hx,rfl⟩:=AX.1 h1
  exact AX.2 ⟨x,HB.2 ⟨hx,h2⟩,rfl⟩
theorem Px (s:List Sto) (C:List Dig):(ids (CU s C)).Sublist (ids s):=(List.filter_sublist).map _
theorem Qu {C:List Dig} {d:Dig} (hd:d∈C): ∀ s:List Sto,getS (CU s C) d=getS s d
 | []=>rfl
 |x::s=>by
  by_cases hx:x.id=d
  ·have e:CU (x::s) C=x::CU s C:=by
    unfold CU;rw[KU (by simpa using hx ▸ hd)]
   rw[e,getS,getS,if_pos hx,if_pos hx]
  ·have e2:getS (x::s) d=getS s d:=by rw[getS,if_neg hx]
   by_cases hc:x.id∈C
   ·have e:CU (x::s) C=x::CU s C:=by
     unfold CU;rw[KU (by simpa using hc)]
    rw[e,e2,getS,if_neg hx,Qu hd s]
   ·have e:CU (x::s) C=CU s C:=by
     unfold CU;rw[HP (by simpa using hc)]
    rw[e,e2,Qu hd s]
theorem Tp {p:Pat} (hid:(EW p).2=0) {c:Chg} (hc:c∈p.changes) {y:Ident} (hy:y∈Qe c) (ho:Gy y=true):y.patch∈BX p:=by
 have he: ¬(Cj p).2≠0:=fun h=>by rw[EW,if_pos h]at hid;exact h hid
 rw[BX,if_neg he,Qj]
 exact .inr ⟨c,hc,AX.2 ⟨y,o6.2 ⟨hy,ho⟩,rfl⟩⟩
theorem IG {s t:List Sto} {p:Pat} {id:Dig} (hid:(EW p).2=0) (h: ∀ d∈BX p,getS s d=getS t d):FP s p id=FP t p id:=by
 refine GB fun c hc=>?_
 have hat: ∀ y∈Qe c,Gy y=true→Il s y=Il t y:=fun y hy ho=>by
  unfold Il JO
  rw[h _ (Tp hid hc hy ho)]
 have e1:Ji s c=Ji t c:=by
  unfold Ji
  split
  ·rename_i h;rw[hat _ (by simp[Qe]) h]
  ·rfl
 have e2:Mf s c=Mf t c:=by
  unfold Mf
  split
  ·rename_i h;rw[hat _ (by simp[Qe]) h]
  ·rfl
 have e3: ∀ y∈Qe c,HD s y c.file id=HD t y c.file id:=fun y hy=>by
  unfold HD
  split
  ·rfl
  ·rename_i h
   rw[hat y hy (by simpa using fun h'=>h (.inl h'))]
 have e4:Aq (OQ s c id) c.over=Aq (OQ t c id) c.over:=GB fun y hy=>by
  unfold OQ
  split
  ·rfl
  ·rename_i h
   rw[hat y (by simp[Qe,hy]) (by simpa using h)]
 unfold Mg
 rw[e1,e2,e3 _ (by simp[Qe]),e3 _ (by simp[Qe]),e4]
theorem Cg.keep {s:List Sto} (v:Cg s) {C:List Dig} (hC: ∀ x∈s,x.id∈C→ ∀ d∈BX x.patch,d∈C):Cg (CU s C):=by
 have hlen:(CU s C).length≤s.length:=CR _ _
 have hcl: ∀ x∈CU s C,∀ d∈BX x.patch,d∈ids (CU s C):=fun x hx d hd=>by
  obtain⟨h1,h2⟩:=HB.1 hx
  exact Pk.2 ⟨v.close.2 x h1 d hd,hC x h1 h2 d hd⟩
 have hasc:Eo (ids (CU s C)):=List.Pairwise.sublist (Px s C) v.asc
 refine⟨⟨⟨Cd hlen v.close.1.1,fun x hx=>v.close.1.2 x (HB.1 hx).1⟩,hcl⟩,fun x hx=>v.id x (HB.1 hx).1,hasc,?_,fun x hx=>?_⟩
 ·have hr:P6 (CU s C) (N4 s):=⟨hasc,hcl,fun x hx d hd=>v.rank (HB.1 hx).1 hd⟩
  exact Dd hr.order.symm
 ·obtain⟨h1,h2⟩:=HB.1 hx
  rw[IG (v.id x h1).1 fun d hd=>Qu (hC x h1 h2 d hd) s]
  exact v.refs x h1
theorem Qh (s:List Sto) (x:Sto):(J1 s x).Perm (x::s):=by
 unfold J1
 refine BA.trans ?_
 rw[fT]
theorem JS {s:List Sto} {x y:Sto}:y∈J1 s x↔y=x∨y∈s:=by
 rw[(Qh s x).mem_iff,AI]
theorem Jr {s:List Sto} {x:Sto} {d:Dig}:d∈ids (J1 s x)↔d=x.id∨d∈ids s:=by
 unfold ids
 rw[((Qh s x).map _).mem_iff,BH,AI]
theorem Pd (s:List Sto) (x:Sto):(J1 s x).length=s.length+1:=by
 rw[(Qh s x).length_eq,AH]
theorem cW {x:Sto}: ∀ {s:List Sto},Eo (ids s)→x.id∉ids s→ ∀ y∈s.dropWhile (fun y=>decide (DY y.id x.id < 0)),Dig.lt x.id y.id
 | [],_,_,y,hy=>by cases hy
 |z::s,ha,hx,y,hy=>by
  have ha':Eo (ids s):=(Bc.1 ha).2
  by_cases hz:DY z.id x.id < 0
  ·rw[List.dropWhile_cons_of_pos (by simpa using hz)]at hy
   exact cW ha' (fun h=>hx (AD _ h)) y hy
  ·rw[List.dropWhile_cons_of_neg (by simpa using hz)]at hy
   have hzx:Dig.lt x.id z.id:=by
    rcases Dig.tri x.id z.id with h|h|h
    ·exact h
    ·exact absurd (by rw[h];exact AK) hx
    ·exact absurd h hz
   rcases AI.1 hy with rfl|hy
   ·exact hzx
   ·exact Dig.lt_trans hzx ((Bc.1 ha).1 y.id (AX.2 ⟨y,hy,rfl⟩))
theorem bG {x:Sto}: ∀ {s:List Sto},∀ y∈s.takeWhile (fun y=>decide (DY y.id x.id < 0)),Dig.lt y.id x.id
 | [],y,hy=>by cases hy
 |z::s,y,hy=>by
  by_cases hz:DY z.id x.id < 0
  ·rw[List.takeWhile_cons_of_pos (by simpa using hz)]at hy
   rcases AI.1 hy with rfl|hy
   ·exact hz
   ·exact bG y hy
  ·rw[List.takeWhile_cons_of_neg (by simpa using hz)]at hy
   cases hy
theorem SY {s:List Sto} {x:Sto} (ha:Eo (ids s)) (hx:x.id∉ids s):Eo (ids (J1 s x)):=by
 have e:ids (J1 s x)=ids (s.takeWhile fun y=>decide (DY y.id x.id < 0))++x.id::ids (s.dropWhile fun y=>decide (DY y.id x.id < 0)):=by
  unfold J1 ids;rw[Az,BH]
 have e2:ids s=ids (s.takeWhile fun y=>decide (DY y.id x.id < 0))++ids (s.dropWhile fun y=>decide (DY y.id x.id < 0)):=by
  unfold ids;rw[←Az,fT]
 have hp:=ha
 rw[e2]at hp
 obtain⟨p1,p2,p3⟩:=Mq.1 hp
 rw[e]
 refine Mq.2 ⟨p1,Bc.2 ⟨fun d hd=>?_,p2⟩,fun a h b hb=>?_⟩
 ·obtain⟨y,hy,rfl⟩:=AX.1 hd
  exact cW ha hx y hy
 ·rcases AI.1 hb with rfl|hb
  ·obtain⟨y,hy,rfl⟩:=AX.1 h
   exact bG y hy
  ·exact p3 a h b hb
theorem Js: ∀ {s:List Sto},Eo (ids s)→ ∀ {x:Sto},x∈s→getS s x.id=some x.patch
 | [],_,x,h=>by cases h
 |y::s,ha,x,h=>by
  by_cases e:y.id=x.id
  ·rw[getS,if_pos e]
   rcases AI.1 h with rfl|h
   ·rfl
   ·have:=(Bc.1 ha).1 x.id (AX.2 ⟨x,h,rfl⟩)
    change Dig.lt y.id x.id at this
    rw[e]at this
    exact absurd this (Dig.lt_irrefl _)
  ·rw[getS,if_neg e]
   rcases AI.1 h with rfl|h
   ·exact absurd rfl e
   ·exact Js (Bc.1 ha).2 h
theorem Sw {s:List Sto} {d:Dig} (h:d∉ids s):getS s d=none:=by
 cases hg:getS s d with
 |none=>rfl
 |some p=>
  obtain⟨x,hx,rfl,_⟩:=KL hg
  exact absurd (AX.2 ⟨x,hx,rfl⟩) h
theorem JT {s:List Sto} (ha:Eo (ids s)) (d:Dig):(getS s d).isSome=decide (d∈ids s):=by
 by_cases h:d∈ids s
 ·obtain⟨x,hx,rfl⟩:=AX.1 h
  rw[Js ha hx];simp[h]
 ·rw[Sw h];simp[h]
theorem jN {s:List Sto} {x:Sto} (ha:Eo (ids s)) (hx:x.id∉ids s) {d:Dig} (hd:d≠x.id):getS (J1 s x) d=getS s d:=by
 by_cases h:d∈ids s
 ·obtain⟨y,hy,rfl⟩:=AX.1 h
  rw[Js ha hy,Js (SY ha hx) (JS.2 (.inr hy))]
 ·rw[Sw h,Sw fun h'=>(Jr.1 h').elim hd h]
structure pq (s:List Sto) (x:Sto):Prop where
 id:(EW x.patch).2=0∧(EW x.patch).1=x.id
 new:x.id∉ids s
 needs: ∀ d∈BX x.patch,d∈ids s
 refs:FP s x.patch x.id=0
 great:EA x.patch=false
theorem Cg.put {s:List Sto} (v:Cg s) {x:Sto} (f:pq s x) (hl:s.length < 200):Cg (J1 s x):=by
 have hcl: ∀ y∈J1 s x,∀ d∈BX y.patch,d∈ids (J1 s x):=fun y hy d hd=>by
  rcases JS.1 hy with rfl|hy
  ·exact Jr.2 (.inr (f.needs d hd))
  ·exact Jr.2 (.inr (v.close.2 y hy d hd))
 have hasc:=SY v.asc f.new
 have hget: ∀ d∈ids s,Go.Proofs.getS (J1 s x) d=Go.Proofs.getS s d:=fun d hd=>jN v.asc f.new fun e=>f.new (e ▸ hd)
 refine⟨⟨⟨by rw[Pd];omega,fun y hy=>?_⟩,hcl⟩,fun y hy=>?_,hasc,?_,fun y hy=>?_⟩
 ·rcases JS.1 hy with rfl|hy
  ·exact f.great
  ·exact v.close.1.2 y hy
 ·rcases JS.1 hy with rfl|hy
  ·exact f.id
  ·exact v.id y hy
 ·have hr:P6 (J1 s x) (fun d=>if d=x.id then(Fv s).length+1 else N4 s d):=by
   refine⟨hasc,hcl,fun y hy d hd=>?_⟩
   rcases JS.1 hy with rfl|hy
   ·have hne:d≠y.id:=fun e=>f.new (e ▸ f.needs d hd)
    simp only[if_true,if_neg hne]
    have:N4 s d≤(Fv s).length:=by
     unfold N4;exact List.idxOf_le_length
    omega
   ·have hne:d≠x.id:=fun e=>f.new (e ▸ v.close.2 y hy d hd)
    have hne2:y.id≠x.id:=fun e=>f.new (e ▸ AX.2 ⟨y,hy,rfl⟩)
    simp only[if_neg hne,if_neg hne2]
    exact v.rank hy hd
  exact Dd hr.order.symm
 ·rcases JS.1 hy with rfl|hy
  ·rw[IG f.id.1 fun d hd=>hget d (f.needs d hd)]
   exact f.refs
  ·rw[IG (v.id y hy).1 fun d hd=>hget d (v.close.2 y hy d hd)]
   exact v.refs y hy
theorem Cg.rAdd_ok {s:List Sto} (v:Cg s) {p:Pat} (hg:EA p=false) (h:(Ic s p).2.2=0):pq s ⟨(EW p).1,p⟩∧Ic s p=(J1 s ⟨(EW p).1,p⟩,(EW p).1,0):=by
 unfold Ic at h ⊢
 by_cases h1:(EW p).2≠0
 ·rw[if_pos h1]at h;exact absurd h h1
 rw[if_neg h1]at h ⊢
 by_cases h2:(Go.Proofs.getS s (EW p).1).isSome=true
 ·rw[if_pos h2]at h
  split at h<;>exact absurd h (by decide)
 rw[if_neg h2]at h ⊢
 by_cases h3:Ck (ids s) (BX p)=false
 ·rw[if_pos h3]at h;exact absurd h (by decide)
 rw[if_neg h3]at h ⊢
 by_cases h4:FP s p (EW p).1≠0
 ·rw[if_pos h4]at h;exact absurd h h4
 rw[if_neg h4]at h ⊢
 by_cases h5:400≤(s.length:Int)
 ·rw[if_pos h5]at h;exact absurd h (by decide)
 rw[if_neg h5]
 refine⟨⟨⟨by simpa using h1,rfl⟩,fun hn=>?_,fun d hd=>?_,by simpa using h4,hg⟩,rfl⟩
 ·rw[JT v.asc]at h2
  exact h2 (Bh hn)
 ·have h3:Ck (ids s) (BX p)=true:=by simpa using h3
  simpa using B5.1 h3 d hd
theorem cn: ∀ {u v:List Sto},Eo (ids u)→Eo (ids v)→(∀ x,x∈u↔x∈v)→u=v
 | [],[],_,_,_=>rfl
 | [],y::v,_,_,h=>absurd ((h y).2 AK) (by simp)
 |x::u,[],_,_,h=>absurd ((h x).1 AK) (by simp)
 |x::u,y::v,hu,hv,h=>by
  have pu:=Bc.1 hu
  have pv:=Bc.1 hv
  have e:x=y:=by
   rcases AI.1 ((h x).1 AK)with e|hx
   ·exact e
   ·rcases AI.1 ((h y).2 AK)with e|hy
    ·exact e.symm
    ·exact absurd (pv.1 x.id (AX.2 ⟨x,hx,rfl⟩)) (Dig.lt_asymm (pu.1 y.id (AX.2 ⟨y,hy,rfl⟩)))
  subst e
  rw[cn pu.2 pv.2 fun z=>⟨fun hz=>?_,fun hz=>?_⟩]
  ·rcases AI.1 ((h z).1 (AD _ hz))with rfl|h'
   ·exact absurd (pu.1 z.id (AX.2 ⟨z,hz,rfl⟩)) (Dig.lt_irrefl _)
   ·exact h'
  ·rcases AI.1 ((h z).2 (AD _ hz))with rfl|h'
   ·exact absurd (pv.1 z.id (AX.2 ⟨z,hz,rfl⟩)) (Dig.lt_irrefl _)
   ·exact h'
def l4 (a b:List Sto):Prop:= ∀ x∈a,∀ y∈b,x.id=y.id→x=y
def O5 (a:List Sto):List Sto→List Sto→Option (List Sto)
 |out,[]=>some out
 |out,x::b=>match getS a x.id with
  |some p=>if p=x.patch then O5 a out b else none
  |none=>O5 a (J1 out x) b
def DN (a b:List Sto):List Sto × Int:=match O5 a a b with
 |none=>([],14)
 |some u=>if 400 < u.length then([],4)else(u,0)
def Hx:List Sto→List Sto→Option (List Sto)
 |a,[]=>some a
 | [],y::b=>some (y::b)
 |x::a,y::b=>if DY x.id y.id < 0 then(Hx a (y::b)).map (x:: ·)else if DY y.id x.id < 0 then(Hx (x::a) b).map (y:: ·)else if x.patch=y.patch then(Hx a b).map (x:: ·)else none
 termination_by a b=>a.length+b.length
structure XA (a b u:List Sto):Prop where
 asc:Eo (ids u)
 mem: ∀ x,x∈u↔x∈a∨x∈b
theorem XA.uniq {a b u v:List Sto} (h:XA a b u) (h':XA a b v):u=v:=cn h.asc h'.asc fun x=>by rw[h.mem,h'.mem]
theorem XA.symm {a b u:List Sto} (h:XA a b u):XA b a u:=⟨h.asc,fun x=>by rw[h.mem,or_comm]⟩
theorem Ur {a:List Sto} {d:Dig} {p:Pat} (h:getS a d=some p):(⟨d,p⟩:Sto)∈a:=by
 obtain⟨x,hx,e1,e2⟩:=KL h
 rw[←e1,←e2];exact hx
theorem QN {a:List Sto} (ha:Eo (ids a)): ∀ (b out:List Sto),Eo (ids out)→Eo (ids b)→l4 a b→(∀ x∈b,x.id∈ids out→x.id∈ids a)→(∀ x∈a,x∈out)→ ∃ u,O5 a out b=some u∧Eo (ids u)∧ ∀ x,x∈u↔x∈out∨x∈b
 | [],out,ho,_,_,_,_=>⟨out,rfl,ho,fun x=>by simp⟩
 |y::b,out,ho,hb,hc,hd,hs=>by
  have pb:=Bc.1 hb
  have hc':l4 a b:=fun x hx z hz=>hc x hx z (AD _ hz)
  cases hg:getS a y.id with
  |some p=>
   have hm:=Ur hg
   have e:=hc _ hm y AK rfl
   have hp:p=y.patch:=by rw[←e]
   obtain⟨u,h1,h2,h3⟩:=QN ha b out ho pb.2 hc' (fun x hx=>hd x (AD _ hx)) hs
   refine⟨u,by rw[O5,hg];simp only[hp,if_true];exact h1,h2,fun x=>?_⟩
   rw[h3,AI]
   constructor
   ·rintro(h|h)
    ·exact .inl h
    ·exact .inr (.inr h)
   ·rintro(h|rfl|h)
    ·exact .inl h
    ·exact .inl (hs _ (e ▸ hm))
    ·exact .inr h
  |none=>
   have hna:y.id∉ids a:=fun h=>by
    have:=JT ha y.id
    rw[hg,Bh h]at this;cases this
   have hno:y.id∉ids out:=fun h=>hna (hd y AK h)
   obtain⟨u,h1,h2,h3⟩:=QN ha b (J1 out y) (SY ho hno) pb.2 hc' (fun x hx h=>by
    rcases Jr.1 h with e|h
    ·exact absurd (pb.1 x.id (AX.2 ⟨x,hx,rfl⟩)) (e ▸ Dig.lt_irrefl _)
    ·exact hd x (AD _ hx) h) (fun x hx=>JS.2 (.inr (hs x hx)))
   refine⟨u,by rw[O5,hg];exact h1,h2,fun x=>?_⟩
   rw[h3,JS,AI]
   constructor
   ·rintro((h|h)|h)
    ·exact .inr (.inl h)
    ·exact .inl h
    ·exact .inr (.inr h)
   ·rintro(h|h|h)
    ·exact .inl (.inr h)
    ·exact .inl (.inl h)
    ·exact .inr h
theorem Nh {a:List Sto} (ha:Eo (ids a)): ∀ (b out:List Sto),¬l4 a b→O5 a out b=none
 | [],_,h=>absurd (fun x _ y hy=>by cases hy) h
 |y::b,out,h=>by
  cases hg:getS a y.id with
  |some p=>
   by_cases hp:p=y.patch
   ·rw[O5,hg];simp only[hp,if_true]
    refine Nh ha b out fun hc=>h fun x hx z hz e=>?_
    rcases AI.1 hz with rfl|hz
    ·have:=Js ha hx
     rw[e,hg]at this
     cases x;cases z
     cases this;subst hp;cases e;rfl
    ·exact hc x hx z hz e
   ·rw[O5,hg];simp only[hp,if_false]
  |none=>
   rw[O5,hg]
   refine Nh ha b _ fun hc=>h fun x hx z hz e=>?_
   rcases AI.1 hz with rfl|hz
   ·have:=Js ha hx
    rw[e,hg]at this;cases this
   ·exact hc x hx z hz e
theorem XF {a b:List Sto} (ha:Eo (ids a)) (hb:Eo (ids b)) (hc:l4 a b): ∃ u,O5 a a b=some u∧XA a b u:=by
 obtain⟨u,h1,h2,h3⟩:=QN ha b a ha hb hc (fun _ _ h=>h) (fun _ h=>h)
 exact⟨u,h1,h2,h3⟩
theorem TZ {x:Sto} {u:List Sto} (hu:Eo (ids u)) (h: ∀ y∈u,Dig.lt x.id y.id):Eo (ids (x::u)):=
 Bc.2 ⟨fun d hd=>by obtain⟨y,hy,rfl⟩:=AX.1 hd;exact h y hy,hu⟩
theorem Hb {x:Sto} {u:List Sto} (h:Eo (ids (x::u))) {y:Sto} (hy:y∈u):Dig.lt x.id y.id:=(Bc.1 h).1 _ (AX.2 ⟨y,hy,rfl⟩)
theorem Ph: ∀ (a b:List Sto),Eo (ids a)→Eo (ids b)→l4 a b→ ∃ u,Hx a b=some u∧XA a b u
 |a,[],ha,_,_=>⟨a,by rw[Hx],ha,fun x=>by simp⟩
 | [],y::b,_,hb,_=>⟨y::b,by rw[Hx],hb,fun x=>by simp⟩
 |x::a,y::b,ha,hb,hc=>by
  have pa:=Bc.1 ha
  have pb:=Bc.1 hb
  rw[Hx]
  by_cases h1:DY x.id y.id < 0
  ·rw[if_pos h1]
   obtain⟨u,e,i⟩:=Ph a (y::b) pa.2 hb fun z hz w hw=>hc z (AD _ hz) w hw
   refine⟨x::u,by rw[e];rfl,TZ i.asc fun z hz=>?_,fun z=>?_⟩
   ·rcases(i.mem z).1 hz with hz|hz
    ·exact Hb ha hz
    ·rcases AI.1 hz with rfl|hz
     ·exact h1
     ·exact Dig.lt_trans h1 (Hb hb hz)
   ·simp only[AI,i.mem,or_assoc]
  ·rw[if_neg h1]
   by_cases h2:DY y.id x.id < 0
   ·rw[if_pos h2]
    obtain⟨u,e,i⟩:=Ph (x::a) b ha pb.2 fun z hz w hw=>hc z hz w (AD _ hw)
    refine⟨y::u,by rw[e];rfl,TZ i.asc fun z hz=>?_,fun z=>?_⟩
    ·rcases(i.mem z).1 hz with hz|hz
     ·rcases AI.1 hz with rfl|hz
      ·exact h2
      ·exact Dig.lt_trans h2 (Hb ha hz)
     ·exact Hb hb hz
    ·simp only[AI,i.mem];grind
   ·have e0:x.id=y.id:=by
     rcases Dig.tri x.id y.id with h|h|h
     ·exact absurd h h1
     ·exact h
     ·exact absurd h h2
    have exy:=hc x AK y AK e0
    subst exy
    rw[if_neg h2,if_pos rfl]
    obtain⟨u,e,i⟩:=Ph a b pa.2 pb.2 fun z hz w hw=>hc z (AD _ hz) w (AD _ hw)
    refine⟨x::u,by rw[e];rfl,TZ i.asc fun z hz=>?_,fun z=>?_⟩
    ·rcases(i.mem z).1 hz with hz|hz
     ·exact Hb ha hz
     ·exact Hb hb hz
    ·simp only[AI,i.mem];grind
 termination_by a b=>a.length+b.length
theorem Nt: ∀ (a b:List Sto),Eo (ids a)→Eo (ids b)→ ¬l4 a b→Hx a b=none
 |a,[],_,_,h=>absurd (fun x _ y hy=>by cases hy) h
 | [],y::b,_,_,h=>absurd (fun x hx=>by cases hx) h
 |x::a,y::b,ha,hb,hc=>by
  have pa:=Bc.1 ha
  have pb:=Bc.1 hb
  rw[Hx]
  by_cases h1:DY x.id y.id < 0
  ·rw[if_pos h1,Nt a (y::b) pa.2 hb fun h=>hc fun z hz w hw e=>?_]
   ·rfl
   ·rcases AI.1 hz with rfl|hz
    ·exfalso
     have hlt:Dig.lt z.id w.id:=by
      rcases AI.1 hw with rfl|hw
      ·exact h1
      ·exact Dig.lt_trans h1 (Hb hb hw)
     rw[e]at hlt;exact Dig.lt_irrefl _ hlt
    ·exact h z hz w hw e
  ·rw[if_neg h1]
   by_cases h2:DY y.id x.id < 0
   ·rw[if_pos h2,Nt (x::a) b ha pb.2 fun h=>hc fun z hz w hw e=>?_]
    ·rfl
    ·rcases AI.1 hw with rfl|hw
     ·exfalso
      have hlt:Dig.lt w.id z.id:=by
       rcases AI.1 hz with rfl|hz
       ·exact h2
       ·exact Dig.lt_trans h2 (Hb ha hz)
      rw[e]at hlt;exact Dig.lt_irrefl _ hlt
     ·exact h z hz w hw e
   ·have e0:x.id=y.id:=by
     rcases Dig.tri x.id y.id with h|h|h
     ·exact absurd h h1
     ·exact h
     ·exact absurd h h2
    rw[if_neg h2]
    by_cases hp:x.patch=y.patch
    ·rw[if_pos hp,Nt a b pa.2 pb.2 fun h=>hc fun z hz w hw e=>?_]
     ·rfl
     ·rcases AI.1 hz with rfl|hz
      ·rcases AI.1 hw with rfl|hw
       ·cases z;cases w;cases e0;cases hp;rfl
       ·exfalso
        have hlt:=Hb hb hw
        rw[←e0,e]at hlt;exact Dig.lt_irrefl _ hlt
      ·rcases AI.1 hw with rfl|hw
       ·exfalso
        have hlt:=Hb ha hz
        rw[e0,e]at hlt;exact Dig.lt_irrefl _ hlt
       ·exact h z hz w hw e
    ·rw[if_neg hp]
 termination_by a b=>a.length+b.length
theorem ml {a b:List Sto} (ha:Eo (ids a)) (hb:Eo (ids b)):Hx a b=O5 a a b:=by
 by_cases hc:l4 a b
 ·obtain⟨u,e1,h1⟩:=XF ha hb hc
  obtain⟨v,e2,h2⟩:=Ph a b ha hb hc
  rw[e1,e2,h1.uniq h2]
 ·rw[Nh ha b a hc,Nt a b ha hb hc]
theorem XA.len {a b u:List Sto} (h:XA a b u):u.length≤a.length+b.length:=by
 have:=FJ h.asc.nodup (m:=ids a++ids b) fun d hd=>by
  obtain⟨x,hx,rfl⟩:=AX.1 hd
  rcases(h.mem x).1 hx with hx|hx
  ·exact Ay.2 (.inl (AX.2 ⟨x,hx,rfl⟩))
  ·exact Ay.2 (.inr (AX.2 ⟨x,hx,rfl⟩))
 rwa [A7,E6,E6,E6]at this
theorem dX {a b:List Sto} (ha:Eo (ids a)) (hb:Eo (ids b)) (hl:a.length+b.length≤400) (hc:l4 a b): ∃ u,DN a b=(u,0)∧XA a b u:=by
 obtain⟨u,e,i⟩:=XF ha hb hc
 refine⟨u,?_,i⟩
 have:=i.len
 rw[DN,e];simp only;rw[if_neg (by omega)]
theorem Zk {a b:List Sto} (ha:Eo (ids a)) (hc: ¬l4 a b):DN a b=([],14):=by rw[DN,Nh ha b a hc]
theorem XA.sub {a b u:List Sto} (h:XA a b u) {d:Dig}:d∈ids u↔d∈ids a∨d∈ids b:=by
 constructor
 ·intro hd
  obtain⟨x,hx,rfl⟩:=AX.1 hd
  rcases(h.mem x).1 hx with hx|hx
  ·exact .inl (AX.2 ⟨x,hx,rfl⟩)
  ·exact .inr (AX.2 ⟨x,hx,rfl⟩)
 ·rintro(hd|hd)
  ·obtain⟨x,hx,rfl⟩:=AX.1 hd
   exact AX.2 ⟨x,(h.mem x).2 (.inl hx),rfl⟩
  ·obtain⟨x,hx,rfl⟩:=AX.1 hd
   exact AX.2 ⟨x,(h.mem x).2 (.inr hx),rfl⟩
theorem XA.getL {a b u:List Sto} (h:XA a b u) (ha:Eo (ids a)) {d:Dig} (hd:d∈ids a):getS u d=getS a d:=by
 obtain⟨x,hx,rfl⟩:=AX.1 hd
 rw[Js ha hx,Js h.asc ((h.mem x).2 (.inl hx))]
theorem Cg.union {a b u:List Sto} (va:Cg a) (vb:Cg b) (h:XA a b u) (hl:a.length+b.length≤200):Cg u:=by
 have hlen:=h.len
 have hcl: ∀ y∈u,∀ d∈BX y.patch,d∈ids u:=fun y hy d hd=>h.sub.2 (by
  rcases(h.mem y).1 hy with hy|hy
  ·exact .inl (va.close.2 y hy d hd)
  ·exact .inr (vb.close.2 y hy d hd))
 refine⟨⟨⟨by omega,fun y hy=>?_⟩,hcl⟩,fun y hy=>?_,h.asc,?_,fun y hy=>?_⟩
 ·rcases(h.mem y).1 hy with hy|hy
  ·exact va.close.1.2 y hy
  ·exact vb.close.1.2 y hy
 ·rcases(h.mem y).1 hy with hy|hy
  ·exact va.id y hy
  ·exact vb.id y hy
 ·have hr:P6 u (fun d=>if d∈ids a then N4 a d else(Fv a).length+1+N4 b d):=by
   refine⟨h.asc,hcl,fun y hy d hd=>?_⟩
   have hra:N4 a d≤(Fv a).length:=by unfold N4;exact List.idxOf_le_length
   by_cases hya:y∈a
   ·have h1:y.id∈ids a:=AX.2 ⟨y,hya,rfl⟩
    simp only[if_pos h1,if_pos (va.close.2 y hya d hd)]
    exact va.rank hya hd
   ·have hyb:y∈b:=((h.mem y).1 hy).resolve_left hya
    have hn:y.id∉ids a:=fun hn=>by
     obtain⟨x,hx,e⟩:=AX.1 hn
     exact hya (Od h.asc ((h.mem x).2 (.inl hx)) hy e ▸ hx)
    simp only[if_neg hn]
    have:=vb.rank hyb hd
    split<;>omega
  exact Dd hr.order.symm
 ·rcases(h.mem y).1 hy with hy|hy
  ·rw[IG (va.id y hy).1 fun d hd=>h.getL va.asc (va.close.2 y hy d hd)]
   exact va.refs y hy
  ·rw[IG (vb.id y hy).1 fun d hd=>h.symm.getL vb.asc (vb.close.2 y hy d hd)]
   exact vb.refs y hy
structure J8 (s:List Sto) (l L:List Dig):Prop where
 has: ∀ d∈l,d∈L
 sub: ∀ d∈L,d∈ids s
 asc:Eo L
 nd: ∀ d∈L,∀ n∈ndS s d,n∈L
theorem Cg.closed {s:List Sto} (v:Cg s) {l:List Dig} (hl: ∀ d∈l,d∈ids s): ∃ L,Df s l=(L,0)∧J8 s l L:=by
 have h:Ck (ids s) l=true:=B5.2 fun d hd=>Bh (hl d hd)
 have hcl: ∀ x∈ids s,∀ d∈Go.Proofs.ndS s x,d∈ids s:=fun x _ d hd=>v.close.nd x d hd
 have hm: ∀ d,d∈Jj (Go.Proofs.ndS s) s.length (C9 [] l)↔Q.Reach (Go.Proofs.ndS s) l d:=fun d=>Qm hcl hl (by rw[E6];exact B4 _)
 refine⟨Jj (Go.Proofs.ndS s) s.length (C9 [] l),by rw[Df,if_neg (by simp[h])],fun d hd=>(hm d).2 (.base hd),fun d hd=>((hm d).1 hd).in_ hcl hl,Qs (EL .nil),fun d hd n hn=>(hm n).2 (.step ((hm d).1 hd) hn)⟩
theorem J8.keep {s:List Sto} (v:Cg s) {l L:List Dig} (h:J8 s l L):Cg (CU s L):=v.keep fun x hx hc d hd=>h.nd x.id hc d (by rw[v.ndS hx];exact hd)
theorem GG {U l:List Dig}:Ck U l=true↔ ∀ d∈l,d∈U:=by simp[Ck]
def oB (l:List Dig) (i:Nat):List Dig:=(l.set i (l.getD (i+1) Dig.zero)).set (i+1) (l.getD i Dig.zero)
@[simp] theorem sZ (l:List Dig) (i:Nat):(oB l i).length=l.length:=by simp[oB]
def ZT (s:List Sto) (x:Sto):Bool:=s.all fun y=>decide (x.id∉BX y.patch)
def OM (s:List Sto):List Dig:=(s.filter (ZT s)).map (·.id)
def Gl (s:List Sto) (p q:Dig):Bool:=decide ((Df s [p]).2=0)&&(decide (q∈ids s)&&decide (q∈(Df s [p]).1))
theorem Cg.knows {s:List Sto} (v:Cg s) (p q:Dig):Gl s p q=(decide ((Df s [p]).2=0)&&decide (q∈(Df s [p]).1)):=by
 unfold Gl
 by_cases h:(Df s [p]).2=0
 ·by_cases hq:q∈(Df s [p]).1
  ·have hp:p∈ids s:=by
    unfold Df at h
    by_cases h1:Ck (ids s) [p]=false
    ·rw[if_pos h1]at h;exact absurd h (by decide)
    ·simpa [Ck]using h1
   have e:(Df s [p]).1=nU s p:=rfl
   rw[e]at hq ⊢
   have hin:q∈ids s:=by
    have h:=(v.mem_clo hp q).1 hq
    exact h.in_ (fun x _ d hd=>v.close.nd x d hd) (ids:= [p]) (fun y hy=>by rw[B9.1 hy];exact hp)
   simp[h,hq,hin]
  ·simp[hq]
 ·simp[h]
end Go.Proofs
