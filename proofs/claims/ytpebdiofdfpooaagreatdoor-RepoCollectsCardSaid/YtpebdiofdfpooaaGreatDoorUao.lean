/- Contracts of the program: searches by closures that read a map in use; the order of a set. -/
import Derived.Test.YtpebdiofdfpooaaGreatDoorUan
import Derived.Test.YtpebdiofdfpooaaGreatDoorUam
set_option linter.unusedSimpArgs false
set_option linter.unusedVariables false
namespace Go.Proofs
open Go Go.Q
attribute [local irreducible] EG AY B2 FZ
theorem bM (F:Nat) (cs:List PV) (p:Dig→Bool) (LR:List Res) [hF:Ax Tryz.prog F] (hp: ∀ d,B2 Tryz.prog F (.agg (eDig d)::cs) LR (fun r L'=>r= .raw (.bool (p d))∧L'=LR)) (l:List Dig) (t:CW):
  B2 Tryz.prog 135 [.slice (l.map eDig) t,.clo F cs] LR (fun r L'=>r= .raw (.int .i64 (Ea p l))∧L'=LR):=by
 refine Bw Tryz.func135 rfl Tryz.ntmps135 (rs:= [.tmp 4]) rfl rfl fun hb LF=>?_
 have hlen:l.length≤140737488355328:=(hb (.slice (l.map eDig) t) (by simp)).slice_map
 refine wf ?_
 refine AW (σ:=Nat) (fun k=>k≤l.length∧(l.take k).any p=false) (fun k=>l.length - k) (fun k=> [(0,.slice (l.map eDig) t),(1,.clo F cs),(7,.raw (.int .i64 l.length)),(8,.raw (.int .i64 k))]) (fun _=>LR++LF) 0 ⟨by simp,by simp⟩ ⟨rfl,rfl,rfl,rfl⟩ (.refl _) ?_
 rintro k ⟨hk,hn⟩
 refine wf ?_
 refine A1 (fun hc=>?_) (fun hc=>?_)
 ·have hlt:k < l.length:=by omega
  refine wf ?_
  refine Bo (xs:= [.tmp 15]) LR LF (f:=F) (cs:=cs) (.refl _) rfl rfl (.refl _) _ (hp l[k]) fun r L' ⟨e1,e2⟩=>?_
  subst e1 e2
  refine wf ?_
  refine wf ?_
  refine AO (fun h=>?_) (fun h=>?_)
  ·refine wf ?_
   have e:l.any p=true:=BW.2 ⟨l[k],AK hlt,h⟩
   exact⟨trivial,_,_,.cons (.tmp 4) .nil,.refl _,by rw[Ea,if_pos e,Gz hlt hn h];rfl,rfl⟩
  ·refine wf ?_
   refine⟨k+1,⟨by omega,?_⟩,by dsimp only;omega,⟨rfl,rfl,rfl,rfl⟩,.refl _⟩
   rw[A6 hlt,FH,hn]
   simp[h]
 ·refine wf ?_
  rw[AA (by omega)]at hn
  exact⟨trivial,_,_,.cons (.tmp 4) .nil,.refl _,by rw[Ea,if_neg (by simp[hn])];rfl,rfl⟩
theorem Uk (F:Nat) (cs:List PV) (p:Dig→Bool) (LR:List Res) [hF:Ax Tryz.prog F] (hp: ∀ d,B2 Tryz.prog F (.agg (eDig d)::cs) LR (fun r L'=>r= .raw (.bool (p d))∧L'=LR)) (l:List Dig) (t:CW):
  B2 Tryz.prog 150 [.slice (l.map eDig) t,.clo F cs] LR (fun r L'=>r= .raw (.bool (l.any p))∧L'=LR):=by
 refine Bw Tryz.func150 rfl Tryz.ntmps150 (rs:= [.tmp 4]) rfl rfl fun hb LF=>?_
 refine wf ?_
 refine Bo (xs:= [.tmp 5,.tmp 6]) LR LF (f:=135) (cs:= []) (Bx _) rfl rfl (.refl _) _ (bM F cs p LR hp l t) fun r L' ⟨e1,e2⟩=>?_
 subst e1 e2
 refine wf ?_
 refine wf ?_
 refine⟨trivial,_,_,.cons (.tmp 4) .nil,.refl _,?_,rfl⟩
 show PV.raw (.bool (decide (0≤Ea p l)))=_
 cases h:l.any p<;>simp[Ea,h]
theorem bL (F:Nat) (cs:List PV) (p:Sto→Bool) (LR:List Res) [hF:Ax Tryz.prog F] (hp: ∀ d,B2 Tryz.prog F (.agg (eSto d)::cs) LR (fun r L'=>r= .raw (.bool (p d))∧L'=LR)) (l:List Sto) (t:CW):
  B2 Tryz.prog 111 [.slice (l.map eSto) t,.clo F cs] LR (fun r L'=>r= .raw (.int .i64 (Ea p l))∧L'=LR):=by
 refine Bw Tryz.func111 rfl Tryz.ntmps111 (rs:= [.tmp 4]) rfl rfl fun hb LF=>?_
 have hlen:l.length≤140737488355328:=(hb (.slice (l.map eSto) t) (by simp)).slice_map
 refine wf ?_
 refine AW (σ:=Nat) (fun k=>k≤l.length∧(l.take k).any p=false) (fun k=>l.length - k) (fun k=> [(0,.slice (l.map eSto) t),(1,.clo F cs),(7,.raw (.int .i64 l.length)),(8,.raw (.int .i64 k))]) (fun _=>LR++LF) 0 ⟨by simp,by simp⟩ ⟨rfl,rfl,rfl,rfl⟩ (.refl _) ?_
 rintro k ⟨hk,hn⟩
 refine wf ?_
 refine A1 (fun hc=>?_) (fun hc=>?_)
 ·have hlt:k < l.length:=by omega
  refine wf ?_
  refine Bo (xs:= [.tmp 15]) LR LF (f:=F) (cs:=cs) (.refl _) rfl rfl (.refl _) _ (hp l[k]) fun r L' ⟨e1,e2⟩=>?_
  subst e1 e2
  refine wf ?_
  refine wf ?_
  refine AO (fun h=>?_) (fun h=>?_)
  ·refine wf ?_
   have e:l.any p=true:=BW.2 ⟨l[k],AK hlt,h⟩
   exact⟨trivial,_,_,.cons (.tmp 4) .nil,.refl _,by rw[Ea,if_pos e,Gz hlt hn h];rfl,rfl⟩
  ·refine wf ?_
   refine⟨k+1,⟨by omega,?_⟩,by dsimp only;omega,⟨rfl,rfl,rfl,rfl⟩,.refl _⟩
   rw[A6 hlt,FH,hn]
   simp[h]
 ·refine wf ?_
  rw[AA (by omega)]at hn
  exact⟨trivial,_,_,.cons (.tmp 4) .nil,.refl _,by rw[Ea,if_neg (by simp[hn])];rfl,rfl⟩
theorem ZF {α:Type} (p:α→Bool) (l:List α) (x:α):Ea p (l++ [x])=if l.any p=true then Ea p l else if p x=true then(l.length:Int)else -1:=by
 unfold Ea
 rw[FH,List.findIdx_append]
 by_cases h:l.any p=true
 ·have h2:l.findIdx p < l.length:=IE.2 (BW.1 h)
  rw[if_pos h,if_pos h,if_pos h2,if_pos (by simp[h])]
 ·have h2: ¬l.findIdx p < l.length:=fun h'=>h (BW.2 (IE.1 h'))
  rw[if_neg h,if_neg h2]
  cases hx:p x with
  |true=>simp[h,hx]
  |false=>simp[h,hx]
def NK (out:List Dig) (x:Sto):Bool:=decide (¬x.id∈out∧Ca out (Bf x.patch)=true)
theorem Mq {α:Type} (p:α→Bool) (l:List α): -1≤Ea p l∧Ea p l < l.length∧(l.any p=true→0≤Ea p l):=by
 unfold Ea
 by_cases h:l.any p=true
 ·rw[if_pos h]
  have:=IE.2 (BW.1 h)
  exact⟨by omega,by omega,fun _=>by omega⟩
 ·rw[if_neg h]
  exact⟨by omega,by omega,fun h'=>absurd h' h⟩
theorem Rk {s:List Sto} (h:Ej (ids s)) (out:List Dig):L8 s out=Ea (NK out) s:=by
 have key: ∀ n,n≤s.length→(List.range n).foldl (Gg s out) (-1)=Ea (NK out) (s.take n):=fun n=>by
  induction n with
  |zero=>intro _;rfl
  |succ n ih=>
   intro hn
   have hlt:n < s.length:=by omega
   have e0:s.getD n Sto.zero=s[n]:=by simp[List.getD,hlt]
   rw[Bn,ih (by omega),A6 hlt,ZF,Gg,e0]
   obtain⟨r1,r2,r3⟩:=Mq (NK out) (s.take n)
   rw[AV]at r2
   by_cases ha:(s.take n).any (NK out)=true
   ·have r3:=r3 ha
    generalize Ea (NK out) (s.take n)=k at*
    rw[if_pos ha,if_neg]
    rintro⟨_,h2⟩
    rcases h2 with h2|h2
    ·omega
    ·have hk:k.toNat < s.length:=by omega
     have e1:s.getD k.toNat Sto.zero=s[k.toNat]:=by simp[List.getD,hk]
     rw[e1]at h2
     have:=BN.1 h k.toNat n (by simpa [ids]using hk) (by simpa [ids]using hlt) (by omega)
     simp only[ids,BT]at this
     exact Dig.lt_asymm this h2
   ·have hk:Ea (NK out) (s.take n)= -1:=by unfold Ea;rw[if_neg ha]
    rw[if_neg ha,hk]
    by_cases he: ¬s[n].id∈out∧Ca out (Bf s[n].patch)=true
    ·rw[if_pos ⟨he,.inl (by omega)⟩,if_pos (by simpa [NK]using he),AV,DD (by omega)]
    ·rw[if_neg (fun h'=>he h'.1),if_neg (by simpa [NK]using he)]
 have:=key s.length (B5 _)
 rwa [Cu]at this
theorem oW {s:List Sto} (h:Ej (ids s)) {x:Sto} (hx:x∈s):Dv x.id (gr s)=some (Bf x.patch):=by
 have key: ∀ n,n≤s.length→ ∀ i (hi:i < s.length),i < n→Dv s[i].id (gr (s.take n))=some (Bf s[i].patch):=fun n=>by
  induction n with
  |zero=>intro _ i _ h';omega
  |succ n ih=>
   intro hn i hi hin
   have hlt:n < s.length:=by omega
   rw[dX hlt,KR]
   by_cases e:i=n
   ·subst e;rw[if_pos rfl]
   ·have hp:=BN.1 h i n (by simpa [ids]using hi) (by simpa [ids]using hlt) (by omega)
    simp only[ids,BT]at hp
    rw[if_neg (fun e'=>Dig.lt_irrefl _ (e' ▸ hp))]
    exact ih (by omega) i hi (by omega)
 obtain⟨i,hi,rfl⟩:=AX.1 hx
 have:=key s.length (B5 _) i hi hi
 rwa [Cu]at this
theorem ao (m:Nat) (done:List (Dig × Bool)) (d:Dig):B2 Tryz.prog 154 [.agg (eDig d),.pt [.raw (.map (some m))] 0] [.map m (Cj kDig vBool done)] (fun r L'=>r= .raw (.bool (!(Dv d done).getD false))∧L'= [.map m (Cj kDig vBool done)]):=by
 refine Bw Tryz.func154 rfl Tryz.ntmps154 (rs:= [.tmp 3]) rfl rfl fun hb LF=>?_
 refine wf ?_
 exact⟨trivial,_,_,.cons (.tmp 3) .nil,.refl _,rfl,rfl⟩
def U0 (G:List (Dig × List Dig)) (done:List (Dig × Bool)) (x:Sto):Bool:=!(Dv x.id done).getD false&&!(((Dv x.id G).getD []).any fun d=>!(Dv d done).getD false)
theorem fL (m:Nat) (G:List (Dig × List Dig)) (done:List (Dig × Bool)) (x:Sto):B2 Tryz.prog 153 [.agg (eSto x),.pt [.raw (.map (some m))] 0,.pt [.fmap (Cj kDig (Pw eDig) G)] 0] [.map m (Cj kDig vBool done)] (fun r L'=>r= .raw (.bool (U0 G done x))∧L'= [.map m (Cj kDig vBool done)]):=by
 refine Bw Tryz.func153 rfl Tryz.ntmps153 (rs:= [.tmp 4]) rfl rfl fun hb LF=>?_
 refine wf ?_
 refine An (fun hp=>?_) (fun hp=>?_)
 ·have h0:(Dv x.id done).getD false=false:=by simpa using hp
  refine wf ?_
  refine Bo (xs:= [.tmp 14,.tmp 15]) [.map m (Cj kDig vBool done)] LF (f:=150) (cs:= []) (Bx _) rfl rfl (.refl _) _ (Uk 154 [.pt [.raw (.map (some m))] 0] (fun d=>!(Dv d done).getD false) [.map m (Cj kDig vBool done)] (ao m done) ((Dv x.id G).getD []) .ro) fun r L' ⟨e1,e2⟩=>?_
  subst e1 e2
  refine wf ?_
  refine wf ?_
  exact⟨trivial,_,_,.cons (.tmp 4) .nil,.refl _,by rw[U0,h0];rfl,rfl⟩
 ·have h0:(Dv x.id done).getD false=true:=by simpa using hp
  refine wf ?_
  exact⟨trivial,_,_,.cons (.tmp 4) .nil,.refl _,by rw[U0,h0];rfl,rfl⟩
theorem bN {α:Type} {p q:α→Bool}: ∀ {l:List α},(∀ x∈l,p x=q x)→Ea p l=Ea q l:=fun {l} h=>by
 have h1:l.any p=l.any q:=by
  rw[KV,BW,BW]
  exact⟨fun⟨x,hx,e⟩=>⟨x,hx,(h x hx) ▸ e⟩,fun⟨x,hx,e⟩=>⟨x,hx,(h x hx).symm ▸ e⟩⟩
 have h2:l.findIdx p=l.findIdx q:=by
  clear h1
  induction l with
  |nil=>rfl
  |cons x l ih=>
   rw[Qo,Qo,h x (by simp),ih fun y hy=>h y (AD _ hy)]
 unfold Ea
 rw[h1,h2]
theorem pF {s:List Sto} (h:Ej (ids s)) {done:List (Dig × Bool)} {out:List Dig} (hm:Kt done out) {x:Sto} (hx:x∈s):U0 (gr s) done x=NK out x:=by
 unfold U0 NK
 rw[hm x.id,oW h hx,Option.getD_some]
 have e:((Bf x.patch).any fun d=>!(Dv d done).getD false)=!Ca out (Bf x.patch):=by
  rw[Ca,yT]
  congr 1
  funext d
  rw[hm d]
 rw[e,Bool.not_not]
 by_cases h1:x.id∈out<;>simp[h1]
set_option maxHeartbeats 2000000 in
theorem fK (s:List Sto) (t:CW) (hg:Dc s) (ha:Ej (ids s)):Bl Tryz.prog 103 [.slice (s.map eSto) t] (.slice ((ED s).map eDig) .ro):=⟨by
 have h8:=hg.1
 have i1:B3 (Dc s):=⟨hg⟩
 refine Ak Tryz.func103 Tryz.ntmps103 rfl (rs:= [.tmp 2]) rfl rfl fun hb LF=>?_
 refine wf ?_
 refine BR fun b3=>?_
 refine wo ?_
 refine AN ?_
 refine Ag 3 ?_
 refine wf ?_
 refine Qz fun m=>?_
 refine wf ?_
 refine BR fun b4=>?_
 refine wo ?_
 refine AN ?_
 refine Ag 4 ?_
 refine wf ?_
 refine Ee 32 ?_
 refine GI (.swap _ _ _) ?_
 refine AW (σ:=Nat × List Dig × CW × List (Dig × Bool)) (fun k=>k.1≤s.length∧k.2.1.length=k.1∧Kt k.2.2.2 k.2.1∧ED s=Nl s (s.length - k.1) k.2.1) (fun k=>s.length - k.1) (fun k=> [(0,.slice (s.map eSto) t),(3,.pt [.fmap (Cj kDig (Pw eDig) (gr s))] 0),(4,.pt [.raw (.map (some m))] 0),(5,.slice (k.2.1.map eDig) k.2.2.1),(11,.raw (.int .i64 s.length)),(12,.raw (.int .i64 k.1))]) (fun k=> .map m (Cj kDig vBool k.2.2.2):: .tok k.2.2.1 k.2.1.length 32::LF) (0,[],.nil,[]) ⟨by simp,rfl,fun d=>by simp[Dv],rfl⟩ ⟨rfl,rfl,rfl,rfl,rfl,rfl⟩ (.refl _) ?_
 rintro⟨k,out,u,done⟩ ⟨hk,hol,hmo,hro⟩
 dsimp only at hk hol hmo hro ⊢
 refine wf ?_
 refine A1 (fun hc=>?_) (fun hc=>?_)
 ·have hlt:k < s.length:=by omega
  have hpk:Ea (U0 (gr s) done) s=L8 s out:=by rw[Rk ha,bN fun x hx=>pF ha hmo hx]
  have hrs:Nl s (s.length - k) out=if L8 s out < 0 then out else Nl s (s.length - (k+1)) (out++ [(s.getD (L8 s out).toNat Sto.zero).id]):=by
   rw[show s.length - k=(s.length - (k+1))+1 by omega,Nl]
  have hrr:=LS (s:=s) (out:=out) s.length
  change -1≤L8 s out∧L8 s out < s.length at hrr
  refine wf ?_
  refine Bo (xs:= [.tmp 14,.tmp 15]) [.map m (Cj kDig vBool done)] (.tok u out.length 32::LF) (f:=111) (cs:= []) (Bx _) rfl rfl (.refl _) _ (bL 153 [.pt [.raw (.map (some m))] 0,.pt [.fmap (Cj kDig (Pw eDig) (gr s))] 0] (U0 (gr s) done) [.map m (Cj kDig vBool done)] (fL m (gr s) done) s t) fun r L' ⟨e1,e2⟩=>?_
  subst e1 e2
  rw[hpk,BM,BK]
  generalize hpp:L8 s out=i at hrr hrs ⊢
  refine wf ?_
  refine wf ?_
  refine A1 (fun hi=>?_) (fun hi=>?_)
  ·refine wf ?_
   refine Ah (.ros ?_)
   rw[hro,hrs,if_pos (by omega)]
  ·obtain⟨j,rfl⟩: ∃ j:Nat,i=(j:Int):=⟨i.toNat,by omega⟩
   have hj:j < s.length:=by omega
   rw[if_neg hi,Br,show s.getD j Sto.zero=s[j] by simp[List.getD,hj]]at hrs
   refine wn ?_
   refine BZ 6 ?_ ?_
   ·decide+kernel
   refine wf ?_
   refine Xw fun u'=>?_
   refine⟨(k+1,out++ [s[j].id],u',Hb s[j].id true done),⟨by dsimp only;omega,by dsimp only;rw[A8,hol];rfl,hmo.add _,by dsimp only;rw[hro,hrs]⟩,by dsimp only;omega,⟨rfl,rfl,rfl,rfl,rfl,rfl⟩,.refl _⟩
 ·have hkk:k=s.length:=by omega
  refine wf ?_
  refine Ah (.ros ?_)
  rw[hro,show s.length - k=0 by omega,Nl]⟩
end Go.Proofs
namespace Go.Proofs
open Go Go.Q
structure Pj (s:List Sto) (r:Dig→Nat):Prop where
 asc:Ej (ids s)
 close: ∀ x∈s,∀ d∈Bf x.patch,d∈ids s
 rank: ∀ x∈s,∀ d∈Bf x.patch,r d < r x.id
theorem Pj.pick {s:List Sto} {r:Dig→Nat} (h:Pj s r) {out:List Dig} (hlt:out.length < s.length):0≤L8 s out:=by
 rw[Rk h.asc]
 refine(Mq (NK out) s).2.2 ?_
 have hmiss: ∃ x∈s,x.id∉out:=Dn fun hn=>by
  have hall: ∀ d∈ids s,d∈out:=fun d hd=>by
   obtain⟨x,hx,rfl⟩:=AU.1 hd
   exact Dn fun h'=>hn ⟨x,hx,h'⟩
  have:=Eh h.asc.nodup (m:=out) hall
  rw[Dj]at this;omega
 have key: ∀ n,∀ x∈s,x.id∉out→r x.id=n→ ∃ y∈s,NK out y=true:=fun n=>by
  induction n using Nat.strongRecOn with
  |_ n ih=>
   intro x hx hxo hn
   by_cases ha: ∀ d∈Bf x.patch,d∈out
   ·exact⟨x,hx,BL ⟨hxo,Ar.2 fun d hd=>BL (ha d hd)⟩⟩
   ·obtain⟨d,hd,hdo⟩: ∃ d∈Bf x.patch,d∉out:=Dn fun hn=>ha fun d hd=>Dn fun h'=>hn ⟨d,hd,h'⟩
    obtain⟨y,hy,rfl⟩:=AU.1 (h.close x hx d hd)
    exact ih (r y.id) (hn ▸ h.rank x hx _ hd) y hy hdo rfl
 obtain⟨x,hx,hxo⟩:=hmiss
 obtain⟨y,hy,he⟩:=key _ x hx hxo rfl
 exact BW.2 ⟨y,hy,he⟩
theorem Pj.order {s:List Sto} {r:Dig→Nat} (h:Pj s r):(ED s).length=s.length:=by
 have key: ∀ n out,out.length+n=s.length→(Nl s n out).length=s.length:=fun n=>by
  induction n with
  |zero=>intro out ho;rw[Nl];omega
  |succ n ih=>
   intro out ho
   have hp:=h.pick (out:=out) (by omega)
   rw[Nl,if_neg (by omega)]
   exact ih _ (by rw[A8,CJ];omega)
 exact key _ [] (by simp)
theorem Kp {s:List Sto} (v:C7 s):FJ s=0:=by
 have h8:=v.close.1.1
 have h1:Aq (Eu s) (List.range s.length)=0:=CG fun i hi=>by
  have hi':i < s.length:=by simpa using hi
  have e0:s.getD i Sto.zero=s[i]:=by simp[List.getD,hi']
  obtain⟨a1,a2⟩:=v.id s[i] (AK hi')
  rw[DW,Eu,e0,if_neg (by simp[a1]),if_neg (by simp[a2]),if_neg]
  rintro⟨h1,h2⟩
  have hi0:0 < i:=by omega
  have e1:s.getD (i - 1) Sto.zero=s[i - 1]'(by omega):=by
   have h':i - 1 < s.length:=by omega
   simp[List.getD,h']
  have hp:=BN.1 v.asc (i - 1) i (by simp[ids];omega) (by simpa [ids]using hi') (by omega)
  simp only[ids,BT]at hp
  rw[e1,a2]at h2
  have hp:Dh (s[i - 1]'(by omega)).id s[i].id < 0:=hp
  omega
 have h2:s.all (fun x=>Ca (ids s) (Bf x.patch))=true:=Ar.2 fun x hx=>Ar.2 fun d hd=>BL (v.close.2 x hx d hd)
 have h3:=v.order
 unfold FJ
 rw[if_neg (by omega),if_neg (by simp[h1]),if_neg (by simp[h2]),if_neg (by omega)]
 exact CG fun i hi=>v.refs _ (AK hi)
theorem Dz {s:List Sto} {C:List Dig} {x:Sto}:x∈Bt s C↔x∈s∧x.id∈C:=by simp[Bt]
theorem HQ {s:List Sto} {C:List Dig} {d:Dig}:d∈ids (Bt s C)↔d∈ids s∧d∈C:=by
 constructor
 ·intro h
  obtain⟨x,hx,rfl⟩:=AU.1 h
  obtain⟨h1,h2⟩:=Dz.1 hx
  exact⟨AU.2 ⟨x,h1,rfl⟩,h2⟩
 ·rintro⟨h1,h2⟩
  obtain⟨x,hx,rfl⟩:=AU.1 h1
  exact AU.2 ⟨x,Dz.2 ⟨hx,h2⟩,rfl⟩
theorem Gk (s:List Sto) (C:List Dig):(ids (Bt s C)).Sublist (ids s):=(List.filter_sublist).map _
theorem RV {C:List Dig} {d:Dig} (hd:d∈C): ∀ s:List Sto,getS (Bt s C) d=getS s d
 | []=>rfl
 |x::s=>by
  by_cases hx:x.id=d
  ·have e:Bt (x::s) C=x::Bt s C:=by
    unfold Bt;rw[Kv (by simpa using hx ▸ hd)]
   rw[e,getS,getS,if_pos hx,if_pos hx]
  ·have e2:getS (x::s) d=getS s d:=by rw[getS,if_neg hx]
   by_cases hc:x.id∈C
   ·have e:Bt (x::s) C=x::Bt s C:=by
     unfold Bt;rw[Kv (by simpa using hc)]
    rw[e,e2,getS,if_neg hx,RV hd s]
   ·have e:Bt (x::s) C=Bt s C:=by
     unfold Bt;rw[Fq (by simpa using hc)]
    rw[e,e2,RV hd s]
theorem Ub {p:Pat} (hid:(EF p).2=0) {c:Chg} (hc:c∈p.changes) {y:Ident} (hy:y∈RB c) (ho:HB y=true):y.patch∈Bf p:=by
 have he: ¬(Cc p).2≠0:=fun h=>by rw[EF,if_pos h]at hid;exact h hid
 rw[Bf,if_neg he,RJ]
 exact .inr ⟨c,hc,AU.2 ⟨y,EI.2 ⟨hy,ho⟩,rfl⟩⟩
theorem Ig {s t:List Sto} {p:Pat} {id:Dig} (hid:(EF p).2=0) (h: ∀ d∈Bf p,getS s d=getS t d):FT s p id=FT t p id:=by
 refine GL fun c hc=>?_
 have hat: ∀ y∈RB c,HB y=true→JB s y=JB t y:=fun y hy ho=>by
  unfold JB Ji
  rw[h _ (Ub hid hc hy ho)]
 have e1:K5 s c=K5 t c:=by
  unfold K5
  split
  ·rename_i h;rw[hat _ (by simp[RB]) h]
  ·rfl
 have e2:NC s c=NC t c:=by
  unfold NC
  split
  ·rename_i h;rw[hat _ (by simp[RB]) h]
  ·rfl
 have e3: ∀ y∈RB c,HT s y c.file id=HT t y c.file id:=fun y hy=>by
  unfold HT
  split
  ·rfl
  ·rename_i h
   rw[hat y hy (by simpa using fun h'=>h (.inl h'))]
 have e4:Aq (P2 s c id) c.over=Aq (P2 t c id) c.over:=GL fun y hy=>by
  unfold P2
  split
  ·rfl
  ·rename_i h
   rw[hat y (by simp[RB,hy]) (by simpa using h)]
 unfold NF
 rw[e1,e2,e3 _ (by simp[RB]),e3 _ (by simp[RB]),e4]
theorem C7.keep {s:List Sto} (v:C7 s) {C:List Dig} (hC: ∀ x∈s,x.id∈C→ ∀ d∈Bf x.patch,d∈C):C7 (Bt s C):=by
 have hlen:(Bt s C).length≤s.length:=Cv _ _
 have hcl: ∀ x∈Bt s C,∀ d∈Bf x.patch,d∈ids (Bt s C):=fun x hx d hd=>by
  obtain⟨h1,h2⟩:=Dz.1 hx
  exact HQ.2 ⟨v.close.2 x h1 d hd,hC x h1 h2 d hd⟩
 have hasc:Ej (ids (Bt s C)):=List.Pairwise.sublist (Gk s C) v.asc
 refine⟨⟨⟨CX hlen v.close.1.1,fun x hx=>v.close.1.2 x (Dz.1 hx).1⟩,hcl⟩,fun x hx=>v.id x (Dz.1 hx).1,hasc,?_,fun x hx=>?_⟩
 ·have hr:Pj (Bt s C) (Ni s):=⟨hasc,hcl,fun x hx d hd=>v.rank (Dz.1 hx).1 hd⟩
  exact Db hr.order.symm
 ·obtain⟨h1,h2⟩:=Dz.1 hx
  rw[Ig (v.id x h1).1 fun d hd=>RV (hC x h1 h2 d hd) s]
  exact v.refs x h1
theorem RH (s:List Sto) (x:Sto):(H6 s x).Perm (x::s):=by
 unfold H6
 refine B8.trans ?_
 rw[MC]
theorem GJ {s:List Sto} {x y:Sto}:y∈H6 s x↔y=x∨y∈s:=by
 rw[(RH s x).mem_iff,AQ]
theorem HP {s:List Sto} {x:Sto} {d:Dig}:d∈ids (H6 s x)↔d=x.id∨d∈ids s:=by
 unfold ids
 rw[((RH s x).map _).mem_iff,BG,AQ]
theorem Nq (s:List Sto) (x:Sto):(H6 s x).length=s.length+1:=by
 rw[(RH s x).length_eq,AH]
theorem dj {x:Sto}: ∀ {s:List Sto},Ej (ids s)→x.id∉ids s→ ∀ y∈s.dropWhile (fun y=>decide (Dh y.id x.id < 0)),Dig.lt x.id y.id
 | [],_,_,y,hy=>by cases hy
 |z::s,ha,hx,y,hy=>by
  have ha':Ej (ids s):=(Ba.1 ha).2
  by_cases hz:Dh z.id x.id < 0
  ·rw[List.dropWhile_cons_of_pos (by simpa using hz)]at hy
   exact dj ha' (fun h=>hx (AD _ h)) y hy
  ·rw[List.dropWhile_cons_of_neg (by simpa using hz)]at hy
   have hzx:Dig.lt x.id z.id:=by
    rcases Dig.tri x.id z.id with h|h|h
    ·exact h
    ·exact absurd (by rw[h];exact AI) hx
    ·exact absurd h hz
   rcases AQ.1 hy with rfl|hy
   ·exact hzx
   ·exact Dig.lt_trans hzx ((Ba.1 ha).1 y.id (AU.2 ⟨y,hy,rfl⟩))
theorem cH {x:Sto}: ∀ {s:List Sto},∀ y∈s.takeWhile (fun y=>decide (Dh y.id x.id < 0)),Dig.lt y.id x.id
 | [],y,hy=>by cases hy
 |z::s,y,hy=>by
  by_cases hz:Dh z.id x.id < 0
  ·rw[List.takeWhile_cons_of_pos (by simpa using hz)]at hy
   rcases AQ.1 hy with rfl|hy
   ·exact hz
   ·exact cH y hy
  ·rw[List.takeWhile_cons_of_neg (by simpa using hz)]at hy
   cases hy
theorem TM {s:List Sto} {x:Sto} (ha:Ej (ids s)) (hx:x.id∉ids s):Ej (ids (H6 s x)):=by
 have e:ids (H6 s x)=ids (s.takeWhile fun y=>decide (Dh y.id x.id < 0))++x.id::ids (s.dropWhile fun y=>decide (Dh y.id x.id < 0)):=by
  unfold H6 ids;rw[Az,BG]
 have e2:ids s=ids (s.takeWhile fun y=>decide (Dh y.id x.id < 0))++ids (s.dropWhile fun y=>decide (Dh y.id x.id < 0)):=by
  unfold ids;rw[←Az,MC]
 have hp:=ha
 rw[e2]at hp
 obtain⟨p1,p2,p3⟩:=JT.1 hp
 rw[e]
 refine JT.2 ⟨p1,Ba.2 ⟨fun d hd=>?_,p2⟩,fun a h b hb=>?_⟩
 ·obtain⟨y,hy,rfl⟩:=AU.1 hd
  exact dj ha hx y hy
 ·rcases AQ.1 hb with rfl|hb
  ·obtain⟨y,hy,rfl⟩:=AU.1 h
   exact cH y hy
  ·exact p3 a h b hb
theorem KE: ∀ {s:List Sto},Ej (ids s)→ ∀ {x:Sto},x∈s→getS s x.id=some x.patch
 | [],_,x,h=>by cases h
 |y::s,ha,x,h=>by
  by_cases e:y.id=x.id
  ·rw[getS,if_pos e]
   rcases AQ.1 h with rfl|h
   ·rfl
   ·have:=(Ba.1 ha).1 x.id (AU.2 ⟨x,h,rfl⟩)
    change Dig.lt y.id x.id at this
    rw[e]at this
    exact absurd this (Dig.lt_irrefl _)
  ·rw[getS,if_neg e]
   rcases AQ.1 h with rfl|h
   ·exact absurd rfl e
   ·exact KE (Ba.1 ha).2 h
theorem Tk {s:List Sto} {d:Dig} (h:d∉ids s):getS s d=none:=by
 cases hg:getS s d with
 |none=>rfl
 |some p=>
  obtain⟨x,hx,rfl,_⟩:=Km hg
  exact absurd (AU.2 ⟨x,hx,rfl⟩) h
theorem IR {s:List Sto} (ha:Ej (ids s)) (d:Dig):(getS s d).isSome=decide (d∈ids s):=by
 by_cases h:d∈ids s
 ·obtain⟨x,hx,rfl⟩:=AU.1 h
  rw[KE ha hx];simp[h]
 ·rw[Tk h];simp[h]
theorem kc {s:List Sto} {x:Sto} (ha:Ej (ids s)) (hx:x.id∉ids s) {d:Dig} (hd:d≠x.id):getS (H6 s x) d=getS s d:=by
 by_cases h:d∈ids s
 ·obtain⟨y,hy,rfl⟩:=AU.1 h
  rw[KE ha hy,KE (TM ha hx) (GJ.2 (.inr hy))]
 ·rw[Tk h,Tk fun h'=>(HP.1 h').elim hd h]
theorem kS {s:List Sto} {x:Sto} (hx:x.id∉ids s):Bt (H6 s x) (ids s)=s:=by
 have h: ∀ l:List Sto,(∀ y∈l,y∈s)→l.filter (fun y=>decide (y.id∈ids s))=l:=fun l hl=>by
  rw[GB]
  intro y hy
  exact BL (AU.2 ⟨y,hl y hy,rfl⟩)
 have e: ∀ l:List Sto,Bt l (ids s)=l.filter (fun y=>decide (y.id∈ids s)):=fun l=>rfl
 rw[e,H6,Du,Fq (by simpa using hx),h _ fun y hy=>(zB _).subset hy,h _ fun y hy=>(List.dropWhile_sublist _).subset hy,MC]
structure lx (s:List Sto) (x:Sto):Prop where
 id:(EF x.patch).2=0∧(EF x.patch).1=x.id
 new:x.id∉ids s
 needs: ∀ d∈Bf x.patch,d∈ids s
 refs:FT s x.patch x.id=0
 great:EE x.patch=false
theorem C7.put {s:List Sto} (v:C7 s) {x:Sto} (f:lx s x) (hl:s.length < 200):C7 (H6 s x):=by
 have hcl: ∀ y∈H6 s x,∀ d∈Bf y.patch,d∈ids (H6 s x):=fun y hy d hd=>by
  rcases GJ.1 hy with rfl|hy
  ·exact HP.2 (.inr (f.needs d hd))
  ·exact HP.2 (.inr (v.close.2 y hy d hd))
 have hasc:=TM v.asc f.new
 have hget: ∀ d∈ids s,Go.Proofs.getS (H6 s x) d=Go.Proofs.getS s d:=fun d hd=>kc v.asc f.new fun e=>f.new (e ▸ hd)
 refine⟨⟨⟨by rw[Nq];omega,fun y hy=>?_⟩,hcl⟩,fun y hy=>?_,hasc,?_,fun y hy=>?_⟩
 ·rcases GJ.1 hy with rfl|hy
  ·exact f.great
  ·exact v.close.1.2 y hy
 ·rcases GJ.1 hy with rfl|hy
  ·exact f.id
  ·exact v.id y hy
 ·have hr:Pj (H6 s x) (fun d=>if d=x.id then(ED s).length+1 else Ni s d):=by
   refine⟨hasc,hcl,fun y hy d hd=>?_⟩
   rcases GJ.1 hy with rfl|hy
   ·have hne:d≠y.id:=fun e=>f.new (e ▸ f.needs d hd)
    simp only[if_true,if_neg hne]
    have:Ni s d≤(ED s).length:=by
     unfold Ni;exact List.idxOf_le_length
    omega
   ·have hne:d≠x.id:=fun e=>f.new (e ▸ v.close.2 y hy d hd)
    have hne2:y.id≠x.id:=fun e=>f.new (e ▸ AU.2 ⟨y,hy,rfl⟩)
    simp only[if_neg hne,if_neg hne2]
    exact v.rank hy hd
  exact Db hr.order.symm
 ·rcases GJ.1 hy with rfl|hy
  ·rw[Ig f.id.1 fun d hd=>hget d (f.needs d hd)]
   exact f.refs
  ·rw[Ig (v.id y hy).1 fun d hd=>hget d (v.close.2 y hy d hd)]
   exact v.refs y hy
theorem C7.rAdd_ok {s:List Sto} (v:C7 s) {p:Pat} (hg:EE p=false) (h:(LU s p).2.2=0):lx s ⟨(EF p).1,p⟩∧LU s p=(H6 s ⟨(EF p).1,p⟩,(EF p).1,0):=by
 unfold LU at h ⊢
 by_cases h1:(EF p).2≠0
 ·rw[if_pos h1]at h;exact absurd h h1
 rw[if_neg h1]at h ⊢
 by_cases h2:(Go.Proofs.getS s (EF p).1).isSome=true
 ·rw[if_pos h2]at h
  split at h<;>exact absurd h (by decide)
 rw[if_neg h2]at h ⊢
 by_cases h3:Ca (ids s) (Bf p)=false
 ·rw[if_pos h3]at h;exact absurd h (by decide)
 rw[if_neg h3]at h ⊢
 by_cases h4:FT s p (EF p).1≠0
 ·rw[if_pos h4]at h;exact absurd h h4
 rw[if_neg h4]at h ⊢
 by_cases h5:400≤(s.length:Int)
 ·rw[if_pos h5]at h;exact absurd h (by decide)
 rw[if_neg h5]
 refine⟨⟨⟨by simpa using h1,rfl⟩,fun hn=>?_,fun d hd=>?_,by simpa using h4,hg⟩,rfl⟩
 ·rw[IR v.asc]at h2
  exact h2 (BL hn)
 ·have h3:Ca (ids s) (Bf p)=true:=by simpa using h3
  simpa using Ar.1 h3 d hd
theorem SS: ∀ {u v:List Sto},Ej (ids u)→Ej (ids v)→(∀ x,x∈u↔x∈v)→u=v
 | [],[],_,_,_=>rfl
 | [],y::v,_,_,h=>absurd ((h y).2 AI) (by simp)
 |x::u,[],_,_,h=>absurd ((h x).1 AI) (by simp)
 |x::u,y::v,hu,hv,h=>by
  have pu:=Ba.1 hu
  have pv:=Ba.1 hv
  have e:x=y:=by
   rcases AQ.1 ((h x).1 AI)with e|hx
   ·exact e
   ·rcases AQ.1 ((h y).2 AI)with e|hy
    ·exact e.symm
    ·exact absurd (pv.1 x.id (AU.2 ⟨x,hx,rfl⟩)) (Dig.lt_asymm (pu.1 y.id (AU.2 ⟨y,hy,rfl⟩)))
  subst e
  rw[SS pu.2 pv.2 fun z=>⟨fun hz=>?_,fun hz=>?_⟩]
  ·rcases AQ.1 ((h z).1 (AD _ hz))with rfl|h'
   ·exact absurd (pu.1 z.id (AU.2 ⟨z,hz,rfl⟩)) (Dig.lt_irrefl _)
   ·exact h'
  ·rcases AQ.1 ((h z).2 (AD _ hz))with rfl|h'
   ·exact absurd (pv.1 z.id (AU.2 ⟨z,hz,rfl⟩)) (Dig.lt_irrefl _)
   ·exact h'
def ly (a b:List Sto):Prop:= ∀ x∈a,∀ y∈b,x.id=y.id→x=y
def S7 (a:List Sto):List Sto→List Sto→Option (List Sto)
 |out,[]=>some out
 |out,x::b=>match getS a x.id with
  |some p=>if p=x.patch then S7 a out b else none
  |none=>S7 a (H6 out x) b
def EP (a b:List Sto):List Sto × Int:=match S7 a a b with
 |none=>([],14)
 |some u=>if 400 < u.length then([],4)else(u,0)
def IY:List Sto→List Sto→Option (List Sto)
 |a,[]=>some a
 | [],y::b=>some (y::b)
 |x::a,y::b=>if Dh x.id y.id < 0 then(IY a (y::b)).map (x:: ·)else if Dh y.id x.id < 0 then(IY (x::a) b).map (y:: ·)else if x.patch=y.patch then(IY a b).map (x:: ·)else none
 termination_by a b=>a.length+b.length
structure Pk (a b u:List Sto):Prop where
 asc:Ej (ids u)
 mem: ∀ x,x∈u↔x∈a∨x∈b
theorem Pk.uniq {a b u v:List Sto} (h:Pk a b u) (h':Pk a b v):u=v:=SS h.asc h'.asc fun x=>by rw[h.mem,h'.mem]
theorem Pk.symm {a b u:List Sto} (h:Pk a b u):Pk b a u:=⟨h.asc,fun x=>by rw[h.mem,or_comm]⟩
theorem RU {a:List Sto} {d:Dig} {p:Pat} (h:getS a d=some p):(⟨d,p⟩:Sto)∈a:=by
 obtain⟨x,hx,e1,e2⟩:=Km h
 rw[←e1,←e2];exact hx
theorem Qt {a:List Sto} (ha:Ej (ids a)): ∀ (b out:List Sto),Ej (ids out)→Ej (ids b)→ly a b→(∀ x∈b,x.id∈ids out→x.id∈ids a)→(∀ x∈a,x∈out)→ ∃ u,S7 a out b=some u∧Ej (ids u)∧ ∀ x,x∈u↔x∈out∨x∈b
 | [],out,ho,_,_,_,_=>⟨out,rfl,ho,fun x=>by simp⟩
 |y::b,out,ho,hb,hc,hd,hs=>by
  have pb:=Ba.1 hb
  have hc':ly a b:=fun x hx z hz=>hc x hx z (AD _ hz)
  cases hg:getS a y.id with
  |some p=>
   have hm:=RU hg
   have e:=hc _ hm y AI rfl
   have hp:p=y.patch:=by rw[←e]
   obtain⟨u,h1,h2,h3⟩:=Qt ha b out ho pb.2 hc' (fun x hx=>hd x (AD _ hx)) hs
   refine⟨u,by rw[S7,hg];simp only[hp,if_true];exact h1,h2,fun x=>?_⟩
   rw[h3,AQ]
   constructor
   ·rintro(h|h)
    ·exact .inl h
    ·exact .inr (.inr h)
   ·rintro(h|rfl|h)
    ·exact .inl h
    ·exact .inl (hs _ (e ▸ hm))
    ·exact .inr h
  |none=>
   have hna:y.id∉ids a:=fun h=>by
    have:=IR ha y.id
    rw[hg,BL h]at this;cases this
   have hno:y.id∉ids out:=fun h=>hna (hd y AI h)
   obtain⟨u,h1,h2,h3⟩:=Qt ha b (H6 out y) (TM ho hno) pb.2 hc' (fun x hx h=>by
    rcases HP.1 h with e|h
    ·exact absurd (pb.1 x.id (AU.2 ⟨x,hx,rfl⟩)) (e ▸ Dig.lt_irrefl _)
    ·exact hd x (AD _ hx) h) (fun x hx=>GJ.2 (.inr (hs x hx)))
   refine⟨u,by rw[S7,hg];exact h1,h2,fun x=>?_⟩
   rw[h3,GJ,AQ]
   constructor
   ·rintro((h|h)|h)
    ·exact .inr (.inl h)
    ·exact .inl h
    ·exact .inr (.inr h)
   ·rintro(h|h|h)
    ·exact .inl (.inr h)
    ·exact .inl (.inl h)
    ·exact .inr h
theorem OC {a:List Sto} (ha:Ej (ids a)): ∀ (b out:List Sto),¬ly a b→S7 a out b=none
 | [],_,h=>absurd (fun x _ y hy=>by cases hy) h
 |y::b,out,h=>by
  cases hg:getS a y.id with
  |some p=>
   by_cases hp:p=y.patch
   ·rw[S7,hg];simp only[hp,if_true]
    refine OC ha b out fun hc=>h fun x hx z hz e=>?_
    rcases AQ.1 hz with rfl|hz
    ·have:=KE ha hx
     rw[e,hg]at this
     cases x;cases z
     cases this;subst hp;cases e;rfl
    ·exact hc x hx z hz e
   ·rw[S7,hg];simp only[hp,if_false]
  |none=>
   rw[S7,hg]
   refine OC ha b _ fun hc=>h fun x hx z hz e=>?_
   rcases AQ.1 hz with rfl|hz
   ·have:=KE ha hx
    rw[e,hg]at this;cases this
   ·exact hc x hx z hz e
theorem Xy {a b:List Sto} (ha:Ej (ids a)) (hb:Ej (ids b)) (hc:ly a b): ∃ u,S7 a a b=some u∧Pk a b u:=by
 obtain⟨u,h1,h2,h3⟩:=Qt ha b a ha hb hc (fun _ _ h=>h) (fun _ h=>h)
 exact⟨u,h1,h2,h3⟩
theorem UF {x:Sto} {u:List Sto} (hu:Ej (ids u)) (h: ∀ y∈u,Dig.lt x.id y.id):Ej (ids (x::u)):=
 Ba.2 ⟨fun d hd=>by obtain⟨y,hy,rfl⟩:=AU.1 hd;exact h y hy,hu⟩
theorem Hs {x:Sto} {u:List Sto} (h:Ej (ids (x::u))) {y:Sto} (hy:y∈u):Dig.lt x.id y.id:=(Ba.1 h).1 _ (AU.2 ⟨y,hy,rfl⟩)
theorem QL: ∀ (a b:List Sto),Ej (ids a)→Ej (ids b)→ly a b→ ∃ u,IY a b=some u∧Pk a b u
 |a,[],ha,_,_=>⟨a,by rw[IY],ha,fun x=>by simp⟩
 | [],y::b,_,hb,_=>⟨y::b,by rw[IY],hb,fun x=>by simp⟩
 |x::a,y::b,ha,hb,hc=>by
  have pa:=Ba.1 ha
  have pb:=Ba.1 hb
  rw[IY]
  by_cases h1:Dh x.id y.id < 0
  ·rw[if_pos h1]
   obtain⟨u,e,i⟩:=QL a (y::b) pa.2 hb fun z hz w hw=>hc z (AD _ hz) w hw
   refine⟨x::u,by rw[e];rfl,UF i.asc fun z hz=>?_,fun z=>?_⟩
   ·rcases(i.mem z).1 hz with hz|hz
    ·exact Hs ha hz
    ·rcases AQ.1 hz with rfl|hz
     ·exact h1
     ·exact Dig.lt_trans h1 (Hs hb hz)
   ·simp only[AQ,i.mem,or_assoc]
  ·rw[if_neg h1]
   by_cases h2:Dh y.id x.id < 0
   ·rw[if_pos h2]
    obtain⟨u,e,i⟩:=QL (x::a) b ha pb.2 fun z hz w hw=>hc z hz w (AD _ hw)
    refine⟨y::u,by rw[e];rfl,UF i.asc fun z hz=>?_,fun z=>?_⟩
    ·rcases(i.mem z).1 hz with hz|hz
     ·rcases AQ.1 hz with rfl|hz
      ·exact h2
      ·exact Dig.lt_trans h2 (Hs ha hz)
     ·exact Hs hb hz
    ·simp only[AQ,i.mem];grind
   ·have e0:x.id=y.id:=by
     rcases Dig.tri x.id y.id with h|h|h
     ·exact absurd h h1
     ·exact h
     ·exact absurd h h2
    have exy:=hc x AI y AI e0
    subst exy
    rw[if_neg h2,if_pos rfl]
    obtain⟨u,e,i⟩:=QL a b pa.2 pb.2 fun z hz w hw=>hc z (AD _ hz) w (AD _ hw)
    refine⟨x::u,by rw[e];rfl,UF i.asc fun z hz=>?_,fun z=>?_⟩
    ·rcases(i.mem z).1 hz with hz|hz
     ·exact Hs ha hz
     ·exact Hs hb hz
    ·simp only[AQ,i.mem];grind
 termination_by a b=>a.length+b.length
theorem OU: ∀ (a b:List Sto),Ej (ids a)→Ej (ids b)→ ¬ly a b→IY a b=none
 |a,[],_,_,h=>absurd (fun x _ y hy=>by cases hy) h
 | [],y::b,_,_,h=>absurd (fun x hx=>by cases hx) h
 |x::a,y::b,ha,hb,hc=>by
  have pa:=Ba.1 ha
  have pb:=Ba.1 hb
  rw[IY]
  by_cases h1:Dh x.id y.id < 0
  ·rw[if_pos h1,OU a (y::b) pa.2 hb fun h=>hc fun z hz w hw e=>?_]
   ·rfl
   ·rcases AQ.1 hz with rfl|hz
    ·exfalso
     have hlt:Dig.lt z.id w.id:=by
      rcases AQ.1 hw with rfl|hw
      ·exact h1
      ·exact Dig.lt_trans h1 (Hs hb hw)
     rw[e]at hlt;exact Dig.lt_irrefl _ hlt
    ·exact h z hz w hw e
  ·rw[if_neg h1]
   by_cases h2:Dh y.id x.id < 0
   ·rw[if_pos h2,OU (x::a) b ha pb.2 fun h=>hc fun z hz w hw e=>?_]
    ·rfl
    ·rcases AQ.1 hw with rfl|hw
     ·exfalso
      have hlt:Dig.lt w.id z.id:=by
       rcases AQ.1 hz with rfl|hz
       ·exact h2
       ·exact Dig.lt_trans h2 (Hs ha hz)
      rw[e]at hlt;exact Dig.lt_irrefl _ hlt
     ·exact h z hz w hw e
   ·have e0:x.id=y.id:=by
     rcases Dig.tri x.id y.id with h|h|h
     ·exact absurd h h1
     ·exact h
     ·exact absurd h h2
    rw[if_neg h2]
    by_cases hp:x.patch=y.patch
    ·rw[if_pos hp,OU a b pa.2 pb.2 fun h=>hc fun z hz w hw e=>?_]
     ·rfl
     ·rcases AQ.1 hz with rfl|hz
      ·rcases AQ.1 hw with rfl|hw
       ·cases z;cases w;cases e0;cases hp;rfl
       ·exfalso
        have hlt:=Hs hb hw
        rw[←e0,e]at hlt;exact Dig.lt_irrefl _ hlt
      ·rcases AQ.1 hw with rfl|hw
       ·exfalso
        have hlt:=Hs ha hz
        rw[e0,e]at hlt;exact Dig.lt_irrefl _ hlt
       ·exact h z hz w hw e
    ·rw[if_neg hp]
 termination_by a b=>a.length+b.length
theorem oV {a b:List Sto} (ha:Ej (ids a)) (hb:Ej (ids b)):IY a b=S7 a a b:=by
 by_cases hc:ly a b
 ·obtain⟨u,e1,h1⟩:=Xy ha hb hc
  obtain⟨v,e2,h2⟩:=QL a b ha hb hc
  rw[e1,e2,h1.uniq h2]
 ·rw[OC ha b a hc,OU a b ha hb hc]
theorem Pk.len {a b u:List Sto} (h:Pk a b u):u.length≤a.length+b.length:=by
 have:=Eh h.asc.nodup (m:=ids a++ids b) fun d hd=>by
  obtain⟨x,hx,rfl⟩:=AU.1 hd
  rcases(h.mem x).1 hx with hx|hx
  ·exact Ai.2 (.inl (AU.2 ⟨x,hx,rfl⟩))
  ·exact Ai.2 (.inr (AU.2 ⟨x,hx,rfl⟩))
 rwa [A8,Dj,Dj,Dj]at this
theorem Va {a b:List Sto} (ha:Ej (ids a)) (hb:Ej (ids b)) (hl:a.length+b.length≤400) (hc:ly a b): ∃ u,EP a b=(u,0)∧Pk a b u:=by
 obtain⟨u,e,i⟩:=Xy ha hb hc
 refine⟨u,?_,i⟩
 have:=i.len
 rw[EP,e];simp only;rw[if_neg (by omega)]
theorem aZ {a b:List Sto} (ha:Ej (ids a)) (hc: ¬ly a b):EP a b=([],14):=by rw[EP,OC ha b a hc]
theorem Pk.sub {a b u:List Sto} (h:Pk a b u) {d:Dig}:d∈ids u↔d∈ids a∨d∈ids b:=by
 constructor
 ·intro hd
  obtain⟨x,hx,rfl⟩:=AU.1 hd
  rcases(h.mem x).1 hx with hx|hx
  ·exact .inl (AU.2 ⟨x,hx,rfl⟩)
  ·exact .inr (AU.2 ⟨x,hx,rfl⟩)
 ·rintro(hd|hd)
  ·obtain⟨x,hx,rfl⟩:=AU.1 hd
   exact AU.2 ⟨x,(h.mem x).2 (.inl hx),rfl⟩
  ·obtain⟨x,hx,rfl⟩:=AU.1 hd
   exact AU.2 ⟨x,(h.mem x).2 (.inr hx),rfl⟩
theorem Pk.getL {a b u:List Sto} (h:Pk a b u) (ha:Ej (ids a)) {d:Dig} (hd:d∈ids a):getS u d=getS a d:=by
 obtain⟨x,hx,rfl⟩:=AU.1 hd
 rw[KE ha hx,KE h.asc ((h.mem x).2 (.inl hx))]
theorem C7.union {a b u:List Sto} (va:C7 a) (vb:C7 b) (h:Pk a b u) (hl:a.length+b.length≤200):C7 u:=by
 have hlen:=h.len
 have hcl: ∀ y∈u,∀ d∈Bf y.patch,d∈ids u:=fun y hy d hd=>h.sub.2 (by
  rcases(h.mem y).1 hy with hy|hy
  ·exact .inl (va.close.2 y hy d hd)
  ·exact .inr (vb.close.2 y hy d hd))
 refine⟨⟨⟨by omega,fun y hy=>?_⟩,hcl⟩,fun y hy=>?_,h.asc,?_,fun y hy=>?_⟩
 ·rcases(h.mem y).1 hy with hy|hy
  ·exact va.close.1.2 y hy
  ·exact vb.close.1.2 y hy
 ·rcases(h.mem y).1 hy with hy|hy
  ·exact va.id y hy
  ·exact vb.id y hy
 ·have hr:Pj u (fun d=>if d∈ids a then Ni a d else(ED a).length+1+Ni b d):=by
   refine⟨h.asc,hcl,fun y hy d hd=>?_⟩
   have hra:Ni a d≤(ED a).length:=by unfold Ni;exact List.idxOf_le_length
   by_cases hya:y∈a
   ·have h1:y.id∈ids a:=AU.2 ⟨y,hya,rfl⟩
    simp only[if_pos h1,if_pos (va.close.2 y hya d hd)]
    exact va.rank hya hd
   ·have hyb:y∈b:=((h.mem y).1 hy).resolve_left hya
    have hn:y.id∉ids a:=fun hn=>by
     obtain⟨x,hx,e⟩:=AU.1 hn
     exact hya (KX h.asc ((h.mem x).2 (.inl hx)) hy e ▸ hx)
    simp only[if_neg hn]
    have:=vb.rank hyb hd
    split<;>omega
  exact Db hr.order.symm
 ·rcases(h.mem y).1 hy with hy|hy
  ·rw[Ig (va.id y hy).1 fun d hd=>h.getL va.asc (va.close.2 y hy d hd)]
   exact va.refs y hy
  ·rw[Ig (vb.id y hy).1 fun d hd=>h.symm.getL vb.asc (vb.close.2 y hy d hd)]
   exact vb.refs y hy
structure JR (s:List Sto) (l L:List Dig):Prop where
 has: ∀ d∈l,d∈L
 sub: ∀ d∈L,d∈ids s
 asc:Ej L
 nd: ∀ d∈L,∀ n∈ndS s d,n∈L
theorem C7.closed {s:List Sto} (v:C7 s) {l:List Dig} (hl: ∀ d∈l,d∈ids s): ∃ L,DC s l=(L,0)∧JR s l L:=by
 have h:Ca (ids s) l=true:=Ar.2 fun d hd=>BL (hl d hd)
 have hcl: ∀ x∈ids s,∀ d∈Go.Proofs.ndS s x,d∈ids s:=fun x _ d hd=>v.close.nd x d hd
 have hm: ∀ d,d∈K6 (Go.Proofs.ndS s) s.length (CU [] l)↔Q.Reach (Go.Proofs.ndS s) l d:=fun d=>OV hcl hl (by rw[Dj];exact B5 _)
 refine⟨K6 (Go.Proofs.ndS s) s.length (CU [] l),by rw[DC,if_neg (by simp[h])],fun d hd=>(hm d).2 (.base hd),fun d hd=>((hm d).1 hd).in_ hcl hl,RR (Eb .nil),fun d hd n hn=>(hm n).2 (.step ((hm d).1 hd) hn)⟩
theorem JR.keep {s:List Sto} (v:C7 s) {l L:List Dig} (h:JR s l L):C7 (Bt s L):=v.keep fun x hx hc d hd=>h.nd x.id hc d (by rw[v.ndS hx];exact hd)
theorem C7.closedM {s:List Sto} (v:C7 s) {l:List Dig} (hl: ∀ d∈l,d∈ids s): ∃ L,DC s l=(L,0)∧JR s l L∧ ∀ d,d∈L↔Q.Reach (Go.Proofs.ndS s) l d:=by
 obtain⟨L,e,h⟩:=v.closed hl
 refine⟨L,e,h,fun d=>?_⟩
 have hA:Ca (ids s) l=true:=Ar.2 fun d hd=>BL (hl d hd)
 have hcl: ∀ x∈ids s,∀ d∈Go.Proofs.ndS s x,d∈ids s:=fun x _ d hd=>v.close.nd x d hd
 rw[DC,if_neg (by simp[hA])]at e
 rw[←(Prod.mk.inj e).1,OV hcl hl (by rw[Dj];exact B5 _)]
theorem GU {U l:List Dig}:Ca U l=true↔ ∀ d∈l,d∈U:=by simp[Ca]
theorem UY {s:List Sto} (v:C7 s) {d:Dig}:d∈ED s↔d∈ids s:=⟨(GF s).sub d,v.mem_order⟩
theorem Yu (s:List Sto):(ED s).Nodup:=(GF s).nodup
theorem Z6 {l m:List Dig} (hl:l.Nodup) (hm:m.Nodup) (h: ∀ d,d∈l↔d∈m):l.length=m.length:=
 Nat.le_antisymm (Eh hl fun d hd=>(h d).1 hd) (Eh hm fun d hd=>(h d).2 hd)
theorem kU (a:List Sto):Bt a (ids a)=a:=by
 have e:Bt a (ids a)=a.filter fun x=>decide (x.id∈ids a):=rfl
 rw[e,GB]
 exact fun x hx=>BL (AU.2 ⟨x,hx,rfl⟩)
structure zS (s:List Sto) (l:List Dig):Prop where
 mem: ∀ d,d∈l↔d∈ids s
 nodup:l.Nodup
 need: ∀ i (h:i < l.length),∀ d∈ndS s l[i],d∈l.take i
theorem fJ {s:List Sto} (v:C7 s):zS s (ED s):=⟨fun d=>UY v,Yu s,fun i hi d hd=>by
 obtain⟨x,hx,e,h1,h2⟩:=GF s i hi
 rw[←e,v.ndS hx]at hd
 exact h1 d hd⟩
def qH (l:List Dig) (i:Nat):List Dig:=(l.set i (l.getD (i+1) Dig.zero)).set (i+1) (l.getD i Dig.zero)
@[simp] theorem uI (l:List Dig) (i:Nat):(qH l i).length=l.length:=by simp[qH]
def eF (s:List Sto) (x:Sto):Bool:=s.all fun y=>decide (x.id∉Bf y.patch)
def K4 (s:List Sto):List Dig:=(s.filter (eF s)).map (·.id)
theorem iJ (s:List Sto):(K4 s).Sublist (ids s):=(List.filter_sublist).map _
theorem QM {s:List Sto} {d:Dig}:d∈K4 s↔d∈ids s∧ ∀ y∈s,d∉Bf y.patch:=by
 unfold K4 eF
 rw[AU]
 constructor
 ·rintro⟨x,hx,rfl⟩
  obtain⟨h1,h2⟩:=EI.1 hx
  exact⟨AU.2 ⟨x,h1,rfl⟩,fun y hy=>by simpa using Ar.1 h2 y hy⟩
 ·rintro⟨h1,h2⟩
  obtain⟨x,hx,rfl⟩:=AU.1 h1
  exact⟨x,EI.2 ⟨hx,Ar.2 fun y hy=>by simpa using h2 y hy⟩,rfl⟩
theorem iM {s:List Sto} (v:C7 s): ∀ (n:Nat) {d:Dig},d∈ids s→(ED s).length - (ED s).idxOf d=n→Q.Reach (ndS s) (K4 s) d:=fun n=>by
 induction n using Nat.strongRecOn with
 |_ n ih=>
  intro d hd e
  by_cases h: ∀ y∈s,d∉Bf y.patch
  ·exact .base (QM.2 ⟨hd,h⟩)
  ·simp only[Xr,not_imp,Aj]at h
   obtain⟨y,hy,hn⟩:=h
   have hyi:y.id∈ids s:=AU.2 ⟨y,hy,rfl⟩
   have hL:=fJ v
   have h1:=(hL.mem y.id).2 hyi
   have hk:(ED s).idxOf y.id < (ED s).length:=xZ.2 h1
   have h2:=hL.need _ hk d (by rw[cF hk,v.ndS hy];exact hn)
   obtain⟨j,hj,e2⟩:=Dm.1 h2
   have hdk:(ED s).idxOf d < (ED s).length:=xZ.2 ((hL.mem d).2 hd)
   have e3:(ED s).idxOf d=j:=(List.getElem_inj hL.nodup).1 ((cF hdk).trans e2.symm)
   have:=ih ((ED s).length - (ED s).idxOf y.id) (by omega) hyi rfl
   exact .step this (by rw[v.ndS hy];exact hn)
theorem aH {s:List Sto} {l:List Dig} {d:Dig} (hd:d∈K4 s) (h:Q.Reach (ndS s) l d):d∈l:=by
 cases h with
 |base h=>exact h
 |step hr hn=>
  rename_i x
  unfold ndS at hn
  cases hg:getS s x with
  |none=>rw[hg,Option.getD_none,Mi]at hn;cases hn
  |some p=>
   rw[hg,Option.getD_some]at hn
   exact absurd hn ((QM.1 hd).2 _ (RU hg))
def Fv (s:List Sto) (p q:Dig):Bool:=decide ((DC s [p]).2=0)&&(decide (q∈ids s)&&decide (q∈(DC s [p]).1))
theorem C7.knows {s:List Sto} (v:C7 s) (p q:Dig):Fv s p q=(decide ((DC s [p]).2=0)&&decide (q∈(DC s [p]).1)):=by
 unfold Fv
 by_cases h:(DC s [p]).2=0
 ·by_cases hq:q∈(DC s [p]).1
  ·have hp:p∈ids s:=by
    unfold DC at h
    by_cases h1:Ca (ids s) [p]=false
    ·rw[if_pos h1]at h;exact absurd h (by decide)
    ·simpa [Ca]using h1
   have e:(DC s [p]).1=pQ s p:=rfl
   rw[e]at hq ⊢
   have hin:q∈ids s:=by
    have h:=(v.mem_clo hp q).1 hq
    exact h.in_ (fun x _ d hd=>v.close.nd x d hd) (ids:= [p]) (fun y hy=>by rw[B1.1 hy];exact hp)
   simp[h,hq,hin]
  ·simp[hq]
 ·simp[h]
end Go.Proofs
