/- Contracts of the program: a patch's identity; searches in a sorted set; what a set lacks. -/
import Derived.Test.YtaibdmankdppkaaGreatDoorXak
import Derived.Test.YtaibdmankdppkaaGreatDoorXam
import Derived.Test.YtaibdmankdppkaaGreatDoorXaj
import Derived.Test.YtaibdmankdppkaaGreatDoorXah
import Derived.Test.YtaibdmankdppkaaGreatDoorXal
import Derived.Shelf.SlSortCmp.NoneTotal
import Derived.Shelf.SlGeneric
import Derived.Ground.SlsfProg
import Derived.Test.YtaibdmankdppkaaGreatDoorProg
set_option linter.unusedSimpArgs false
set_option linter.unusedVariables false
set_option maxHeartbeats 8000000
namespace Go.Proofs
open Go Go.Q
attribute [local irreducible] ER AQ BG Fu
instance y7 (p:Pat) [hs:B4 (E5 p=false)]:C9 Tryz.prog 73 [.agg (Ba p)] (.tuple [.agg (eDig (EW p).1),.raw (.int .i64 (EW p).2)]):=⟨by
 have i1:B4 ((CD p).1.length≤1000000):=⟨by have:=QI p;omega⟩
 refine Au Tryz.func73 Tryz.ntmps73 rfl (rs:= [.cell 2 31,.tmp 3]) rfl rfl fun hb LF=>?_
 refine wf ?_
 refine CC fun b2=>?_
 refine wf ?_
 refine AX (fun h=>?_) (fun h=>?_)
 ·refine wf ?_
  refine L6 rfl ?_
  rw[EW,if_pos h]
  exact .refl _
 ·refine wf ?_
  refine L6 rfl ?_
  rw[EW,if_neg (by simpa using h)]
  exact .refl _⟩
instance rN (x:Sto) (d:Dig):C9 Tryz.prog 155 [.agg (eSto x),.agg (eDig d)] (.raw (.int .i64 (Ea x.id d))):=⟨by
 refine Au Tryz.func155 Tryz.ntmps155 rfl (rs:= [.tmp 4]) rfl rfl fun hb LF=>?_
 refine wf ?_
 exact Az (.refl _)⟩
def Jg (s:List Sto) (d:Dig):Nat:=s.findIdx fun x=>decide (0≤Ea x.id d)
theorem WJ {s:List Sto} {d:Dig} {i:Nat} (hi:i≤s.length) (h1: ∀ k (h:k < s.length),k < i→Ea s[k].id d < 0) (h2: ∀ k (h:k < s.length),i≤k→0≤Ea s[k].id d):Jg s d=i:=by
 unfold Jg
 rcases BP i s.length with h|h
 ·refine(pE h).2 ⟨BK (h2 i h (Ak _)),fun j hj=>Ck ?_⟩
  have:=h1 j (by omega) hj
  omega
 ·have e:i=s.length:=by omega
  subst e
  refine yn.2 fun x hx=>Ck ?_
  obtain⟨k,hk,rfl⟩:=Ad.1 hx
  have:=h1 k hk hk
  omega
theorem YM {s:List Sto} (ha:Gm (ids s)) {d:Dig} {i:Nat} (h1: ∀ k (h:k < s.length),k < i→Ea s[k].id d < 0) (h2: ∀ k (h:k < s.length),i≤k→0≤Ea s[k].id d):d∈ids s↔ ∃ h:i < s.length,Ea s[i].id d=0:=by
 constructor
 ·intro h
  obtain⟨x,hx,rfl⟩:=AO.1 h
  obtain⟨k,hk,rfl⟩:=Ad.1 hx
  have hz:Ea s[k].id s[k].id=0:=MH.2 rfl
  have hik:i≤k:=by
   rcases BP k i with h'|h'
   ·have:=h1 k hk h';omega
   ·exact h'
  have hi:i < s.length:=by omega
  refine⟨hi,?_⟩
  rcases BP i k with h'|h'
  ·have hp:=B7.1 ha i k (by simpa [ids]using hi) (by simpa [ids]using hk) h'
   simp only[ids,BQ]at hp
   have:=h2 i hi (Ak _)
   have hp:Ea s[i].id s[k].id < 0:=hp
   omega
  ·have e:i=k:=by omega
   subst e;exact hz
 ·rintro⟨h,e⟩
  rw[←MH.1 e]
  exact AO.2 ⟨s[i],AJ h,rfl⟩
theorem kl {s:List Sto} (ha:Gm (ids s)) {i k:Nat} (hk:k < s.length) (hik:i≤k) {d:Dig}:(Ea s[k].id d < 0→Ea s[i].id d < 0)∧(0≤Ea s[i].id d→0≤Ea s[k].id d):=by
 rcases BP i k with h|h
 ·have hp:=B7.1 ha i k (by simp[ids];omega) (by simpa [ids]using hk) h
  simp only[ids,BQ]at hp
  refine⟨fun h'=>Dig.lt_trans hp h',fun h'=>?_⟩
  rcases U6 (Ea s[k].id d) 0 with h2|h2
  ·have:Ea s[i].id d < 0:=Dig.lt_trans hp h2
   omega
  ·exact h2
 ·have e:i=k:=by omega
  subst e;exact⟨id,id⟩
theorem fa (s:List Sto) (t:CN) (d:Dig) (ha:Gm (ids s)) (hl:s.length≤1000000):C9 Tryz.prog 154 [.slice (s.map eSto) t,.agg (eDig d),.clo 155 []] (.tuple [.raw (.int .i64 (Jg s d)),.raw (.bool (decide (d∈ids s)))]):=⟨by
 refine Au Tryz.func154 Tryz.ntmps154 rfl (rs:= [.tmp 6,.tmp 7]) rfl rfl fun hb LF=>?_
 refine wf ?_
 refine Ab (σ:=Nat × Nat) (fun k=>k.1≤k.2∧k.2≤s.length∧(∀ i (h:i < s.length),i < k.1→Ea s[i].id d < 0)∧(∀ i (h:i < s.length),k.2≤i→0≤Ea s[i].id d)) (fun k=>k.2 - k.1) (fun k=> [(0,.slice (s.map eSto) t),(2,.clo 155 []),(4,.pt (eDig d) 0),(8,.raw (.int .i64 s.length)),(9,.raw (.int .i64 k.1)),(10,.raw (.int .i64 k.2))]) (fun _=>LF) (0,s.length) ⟨by simp,by simp,fun i h h'=>by omega,fun i h h'=>by omega⟩ ⟨rfl,rfl,rfl,rfl,rfl,rfl⟩ (.refl _) ?_
 rintro⟨i,j⟩ ⟨hij,hjn,h1,h2⟩
 dsimp only at hij hjn h1 h2 ⊢
 refine wf ?_
 refine A6 (fun hc=>?_) (fun hc=>?_)
 ·have hlt:i < j:=by omega
  obtain⟨m,hm⟩: ∃ m,m=(i+j) / 2 ^ (min 1 64):=⟨_,rfl⟩
  have hm2:m=(i+j) / 2:=hm
  have hmn:m < s.length:=by omega
  refine wf ?_
  refine W5 (n:=(((i+j) / 2 ^ (min 1 64):Nat):Int)) rfl (IntWalk.i64_in _ ⟨by omega,by omega⟩) ?_
  rw[←hm]
  refine wf ?_
  refine A6 (fun h=>?_) (fun h=>?_)
  ·refine wf ?_
   exact⟨(m+1,j),⟨by dsimp only;omega,hjn,fun k hk hkm=>(kl (d:=d) ha hmn (by omega)).1 h,h2⟩,by dsimp only;omega,⟨rfl,rfl,rfl,rfl,rfl,rfl⟩,.refl _⟩
  ·refine wf ?_
   exact⟨(i,m),⟨by dsimp only;omega,by dsimp only;omega,h1,fun k hk hkm=>(kl (d:=d) ha hk hkm).2 (Int.not_lt.1 h)⟩,by dsimp only;omega,⟨rfl,rfl,rfl,rfl,rfl,rfl⟩,.refl _⟩
 ·have e:i=j:=by omega
  subst e
  refine Decidable.byCases (p:=i < s.length) (fun hin=>?_) (fun hin=>?_)
  ·have g:decide ((i:Int) < (s.length:Int))=true:=BK (by omega)
   refine wf ?_
   refine HD (.of_eq ?_)
   have hpm:=YM ha h1 h2
   rw[WJ hjn h1 h2]
   have e2:decide (d∈ids s)=decide (Ea s[i].id d=0):=by
    rw[decide_eq_decide,hpm]
    exact⟨fun⟨_,h⟩=>h,fun h=>⟨hin,h⟩⟩
   rw[e2]
  ·have g:decide ((i:Int) < (s.length:Int))=false:=Ck (by omega)
   refine wf ?_
   refine HD (.of_eq ?_)
   have hpm:=YM ha h1 h2
   rw[WJ hjn h1 h2,Ck (fun h=>hin (hpm.1 h).1)]⟩
theorem Sd (s:List Sto) (t:CN) (d:Dig) (ha:Gm (ids s)) (hl:s.length≤1000000):C9 Tryz.prog 92 [.slice (s.map eSto) t,.agg (eDig d)] (.tuple [.raw (.int .i64 (Jg s d)),.raw (.bool (decide (d∈ids s)))]):=⟨by
 have i1: ∀ t,C9 Tryz.prog 154 [.slice (s.map eSto) t,.agg (eDig d),.clo 155 []] (.tuple [.raw (.int .i64 (Jg s d)),.raw (.bool (decide (d∈ids s)))]):=fun t=>fa s t d ha hl
 refine Au Tryz.func92 Tryz.ntmps92 rfl (rs:= [.tmp 4,.tmp 5]) rfl rfl fun hb LF=>?_
 refine wf ?_
 exact HD (.refl _)⟩
theorem et (s:List Sto) (t:CN) (d:Dig) (ha:Gm (ids s)) (hl:s.length≤1000000):C9 Tryz.prog 138 [.agg (eDig d),.pt [.slice (s.map eSto) t] 0] (.raw (.bool (!decide (d∈ids s)))):=⟨by
 have i1: ∀ t,C9 Tryz.prog 92 [.slice (s.map eSto) t,.agg (eDig d)] (.tuple [.raw (.int .i64 (Jg s d)),.raw (.bool (decide (d∈ids s)))]):=fun t=>Sd s t d ha hl
 refine Au Tryz.func138 Tryz.ntmps138 rfl (rs:= [.tmp 3]) rfl rfl fun hb LF=>?_
 refine wf ?_
 exact Az (.refl _)⟩
theorem jo (s:List Sto) (t:CN) (p:Pat) (ha:Gm (ids s)) (hl:s.length≤1000000) (hg:E5 p=false):C9 Tryz.prog 74 [.slice (s.map eSto) t,.agg (Ba p)] (.raw (.bool (!DM (ids s) (Ax p)))):=⟨by
 have i0:B4 (E5 p=false):=⟨hg⟩
 have i1: ∀ t d,C9 Tryz.prog 138 [.agg (eDig d),.pt [.slice (s.map eSto) t] 0] (.raw (.bool (!decide (d∈ids s)))):=fun t d=>et s t d ha hl
 have i2: ∀ t u,C9 Tryz.prog 47 [.slice ((Ax p).map eDig) t,.clo 138 [.pt [.slice (s.map eSto) u] 0]] (.raw (.bool ((Ax p).any fun d=>!decide (d∈ids s)))):=fun t u=>KE 138 [.pt [.slice (s.map eSto) u] 0] (fun d=>!decide (d∈ids s)) (Ax p) t
 refine Au Tryz.func74 Tryz.ntmps74 rfl (rs:= [.tmp 4]) rfl rfl fun hb LF=>?_
 refine wf ?_
 refine Az (.of_eq ?_)
 rw[DM,yA]⟩
instance lk:Zb Tryz.prog 23 59 37 120:=⟨by
 have h2:(Tryz.prog.info? 59).map (fun i=>(i.size,i.bytes,i.zero.isSome,(i.zero.getD undef).cells.size))=some (37,120,true,37):=by kernel_rfl
 obtain⟨i,hi,e⟩:=Bj.1 h2
 simp only[Prod.mk.injEq]at e
 obtain⟨e1,e2,e3,e4⟩:=e
 obtain⟨z,hz⟩:=Eb.1 e3
 rw[hz]at e4
 exact⟨i,z,by kernel_rfl,hi,e1,e2,hz,e4,by decide,by decide⟩⟩
instance xL:Zb Tryz.prog 22 59 37 120:=⟨by
 obtain⟨i,z,_,h⟩:=lk.out
 exact⟨i,z,by kernel_rfl,h⟩⟩
theorem JA {X cs:List Value} {o:Nat} (h:o+cs.length≤X.length):(FX X o cs).length=X.length:=by
 unfold FX
 simp only[AA,AZ,BB];omega
theorem OJ {X cs:List Value} {o:Nat} (h:o+cs.length≤X.length) (k:Nat):(FX X o cs)[k]? =if k < o then X[k]? else if k < o+cs.length then cs[k - o]? else X[k]?:=by
 unfold FX
 have h1:(X.take o).length=o:=by rw[AZ];omega
 by_cases a:k < o
 ·rw[if_pos a,AV,Cz (by omega),Fg a]
 ·rw[if_neg a,AV,FH (by omega),h1]
  by_cases b:k < o+cs.length
  ·rw[if_pos b,Cz (by omega)]
  ·rw[if_neg b,FH (by omega),Gf]
   congr 1;omega
theorem UV {us cv:List Value} {a:Nat} (h:a≤us.length) (k:Nat):(us.take a++cv++us.drop a)[k]? =if k < a then us[k]? else if k < a+cv.length then cv[k - a]? else us[k - cv.length]?:=by
 have h1:(us.take a).length=a:=by rw[AZ];omega
 by_cases b:k < a
 ·rw[if_pos b,AV,Cz (by omega),Fg b]
 ·rw[if_neg b,AV,FH (by omega),h1]
  by_cases c:k < a+cv.length
  ·rw[if_pos c,Cz (by omega)]
  ·rw[if_neg c,FH (by omega),Gf]
   congr 1;omega
theorem SV {us cv:List Value} {a:Nat} (h:a≤us.length):(us.take a++cv++us.drop a).length=us.length+cv.length:=by
 simp only[AA,AZ,BB];omega
theorem Yv {us cv zs:List Value} {a:Nat} (h:a≤us.length) (hz:cv.length+(us.length - a)≤zs.length):(FX (FX (us.take a++zs) a cv) (a+cv.length) (us.drop a)).take (us.length+cv.length)=us.take a++cv++us.drop a:=by
 have h1:(us.take a).length=a:=by rw[AZ];omega
 have hX:(us.take a++zs).length=a+zs.length:=by rw[AA,h1]
 have hB:(us.drop a).length=us.length - a:=BB
 have q1:a+cv.length≤(us.take a++zs).length:=by omega
 have q2:=JA q1
 have q3:a+cv.length+(us.drop a).length≤(FX (us.take a++zs) a cv).length:=by omega
 refine fq fun k=>?_
 rw[UV h,Gd]
 by_cases hk:k < us.length+cv.length
 ·rw[if_pos hk,OJ q3,OJ q1]
  by_cases b:k < a
  ·rw[if_pos (by omega),if_pos b,if_pos b,Cz (by omega),Fg b]
  ·rw[if_neg b,if_neg b]
   by_cases c:k < a+cv.length
   ·rw[if_pos c,if_pos c,if_pos c]
   ·rw[if_neg c,if_pos (by omega),if_neg c,Gf]
    congr 1;omega
 ·rw[if_neg hk,if_neg (by omega),if_neg (by omega),FT (by omega)]
theorem Vz {us cv X:List Value} {a:Nat} (h:a≤us.length) (hX:us.length+cv.length≤X.length) (ht:X.take us.length=us):(FX (FX X (a+cv.length) (us.drop a)) a cv).take (us.length+cv.length)=us.take a++cv++us.drop a:=by
 have hB:(us.drop a).length=us.length - a:=BB
 have q1:a+cv.length+(us.drop a).length≤X.length:=by omega
 have q2:=JA q1
 have q3:a+cv.length≤(FX X (a+cv.length) (us.drop a)).length:=by omega
 refine fq fun k=>?_
 rw[UV h,Gd]
 by_cases hk:k < us.length+cv.length
 ·rw[if_pos hk,OJ q3,OJ q1]
  by_cases b:k < a
  ·rw[if_pos b,if_pos (by omega),if_pos b]
   conv=>rhs;rw[←ht]
   rw[Fg (by omega)]
  ·rw[if_neg b,if_neg b]
   by_cases c:k < a+cv.length
   ·rw[if_pos c,if_pos c]
   ·rw[if_neg c,if_neg c,if_neg c,if_pos (by omega),Gf]
    congr 1;omega
 ·rw[if_neg hk,if_neg (by omega),if_neg (by omega),FT (by omega)]
theorem XK {cur:Array Value} {us:List Value} (h:cur.toList.take us.length=us) (a:Nat):LA cur 0 (us.take a):=fun j hj=>by
 rw[AZ]at hj
 rw[BL,FG,←AW (by omega)]
 conv=>rhs;rw[←h]
 rw[Fg (by omega)]
theorem Qh {cur:Array Value} {us:List Value} (h:cur.toList.take us.length=us) (a:Nat):LA cur a (us.drop a):=fun j hj=>by
 rw[BB]at hj
 rw[J2,←AW (by omega)]
 conv=>rhs;rw[←h]
 rw[Fg (by omega)]
theorem ah (v:Value) (n:Nat) (us:List Value) (R:List Res) (hv:MI 59 37 v n us R) (i:Nat) (hi:i≤n) (hn:n≤1000) (rv:Nat) (cv:Array Value) (hcv:cv.size=37) (h1v: ∀ x∈cv.toList,x.oneCell'=true) (h1u: ∀ x∈us,x.oneCell'=true):
  BG Tryz.prog 94 [.raw v,.raw (.int .i64 (i:Int)),.raw (.slice (some ⟨rv,0,none⟩) 1 1)] (R++ [.raw rv (.cells cv 59 (0,0))])
   (fun x L'=> ∃ v' R',x= .raw v'∧MI 59 37 v' (n+1) (us.take (i*37)++cv.toList++us.drop (i*37)) R'∧L'=R'++ [.raw rv (.cells cv 59 (0,0))]):=by
 refine CA Tryz.func94 rfl Tryz.ntmps94 (rs:= [.tmp 6]) rfl rfl fun hb LF=>?_
 have hul:=hv.len
 have hcl:cv.toList.length=37:=by simpa using hcv
 have hcat:LA cv 0 cv.toList:=fun j hj=>by rw[BL,AW hj]
 obtain⟨o,c,hvs⟩:=hv.slice
 have hnc:n≤c:=by cases hv<;>(injection hvs with _ _ e;omega)
 subst hvs
 refine wf ?_
 refine iR rfl rfl hi hnc fun u=>?_
 refine wf ?_
 refine KP rfl ?_
 refine wf ?_
 refine KP rfl ?_
 refine wf ?_
 refine A6 (fun h=>?_) (fun h=>?_)
 ·have hin:i=n:=by omega
  subst hin
  refine wf ?_
  refine mZ (us:=us) (vs:=cv.toList) (R:=R) (LF:= .raw rv (.cells cv 59 (0,0))::LF) (fun R'=>R'++(.raw rv (.cells cv 59 (0,0))::LF)) rfl rfl hv (.of_eq (by simp)) (fun R'=> .refl _) (by omega) h1v ⟨cv,_,_,AF,hcat⟩ (by omega) (by omega) fun v' R' hv'=>?_
  refine wf ?_
  refine wf ?_
  refine⟨trivial,_,R'++ [.raw rv (.cells cv 59 (0,0))],.cons (.tmp 6) .nil,by rw[AV];exact .refl _,v',R',rfl,?_,rfl⟩
  rw[AE (by omega),DB (by omega),BU]
  exact hv'
 have hin:i < n:=by omega
 cases hv with
 |nil o ho=>omega
 |row hlc hs hu hc=>
 rename_i r cur
 have hc':cur.toList.take us.length=us:=by rw[hul];exact hc
 have hcs:cur.toList.length=c*37:=by simpa using hs
 have hia:i*37≤us.length:=by omega
 have htl:(us.take (i*37)).length=i*37:=by rw[AZ];omega
 have hdl:(us.drop (i*37)).length=(n - i)*37:=by rw[BB];omega
 refine wf ?_
 refine re rfl ?_
 refine wf ?_
 refine A6 (fun h2=>?_) (fun h2=>?_)
 ·refine wf ?_
  refine Mb 0 i rfl (by omega) (by omega) (by omega) hlc (fun _ e=>by cases e) (fun _=>rfl) (fun o e=>by cases e;exact⟨_,rfl⟩) (fun e=>by cases e) ?_
  refine wf ?_
  refine ri (T₂:=3) (us:=us.take (i*37)) (n:=i) (m:=n+1 - i) (c:=c) (o:=0) (cur:=cur) (by kernel_rfl) rfl (by show PV.raw (Value.int .i64 ((n:Int)+1 - i))=PV.raw (Value.int .i64 ((n+1 - i:Nat):Int));congr 2;omega) AF rfl htl (XK hc' _) (by omega) (by omega) (by omega) (by omega) fun r' nc zs hnc hzl=>?_
  have e1:i+(n+1 - i)=n+1:=by omega
  rw[e1]at hnc ⊢
  have hz37:cv.toList.length+(us.length - i*37)≤zs.length:=by
   rw[AA,htl]at hzl
   have:(n+1)*37≤nc*37:=B8 _ hnc
   omega
  refine wf ?_
  refine wf ?_
  refine Mb i (n+1) rfl (by omega) hnc (by omega) hnc (fun o e=>by cases e;exact⟨_,rfl⟩) (fun e=>by cases e) (fun _ e=>by cases e) (fun _=>rfl) ?_
  refine wf ?_
  refine SK (r:=r') (cur:=(us.take (i*37)++zs).toArray) cv.toList (fun c=>c::([.raw r (.cells cur 59 (0,0))]++ [.raw rv (.cells cv 59 (0,0))]++LF)) rfl rfl (.refl _) (fun c=> .refl _) (by rw[show Nat.min 1 (n+1 - i)=1 by show min 1 (n+1 - i)=1;omega];omega) h1v (by simp only[Cd,AA,htl];omega) ⟨cv,_,_,AI _ (AI _ AF),hcat⟩ ?_
  rw[show 0+i*37=i*37 from BL _]
  rw[show(us.take (i*37)++zs).toArray.toList=us.take (i*37)++zs from rfl]
  refine AD ?_
  refine wn ?_
  refine Bp 8 ?_ ?_
  ·decide+kernel
  refine wf ?_
  refine Mb (i+1) (n+1) rfl (by omega) hnc (by omega) hnc (fun o e=>by cases e;exact⟨_,rfl⟩) (fun e=>by cases e) (fun _ e=>by cases e) (fun _=>rfl) ?_
  refine wf ?_
  refine Mb i n rfl (by omega) (by omega) (by omega) hlc (fun o e=>by cases e;exact⟨_,rfl⟩) (fun e=>by cases e) (fun _ e=>by cases e) (fun _=>rfl) ?_
  refine wf ?_
  have hsp:(FX (us.take (i*37)++zs) (i*37) cv.toList).length=nc*37:=by
   rw[JA (by rw[AA,htl];omega),hzl]
  have hnz:(n+1)*37≤nc*37:=B8 _ hnc
  refine SK (r:=r') (cur:=(FX (us.take (i*37)++zs) (i*37) cv.toList).toArray) (us.drop (i*37)) (fun c=>c::([.raw r (.cells cur 59 (0,0))]++ [.raw rv (.cells cv 59 (0,0))]++LF)) rfl rfl (.refl _) (fun c=> .refl _) (by rw[show Nat.min (n - i) (n+1 - (i+1))=n - i by show min (n - i) (n+1 - (i+1))=n - i;omega];exact hdl) (fun x hx=>h1u x (JO hx)) (by rw[Cd,hsp,hdl];omega) ⟨cur,_,_,AI _ AF,by rw[BL];exact Qh hc' _⟩ ?_
  rw[show 0+(i+1)*37=(i+1)*37 from BL _]
  rw[show(FX (us.take (i*37)++zs) (i*37) cv.toList).toArray.toList=FX (us.take (i*37)++zs) (i*37) cv.toList from rfl]
  refine wf ?_
  refine wf ?_
  refine⟨trivial,_,[.raw r' (.cells (FX (FX (us.take (i*37)++zs) (i*37) cv.toList) ((i+1)*37) (us.drop (i*37))).toArray 59 (0,0))]++ [.raw rv (.cells cv 59 (0,0))],.cons (.tmp 6) .nil,.cons_cons _ (.cons _ (.refl _)),_,_,rfl,.row hnc ?_ ?_ ?_,rfl⟩
  ·rw[Cd,JA (by rw[hsp,hdl];omega),hsp]
  ·rw[SV hia,hul];omega
  ·have e3:=Yv (us:=us) (cv:=cv.toList) (zs:=zs) hia hz37
   rw[hcl,hul,show i*37+37=(i+1)*37 by omega,show n*37+37=(n+1)*37 by omega]at e3
   exact e3
 have hroom:n+1≤c:=by omega
 have hnz:(n+1)*37≤c*37:=B8 _ hroom
 refine wf ?_
 refine Mb 0 (n+1) rfl (by omega) hroom (by omega) hlc (fun _ e=>by cases e) (fun _=>rfl) (fun o e=>by cases e;exact⟨_,rfl⟩) (fun e=>by cases e) ?_
 refine wf ?_
 refine Mb (i+1) (n+1) rfl (by omega) (by omega) (by omega) (by omega) (fun o e=>by cases e;exact⟨_,rfl⟩) (fun e=>by cases e) (fun _ e=>by cases e) (fun _=>rfl) ?_
 refine Zw (f:=156) (T:=22) (B:=4) (L':=LF) Tryz.func156 (by kernel_rfl) (by kernel_rfl) (by kernel_rfl) (by kernel_rfl) rfl rfl (.swap _ _ _) (by omega) ?_
 refine wo ?_
 refine AD ?_
 refine wn ?_
 refine Bp 8 ?_ ?_
 ·decide+kernel
 refine wf ?_
 refine Mb (i+1) (n+1) rfl (by omega) (by omega) (by omega) (by omega) (fun o e=>by cases e;exact⟨_,rfl⟩) (fun e=>by cases e) (fun _ e=>by cases e) (fun _=>rfl) ?_
 refine wf ?_
 refine Mb i (n+1) rfl (by omega) (by omega) (by omega) (by omega) (fun o e=>by cases e;exact⟨_,rfl⟩) (fun e=>by cases e) (fun _ e=>by cases e) (fun _=>rfl) ?_
 refine wf ?_
 refine SK (r:=r) (cur:=cur) (us.drop (i*37)) (fun c=>c::([.raw rv (.cells cv 59 (0,0))]++LF)) rfl rfl (.refl _) (fun c=> .refl _) (by rw[hdl];congr 1;show n - i=min _ _;omega) (fun x hx=>h1u x (JO hx)) (by rw[hs,hdl];omega) ⟨cur,_,_,AF,by rw[show 0+0*37+i*37=i*37 by omega];exact Qh hc' _⟩ ?_
 rw[show 0+0*37+(i+1)*37=(i+1)*37 by omega]
 have hsp:(FX cur.toList ((i+1)*37) (us.drop (i*37))).length=c*37:=by
  rw[JA (by rw[hcs,hdl];omega),hcs]
 refine AD ?_
 refine wf ?_
 refine Mb i (n+1) rfl (by omega) (by omega) (by omega) (by omega) (fun o e=>by cases e;exact⟨_,rfl⟩) (fun e=>by cases e) (fun _ e=>by cases e) (fun _=>rfl) ?_
 refine wf ?_
 refine SK (r:=r) (cur:=(FX cur.toList ((i+1)*37) (us.drop (i*37))).toArray) cv.toList (fun c=>c::([.raw rv (.cells cv 59 (0,0))]++LF)) rfl rfl (.refl _) (fun c=> .refl _) (by rw[hcl];show 37=min 1 _*37;omega) h1v (by rw[Cd,hsp,hcl];omega) ⟨cv,_,_,AI _ AF,hcat⟩ ?_
 rw[show 0+0*37+i*37=i*37 by omega,show(FX cur.toList ((i+1)*37) (us.drop (i*37))).toArray.toList=FX cur.toList ((i+1)*37) (us.drop (i*37)) from rfl]
 refine AD ?_
 refine wf ?_
 refine⟨trivial,_,[.raw r (.cells (FX (FX cur.toList ((i+1)*37) (us.drop (i*37))) (i*37) cv.toList).toArray 59 (0,0))]++ [.raw rv (.cells cv 59 (0,0))],.cons (.tmp 6) .nil,.refl _,_,_,rfl,.row hroom ?_ ?_ ?_,rfl⟩
 ·rw[Cd,JA (by rw[hsp,hcl];omega),hsp,yi]
 ·rw[SV hia,hul];omega
 ·have e3:=Vz (us:=us) (cv:=cv.toList) (X:=cur.toList) hia (by omega) hc'
  rw[hcl,hul,show i*37+37=(i+1)*37 by omega,show n*37+37=(n+1)*37 by omega]at e3
  exact e3
end Go.Proofs
namespace Go.Q
open Go
section
variable {P:Program} {N:Nat} {all:Array Oper} {K:Env→List Res→Prop} {fl:List Bool} {os:List Oper} {ρ:Env} {L:List Res} {d:Nat} {ty:TypeId} {pos:String} {af:Array Edge}
theorem Ui {T E sz by_:Nat} [hT:Zb P T E sz by_] {x0:Operand} {cs:List PV} (hc:Dm (ρ.ev x0) cs) (hl:cs.length=sz) (h24:sz≤16777216)
  (k: ∀ b,AQ P N all K fl.tail os (CT ρ d (.raw (.slice (some ⟨b,0,none⟩) 1 1))) (.box b E cs::L)) (hd:Nat.blt d N=true:=by rfl) (hfl:fl.headD true=true:=by rfl):AQ P N all K fl (⟨some d,.buildSlice T 1 #[(0,x0)],ty,pos,af,none⟩::os) ρ L:=
 Dd rfl (PA hd) hfl (fun a w g ha hi=>by
  obtain⟨i,z,t1,t2,t3,t4,t5,t6,t7,t8⟩:=hT.out
  obtain⟨us,e1,e2⟩:=hc g _ (ha x0 (by simp[Op.operands]))
  have hul:us.length=sz:=by rw[e2.len,hl]
  have hr:(execOp a.eval ⟨some d,.buildSlice T 1 #[(0,x0)],ty,pos,af,none⟩).run P w= .ok (.value (.slice (some ⟨w.heap.size,0,none⟩) 1 1)) { w with heap:=w.heap.push (.cells us.toArray E (0,0)) }:=by
   have hz: ∀ (zz:Array Value),Instr.fill (fun i=>some (i*sz,sz)) ((Array.range (1*sz)).map (zz[·% zz.size]!)) [(0,a.eval x0)]=some us.toArray:=fun zz=>by
    have e:(Array.range (1*sz)).map (zz[·% zz.size]!)=((List.range (1*sz)).map (zz[·% zz.size]!)).toArray:=by
     apply Po;simp
    have:=O0 (sz:=sz) [us] [a.eval x0] 0 ((List.range (1*sz)).map (zz[·% zz.size]!)) rfl (fun i h1 h2=>by
     have h0:i=0:=by simp at h1;omega
     subst h0
     exact⟨e1,hul⟩) (by simp)
    rw[e]
    simpa using this
   show(do pure (Next.value (←Instr.buildSlice T 1 (#[(0,x0)].map fun(p:Nat × Operand)=>(p.1,a.eval p.2)))):Sem Next).run P w=_
   simp only[Instr.buildSlice,Sem.run_bind,run_underlying t1,Result.andThen_ok,sizeOf,typeInfo,run_program,t2,Sem.run_pure,t3]
   rw[if_neg (by have:(2:Nat) ^ 24=16777216:=by decide
                 omega)]
   have hzv:(zeroValue E).run P w= .ok z w:=by simp[zeroValue,typeInfo,t2,t5]
   split
   ·simp only[Sem.run_bind,Sem.run_pure,Result.andThen_ok,Hh,Aq,CG,hz #[],newRow,run_newObj]
   ·simp only[Sem.run_bind,hzv,Sem.run_pure,Result.andThen_ok,Hh,Aq,CG,hz z.cells,newRow,run_newObj]
  obtain⟨j1,j2,j3⟩:=hi.alloc e2 E
  refine Oper.wq_of_run hr ?_
  exact⟨_,.raw _,g,_,rfl,.raw _,j1,j2,j3,k _⟩)
end
end Go.Q
namespace Go.Proofs
open Go Go.Q
attribute [local irreducible] ER AQ BG Fu
theorem Rf (l:List Sto) (t:CN) (hl:l.length≤1000000):BG Tryz.prog 95 [.slice (l.map eSto) t] [] (fun r L'=> ∃ v,r= .raw v∧Hf 59 37 v (l.map eSto) L'):=by
 refine CA Tryz.func95 rfl Tryz.ntmps95 (rs:= [.tmp 2]) rfl rfl fun hb LF=>?_
 rw[B9]
 refine wf ?_
 refine br rfl fun b hnil=>?_
 refine wf ?_
 refine AU (fun h=>?_) (fun h=>?_)
 ·have h0:l= []:=by simpa using hnil h
  subst h0
  refine Da ?_
  refine CR (by kernel_rfl) ?_
  refine Lg ?_
  refine AD ?_
  refine wf ?_
  exact⟨trivial,_,[],.cons (.tmp 2) .nil,.refl _,_,rfl,.nil none (by simp)⟩
 refine HA ?_
 refine Da ?_
 refine CR (by kernel_rfl) ?_
 refine bz (vf:=fun(_:Sto)=> []) fun v0 hv0=>?_
 have hv1:Hf 59 37 v0 [] []:=by
  generalize hR:([]:List Res)=R at hv0
  generalize hn:([]:List Sto).length=n at hv0
  unfold Js at hv0
  rw[hn]at hv0
  cases hv0 with
  |nil o ho=>exact .nil o ho
  |row _ _ _ _=>cases hR
 refine wf ?_
 refine ic (f:=eSto) (R:= []) (LF:=LF) (fun R'=>R'++LF) rfl rfl hv1 (.refl _) (fun R'=> .refl _) (by simp only[Af];omega) (by simp only[Af];omega) fun v R' hv=>?_
 refine wf ?_
 refine wf ?_
 rw[B9]at hv
 exact⟨trivial,_,R',.cons (.tmp 2) .nil,.refl _,v,rfl,hv⟩
theorem fI {α:Type} {f:α→List PV} {sz:Nat} [hf:NR f sz] (l:List α) (i:Nat) (hi:i≤l.length):(l.map f).flatten.take (i*sz)=((l.take i).map f).flatten∧(l.map f).flatten.drop (i*sz)=((l.drop i).map f).flatten:=by
 have e:(l.map f).flatten=((l.take i).map f).flatten++((l.drop i).map f).flatten:=by
  rw[←CF,←An,C7]
 have hlen:((l.take i).map f).flatten.length=i*sz:=by
  rw[Df (sz:=sz) (fun e he=>by obtain⟨a,_,rfl⟩:=AO.1 he;exact hf.out a),AR,AZ,Cy hi]
 rw[e]
 exact⟨GG hlen,pF hlen⟩
theorem Td (v:Value) (l:List Sto) (R:List Res) (hv:Hf 59 37 v (l.map eSto) R) (i:Nat) (hi:i≤l.length) (hn:l.length≤1000) (rv:Nat) (x:Sto):
  BG Tryz.prog 94 [.raw v,.raw (.int .i64 (i:Int)),.raw (.slice (some ⟨rv,0,none⟩) 1 1)] (R++ [.box rv 59 (eSto x)])
   (fun r L'=> ∃ v' R',r= .raw v'∧Hf 59 37 v' ((l.take i++x::l.drop i).map eSto) R'∧L'=R'++ [.box rv 59 (eSto x)]):=by
 have hfl: ∀ (m:List Sto),KC (m.map eSto).flatten:=fun m c hc=>by
  obtain⟨e,he,hce⟩:=EA.1 hc
  obtain⟨a,_,rfl⟩:=AO.1 he
  exact(inferInstance:K2 eSto).out a c hce
 unfold BG
 intro vs w g LF hvv hI
 have hI1:Du w g (R++([.box rv 59 (eSto x)]++LF)):=by rw[←AV];exact hI
 obtain⟨us,R₁,q1,q2,q3,q4⟩:=hv.open hI1
 have hI2:Du w g (.box rv 59 (eSto x)::(R₁++LF)):=q3.perm Bg
 obtain⟨uv,p1,p2⟩:=Du.boxRaw hI2
 have hI3:Du w g ((R₁++ [.raw rv (.cells uv.toArray 59 (0,0))])++LF):=p2.perm (by rw[AV];exact Bg.symm)
 rw[AR]at q2
 have huv:uv.length=37:=by rw[p1.len];exact(inferInstance:NR eSto 37).out x
 have hbl1:Aj (R₁++ [.raw rv (.cells uv.toArray 59 (0,0))]++LF)=Aj (R++ [.box rv 59 (eSto x)]++LF):=by
  simp only[Aj,Dn]at q4 ⊢
  rw[q4];rfl
 have key:=ah v l.length us R₁ q2 i hi hn rv uv.toArray (by simpa using huv) (by simpa using p1.one (fun c hc=>(inferInstance:K2 eSto).out x c hc)) (q1.one (hfl l))
 unfold BG at key
 refine(key vs w g LF hvv hI3).mono ?_
 rintro e w' ⟨v',x',g',L',rfl,k2,k3,k4,k5,v2,R',rfl,k6,rfl⟩
 have k3':Du w' g' (.raw rv (.cells uv.toArray 59 (0,0))::(R'++LF)):=k3.perm (by rw[AV];exact Bg)
 have k7:Du w' g' (.box rv 59 (eSto x)::(R'++LF)):=Du.rawBox k3' (by simpa using p1.mono k4.le)
 have k8:Du w' g' (R'++([.box rv 59 (eSto x)]++LF)):=k7.perm Bg.symm
 obtain⟨f1,f2⟩:=fI (f:=eSto) (sz:=37) l i hi
 have hus:EB g' (us.take (i*37)++uv++us.drop (i*37)) ((l.take i++x::l.drop i).map eSto).flatten:=by
  have h1:=(q1.mono k4.le).take (i*37)
  have h2:=(q1.mono k4.le).drop (i*37)
  rw[f1]at h1
  rw[f2]at h2
  rw[An,Aq,CF,Cf,←AV]
  exact(h1.append (p1.mono k4.le)).append h2
 have hln:((l.take i++x::l.drop i).map eSto).length=l.length+1:=by
  simp only[AR,AA,AZ,AN,BB];omega
 obtain⟨R2,z1,z2,z3⟩:=Hf.close (xs:=(l.take i++x::l.drop i).map eSto) hln (fun e he=>by obtain⟨a,_,rfl⟩:=AO.1 he;exact(inferInstance:NR eSto 37).out a) k6 hus k8
 have hbl2:Aj (R2++ [.box rv 59 (eSto x)]++LF)=Aj (R'++ [.raw rv (.cells uv.toArray 59 (0,0))]++LF):=by
  simp only[Aj,Dn]at z3 ⊢
  rw[z3];rfl
 refine⟨v',.raw v2,g',R2++ [.box rv 59 (eSto x)],rfl,k2,by rw[AV];exact z2,hbl1 ▸ k4,fun b hb hlt=>?_,v2,R2,rfl,z1,rfl⟩
 rw[hbl2]at hb
 rw[←hbl1]
 exact k5 b hb hlt
theorem aj (F:Nat) (cs:List PV) (p:Dig→Bool) (LR:List Res) [hF:B5 Tryz.prog F] (hp: ∀ d,BG Tryz.prog F (.agg (eDig d)::cs) LR (fun r L'=>r= .raw (.bool (p d))∧L'=LR)) (l:List Dig) (t:CN):
  BG Tryz.prog 109 [.slice (l.map eDig) t,.clo F cs] LR (fun r L'=>r= .raw (.int .i64 (Fp p l))∧L'=LR):=by
 refine CA Tryz.func109 rfl Tryz.ntmps109 (rs:= [.tmp 4]) rfl rfl fun hb LF=>?_
 have hlen:l.length≤140737488355328:=(hb (.slice (l.map eDig) t) (by simp)).slice_map
 refine wf ?_
 refine Ab (σ:=Nat) (fun k=>k≤l.length∧(l.take k).any p=false) (fun k=>l.length - k) (fun k=> [(0,.slice (l.map eDig) t),(1,.clo F cs),(7,.raw (.int .i64 l.length)),(8,.raw (.int .i64 k))]) (fun _=>LR++LF) 0 ⟨by simp,by simp⟩ ⟨rfl,rfl,rfl,rfl⟩ (.refl _) ?_
 rintro k ⟨hk,hn⟩
 refine wf ?_
 refine A6 (fun hc=>?_) (fun hc=>?_)
 ·have hlt:k < l.length:=by omega
  refine wf ?_
  refine CV (xs:= [.tmp 15]) LR LF (f:=F) (cs:=cs) (.refl _) rfl rfl (.refl _) _ (hp l[k]) fun r L' ⟨e1,e2⟩=>?_
  subst e1 e2
  refine wf ?_
  refine wf ?_
  refine AU (fun h=>?_) (fun h=>?_)
  ·refine wf ?_
   have e:l.any p=true:=CB.2 ⟨l[k],AJ hlt,h⟩
   exact⟨trivial,_,_,.cons (.tmp 4) .nil,.refl _,by rw[Fp,if_pos e,JX hlt hn h];rfl,rfl⟩
  ·refine wf ?_
   refine⟨k+1,⟨by omega,?_⟩,by dsimp only;omega,⟨rfl,rfl,rfl,rfl⟩,.refl _⟩
   rw[A7 hlt,Gy,hn]
   simp[h]
 ·refine wf ?_
  rw[AE (by omega)]at hn
  exact⟨trivial,_,_,.cons (.tmp 4) .nil,.refl _,by rw[Fp,if_neg (by simp[hn])];rfl,rfl⟩
theorem UI (F:Nat) (cs:List PV) (p:Dig→Bool) (LR:List Res) [hF:B5 Tryz.prog F] (hp: ∀ d,BG Tryz.prog F (.agg (eDig d)::cs) LR (fun r L'=>r= .raw (.bool (p d))∧L'=LR)) (l:List Dig) (t:CN):
  BG Tryz.prog 47 [.slice (l.map eDig) t,.clo F cs] LR (fun r L'=>r= .raw (.bool (l.any p))∧L'=LR):=by
 refine CA Tryz.func47 rfl Tryz.ntmps47 (rs:= [.tmp 4]) rfl rfl fun hb LF=>?_
 refine wf ?_
 refine CV (xs:= [.tmp 5,.tmp 6]) LR LF (f:=109) (cs:= []) (C5 _) rfl rfl (.refl _) _ (aj F cs p LR hp l t) fun r L' ⟨e1,e2⟩=>?_
 subst e1 e2
 refine wf ?_
 refine wf ?_
 refine⟨trivial,_,_,.cons (.tmp 4) .nil,.refl _,?_,rfl⟩
 show PV.raw (.bool (decide (0≤Fp p l)))=_
 cases h:l.any p<;>simp[Fp,h]
theorem ai (F:Nat) (cs:List PV) (p:Sto→Bool) (LR:List Res) [hF:B5 Tryz.prog F] (hp: ∀ d,BG Tryz.prog F (.agg (eSto d)::cs) LR (fun r L'=>r= .raw (.bool (p d))∧L'=LR)) (l:List Sto) (t:CN):
  BG Tryz.prog 51 [.slice (l.map eSto) t,.clo F cs] LR (fun r L'=>r= .raw (.int .i64 (Fp p l))∧L'=LR):=by
 refine CA Tryz.func51 rfl Tryz.ntmps51 (rs:= [.tmp 4]) rfl rfl fun hb LF=>?_
 have hlen:l.length≤140737488355328:=(hb (.slice (l.map eSto) t) (by simp)).slice_map
 refine wf ?_
 refine Ab (σ:=Nat) (fun k=>k≤l.length∧(l.take k).any p=false) (fun k=>l.length - k) (fun k=> [(0,.slice (l.map eSto) t),(1,.clo F cs),(7,.raw (.int .i64 l.length)),(8,.raw (.int .i64 k))]) (fun _=>LR++LF) 0 ⟨by simp,by simp⟩ ⟨rfl,rfl,rfl,rfl⟩ (.refl _) ?_
 rintro k ⟨hk,hn⟩
 refine wf ?_
 refine A6 (fun hc=>?_) (fun hc=>?_)
 ·have hlt:k < l.length:=by omega
  refine wf ?_
  refine CV (xs:= [.tmp 15]) LR LF (f:=F) (cs:=cs) (.refl _) rfl rfl (.refl _) _ (hp l[k]) fun r L' ⟨e1,e2⟩=>?_
  subst e1 e2
  refine wf ?_
  refine wf ?_
  refine AU (fun h=>?_) (fun h=>?_)
  ·refine wf ?_
   have e:l.any p=true:=CB.2 ⟨l[k],AJ hlt,h⟩
   exact⟨trivial,_,_,.cons (.tmp 4) .nil,.refl _,by rw[Fp,if_pos e,JX hlt hn h];rfl,rfl⟩
  ·refine wf ?_
   refine⟨k+1,⟨by omega,?_⟩,by dsimp only;omega,⟨rfl,rfl,rfl,rfl⟩,.refl _⟩
   rw[A7 hlt,Gy,hn]
   simp[h]
 ·refine wf ?_
  rw[AE (by omega)]at hn
  exact⟨trivial,_,_,.cons (.tmp 4) .nil,.refl _,by rw[Fp,if_neg (by simp[hn])];rfl,rfl⟩
theorem Ys {α:Type} (p:α→Bool) (l:List α) (x:α):Fp p (l++ [x])=if l.any p=true then Fp p l else if p x=true then(l.length:Int)else -1:=by
 unfold Fp
 rw[Gy,List.findIdx_append]
 by_cases h:l.any p=true
 ·have h2:l.findIdx p < l.length:=LS.2 (CB.1 h)
  rw[if_pos h,if_pos h,if_pos h2,if_pos (by simp[h])]
 ·have h2: ¬l.findIdx p < l.length:=fun h'=>h (CB.2 (LS.1 h'))
  rw[if_neg h,if_neg h2]
  cases hx:p x with
  |true=>simp[h,hx]
  |false=>simp[h,hx]
def NP (out:List Dig) (x:Sto):Bool:=decide (¬x.id∈out∧DM out (Ax x.patch)=true)
theorem PS {α:Type} (p:α→Bool) (l:List α): -1≤Fp p l∧Fp p l < l.length∧(l.any p=true→0≤Fp p l):=by
 unfold Fp
 by_cases h:l.any p=true
 ·rw[if_pos h]
  have:=LS.2 (CB.1 h)
  exact⟨by omega,by omega,fun _=>by omega⟩
 ·rw[if_neg h]
  exact⟨by omega,by omega,fun h'=>absurd h' h⟩
theorem Rn {s:List Sto} (h:Gm (ids s)) (out:List Dig):Ll s out=Fp (NP out) s:=by
 have key: ∀ n,n≤s.length→(List.range n).foldl (Gb s out) (-1)=Fp (NP out) (s.take n):=fun n=>by
  induction n with
  |zero=>intro _;rfl
  |succ n ih=>
   intro hn
   have hlt:n < s.length:=by omega
   have e0:s.getD n Sto.zero=s[n]:=by simp[List.getD,hlt]
   rw[Bq,ih (by omega),A7 hlt,Ys,Gb,e0]
   obtain⟨r1,r2,r3⟩:=PS (NP out) (s.take n)
   rw[AZ]at r2
   by_cases ha:(s.take n).any (NP out)=true
   ·have r3:=r3 ha
    generalize Fp (NP out) (s.take n)=k at*
    rw[if_pos ha,if_neg]
    rintro⟨_,h2⟩
    rcases h2 with h2|h2
    ·omega
    ·have hk:k.toNat < s.length:=by omega
     have e1:s.getD k.toNat Sto.zero=s[k.toNat]:=by simp[List.getD,hk]
     rw[e1]at h2
     have:=B7.1 h k.toNat n (by simpa [ids]using hk) (by simpa [ids]using hlt) (by omega)
     simp only[ids,BQ]at this
     exact Dig.lt_asymm this h2
   ·have hk:Fp (NP out) (s.take n)= -1:=by unfold Fp;rw[if_neg ha]
    rw[if_neg ha,hk]
    by_cases he: ¬s[n].id∈out∧DM out (Ax s[n].patch)=true
    ·rw[if_pos ⟨he,.inl (by omega)⟩,if_pos (by simpa [NP]using he),AZ,Cy (by omega)]
    ·rw[if_neg (fun h'=>he h'.1),if_neg (by simpa [NP]using he)]
 have:=key s.length (Ak _)
 rwa [EN]at this
theorem na {s:List Sto} (h:Gm (ids s)) {x:Sto} (hx:x∈s):CU x.id (gr s)=some (Ax x.patch):=by
 have key: ∀ n,n≤s.length→ ∀ i (hi:i < s.length),i < n→CU s[i].id (gr (s.take n))=some (Ax s[i].patch):=fun n=>by
  induction n with
  |zero=>intro _ i _ h';omega
  |succ n ih=>
   intro hn i hi hin
   have hlt:n < s.length:=by omega
   rw[cZ hlt,HN]
   by_cases e:i=n
   ·subst e;rw[if_pos rfl]
   ·have hp:=B7.1 h i n (by simpa [ids]using hi) (by simpa [ids]using hlt) (by omega)
    simp only[ids,BQ]at hp
    rw[if_neg (fun e'=>Dig.lt_irrefl _ (e' ▸ hp))]
    exact ih (by omega) i hi (by omega)
 obtain⟨i,hi,rfl⟩:=Ad.1 hx
 have:=key s.length (Ak _) i hi hi
 rwa [EN]at this
theorem aR (m:Nat) (done:List (Dig × Bool)) (d:Dig):BG Tryz.prog 80 [.agg (eDig d),.pt [.raw (.map (some m))] 0] [.map m (Bb kDig vBool done)] (fun r L'=>r= .raw (.bool (!(CU d done).getD false))∧L'= [.map m (Bb kDig vBool done)]):=by
 refine CA Tryz.func80 rfl Tryz.ntmps80 (rs:= [.tmp 3]) rfl rfl fun hb LF=>?_
 refine wf ?_
 exact⟨trivial,_,_,.cons (.tmp 3) .nil,.refl _,rfl,rfl⟩
def Tu (G:List (Dig × List Dig)) (done:List (Dig × Bool)) (x:Sto):Bool:=!(CU x.id done).getD false&&!(((CU x.id G).getD []).any fun d=>!(CU d done).getD false)
theorem eR (m:Nat) (G:List (Dig × List Dig)) (done:List (Dig × Bool)) (x:Sto):BG Tryz.prog 79 [.agg (eSto x),.pt [.raw (.map (some m))] 0,.pt [.fmap (Bb kDig (KO eDig) G)] 0] [.map m (Bb kDig vBool done)] (fun r L'=>r= .raw (.bool (Tu G done x))∧L'= [.map m (Bb kDig vBool done)]):=by
 refine CA Tryz.func79 rfl Tryz.ntmps79 (rs:= [.tmp 4]) rfl rfl fun hb LF=>?_
 refine wf ?_
 refine Ar (fun hp=>?_) (fun hp=>?_)
 ·have h0:(CU x.id done).getD false=false:=by simpa using hp
  refine wf ?_
  refine CV (xs:= [.tmp 14,.tmp 15]) [.map m (Bb kDig vBool done)] LF (f:=47) (cs:= []) (C5 _) rfl rfl (.refl _) _ (UI 80 [.pt [.raw (.map (some m))] 0] (fun d=>!(CU d done).getD false) [.map m (Bb kDig vBool done)] (aR m done) ((CU x.id G).getD []) .ro) fun r L' ⟨e1,e2⟩=>?_
  subst e1 e2
  refine wf ?_
  refine wf ?_
  exact⟨trivial,_,_,.cons (.tmp 4) .nil,.refl _,by rw[Tu,h0];rfl,rfl⟩
 ·have h0:(CU x.id done).getD false=true:=by simpa using hp
  refine wf ?_
  exact⟨trivial,_,_,.cons (.tmp 4) .nil,.refl _,by rw[Tu,h0];rfl,rfl⟩
theorem ak {α:Type} {p q:α→Bool}: ∀ {l:List α},(∀ x∈l,p x=q x)→Fp p l=Fp q l:=fun {l} h=>by
 have h1:l.any p=l.any q:=by
  rw[Gz,CB,CB]
  exact⟨fun⟨x,hx,e⟩=>⟨x,hx,(h x hx) ▸ e⟩,fun⟨x,hx,e⟩=>⟨x,hx,(h x hx).symm ▸ e⟩⟩
 have h2:l.findIdx p=l.findIdx q:=by
  clear h1
  induction l with
  |nil=>rfl
  |cons x l ih=>
   rw[H4,H4,h x (by simp),ih fun y hy=>h y (AI _ hy)]
 unfold Fp
 rw[h1,h2]
theorem oB {s:List Sto} (h:Gm (ids s)) {done:List (Dig × Bool)} {out:List Dig} (hm:Vl done out) {x:Sto} (hx:x∈s):Tu (gr s) done x=NP out x:=by
 unfold Tu NP
 rw[hm x.id,na h hx,Br]
 have e:((Ax x.patch).any fun d=>!(CU d done).getD false)=!DM out (Ax x.patch):=by
  rw[DM,yA]
  congr 1
  funext d
  rw[hm d]
 rw[e,Bool.not_not]
 by_cases h1:x.id∈out<;>simp[h1]
theorem eP (s:List Sto) (t:CN) (hg:HY s) (ha:Gm (ids s)):C9 Tryz.prog 28 [.slice (s.map eSto) t] (.slice ((Cg s).map eDig) .ro):=⟨by
 have h8:=hg.1
 have i1:B4 (HY s):=⟨hg⟩
 refine Au Tryz.func28 Tryz.ntmps28 rfl (rs:= [.tmp 2]) rfl rfl fun hb LF=>?_
 refine wf ?_
 refine CC fun b3=>?_
 refine wo ?_
 refine AD ?_
 refine Ay 3 ?_
 refine wf ?_
 refine OM fun m=>?_
 refine wf ?_
 refine CC fun b4=>?_
 refine wo ?_
 refine AD ?_
 refine Ay 4 ?_
 refine wf ?_
 refine EL 32 ?_
 refine EP (.swap _ _ _) ?_
 refine Ab (σ:=Nat × List Dig × CN × List (Dig × Bool)) (fun k=>k.1≤s.length∧k.2.1.length=k.1∧Vl k.2.2.2 k.2.1∧Cg s=QF s (s.length - k.1) k.2.1) (fun k=>s.length - k.1) (fun k=> [(0,.slice (s.map eSto) t),(3,.pt [.fmap (Bb kDig (KO eDig) (gr s))] 0),(4,.pt [.raw (.map (some m))] 0),(5,.slice (k.2.1.map eDig) k.2.2.1),(11,.raw (.int .i64 s.length)),(12,.raw (.int .i64 k.1))]) (fun k=> .map m (Bb kDig vBool k.2.2.2):: .tok k.2.2.1 k.2.1.length 32::LF) (0,[],.nil,[]) ⟨by simp,rfl,fun d=>by simp[CU],rfl⟩ ⟨rfl,rfl,rfl,rfl,rfl,rfl⟩ (.refl _) ?_
 rintro⟨k,out,u,done⟩ ⟨hk,hol,hmo,hro⟩
 dsimp only at hk hol hmo hro ⊢
 refine wf ?_
 refine A6 (fun hc=>?_) (fun hc=>?_)
 ·have hlt:k < s.length:=by omega
  have hpk:Fp (Tu (gr s) done) s=Ll s out:=by rw[Rn ha,ak fun x hx=>oB ha hmo hx]
  have hrs:QF s (s.length - k) out=if Ll s out < 0 then out else QF s (s.length - (k+1)) (out++ [(s.getD (Ll s out).toNat Sto.zero).id]):=by
   rw[show s.length - k=(s.length - (k+1))+1 by omega,QF]
  have hrr:=LK (s:=s) (out:=out) s.length
  change -1≤Ll s out∧Ll s out < s.length at hrr
  refine wf ?_
  refine CV (xs:= [.tmp 14,.tmp 15]) [.map m (Bb kDig vBool done)] (.tok u out.length 32::LF) (f:=51) (cs:= []) (C5 _) rfl rfl (.refl _) _ (ai 79 [.pt [.raw (.map (some m))] 0,.pt [.fmap (Bb kDig (KO eDig) (gr s))] 0] (Tu (gr s) done) [.map m (Bb kDig vBool done)] (eR m (gr s) done) s t) fun r L' ⟨e1,e2⟩=>?_
  subst e1 e2
  rw[hpk,B0,B9]
  generalize hpp:Ll s out=i at hrr hrs ⊢
  refine wf ?_
  refine wf ?_
  refine A6 (fun hi=>?_) (fun hi=>?_)
  ·refine wf ?_
   refine Az (.ros ?_)
   rw[hro,hrs,if_pos (by omega)]
  ·obtain⟨j,rfl⟩: ∃ j:Nat,i=(j:Int):=⟨i.toNat,by omega⟩
   have hj:j < s.length:=by omega
   rw[if_neg hi,E0,show s.getD j Sto.zero=s[j] by simp[List.getD,hj]]at hrs
   refine wn ?_
   refine Bp 6 ?_ ?_
   ·decide+kernel
   refine wf ?_
   refine bW fun u'=>?_
   refine⟨(k+1,out++ [s[j].id],u',DJ s[j].id true done),⟨by dsimp only;omega,by dsimp only;rw[AA,hol];rfl,hmo.add _,by dsimp only;rw[hro,hrs]⟩,by dsimp only;omega,⟨rfl,rfl,rfl,rfl,rfl,rfl⟩,.refl _⟩
 ·have hkk:k=s.length:=by omega
  refine wf ?_
  refine Az (.ros ?_)
  rw[hro,show s.length - k=0 by omega,QF]⟩
end Go.Proofs
namespace Go.Proofs
open Go Go.Q
structure Rj (s:List Sto) (r:Dig→Nat):Prop where
 asc:Gm (ids s)
 close: ∀ x∈s,∀ d∈Ax x.patch,d∈ids s
 rank: ∀ x∈s,∀ d∈Ax x.patch,r d < r x.id
theorem Rj.pick {s:List Sto} {r:Dig→Nat} (h:Rj s r) {out:List Dig} (hlt:out.length < s.length):0≤Ll s out:=by
 rw[Rn h.asc]
 refine(PS (NP out) s).2.2 ?_
 have hmiss: ∃ x∈s,x.id∉out:=DW fun hn=>by
  have hall: ∀ d∈ids s,d∈out:=fun d hd=>by
   obtain⟨x,hx,rfl⟩:=AO.1 hd
   exact DW fun h'=>hn ⟨x,hx,h'⟩
  have:=FR h.asc.nodup (m:=out) hall
  rw[HO]at this;omega
 have key: ∀ n,∀ x∈s,x.id∉out→r x.id=n→ ∃ y∈s,NP out y=true:=fun n=>by
  induction n using Nat.strongRecOn with
  |_ n ih=>
   intro x hx hxo hn
   by_cases ha: ∀ d∈Ax x.patch,d∈out
   ·exact⟨x,hx,BK ⟨hxo,BT.2 fun d hd=>BK (ha d hd)⟩⟩
   ·obtain⟨d,hd,hdo⟩: ∃ d∈Ax x.patch,d∉out:=DW fun hn=>ha fun d hd=>DW fun h'=>hn ⟨d,hd,h'⟩
    obtain⟨y,hy,rfl⟩:=AO.1 (h.close x hx d hd)
    exact ih (r y.id) (hn ▸ h.rank x hx _ hd) y hy hdo rfl
 obtain⟨x,hx,hxo⟩:=hmiss
 obtain⟨y,hy,he⟩:=key _ x hx hxo rfl
 exact CB.2 ⟨y,hy,he⟩
theorem Rj.order {s:List Sto} {r:Dig→Nat} (h:Rj s r):(Cg s).length=s.length:=by
 have key: ∀ n out,out.length+n=s.length→(QF s n out).length=s.length:=fun n=>by
  induction n with
  |zero=>intro out ho;rw[QF];omega
  |succ n ih=>
   intro out ho
   have hp:=h.pick (out:=out) (by omega)
   rw[QF,if_neg (by omega)]
   exact ih _ (by rw[AA,BA];omega)
 exact key _ [] (by simp)
theorem JJ {s:List Sto} {C:List Dig} {x:Sto}:x∈HX s C↔x∈s∧x.id∈C:=by simp[HX]
theorem Wa {s:List Sto} {C:List Dig} {d:Dig}:d∈ids (HX s C)↔d∈ids s∧d∈C:=by
 constructor
 ·intro h
  obtain⟨x,hx,rfl⟩:=AO.1 h
  obtain⟨h1,h2⟩:=JJ.1 hx
  exact⟨AO.2 ⟨x,h1,rfl⟩,h2⟩
 ·rintro⟨h1,h2⟩
  obtain⟨x,hx,rfl⟩:=AO.1 h1
  exact AO.2 ⟨x,JJ.2 ⟨hx,h2⟩,rfl⟩
theorem Wm (s:List Sto) (C:List Dig):(ids (HX s C)).Sublist (ids s):=(List.filter_sublist).map _
theorem Od {C:List Dig} {d:Dig} (hd:d∈C): ∀ s:List Sto,getS (HX s C) d=getS s d
 | []=>rfl
 |x::s=>by
  by_cases hx:x.id=d
  ·have e:HX (x::s) C=x::HX s C:=by
    unfold HX;rw[El (by simpa using hx ▸ hd)]
   rw[e,getS,getS,if_pos hx,if_pos hx]
  ·have e2:getS (x::s) d=getS s d:=by rw[getS,if_neg hx]
   by_cases hc:x.id∈C
   ·have e:HX (x::s) C=x::HX s C:=by
     unfold HX;rw[El (by simpa using hc)]
    rw[e,e2,getS,if_neg hx,Od hd s]
   ·have e:HX (x::s) C=HX s C:=by
     unfold HX;rw[En (by simpa using hc)]
    rw[e,e2,Od hd s]
theorem Hz {p:Pat} (hid:(EW p).2=0) {c:Chg} (hc:c∈p.changes) {y:Ident} (hy:y∈IL c) (ho:EH y=true):y.patch∈Ax p:=by
 have he: ¬(CD p).2≠0:=fun h=>by rw[EW,if_pos h]at hid;exact h hid
 rw[Ax,if_neg he,JH]
 exact .inr ⟨c,hc,AO.2 ⟨y,Ef.2 ⟨hy,ho⟩,rfl⟩⟩
theorem K9 {s t:List Sto} {p:Pat} {id:Dig} (hid:(EW p).2=0) (h: ∀ d∈Ax p,getS s d=getS t d):GF s p id=GF t p id:=by
 refine GQ fun c hc=>?_
 have hat: ∀ y∈IL c,EH y=true→HT s y=HT t y:=fun y hy ho=>by
  unfold HT Ht
  rw[h _ (Hz hid hc hy ho)]
 have e1:Jd s c=Jd t c:=by
  unfold Jd
  split
  ·rename_i h;rw[hat _ (by simp[IL]) h]
  ·rfl
 have e2:Lu s c=Lu t c:=by
  unfold Lu
  split
  ·rename_i h;rw[hat _ (by simp[IL]) h]
  ·rfl
 have e3: ∀ y∈IL c,GL s y c.file id=GL t y c.file id:=fun y hy=>by
  unfold GL
  split
  ·rfl
  ·rename_i h
   rw[hat y hy (by simpa using fun h'=>h (.inl h'))]
 have e4:Av (Ky s c id) c.over=Av (Ky t c id) c.over:=GQ fun y hy=>by
  unfold Ky
  split
  ·rfl
  ·rename_i h
   rw[hat y (by simp[IL,hy]) (by simpa using h)]
 unfold KU
 rw[e1,e2,e3 _ (by simp[IL]),e3 _ (by simp[IL]),e4]
theorem Bc.keep {s:List Sto} (v:Bc s) {C:List Dig} (hC: ∀ x∈s,x.id∈C→ ∀ d∈Ax x.patch,d∈C):Bc (HX s C):=by
 have hlen:(HX s C).length≤s.length:=DP _ _
 have hcl: ∀ x∈HX s C,∀ d∈Ax x.patch,d∈ids (HX s C):=fun x hx d hd=>by
  obtain⟨h1,h2⟩:=JJ.1 hx
  exact Wa.2 ⟨v.close.2 x h1 d hd,hC x h1 h2 d hd⟩
 have hasc:Gm (ids (HX s C)):=List.Pairwise.sublist (Wm s C) v.asc
 refine⟨⟨⟨CX hlen v.close.1.1,fun x hx=>v.close.1.2 x (JJ.1 hx).1⟩,hcl⟩,fun x hx=>v.id x (JJ.1 hx).1,hasc,?_,fun x hx=>?_⟩
 ·have hr:Rj (HX s C) (Q9 s):=⟨hasc,hcl,fun x hx d hd=>v.rank (JJ.1 hx).1 hd⟩
  exact EF hr.order.symm
 ·obtain⟨h1,h2⟩:=JJ.1 hx
  rw[K9 (v.id x h1).1 fun d hd=>Od (hC x h1 h2 d hd) s]
  exact v.refs x h1
theorem RA (s:List Sto) (x:Sto):(KY s x).Perm (x::s):=by
 unfold KY
 refine Bg.trans ?_
 rw[gH]
theorem Kb {s:List Sto} {x y:Sto}:y∈KY s x↔y=x∨y∈s:=by
 rw[(RA s x).mem_iff,AH]
theorem HL {s:List Sto} {x:Sto} {d:Dig}:d∈ids (KY s x)↔d=x.id∨d∈ids s:=by
 unfold ids
 rw[((RA s x).map _).mem_iff,Aq,AH]
theorem YK (s:List Sto) (x:Sto):(KY s x).length=s.length+1:=by
 rw[(RA s x).length_eq,AN]
theorem dD {x:Sto}: ∀ {s:List Sto},Gm (ids s)→x.id∉ids s→ ∀ y∈s.dropWhile (fun y=>decide (Ea y.id x.id < 0)),Dig.lt x.id y.id
 | [],_,_,y,hy=>by cases hy
 |z::s,ha,hx,y,hy=>by
  have ha':Gm (ids s):=(Bn.1 ha).2
  by_cases hz:Ea z.id x.id < 0
  ·rw[List.dropWhile_cons_of_pos (by simpa using hz)]at hy
   exact dD ha' (fun h=>hx (AI _ h)) y hy
  ·rw[List.dropWhile_cons_of_neg (by simpa using hz)]at hy
   have hzx:Dig.lt x.id z.id:=by
    rcases Dig.tri x.id z.id with h|h|h
    ·exact h
    ·exact absurd (by rw[h];exact AF) hx
    ·exact absurd h hz
   rcases AH.1 hy with rfl|hy
   ·exact hzx
   ·exact Dig.lt_trans hzx ((Bn.1 ha).1 y.id (AO.2 ⟨y,hy,rfl⟩))
theorem ba {x:Sto}: ∀ {s:List Sto},∀ y∈s.takeWhile (fun y=>decide (Ea y.id x.id < 0)),Dig.lt y.id x.id
 | [],y,hy=>by cases hy
 |z::s,y,hy=>by
  by_cases hz:Ea z.id x.id < 0
  ·rw[List.takeWhile_cons_of_pos (by simpa using hz)]at hy
   rcases AH.1 hy with rfl|hy
   ·exact hz
   ·exact ba y hy
  ·rw[List.takeWhile_cons_of_neg (by simpa using hz)]at hy
   cases hy
theorem YL {s:List Sto} {x:Sto} (ha:Gm (ids s)) (hx:x.id∉ids s):Gm (ids (KY s x)):=by
 have e:ids (KY s x)=ids (s.takeWhile fun y=>decide (Ea y.id x.id < 0))++x.id::ids (s.dropWhile fun y=>decide (Ea y.id x.id < 0)):=by
  unfold KY ids;rw[An,Aq]
 have e2:ids s=ids (s.takeWhile fun y=>decide (Ea y.id x.id < 0))++ids (s.dropWhile fun y=>decide (Ea y.id x.id < 0)):=by
  unfold ids;rw[←An,gH]
 have hp:=ha
 rw[e2]at hp
 obtain⟨p1,p2,p3⟩:=H2.1 hp
 rw[e]
 refine H2.2 ⟨p1,Bn.2 ⟨fun d hd=>?_,p2⟩,fun a h b hb=>?_⟩
 ·obtain⟨y,hy,rfl⟩:=AO.1 hd
  exact dD ha hx y hy
 ·rcases AH.1 hb with rfl|hb
  ·obtain⟨y,hy,rfl⟩:=AO.1 h
   exact ba y hy
  ·exact p3 a h b hb
theorem QZ: ∀ {s:List Sto},Gm (ids s)→ ∀ {x:Sto},x∈s→getS s x.id=some x.patch
 | [],_,x,h=>by cases h
 |y::s,ha,x,h=>by
  by_cases e:y.id=x.id
  ·rw[getS,if_pos e]
   rcases AH.1 h with rfl|h
   ·rfl
   ·have:=(Bn.1 ha).1 x.id (AO.2 ⟨x,h,rfl⟩)
    change Dig.lt y.id x.id at this
    rw[e]at this
    exact absurd this (Dig.lt_irrefl _)
  ·rw[getS,if_neg e]
   rcases AH.1 h with rfl|h
   ·exact absurd rfl e
   ·exact QZ (Bn.1 ha).2 h
theorem Th {s:List Sto} {d:Dig} (h:d∉ids s):getS s d=none:=by
 cases hg:getS s d with
 |none=>rfl
 |some p=>
  obtain⟨x,hx,rfl,_⟩:=Ke hg
  exact absurd (AO.2 ⟨x,hx,rfl⟩) h
theorem Rz {s:List Sto} (ha:Gm (ids s)) (d:Dig):(getS s d).isSome=decide (d∈ids s):=by
 by_cases h:d∈ids s
 ·obtain⟨x,hx,rfl⟩:=AO.1 h
  rw[QZ ha hx];simp[h]
 ·rw[Th h];simp[h]
theorem jv {s:List Sto} {x:Sto} (ha:Gm (ids s)) (hx:x.id∉ids s) {d:Dig} (hd:d≠x.id):getS (KY s x) d=getS s d:=by
 by_cases h:d∈ids s
 ·obtain⟨y,hy,rfl⟩:=AO.1 h
  rw[QZ ha hy,QZ (YL ha hx) (Kb.2 (.inr hy))]
 ·rw[Th h,Th fun h'=>(HL.1 h').elim hd h]
structure dV (s:List Sto) (x:Sto):Prop where
 id:(EW x.patch).2=0∧(EW x.patch).1=x.id
 new:x.id∉ids s
 needs: ∀ d∈Ax x.patch,d∈ids s
 refs:GF s x.patch x.id=0
 great:E5 x.patch=false
theorem Bc.put {s:List Sto} (v:Bc s) {x:Sto} (f:dV s x) (hl:s.length < 200):Bc (KY s x):=by
 have hcl: ∀ y∈KY s x,∀ d∈Ax y.patch,d∈ids (KY s x):=fun y hy d hd=>by
  rcases Kb.1 hy with rfl|hy
  ·exact HL.2 (.inr (f.needs d hd))
  ·exact HL.2 (.inr (v.close.2 y hy d hd))
 have hasc:=YL v.asc f.new
 have hget: ∀ d∈ids s,Go.Proofs.getS (KY s x) d=Go.Proofs.getS s d:=fun d hd=>jv v.asc f.new fun e=>f.new (e ▸ hd)
 refine⟨⟨⟨by rw[YK];omega,fun y hy=>?_⟩,hcl⟩,fun y hy=>?_,hasc,?_,fun y hy=>?_⟩
 ·rcases Kb.1 hy with rfl|hy
  ·exact f.great
  ·exact v.close.1.2 y hy
 ·rcases Kb.1 hy with rfl|hy
  ·exact f.id
  ·exact v.id y hy
 ·have hr:Rj (KY s x) (fun d=>if d=x.id then(Cg s).length+1 else Q9 s d):=by
   refine⟨hasc,hcl,fun y hy d hd=>?_⟩
   rcases Kb.1 hy with rfl|hy
   ·have hne:d≠y.id:=fun e=>f.new (e ▸ f.needs d hd)
    simp only[if_true,if_neg hne]
    have:Q9 s d≤(Cg s).length:=by
     unfold Q9;exact List.idxOf_le_length
    omega
   ·have hne:d≠x.id:=fun e=>f.new (e ▸ v.close.2 y hy d hd)
    have hne2:y.id≠x.id:=fun e=>f.new (e ▸ AO.2 ⟨y,hy,rfl⟩)
    simp only[if_neg hne,if_neg hne2]
    exact v.rank hy hd
  exact EF hr.order.symm
 ·rcases Kb.1 hy with rfl|hy
  ·rw[K9 f.id.1 fun d hd=>hget d (f.needs d hd)]
   exact f.refs
  ·rw[K9 (v.id y hy).1 fun d hd=>hget d (v.close.2 y hy d hd)]
   exact v.refs y hy
theorem Bc.rAdd_ok {s:List Sto} (v:Bc s) {p:Pat} (hg:E5 p=false) (h:(FJ s p).2.2=0):dV s ⟨(EW p).1,p⟩∧FJ s p=(KY s ⟨(EW p).1,p⟩,(EW p).1,0):=by
 unfold FJ at h ⊢
 by_cases h1:(EW p).2≠0
 ·rw[if_pos h1]at h;exact absurd h h1
 rw[if_neg h1]at h ⊢
 by_cases h2:(Go.Proofs.getS s (EW p).1).isSome=true
 ·rw[if_pos h2]at h
  split at h<;>exact absurd h (by decide)
 rw[if_neg h2]at h ⊢
 by_cases h3:DM (ids s) (Ax p)=false
 ·rw[if_pos h3]at h;exact absurd h (by decide)
 rw[if_neg h3]at h ⊢
 by_cases h4:GF s p (EW p).1≠0
 ·rw[if_pos h4]at h;exact absurd h h4
 rw[if_neg h4]at h ⊢
 by_cases h5:400≤(s.length:Int)
 ·rw[if_pos h5]at h;exact absurd h (by decide)
 rw[if_neg h5]
 refine⟨⟨⟨by simpa using h1,rfl⟩,fun hn=>?_,fun d hd=>?_,by simpa using h4,hg⟩,rfl⟩
 ·rw[Rz v.asc]at h2
  exact h2 (BK hn)
 ·have h3:DM (ids s) (Ax p)=true:=by simpa using h3
  simpa using BT.1 h3 d hd
attribute [local irreducible] ER AQ BG Fu
instance tn (k:Int):C9 Tryz.prog 191 [.raw (.int .i64 k)] (.raw (.int .i64 (fy k))):=⟨by
 refine Au Tryz.func191 Tryz.ntmps191 rfl (rs:= [.tmp 2]) rfl rfl fun hb LF=>?_
 refine wf ?_
 repeat' (first|(refine A6 (fun h=>?_) (fun h=>?_)<;>refine wf ?_)|(refine AX (fun h=>?_) (fun h=>?_)<;>refine wf ?_)|(refine AU (fun h=>?_) (fun h=>?_)<;>refine wf ?_)|(refine Ar (fun h=>?_) (fun h=>?_)<;>(have h2:=h;(try simp only[AB,A8,AG,AL]at h2);refine wf ?_)))
 all_goals (refine Az (.of_eq ?_);simp only[fy];first|(simp_all;done)|grind)⟩
def uI (k:Int) (a:Atm):Bool:=if a.kind≠1 then false else if k=5∨k=6 then decide (a.type=1)else if k=4 then decide (a.type=2∨a.type=3)else true
instance qO (k:Int) (a:Atm):C9 Tryz.prog 188 [.raw (.int .i64 k),.agg (eAtm a)] (.raw (.bool (uI k a))):=⟨by
 refine Au Tryz.func188 Tryz.ntmps188 rfl (rs:= [.tmp 4]) rfl rfl fun hb LF=>?_
 refine wf ?_
 repeat' (first|(refine A6 (fun h=>?_) (fun h=>?_)<;>refine wf ?_)|(refine AX (fun h=>?_) (fun h=>?_)<;>refine wf ?_)|(refine AU (fun h=>?_) (fun h=>?_)<;>refine wf ?_)|(refine Ar (fun h=>?_) (fun h=>?_)<;>(have h2:=h;(try simp only[AB,A8,AG,AL]at h2);refine wf ?_)))
 all_goals (refine Az (.of_eq ?_);simp only[uI];first|(simp_all;done)|grind)⟩
def tw (x f g:Ident) (a:Atm):Bool:=decide (x=f)||(decide (a.kind=5)&&decide (a.file=g))
def ux (k:Int) (g:Ident) (a:Atm):Bool:=decide (k=0)||(decide (a.kind=k)&&decide (a.file=g))
instance rM (c:Chg) (a:Atm):C9 Tryz.prog 187 [.agg (eAtm a),.pt (eChg c) 0] (.raw (.bool (uI c.kind a))):=⟨by
 refine Au Tryz.func187 Tryz.ntmps187 rfl (rs:= [.tmp 3]) rfl rfl fun hb LF=>?_
 refine wf ?_
 exact Az (.refl _)⟩
instance rL (a:Atm):C9 Tryz.prog 189 [.agg (eAtm a)] (.raw (.bool (nH a))):=⟨by
 refine Au Tryz.func189 Tryz.ntmps189 rfl (rs:= [.tmp 2]) rfl rfl fun hb LF=>?_
 refine wf ?_
 repeat' (first|(refine A6 (fun h=>?_) (fun h=>?_)<;>refine wf ?_)|(refine AX (fun h=>?_) (fun h=>?_)<;>refine wf ?_)|(refine AU (fun h=>?_) (fun h=>?_)<;>refine wf ?_)|(refine Ar (fun h=>?_) (fun h=>?_)<;>(have h2:=h;(try simp only[AB,A8,AG,AL]at h2);refine wf ?_)))
 all_goals (refine Az (.of_eq ?_);simp only[nH];first|(simp_all;done)|grind)⟩
instance rJ (x g:Ident) (c:Chg) (a:Atm):C9 Tryz.prog 190 [.agg (eAtm a),.pt (eIdent x) 0,.pt (eChg c) 0,.pt (eIdent g) 0] (.raw (.bool (tw x c.file g a))):=⟨by
 refine Au Tryz.func190 Tryz.ntmps190 rfl (rs:= [.tmp 5]) rfl rfl fun hb LF=>?_
 refine wf ?_
 repeat' (first|(refine A6 (fun h=>?_) (fun h=>?_)<;>refine wf ?_)|(refine AX (fun h=>?_) (fun h=>?_)<;>refine wf ?_)|(refine AU (fun h=>?_) (fun h=>?_)<;>refine wf ?_)|(refine Ar (fun h=>?_) (fun h=>?_)<;>(have h2:=h;(try simp only[AB,A8,AG,AL]at h2);refine wf ?_)))
 all_goals (refine Az (.of_eq ?_);simp only[tw];first|(simp_all;done)|grind)⟩
instance rI (k:Int) (g:Ident) (a:Atm):C9 Tryz.prog 192 [.agg (eAtm a),.pt [.raw (.int .i64 k)] 0,.pt (eIdent g) 0] (.raw (.bool (ux k g a))):=⟨by
 refine Au Tryz.func192 Tryz.ntmps192 rfl (rs:= [.tmp 4]) rfl rfl fun hb LF=>?_
 refine wf ?_
 repeat' (first|(refine A6 (fun h=>?_) (fun h=>?_)<;>refine wf ?_)|(refine AX (fun h=>?_) (fun h=>?_)<;>refine wf ?_)|(refine AU (fun h=>?_) (fun h=>?_)<;>refine wf ?_)|(refine Ar (fun h=>?_) (fun h=>?_)<;>(have h2:=h;(try simp only[AB,A8,AG,AL]at h2);refine wf ?_)))
 all_goals (refine Az (.of_eq ?_);simp only[ux];first|(simp_all;done)|grind)⟩
def Jf (l:List Rfc) (r:Rfc):List Rfc:=if r.id.patch=Dig.zero then l else l++ [r]
def bL (b:Nat) (l:List Rfc) (t:CN):List Res:= [.box b 171 [.slice (l.map eRfc) t],.tok t l.length 34]
theorem oh (x:Ident) (f:Nat) (cs:List PV) (b:Nat) (l:List Rfc) (t:CN) (hl:l.length≤1000000):
  BG Tryz.prog 186 [.agg (eIdent x),.clo f cs,.raw (.pointer (some ⟨b,0,none⟩))] (bL b l t) (fun _ L'=> ∃ t',L'=bL b (Jf l ⟨x,f,cs⟩) t'):=by
 refine CA Tryz.func186 rfl Tryz.ntmps186 (rs:= []) rfl rfl fun hb LF=>?_
 rw[show bL b l t++LF= .box b 171 [.slice (l.map eRfc) t]:: .tok t l.length 34::LF from rfl]
 refine wf ?_
 refine AX (fun h=>?_) (fun h=>?_)
 ·refine bW fun t'=>?_
  exact⟨trivial,[],bL b (l++ [⟨x,f,cs⟩]) t',.nil,.refl _,t',by rw[Jf,if_neg h]⟩
 ·refine wf ?_
  have h0:x.patch=Dig.zero:=by simpa using h
  exact⟨trivial,[],bL b l t,.nil,.refl _,t,by rw[Jf,if_pos h0]⟩
section
variable {N:Nat} {all:Array Oper} {K:Env→List Res→Prop} {fl:List Bool} {os:List Oper} {ρ:Env} {L:List Res} {Q:PPost} {c:Code} {d:Nat} {ty:TypeId} {pos:String} {af:Array Edge}
theorem Wg {x x0 x1:Operand} {ats:Array TypeId} {b f:Nat} {l:List Rfc} {t:CN} {id:Ident} {cs:List PV} {a1:PV} {LF:List Res}
  (qx:ρ.ev x= .clo 186 [.raw (.pointer (some ⟨b,0,none⟩))]) (q0:ρ.ev x0= .agg (eIdent id)) (q1:ρ.ev x1=a1) [h1:Vq a1 f cs] (hl:l.length≤1000000)
  (k: ∀ t' u,AQ Tryz.prog N all K fl.tail os (CT ρ d u) (.box b 171 [.slice ((Jf l (Rfc.mk id f cs)).map eRfc) t']:: .tok t' (Jf l (Rfc.mk id f cs)).length 34::LF)) (hd:Nat.blt d N=true:=by rfl) (hfl:fl.headD true=true:=by rfl):
  AQ Tryz.prog N all K fl (⟨some d,.call { callee:= .value x,args:= #[x0,x1],argTypes:=ats },ty,pos,af,none⟩::os) ρ (.box b 171 [.slice (l.map eRfc) t]:: .tok t l.length 34::LF):=
 CV (xs:= [x0,x1]) (bL b l t) LF (.of_eq qx) rfl rfl (.refl _) (fun _ L'=> ∃ t',L'=bL b (Jf l ⟨id,f,cs⟩) t')
  (BG.args (bs:= [.agg (eIdent id),.clo f cs,.raw (.pointer (some ⟨b,0,none⟩))]) rfl (fun i g1 g2=>by
   match i,g1,g2 with
   |0,_,_=>exact .of_eq q0
   |1,_,_=>show Le (ρ.ev x1) _;rw[q1];exact h1.out
   |2,_,_=>exact .refl _
   |m+3,g1,_=>exact absurd g1 (by simp)) (oh id f cs b l t hl)) (fun r L' ⟨t',e⟩=>by subst e;exact k t' r) hd hfl
end
theorem TE (l:List Rfc) (r:Rfc):(Jf l r).length≤l.length+1:=by unfold Jf;split<;>simp
def DK (id:Dig) (c:Chg):Ident:=if c.file.patch=Dig.zero then { c.file with patch:=id }else c.file
def XW (c:Chg):List Rfc:=if c.kind≠1∧c.kind≠7 then Jf [] ⟨c.file,187,[.pt (eChg c) 0]⟩else []
def aA (c:Chg) (l:List Rfc):List Rfc:=if c.kind=2 then Jf l ⟨c.parent,189,[]⟩else l
def O2 (g:Ident) (c:Chg) (x:Ident):Rfc:=⟨x,190,[.pt (eIdent x) 0,.pt (eChg c) 0,.pt (eIdent g) 0]⟩
def fu (g:Ident) (c:Chg) (l:List Rfc):List Rfc:=if c.kind=5∨c.kind=6 then [c.after,c.before].foldl (fun l x=>Jf l (O2 g c x)) l else l
def Mq (g:Ident) (c:Chg) (x:Ident):Rfc:=⟨x,192,[.pt [.raw (.int .i64 (fy c.kind))] 0,.pt (eIdent g) 0]⟩
def rl (g:Ident) (c:Chg) (l:List Rfc) (o:List Ident):List Rfc:=o.foldl (fun l x=>Jf l (Mq g c x)) l
def Ja (id:Dig) (c:Chg):List Rfc:=rl (DK id c) c (fu (DK id c) c (aA c (XW c))) c.over
theorem Kg {α:Type} (f:α→Rfc): ∀ (o:List α) (l:List Rfc),(o.foldl (fun l x=>Jf l (f x)) l).length≤l.length+o.length
 | [],l=>by simp
 |x::o,l=>by
  have:=Kg f o (Jf l (f x))
  have:=TE l (f x)
  simp only[C0,AN]
  omega
theorem cA (c:Chg):(XW c).length≤1:=by
 unfold XW;split
 ·exact TE _ _
 ·simp
theorem c9 (c:Chg) (l:List Rfc):(aA c l).length≤l.length+1:=by
 unfold aA;split
 ·exact TE _ _
 ·omega
theorem c8 (g:Ident) (c:Chg) (l:List Rfc):(fu g c l).length≤l.length+2:=by
 unfold fu;split
 ·exact Kg _ _ _
 ·omega
instance iw (id:Dig) (c:Chg) [hs:B4 (c.over.length≤400)]:C9 Tryz.prog 139 [.agg (eDig id),.agg (eChg c)] (.slice ((Ja id c).map eRfc) .ro):=⟨by
 have hover:=hs.out
 have r1:=cA c
 have r2:=c9 c (XW c)
 have r3:=c8 (DK id c) c (aA c (XW c))
 refine Au Tryz.func139 Tryz.ntmps139 rfl (rs:= [.tmp 4]) rfl rfl fun hb LF=>?_
 refine wf ?_
 refine CC fun b5=>?_
 refine wf ?_
 refine KV True [(2,.pt (eDig id) 0),(3,.pt (eChg c) 0),(5,.raw (.pointer (some ⟨b5,0,none⟩)))] (.box b5 65 (eIdent (DK id c))::LF) ?_ fun _=>?_
 ·refine A6 (fun h=>?_) (fun h=>?_)
  ·refine wf ?_
   rw[DK,if_pos h]
   exact⟨trivial,⟨rfl,rfl,rfl⟩,.refl _⟩
  ·refine wf ?_
   rw[DK,if_neg h]
   exact⟨trivial,⟨rfl,rfl,rfl⟩,.refl _⟩
 generalize hg:DK id c=g at r3 ⊢
 refine Ay 5 ?_
 refine wf ?_
 refine CC fun b6=>?_
 refine wo ?_
 refine AD ?_
 refine EL 34 ?_
 refine EP (.swap _ _ _) ?_
 refine ws ?_
 refine BR [(29,.raw (.bool (decide (c.kind≠1∧c.kind≠7)))),(3,.pt (eChg c) 0),(5,.pt (eIdent g) 0),(6,.raw (.pointer (some ⟨b6,0,none⟩))),(7,.clo 186 [.raw (.pointer (some ⟨b6,0,none⟩))])] (.box b6 171 [.slice [] .nil]:: .tok .nil 0 34::LF) ?_ ?_
 ·repeat' (first|(refine A6 (fun h=>?_) (fun h=>?_)<;>refine wf ?_)|(refine AX (fun h=>?_) (fun h=>?_)<;>refine wf ?_)|(refine AU (fun h=>?_) (fun h=>?_)<;>refine wf ?_)|(refine Ar (fun h=>?_) (fun h=>?_)<;>(have h2:=h;(try simp only[AB,A8,AG,AL]at h2);refine wf ?_)))
  all_goals (refine⟨⟨C4 (by rfl) ?_,rfl,rfl,rfl,rfl⟩,.refl _⟩;first|(simp_all;done)|grind)
 refine Cp (σ:=List Rfc × CN) (fun s=>s.1=XW c) (fun s=> [(3,.pt (eChg c) 0),(5,.pt (eIdent g) 0),(6,.raw (.pointer (some ⟨b6,0,none⟩))),(7,.clo 186 [.raw (.pointer (some ⟨b6,0,none⟩))])]) (fun s=> .box b6 171 [.slice (s.1.map eRfc) s.2]:: .tok s.2 s.1.length 34::LF) ?_ ?_
 ·refine A6 (fun h=>?_) (fun h=>?_)
  ·refine wf ?_
   refine Wg (l:= []) rfl rfl (by(conv=>lhs;whnf);done) (h1:=(by first|infer_instance|fail)) (by simp) fun t' u=>?_
   refine wf ?_
   exact⟨(Jf [] ⟨c.file,187,[.pt (eChg c) 0]⟩,t'),by rw[XW,if_pos h],⟨rfl,rfl,rfl,rfl⟩,.refl _⟩
  ·refine wf ?_
   exact⟨([],.nil),by rw[XW,if_neg h],⟨rfl,rfl,rfl,rfl⟩,.refl _⟩
 rintro⟨l1,t1⟩ hl1
 dsimp only at hl1 ⊢
 have k1:l1.length≤1:=by rw[hl1];exact r1
 rw[←hl1]at r2 r3
 refine wf ?_
 refine Cp (σ:=List Rfc × CN) (fun s=>s.1=aA c l1) (fun s=> [(3,.pt (eChg c) 0),(5,.pt (eIdent g) 0),(6,.raw (.pointer (some ⟨b6,0,none⟩))),(7,.clo 186 [.raw (.pointer (some ⟨b6,0,none⟩))])]) (fun s=> .box b6 171 [.slice (s.1.map eRfc) s.2]:: .tok s.2 s.1.length 34::LF) ?_ ?_
 ·refine A6 (fun h=>?_) (fun h=>?_)
  ·refine wf ?_
   refine Wg rfl rfl (by(conv=>lhs;whnf);done) (h1:=(by first|infer_instance|fail)) (by omega) fun t' u=>?_
   refine wf ?_
   exact⟨(Jf l1 ⟨c.parent,189,[]⟩,t'),by rw[aA,if_pos h],⟨rfl,rfl,rfl,rfl⟩,.refl _⟩
  ·refine wf ?_
   exact⟨(l1,t1),by rw[aA,if_neg h],⟨rfl,rfl,rfl,rfl⟩,.refl _⟩
 rintro⟨l2,t2⟩ hl2
 dsimp only at hl2 ⊢
 rw[←hl2]at r2 r3
 refine ws ?_
 refine BR [(49,.raw (.bool (decide (c.kind=5∨c.kind=6)))),(3,.pt (eChg c) 0),(5,.pt (eIdent g) 0),(6,.raw (.pointer (some ⟨b6,0,none⟩))),(7,.clo 186 [.raw (.pointer (some ⟨b6,0,none⟩))])] (.box b6 171 [.slice (l2.map eRfc) t2]:: .tok t2 l2.length 34::LF) ?_ ?_
 ·repeat' (first|(refine A6 (fun h=>?_) (fun h=>?_)<;>refine wf ?_)|(refine AX (fun h=>?_) (fun h=>?_)<;>refine wf ?_)|(refine AU (fun h=>?_) (fun h=>?_)<;>refine wf ?_)|(refine Ar (fun h=>?_) (fun h=>?_)<;>(have h2:=h;(try simp only[AB,A8,AG,AL]at h2);refine wf ?_)))
  all_goals (refine⟨⟨C4 (by rfl) ?_,rfl,rfl,rfl,rfl⟩,.refl _⟩;first|(simp_all;done)|grind)
 refine Cp (σ:=List Rfc × CN) (fun s=>s.1=fu g c l2) (fun s=> [(3,.pt (eChg c) 0),(5,.pt (eIdent g) 0),(6,.raw (.pointer (some ⟨b6,0,none⟩))),(7,.clo 186 [.raw (.pointer (some ⟨b6,0,none⟩))])]) (fun s=> .box b6 171 [.slice (s.1.map eRfc) s.2]:: .tok s.2 s.1.length 34::LF) ?_ ?_
 ·refine A6 (fun h=>?_) (fun h=>?_)
  ·refine wf ?_
   refine Ab (σ:=Nat × List Rfc × CN) (fun k=>k.1≤2∧k.2.1=([c.after,c.before].take k.1).foldl (fun l x=>Jf l (O2 g c x)) l2) (fun k=>2 - k.1) (fun k=> [(3,.pt (eChg c) 0),(5,.pt (eIdent g) 0),(6,.raw (.pointer (some ⟨b6,0,none⟩))),(7,.clo 186 [.raw (.pointer (some ⟨b6,0,none⟩))]),(54,.slice ([c.after,c.before].map eIdent) .ro),(55,.raw (.int .i64 2)),(56,.raw (.int .i64 k.1))]) (fun k=> .box b6 171 [.slice (k.2.1.map eRfc) k.2.2]:: .tok k.2.2 k.2.1.length 34::LF) (0,l2,t2) ⟨by simp,rfl⟩ ⟨rfl,rfl,rfl,rfl,rfl,rfl,rfl⟩ (.refl _) ?_
   rintro⟨k,m,t3⟩ ⟨hk,hm⟩
   dsimp only at hk hm ⊢
   have hml:m.length≤10:=by
    have:=Kg (O2 g c) ([c.after,c.before].take k) l2
    rw[←hm,AZ]at this
    simp only[AN,Af]at this
    omega
   refine wf ?_
   refine A6 (fun hc=>?_) (fun hc=>?_)
   ·have hlt:k < [c.after,c.before].length:=by simp only[AN,Af];omega
    refine wz fun b9=>?_
    refine Ay 9 ?_
    refine wf ?_
    refine Wg rfl rfl (by(conv=>lhs;whnf);done) (h1:=(by first|infer_instance|fail)) (by omega) fun t' u=>?_
    refine wf ?_
    refine⟨(k+1,Jf m (O2 g c [c.after,c.before][k]),t'),⟨by dsimp only;omega,?_⟩,by dsimp only;omega,⟨rfl,rfl,rfl,rfl,rfl,rfl,rfl⟩,.refl _⟩
    dsimp only
    rw[A7 hlt,CH,←hm];rfl
   ·rw[AE (by simp only[AN,Af];omega)]at hm
    refine wf ?_
    exact⟨(m,t3),by rw[fu,if_pos h];exact hm,⟨rfl,rfl,rfl,rfl⟩,.refl _⟩
  ·refine wf ?_
   exact⟨(l2,t2),by rw[fu,if_neg h],⟨rfl,rfl,rfl,rfl⟩,.refl _⟩
 rintro⟨l3,t3⟩ hl3
 dsimp only at hl3 ⊢
 rw[←hl3]at r3
 refine wf ?_
 refine CC fun b10=>?_
 refine wo ?_
 refine AD ?_
 refine Ay 10 ?_
 refine wf ?_
 refine Ab (σ:=Nat × List Rfc × CN) (fun k=>k.1≤c.over.length∧k.2.1=rl g c l3 (c.over.take k.1)) (fun k=>c.over.length - k.1) (fun k=> [(5,.pt (eIdent g) 0),(6,.raw (.pointer (some ⟨b6,0,none⟩))),(7,.clo 186 [.raw (.pointer (some ⟨b6,0,none⟩))]),(10,.pt [.raw (.int .i64 (fy c.kind))] 0),(69,.slice (c.over.map eIdent) .ro),(70,.raw (.int .i64 c.over.length)),(71,.raw (.int .i64 k.1))]) (fun k=> .box b6 171 [.slice (k.2.1.map eRfc) k.2.2]:: .tok k.2.2 k.2.1.length 34::LF) (0,l3,t3) ⟨by simp,rfl⟩ ⟨rfl,rfl,rfl,rfl,rfl,rfl,rfl⟩ (.refl _) ?_
 rintro⟨k,m,t4⟩ ⟨hk,hm⟩
 dsimp only at hk hm ⊢
 have hml:m.length≤1000:=by
  have:=Kg (Mq g c) (c.over.take k) l3
  rw[AZ]at this
  have e:m.length=((c.over.take k).foldl (fun l x=>Jf l (Mq g c x)) l3).length:=by rw[hm];rfl
  omega
 refine wf ?_
 refine A6 (fun hc=>?_) (fun hc=>?_)
 ·have hlt:k < c.over.length:=by omega
  refine wz fun b12=>?_
  refine Ay 12 ?_
  refine wf ?_
  refine Wg rfl rfl (by(conv=>lhs;whnf);done) (h1:=(by first|infer_instance|fail)) (by omega) fun t' u=>?_
  refine wf ?_
  refine⟨(k+1,Jf m (Mq g c c.over[k]),t'),⟨by dsimp only;omega,?_⟩,by dsimp only;omega,⟨rfl,rfl,rfl,rfl,rfl,rfl,rfl⟩,.refl _⟩
  dsimp only
  rw[A7 hlt,rl,CH,hm];rfl
 ·rw[AE (by omega)]at hm
  refine wf ?_
  refine Az (.ros ?_)
  rw[hm,Ja,hg,←hl1,←hl2,←hl3]⟩
instance xM:Zb Tryz.prog 68 125 172 296:=⟨by
 have h2:(Tryz.prog.info? 125).map (fun i=>(i.size,i.bytes,i.zero.isSome,(i.zero.getD undef).cells.size))=some (172,296,true,172):=by kernel_rfl
 obtain⟨i,hi,e⟩:=Bj.1 h2
 simp only[Prod.mk.injEq]at e
 obtain⟨e1,e2,e3,e4⟩:=e
 obtain⟨z,hz⟩:=Eb.1 e3
 rw[hz]at e4
 exact⟨i,z,by kernel_rfl,hi,e1,e2,hz,e4,by decide,by decide⟩⟩
def wb (b:Nat) (v:Value) (R LF:List Res):List Res:= .box b 68 [.raw v]::(R++LF)
theorem ZH (p:Pat) (hs:E5 p=false):BG Tryz.prog 81 [.agg (Ba p)] [] (fun r L'=> ∃ x y,r= .tuple [x,y,.raw (.int .i64 (Ko p).2.2)]∧(((Ko p).2.2≠0∧L'= [])∨((Ko p).2.2=0∧ ∃ v,x= .raw v∧Hf 125 172 v ((Ko p).1.map eAtm) L'∧(Ko p).1.length≤100000))):=by
 obtain⟨hg1,hg2,hg3,hg4,hg5⟩:=Eh hs
 refine CA Tryz.func81 rfl Tryz.ntmps81 (rs:= [.tmp 2,.tmp 3,.tmp 4]) rfl rfl fun hb LF=>?_
 have zr:Cq Tryz.prog 68 [.raw (.slice none 0 0)]:=NY (v:= .slice none 0 0) (by kernel_rfl) rfl fun _=> .raw _
 refine wf ?_
 refine AX (fun h1=>?_) (fun h1=>?_)
 ·refine wf ?_
  have e:Bo p=([],J7 p):=by rw[Ic,if_pos h1]
  have e2:Ko p=([],[],J7 p):=by rw[Ko,e,if_pos h1]
  rw[e2]
  exact⟨trivial,_,[],.cons (.tmp 2) (.cons (.tmp 3) (.cons (.tmp 4) .nil)),.refl _,_,_,rfl,.inl ⟨h1,rfl⟩⟩
 have hH:=Mm h1
 refine wf ?_
 refine CC (hZ:=zr) fun b6=>?_
 refine wf ?_
 refine Ab (σ:=Nat × Value × List Res × List Atm) (fun k=>k.1≤p.changes.length∧Hf 125 172 k.2.1 (k.2.2.2.map eAtm) k.2.2.1∧k.2.2.2.length≤k.1*81∧NN k.2.2.2∧(∀ c∈p.changes.take k.1,1≤c.kind∧c.kind≤7)∧Bo p=Cv (p.changes.drop k.1) k.2.2.2) (fun k=>p.changes.length - k.1) (fun k=> [(1,.pt (Ba p) 0),(6,.raw (.pointer (some ⟨b6,0,none⟩))),(20,.slice (p.changes.map eChg) .ro),(21,.raw (.int .i64 p.changes.length)),(22,.raw (.int .i64 k.1))]) (fun k=>wb b6 k.2.1 k.2.2.1 LF) (0,.slice none 0 0,[],[]) ⟨by simp,.nil none (by simp),by simp,fun i h=>absurd h (by simp),by simp,hH⟩ ⟨rfl,rfl,rfl,rfl,rfl⟩ (.refl _) ?_
 rintro⟨k,v,R,own⟩ ⟨hk,hrow,hlen,hid,hkd,he⟩
 dsimp only at hk hrow hlen hid hkd he
 rw[show wb b6 (k,v,R,own).2.1 (k,v,R,own).2.2.1 LF= .box b6 68 [.raw v]::(R++LF) from rfl]
 refine wf ?_
 refine A6 (fun hc=>?_) (fun hc=>?_)
 ·have hlt:k < p.changes.length:=by omega
  rw[LJ hlt]at he
  refine wz fun b8=>?_
  refine Ay 8 ?_
  refine wf ?_
  refine AX (fun h2=>?_) (fun h2=>?_)
  ·refine wf ?_
   rw[if_pos h2]at he
   have e2:Ko p=([],[],Bz p.changes[k]):=by rw[Ko,he,if_pos h2]
   rw[e2]
   exact⟨trivial,_,[],.cons (.tmp 2) (.cons (.tmp 3) (.cons (.tmp 4) .nil)),.cons _ (DU R LF),_,_,rfl,.inl ⟨h2,rfl⟩⟩
  rw[if_neg (by simp[h2])]at he
  have hll:p.changes[k].lines.length≤2000:=JU h2
  have hkk:1≤p.changes[k].kind∧p.changes[k].kind≤7:=Mj h2
  have hmm:=Ln p.changes[k] own.length
  have hl40:=(hg5 _ (AJ hlt)).lines
  have i1:B4 (Bz p.changes[k]=0∧own.length≤100000∧NN own):=⟨h2,by omega,hid⟩
  have hmx:(own.map eAtm).length≤maxN∧(own.map eAtm).length*172≤maxN:=by
   have:maxN=140737488355328:=rfl
   rw[AR];omega
  refine wf ?_
  refine CV (xs:= [.tmp 31,.tmp 32]) R (.box b6 68 [.raw v]::LF) (f:=143) (cs:= []) (C5 _) rfl rfl Bg.symm _ (hrow.lend [.agg (eChg p.changes[k])] [] hmx (inferInstance:C9 Tryz.prog 143 [.agg (eChg p.changes[k]),.slice (own.map eAtm) .ro] (.raw (.int .i64 (Ey p.changes[k] own)))).out) fun r L' ⟨e1,e2⟩=>?_
  subst e1
  rw[e2]
  refine wf ?_
  refine wf ?_
  refine EP Bg ?_
  refine AX (fun h3=>?_) (fun h3=>?_)
  ·refine wf ?_
   rw[if_pos h3]at he
   have e2:Ko p=([],[],Ey p.changes[k] own):=by rw[Ko,he,if_pos h3]
   rw[e2]
   exact⟨trivial,_,[],.cons (.tmp 2) (.cons (.tmp 3) (.cons (.tmp 4) .nil)),.cons _ (DU R LF),_,_,rfl,.inl ⟨h3,rfl⟩⟩
  rw[if_neg (by simp[h3])]at he
  have hrow':=hrow
  obtain⟨⟨o,cc,ev⟩,_⟩:=hrow.slice
  rw[AR]at ev
  subst ev
  refine wf ?_
  refine KP rfl ?_
  refine wf ?_
  refine JV (RK p.changes[k] own.length hkk ⟨hll,by omega,by omega⟩) [41] (σ:=Value × List Res × List Atm) (fun pre s=>Hf 125 172 s.1 (s.2.2.map eAtm) s.2.1∧s.2.2=own++pre) (fun _ _=>False) (fun s LF'=>wb b6 s.1 s.2.1 LF') (.slice o own.length cc,R,own) LF ?_ rfl (fun _=>rfl) (by simp) (fun _ _=>by simp[wb]) (.refl _) ⟨hrow',by simp⟩ ?_ ?_ (fun _ _ h=>h.elim)
  ·exact .refl _
  ·rintro pre x ⟨v1,R1,own1⟩ LF' hpre ⟨hr1,hI⟩
   dsimp only at hr1 hI
   have hpl:=hpre.length_le
   have hol:own1.length≤90000:=by
    rw[hI,AA]
    rw[AA,BA]at hpl
    omega
   rw[show wb b6 (v1,R1,own1).1 (v1,R1,own1).2.1 LF'= .box b6 68 [.raw v1]::(R1++LF') from rfl]
   refine wz fun b11=>?_
   refine Ay 11 ?_
   refine wf ?_
   refine ic (f:=eAtm) (m:= [x]) (R:=R1) (LF:= .box b6 68 [.raw v1]::LF') (fun R'=> .box b6 68 [.raw v1]::(R'++LF')) rfl rfl hr1 Bg.symm (fun R'=>Bg) (by simp only[AR,AN,Af];omega) (by simp only[AR,AN,Af];omega) fun v2 R2 hr2=>?_
   have h1c:v2.oneCell'=true:=by
    obtain⟨⟨o2,c2,e2⟩,_⟩:=hr2.slice
    rw[e2];rfl
   refine Ho [.raw v2] rfl rfl h1c rfl (by simp) ?_
   refine wf ?_
   exact⟨(v2,R2,own1++ [x]),⟨by dsimp only;rw[An];exact hr2,by dsimp only;rw[hI,AV]⟩,.refl _⟩
  ·rintro⟨v1,R1,own1⟩ ⟨hr1,hI⟩
   dsimp only at hr1 hI
   refine wf ?_
   refine⟨(k+1,v1,R1,own1),⟨by dsimp only;omega,hr1,?_,?_,?_,?_⟩,by dsimp only;omega,⟨rfl,rfl,rfl,rfl,rfl⟩,.refl _⟩
   ·dsimp only
    rw[hI,AA];omega
   ·dsimp only
    rw[hI];exact PW _ hid
   ·dsimp only
    intro c hcm
    rw[A7 hlt]at hcm
    rcases Ai.1 hcm with h|h
    ·exact hkd c h
    ·rw[Ag.1 h];exact hkk
   ·dsimp only
    rw[hI];exact he
 have hkk:k=p.changes.length:=by omega
 rw[DB (by omega)]at he
 rw[AE (by omega)]at hkd
 have he':Bo p=(own,0):=he
 have i1:B4 (bB p):=⟨⟨O3 hs,YD (Sz h1),hkd⟩⟩
 refine wf ?_
 have h0: ¬(Bo p).2≠0:=by rw[he'];simp
 refine A6 (fun h=>?_) (fun h=>?_)
 ·refine wf ?_
  have e2:Ko p=([],[],4):=by rw[Ko,if_neg h0,if_pos h]
  rw[e2]
  exact⟨trivial,_,[],.cons (.tmp 2) (.cons (.tmp 3) (.cons (.tmp 4) .nil)),.cons _ (DU R LF),_,_,rfl,.inl ⟨by decide,rfl⟩⟩
 ·refine wf ?_
  have e2:Ko p=(own,NS p,0):=by rw[Ko,if_neg h0,if_neg h,he']
  rw[e2]
  exact⟨trivial,_,R,.cons (.tmp 2) (.cons (.tmp 3) (.cons (.tmp 4) .nil)),.cons _ (.refl _),_,_,rfl,.inr ⟨rfl,_,rfl,hrow,by dsimp only;omega⟩⟩
end Go.Proofs
namespace Go.Proofs
open Go.Shelf
def Tryz.sortI_ren:Go.Shelf.Ren:=⟨fun|6=>158|15=>125|14=>214|28=>178|29=>179|20=>265|21=>266|22=>267|23=>268|24=>269|25=>270|26=>271|27=>272|46=>295|47=>225|48=>226|49=>296|50=>297|57=>304|n=>n,fun|22=>71|24=>65|25=>189|3=>3|39=>157|0=>0|53=>212|55=>214|4=>4|46=>206|45=>205|50=>134|5=>5|9=>9|66=>245|70=>249|76=>287|77=>288|n=>n,fun|n=>n⟩
theorem Tryz.sortI:Go.Proofs.SlLaysF0.n6 Tryz.prog Tryz.sortI_ren:={
 mixed:=by kernel_rfl
 f6:=⟨Tryz.f158.name,by decide,Tryz.func158.trans (congrArg some (by kernel_rfl))⟩
 f14:=⟨Tryz.f214.name,by decide,Tryz.func214.trans (congrArg some (by kernel_rfl))⟩
 f15:=Tryz.func125.trans (congrArg some (by kernel_rfl))
 f20:=⟨Tryz.f265.name,by decide,Tryz.func265.trans (congrArg some (by kernel_rfl))⟩
 f21:=⟨Tryz.f266.name,by decide,Tryz.func266.trans (congrArg some (by kernel_rfl))⟩
 f22:=⟨Tryz.f267.name,by decide,Tryz.func267.trans (congrArg some (by kernel_rfl))⟩
 f23:=⟨Tryz.f268.name,by decide,Tryz.func268.trans (congrArg some (by kernel_rfl))⟩
 f24:=⟨Tryz.f269.name,by decide,Tryz.func269.trans (congrArg some (by kernel_rfl))⟩
 f25:=⟨Tryz.f270.name,by decide,Tryz.func270.trans (congrArg some (by kernel_rfl))⟩
 f26:=⟨Tryz.f271.name,by decide,Tryz.func271.trans (congrArg some (by kernel_rfl))⟩
 f27:=⟨Tryz.f272.name,by decide,Tryz.func272.trans (congrArg some (by kernel_rfl))⟩
 f28:=Tryz.func178.trans (congrArg some (by kernel_rfl))
 f29:=Tryz.func179.trans (congrArg some (by kernel_rfl))
 f46:=⟨Tryz.f295.name,by decide,Tryz.func295.trans (congrArg some (by kernel_rfl))⟩
 f47:=Tryz.func225.trans (congrArg some (by kernel_rfl))
 f48:=Tryz.func226.trans (congrArg some (by kernel_rfl))
 f49:=⟨Tryz.f296.name,by decide,Tryz.func296.trans (congrArg some (by kernel_rfl))⟩
 f50:=⟨Tryz.f297.name,by decide,Tryz.func297.trans (congrArg some (by kernel_rfl))⟩
 f57:=⟨Tryz.f304.name,by decide,Tryz.func304.trans (congrArg some (by kernel_rfl))⟩
 t0:=Tryz.underlying0
 a0:=Tryz.isAgg0
 z0:=Tryz.sizeOf0
 v0:=Tryz.zeroValue0
 t3:=Tryz.underlying3
 a3:=Tryz.isAgg3
 z3:=Tryz.sizeOf3
 v3:=Tryz.zeroValue3
 t4:=Tryz.underlying4
 a4:=Tryz.isAgg4
 z4:=Tryz.sizeOf4
 v4:=Tryz.zeroValue4
 t5:=Tryz.underlying5
 a5:=Tryz.isAgg5
 z5:=Tryz.sizeOf5
 v5:=Tryz.zeroValue5
 t9:=Tryz.underlying9
 a9:=Tryz.isAgg9
 z9:=Tryz.sizeOf9
 v9:=Tryz.zeroValue9
 t22:=Tryz.underlying71
 a22:=Tryz.isAgg71
 z22:=Tryz.sizeOf71
 v22:=Tryz.zeroValue71
 t25:=Tryz.underlying189
 a25:=Tryz.isAgg189
 z25:=Tryz.sizeOf189
 v25:=Tryz.zeroValue189
 t39:=Tryz.underlying157
 a39:=Tryz.isAgg157
 z39:=Tryz.sizeOf157
 v39:=Tryz.zeroValue157
 t45:=Tryz.underlying205
 a45:=Tryz.isAgg205
 z45:=Tryz.sizeOf205
 v45:=Tryz.zeroValue205
 t46:=Tryz.underlying206
 a46:=Tryz.isAgg206
 z46:=Tryz.sizeOf206
 v46:=Tryz.zeroValue206
 t50:=Tryz.underlying134
 a50:=Tryz.isAgg134
 z50:=Tryz.sizeOf134
 v50:=Tryz.zeroValue134
 t53:=Tryz.underlying212
 a53:=Tryz.isAgg212
 z53:=Tryz.sizeOf212
 v53:=Tryz.zeroValue212
 t55:=Tryz.underlying214
 a55:=Tryz.isAgg214
 z55:=Tryz.sizeOf214
 v55:=Tryz.zeroValue214
 t66:=Tryz.underlying245
 a66:=Tryz.isAgg245
 z66:=Tryz.sizeOf245
 v66:=Tryz.zeroValue245
 t70:=Tryz.underlying249
 a70:=Tryz.isAgg249
 z70:=Tryz.sizeOf249
 v70:=Tryz.zeroValue249
 t76:=Tryz.underlying287
 a76:=Tryz.isAgg287
 z76:=Tryz.sizeOf287
 v76:=Tryz.zeroValue287
 t77:=Tryz.underlying288
 a77:=Tryz.isAgg288
 z77:=Tryz.sizeOf288
 v77:=Tryz.zeroValue288 }
end Go.Proofs
namespace Go.Proofs
open Go Go.Q Go.Shelf Go.Sort
attribute [local irreducible] ER AQ Fu
instance yQ:Inhabited Ident:=⟨Ident.zero⟩
def vIdn (x:Ident):List Value:=NX x.patch.bs++ [.int .i64 x.n]
theorem Pw (x:Ident):(vIdn x).length=33:=by
 have:=FV x.patch
 unfold vDig at this
 simp[vIdn,this]
instance xX:Ov eIdent vIdn:=⟨fun x=>by
 have:=(inferInstance:Ov eDig vDig).out x.patch
 unfold vDig at this
 rw[eIdent,this,vIdn,An];rfl,fun x v hv=>by
 rcases Ai.1 hv with h|h
 ·exact(inferInstance:Ov eDig vDig).one x.patch v h
 ·rw[Ag.1 h];rfl⟩
instance yF:Zb Tryz.prog 71 65 33 40:=⟨by
 have h2:(Tryz.prog.info? 65).map (fun i=>(i.size,i.bytes,i.zero.isSome,(i.zero.getD undef).cells.size))=some (33,40,true,33):=by kernel_rfl
 obtain⟨i,hi,e⟩:=Bj.1 h2
 simp only[Prod.mk.injEq]at e
 obtain⟨e1,e2,e3,e4⟩:=e
 obtain⟨z,hz⟩:=Eb.1 e3
 rw[hz]at e4
 exact⟨i,z,by kernel_rfl,hi,e1,e2,hz,e4,by decide,by decide⟩⟩
theorem Jk {a b:Ident}:Hc a b < 0↔Dig.lt a.patch b.patch∨(a.patch=b.patch∧a.n < b.n):=by
 unfold Hc
 by_cases h:Ea a.patch b.patch=0
 ·have e:=MH.1 h
  rw[if_neg (by simp[h])]
  constructor
  ·intro h2
   refine .inr ⟨e,?_⟩
   split at h2
   ·assumption
   ·split at h2<;>omega
  ·rintro(h2|⟨_,h2⟩)
   ·rw[e]at h2;exact absurd h2 (Dig.lt_irrefl _)
   ·rw[if_pos h2];omega
 ·rw[if_pos h]
  constructor
  ·exact fun h2=> .inl h2
  ·rintro(h2|⟨e,_⟩)
   ·exact h2
   ·exact absurd (MH.2 e) h
theorem Ident.lt_irrefl (a:Ident): ¬Hc a a < 0:=fun h=>by
 rcases Jk.1 h with h|⟨_,h⟩
 ·exact Dig.lt_irrefl _ h
 ·omega
theorem Ident.lt_trans {a b c:Ident} (h:Hc a b < 0) (k:Hc b c < 0):Hc a c < 0:=by
 refine Jk.2 ?_
 rcases Jk.1 h with h|⟨e,h⟩<;>rcases Jk.1 k with k|⟨e2,k⟩
 ·exact .inl (Dig.lt_trans h k)
 ·exact .inl (e2 ▸ h)
 ·exact .inl (e ▸ k)
 ·exact .inr ⟨e.trans e2,by omega⟩
theorem Ident.tri (a b:Ident):Hc a b < 0∨a=b∨Hc b a < 0:=by
 rcases Dig.tri a.patch b.patch with h|h|h
 ·exact .inl (Jk.2 (.inl h))
 ·rcases Int.lt_trichotomy a.n b.n with h2|h2|h2
  ·exact .inl (Jk.2 (.inr ⟨h,h2⟩))
  ·refine .inr (.inl ?_)
   cases a;cases b
   simp only at h h2
   rw[h,h2]
  ·exact .inr (.inr (Jk.2 (.inr ⟨h.symm,h2⟩)))
 ·exact .inr (.inr (Jk.2 (.inl h)))
abbrev ot (v:Value) (l:List Ident) (R:List Res):Prop:=Js vIdn 65 33 v l R
theorem yH:SWO (ltOf Hc) where
 irrefl x:=by
  unfold ltOf
  exact Ck (fun h=>Ident.lt_irrefl x h)
 trans x y z h1 h2:=by
  unfold ltOf at*
  exact BK (Ident.lt_trans (BF h1) (BF h2))
 ntrans x y z h1 h2:=by
  unfold ltOf at*
  refine Ck fun h=>?_
  have h1:=Bm h1
  have h2:=Bm h2
  rcases Ident.tri x y with h'|h'|h'
  ·exact h1 h'
  ·subst h';exact h2 h
  ·rcases Ident.tri y z with h3|h3|h3
   ·exact h2 h3
   ·subst h3;exact h1 h
   ·exact Ident.lt_irrefl x (Ident.lt_trans h (Ident.lt_trans h3 h'))
def sortI (l:List Ident):List Ident:=l.mergeSort fun x y=>!(ltOf Hc) y x
theorem fW {w:World} {g:Gh} {r n E:Nat} {cur:Array Value} (hi:Du w g []) (h1:w.heap[r]? =some (.cells cur E (0,0))) (h2: ∀ o,g.H r o=none) (h3:g.M r=none):CmpLays Tryz.prog 159 #[] vIdn 33 Hc r 0 n w:=by
 intro m os dk hdk x y
 have hI:Du (sortWorldK vIdn 33 w r 0 m dk os) g []:=hi.laterBut h2 h3 (by simp[Aj]) (fun k hk hn=>Fv m dk os k hk hn)
 have hv:EB g [.agg (vIdn x).toArray,.agg (vIdn y).toArray] [.agg (eIdent x),.agg (eIdent y)]:=by
  have e: ∀ d:Ident,VR g (.agg (vIdn d).toArray) (.agg (eIdent d)):=fun d=>by
   rw[(inferInstance:Ov eIdent vIdn).out]
   have:EB g (vIdn d) ((vIdn d).map PV.raw):=⟨by simp,fun i h1 h2=>by simp;exact .raw _⟩
   exact this.agg
  exact .cons (e x) (.cons (e y) (.nil g))
 have:=(WT x y).out _ (sortWorldK vIdn 33 w r 0 m dk os) g [] hv hI
 refine Calls.mono this ?_
 rintro e w' ⟨v,x',g',L',rfl,k1,k2,k3,k4,rfl,rfl⟩
 refine⟨by rw[k1.raw_inv],?_⟩
 exact Yu k3.os k3.tape k3.output.1 k3.output.2 k3.size (fun k hk=>k3.keep k hk (by simp[Aj]))
theorem Xj (l:List Ident) (v:Value) (R:List Res) (hv:ot v l R) (hl:l.length≤1000000):BG Tryz.prog 158 [.raw v,.raw (.func (.func 159) #[] #[])] R (fun _ L'=> ∃ v',v'=v∧ot v' (sortI l) L'):=fun vs w g LF hvs hi=>by
 obtain⟨v1,v2,rfl⟩: ∃ a b,vs= [a,b]:=by
  have:=hvs.len
  match vs,this with
  | [a,b],_=>exact⟨a,b,rfl⟩
 rw[hvs.uncons.1.raw_inv,hvs.uncons.2.uncons.1.raw_inv]
 obtain⟨o,c,rfl⟩:=hv.slice
 by_cases hne:l= []
 ·subst hne
  refine(AnyF.slices_SortFunc_none Tryz.sortI o c _ w).mono ?_
  rintro e w' ⟨rfl,rfl⟩
  exact⟨_,.raw (.tuple #[]),g,R,rfl,.raw _,hi,.refl _ _ _,.refl _ _,_,rfl,by simpa [sortI]using hv⟩
 obtain⟨_,r,cur,rest,rfl,rfl,hcur,hsz,hlc⟩:=hv.inv hne
 obtain⟨k1,k2,k3,k4,k5⟩:=hi.rawHead
 have hlt:r < w.heap.size:=(BH.1 k1).1
 have hF:(flatK vIdn 33 l.toArray).toList=l.flatMap vIdn:=Qa (by decide) Pw l
 have hH:HoldsK vIdn 33 w r 0 l.toArray:=fun j hj=>by
  have hj2:j < l.length*33:=by simpa using hj
  refine⟨?_,by simp[World.frozen?,k1]⟩
  have hj3:j < cur.size:=by omega
  simp only[World.cell?,k1,CW,BX,if_false,BL]
  rw[getElem!_pos _ j hj]
  have e1:cur.toList[j]? =(flatK vIdn 33 l.toArray).toList[j]?:=by
   rw[hcur,hF,Cz (by rw[Nw (f:=eIdent) (sz:=33)];exact hj2)]
  rw[MU,MU,CQ hj]at e1
  exact e1
 refine(AnyQ.slices_SortFunc_total Tryz.sortI 33 (fun w=>?_) (fun w=>Ed.run (inferInstance:Ed Tryz.prog 65 33 40) w) vIdn Pw (fun x v h=>(inferInstance:Ov eIdent vIdn).one x v h) Hc yH 159 #[] r 0 c l.toArray w (fun args w=>(inferInstance:B5 Tryz.prog 159).out args w) (fW (hi.sub (List.nil_sublist _)) k1 k2 k3) hH hlt (by simp;omega) ?_).mono ?_
 ·exact(RP (inferInstance:FE Tryz.prog 65 33).out w).1
 ·intro x y h1 h2
  unfold ltOf at h1 h2
  have h1:=Bm h1
  have h2:=Bm h2
  rcases Ident.tri x y with h'|h'|h'
  ·exact absurd h' h1
  ·exact h'
  ·exact absurd h' h2
 ·rintro e w' ⟨rfl,n,os,rfl⟩
  have hlen:(sortI l).length=l.length:=DN _
  have hFs:(flatK vIdn 33 (sortI l).toArray).toList=(sortI l).flatMap vIdn:=Qa (by decide) Pw (sortI l)
  have hFz:(flatK vIdn 33 (sortI l).toArray).size=l.length*33:=by simp[hlen]
  have htk:=P6 (cur:=cur) (flatK vIdn 33 (sortI l).toArray) (by omega)
  have hrow:Js vIdn 65 33 (.slice (some ⟨r,0,none⟩) (sortI l).length c) (sortI l) [.raw r (.cells (putCells id 0 (flatK vIdn 33 (sortI l).toArray) cur) 65 (0,0))]:=by
   refine Js.mk (rest:=(putCells id 0 (flatK vIdn 33 (sortI l).toArray) cur).toList.drop (l.length*33)) Pw ?_ (by simp[putCells,hsz]) (by omega)
   rw[←hFs,←htk,hFz,C7]
  rw[hlen]at hrow
  refine⟨_,.raw (.tuple #[]),g,[.raw r (.cells (putCells id 0 (flatK vIdn 33 (sortI l).toArray) cur) 65 (0,0))],rfl,.raw _,?_,⟨rfl,rfl,⟨rfl,l7 _ _⟩,Ng n _ os,fun b hb hn=>Fv n _ os b hb (fun e=>hn (by rw[e];simp[Aj,Res.block])),.refl g,fun _ _ _=>⟨fun _=>rfl,rfl⟩⟩,fun b hb _=>by simpa [Aj,Res.block]using hb,_,rfl,hrow⟩
  exact(k5.laterBut k2 k3 k4 (fun k hk hn=>Fv n _ os k hk hn)).addRaw (P2 k1 n _ os) k2 k3 k4
end Go.Proofs
