/- Plain: what a patch needs, sorted and without doubles, is what the reference says. -/
import Derived.Test.YtaibdmankdppkaaGreatDoorYal
import Derived.Test.YtaibdmankdppkaaGreatDoorYak
import Derived.Test.YtaibdmankdppkaaGreatDoorYaf
import Derived.Test.YtaibdmankdppkaaGreatDoorYaj
import Derived.Test.YtaibdmankdppkaaGreatDoorYai
import Derived.Shelf.SlSortCmp.NoneTotal
import Derived.Shelf.SlGeneric
import Derived.Ground.SlsfProg
import Derived.Test.YtaibdmankdppkaaGreatDoorProg
set_option linter.unusedSimpArgs false
set_option linter.unusedVariables false
set_option maxHeartbeats 8000000
namespace Go.Proofs
open Go Go.Q Go.Sort
theorem KA (l:List Dig):(sortD l).Pairwise fun x y=> ¬Dig.lt y x:=by
 have h:=zN (le:=fun x y=>!(ltOf Ep) y x) (fun a b c h1 h2=>by
  simp only[AJ,ltOf,A8]at h1 h2 ⊢
  intro h3
  have h1: ¬Dig.lt b a:=h1
  have h2: ¬Dig.lt c b:=h2
  have h3:Dig.lt c a:=h3
  rcases Dig.tri a b with h|h|h
  ·exact h2 (Dig.lt_trans h3 h)
  ·subst h;exact h2 h3
  ·exact h1 h) (fun a b=>by
  simp only[qj,AJ,ltOf,A8]
  by_cases h:Dig.lt b a
  ·exact .inr (Dig.lt_asymm h)
  ·exact .inl h) l
 refine h.imp fun {a b} hab=>?_
 simp only[AJ,ltOf,A8]at hab
 exact hab
theorem S5 {l:List Dig} (h:l.Pairwise fun x y=> ¬Dig.lt y x): ∀ j,j≤l.length→H2 (Kj (l.take j))∧ ∀ d,d∈Kj (l.take j)↔d∈l.take j:=by
 intro j
 induction j with
 |zero=>intro _;exact⟨H2.nil,fun d=>by simp[Kj]⟩
 |succ j ih=>
  intro hj
  obtain⟨i1,i2⟩:=ih (by omega)
  have hlt:j < l.length:=by omega
  by_cases h0:j=0
  ·subst h0
   have e:l.take 1= [l[0]]:=by
    rw[A7 hlt];rfl
   rw[e]
   exact⟨Fy _ _,fun d=>Iff.rfl⟩
  rw[Qt (by omega) hlt]
  by_cases e:l[j]=l[j - 1]
  ·rw[if_pos e]
   refine⟨i1,fun d=>?_⟩
   rw[i2,A7 hlt]
   simp only[Aj,An]
   refine⟨.inl,fun h=>h.elim id fun h=>?_⟩
   rw[h,e]
   exact DZ.2 ⟨j - 1,by omega,rfl⟩
  ·rw[if_neg e]
   refine⟨?_,fun d=>?_⟩
   ·refine H3.2 ⟨i1,Fy _ _,fun a ha b hb=>?_⟩
    rw[An.1 hb]
    obtain⟨i,hi,rfl⟩:=DZ.1 ((i2 a).1 ha)
    have hp:=Ay.1 h
    have h3: ¬Dig.lt l[j] l[j - 1]:=hp (j - 1) j (by omega) hlt (by omega)
    have h4:Dig.lt l[j - 1] l[j]:=by
     rcases Dig.tri l[j - 1] l[j]with h'|h'|h'
     ·exact h'
     ·exact absurd h'.symm e
     ·exact absurd h' h3
    by_cases h5:i=j - 1
    ·subst h5;exact h4
    ·have h6: ¬Dig.lt l[j - 1] l[i]:=hp i (j - 1) (by omega) (by omega) (by omega)
     rcases Dig.tri l[i] l[j - 1]with h'|h'|h'
     ·exact Dig.lt_trans h' h4
     ·rw[h'];exact h4
     ·exact absurd h' h6
   ·rw[A7 hlt]
    simp only[Aj,i2]
theorem u9 (l:List Dig):H2 (Kj (sortD l)):=by
 have:=(S5 (KA l) (sortD l).length (Ah _)).1
 rwa [E8]at this
theorem u7 (l:List Dig) (d:Dig):d∈Kj (sortD l)↔d∈l:=by
 have:=(S5 (KA l) (sortD l).length (Ah _)).2 d
 rw[E8]at this
 rw[this]
 exact cy
theorem Qe {l:List Ident} {d:Dig}:d∈FX l↔ ∃ x∈l,x.patch≠Dig.zero∧x.patch=d:=by
 unfold FX
 simp only[AQ,FL,AJ,A8]
 constructor
 ·rintro⟨x,⟨h1,h2⟩,h3⟩;exact⟨x,h1,h2,h3⟩
 ·rintro⟨x,h1,h2,h3⟩;exact⟨x,⟨h1,h2⟩,h3⟩
theorem uQ (rs:List Rfc):eJ rs=FX (rs.map Rfc.id):=by
 unfold eJ FX
 rw[List.filter_map,CG]
 rfl
theorem sh {c:Chg} (h:C3 c=0):(¬(2≤c.kind∧c.kind≤6)→c.file=Ident.zero)∧(c.kind≠2→c.parent=Ident.zero)∧(¬(c.kind=5∨c.kind=6)→c.after=Ident.zero∧c.before=Ident.zero):=by
 unfold C3 at h
 split at h
 ·omega
 split at h
 ·omega
 rename_i h2
 simp only[Bool.not_eq_false,Fl,BW,AB]at h2
 obtain⟨⟨⟨⟨⟨⟨⟨⟨⟨a1,_⟩,a2⟩,_⟩,_⟩,_⟩,a3⟩,a4⟩,_⟩,_⟩:=h2
 refine⟨fun h=>?_,fun h=>?_,fun h=>⟨?_,?_⟩⟩
 ·have a:(if 2≤c.kind∧c.kind≤6 then Ident.zero else c.file)=Ident.zero:=a1
  rwa [if_neg h]at a
 ·have a:(if c.kind=2 then Ident.zero else c.parent)=Ident.zero:=a2
  rwa [if_neg h]at a
 ·have a:(if c.kind=5∨c.kind=6 then Ident.zero else c.after)=Ident.zero:=a3
  rwa [if_neg h]at a
 ·have a:(if c.kind=5∨c.kind=6 then Ident.zero else c.before)=Ident.zero:=a4
  rwa [if_neg h]at a
theorem Yh {c:Chg} (h:C3 c=0) (d:Dig):d∈eJ (En c)↔d∈FX (Ks c):=by
 obtain⟨u1,u2,u3⟩:=sh h
 have hz:Ident.zero.patch=Dig.zero:=rfl
 rw[uQ,Qe,Qe]
 have key: ∀ x:Ident,x.patch≠Dig.zero→(x∈(En c).map Rfc.id↔x∈Ks c):=fun x hx=>by
  have hk:=Mr h
  have e4: ∀ l:List Ident,(NP c l).map Rfc.id=l:=fun l=>by
   rw[NP,CG]
   show l.map (fun x=>x)=l
   simp
  unfold En Ks
  simp only[Ak,e4,Aj,AI,Ai,or_false]
  have n1:x=Ident.zero→False:=fun e=>hx (by rw[e];rfl)
  have n2:x=⟨Dig.zero,-1⟩→False:=fun e=>hx (by rw[e])
  rcases kinds hk with k|k|k|k|k|k|k<;>simp only[Ht,KV,PE,k]at u1 u2 u3 ⊢ <;>simp<;>grind
 constructor
 ·rintro⟨x,h1,h2,h3⟩;exact⟨x,(key x h2).1 h1,h2,h3⟩
 ·rintro⟨x,h1,h2,h3⟩;exact⟨x,(key x h2).2 h1,h2,h3⟩
theorem NR: ∀ (l:List Chg) (own:List Atm),(DA l own).2=0→ ∀ c∈l,C3 c=0
 | [],_,_,c,hc=>by cases hc
 |x::l,own,h,c,hc=>by
  rw[DA]at h
  split at h
  ·rename_i h1;exact absurd h h1
  rename_i h1
  split at h
  ·rename_i h2;exact absurd h h2
  rcases AI.1 hc with rfl|hc
  ·simpa using h1
  ·exact NR l _ h c hc
theorem Rk: ∀ (cs:List Chg) (m:List Dig) (d:Dig),d∈cs.foldl Oa m↔d∈m∨ ∃ c∈cs,d∈FX (Ks c)
 | [],m,d=>by simp
 |c::cs,m,d=>by
  rw[BM,Rk cs,Oa,HB]
  simp only[AI,exists_eq_or_imp,or_assoc]
theorem Rl: ∀ (cs:List Chg) (m:List Dig),H2 m→H2 (cs.foldl Oa m)
 | [],m,h=>h
 |c::cs,m,h=>Rl cs _ (Fu h)
theorem xW (p:Pat):nP p=BP p:=by
 unfold nP BP
 by_cases h:(Cb p).2≠0
 ·rw[if_pos h,if_pos h]
 rw[if_neg h,if_neg h]
 have h0:(C9 p).2=0:=by
  by_cases h1:(C9 p).2≠0
  ·rw[Cb,if_pos h1]at h;exact absurd h1 h
  ·simpa using h1
 have hF: ∀ c∈p.changes,C3 c=0:=by
  rw[Ie]at h0
  split at h0
  ·rename_i h1;exact absurd h0 h1
  ·exact NR _ _ h0
 refine H2.ext (u9 _) (Rl _ _ (Fu H2.nil)) fun d=>?_
 rw[u7,Rk,HB,kd]
 simp only[Aj,Sj,Ai,false_or]
 constructor
 ·rintro(h|⟨c,hc,h⟩)
  ·exact .inl h
  ·exact .inr ⟨c,hc,(Yh (hF c hc) d).1 h⟩
 ·rintro(h|⟨c,hc,h⟩)
  ·exact .inl h
  ·exact .inr ⟨c,hc,(Yh (hF c hc) d).2 h⟩
instance w0 (p:Pat) [hs:B1 (ED p=false)]:CB Tryz.prog 20 [.agg (Bz p)] (.slice ((BP p).map eDig) .ro):=xW p ▸ ft p
end Go.Proofs
namespace Go.Proofs
open Go Go.Q
attribute [local irreducible] ER AV BA Fc
def gr (s:List Sto):List (Dig × List Dig):=s.foldl (fun m x=>Cn x.id (BP x.patch) m) []
theorem eC {s:List Sto} {k:Nat} (h:k < s.length):gr (s.take (k+1))=Cn s[k].id (BP s[k].patch) (gr (s.take k)):=by
 rw[A7 h,gr,BO];rfl
instance uF (s:List Sto) (t:CF) [hs:B1 (HF s)]:CB Tryz.prog 78 [.slice (s.map eSto) t] (.fmap (BQ kDig (Jr eDig) (gr s))):=⟨by
 have hs:=hs.out
 refine Au Tryz.func78 Tryz.ntmps78 rfl (rs:= [.tmp 2]) rfl rfl fun hb LF=>?_
 refine zS fun b=>?_
 refine Ad (σ:=Nat) (fun k=>k≤s.length) (fun k=>s.length - k) (fun k=> [(3,.raw (.map (some b))),(7,.slice (s.map eSto) t),(8,.raw (.int .i64 s.length)),(9,.raw (.int .i64 k))]) (fun k=> .map b (BQ kDig (Jr eDig) (gr (s.take k)))::LF) 0 (by simp) ⟨rfl,rfl,rfl,rfl⟩ (.refl _) ?_
 intro k hk
 refine wf ?_
 refine A6 (fun hc=>?_) (fun hc=>?_)
 ·have hlt:k < s.length:=by omega
  have h8:=hs.1
  have:B1 (ED s[k].patch=false):=⟨hs.2 _ (AF hlt)⟩
  refine wz fun b5=>?_
  refine Ao 5 ?_
  refine wn ?_
  refine Bj 6 ?_ ?_
  ·decide+kernel
  refine wf ?_
  refine⟨k+1,by omega,by dsimp only;omega,⟨rfl,rfl,rfl,rfl⟩,?_⟩
  dsimp only
  rw[eC hlt]
  exact .refl _
 ·refine Gj ?_
  rw[AE (by omega)]
  refine L7 [(3,.fmap (BQ kDig (Jr eDig) (gr s)))] (.inr ⟨rfl,rfl⟩) (.refl _) ?_
  refine wf ?_
  exact B2 (.refl _)⟩
def Kk (out l:List Dig):List Dig:=l.foldl (fun o d=>if d∈o then o else o++ [d]) out
theorem iA {out l:List Dig} {k:Nat} (h:k < l.length):Kk out (l.take (k+1))=if l[k]∈Kk out (l.take k)then Kk out (l.take k)else Kk out (l.take k)++ [l[k]]:=by
 rw[A7 h,Kk,BO];rfl
theorem mG (out:List Dig): ∀ l:List Dig,(Kk out l).length≤out.length+l.length:=by
 intro l
 induction l generalizing out with
 |nil=>simp[Kk]
 |cons x l ih=>
  have:=ih (if x∈out then out else out++ [x])
  rw[Kk,BM]
  refine CZ this ?_
  split<;>simp<;>omega
def WT (met:List (Dig × Bool)) (out:List Dig):Prop:= ∀ d,(C4 d met).getD false=decide (d∈out)
theorem WT.add {met:List (Dig × Bool)} {out:List Dig} (h:WT met out) (d:Dig):WT (Cn d true met) (out++ [d]):=fun x=>by
 rw[Ei]
 by_cases e:x=d
 ·subst e;simp
 ·rw[if_neg e,h x];simp[e]
def qc (b6 m b7:Nat) (out:List Dig) (L:List Res):Prop:= ∃ met v R,WT met out∧VB v out R∧L= .box b6 121 [.raw (.map (some m))]:: .map m (BQ kDig vBool met):: .box b7 24 [.raw v]::R
theorem Du {a b c:Res} {L LF:List Res}:(a::b::c::(L++LF)).Perm (L++(a::b::c::LF)):=((Bc (l₁:=L)).trans (.cons a ((Bc (l₁:=L)).trans (.cons b Bc)))).symm
def P4 (G:List (Dig × List Dig)) (l:List Dig):Bool:=l.all fun d=>(C4 d G).isSome
theorem eR (G:List (Dig × List Dig)) (l:List Dig) (t:CF) (b6 m b7:Nat) (out:List Dig) (L:List Res) (hL:qc b6 m b7 out L) (hb:out.length+l.length≤1000):
  BA Tryz.prog 160 [.slice (l.map eDig) t,.pt [.fmap (BQ kDig (Jr eDig) G)] 0,.raw (.pointer (some ⟨b6,0,none⟩)),.raw (.pointer (some ⟨b7,0,none⟩))] L (fun r L'=>r= .raw (.bool (P4 G l))∧ ∃ out',qc b6 m b7 out' L'∧(P4 G l=true→out'=Kk out l)):=by
 refine C5 Tryz.func160 rfl Tryz.ntmps160 (rs:= [.tmp 5]) rfl rfl fun hbd LF=>?_
 refine wf ?_
 refine Ad (σ:=Nat × List Res) (fun k=>k.1≤l.length∧(∀ i (h:i < l.length),i < k.1→(C4 l[i] G).isSome=true)∧qc b6 m b7 (Kk out (l.take k.1)) k.2) (fun k=>l.length - k.1) (fun k=> [(1,.pt [.fmap (BQ kDig (Jr eDig) G)] 0),(2,.raw (.pointer (some ⟨b6,0,none⟩))),(3,.raw (.pointer (some ⟨b7,0,none⟩))),(10,.slice (l.map eDig) t),(11,.raw (.int .i64 l.length)),(12,.raw (.int .i64 k.1))]) (fun k=>k.2++LF) (0,L) ⟨by simp,by simp,hL⟩ ⟨rfl,rfl,rfl,rfl,rfl,rfl⟩ (.refl _) ?_
 rintro⟨k,L1⟩ ⟨hk,hall,met,v,R,hm,hv,rfl⟩
 dsimp only at hk hall hm hv ⊢
 refine wf ?_
 refine A6 (fun hc=>?_) (fun hc=>?_)
 ·have hlt:k < l.length:=by omega
  refine wz fun b=>?_
  refine Ao 7 ?_
  refine wf ?_
  refine AW (fun h=>?_) (fun h=>?_)
  ·have h0:(C4 l[k] G).isSome=false:=by simpa using h
   have hA:P4 G l=false:=by
    unfold P4
    exact J6.2 ⟨l[k],AF hlt,by simp[h0]⟩
   refine wf ?_
   exact⟨trivial,_,_,.cons (.tmp 5) .nil,.refl _,by rw[hA];exact rfl,_,⟨met,v,R,hm,hv,rfl⟩,fun h=>by rw[hA]at h;cases h⟩
  have hi:(C4 l[k] G).isSome=true:=by simpa using h
  have hall': ∀ i (h:i < l.length),i < k+1→(C4 l[i] G).isSome=true:=fun i hi' hik=>by
   rcases B9 i k with h'|h'
   ·exact hall i hi' h'
   ·have e:i=k:=by omega
    subst e;exact hi
  refine wf ?_
  have hml:=hm l[k]
  have ht:=iA (out:=out) hlt
  refine AW (fun h=>?_) (fun h=>?_)
  ·have hno:l[k]∉Kk out (l.take k):=by
    rw[hml]at h;simpa using h
   rw[if_neg hno]at ht
   have hol:=mG out (l.take k)
   rw[Aa]at hol
   refine wf ?_
   refine QG (κ:=Dig) (ek:=kDig) (ev:=vBool) (k0:=l[k]) (x0:=true) (L':= .box b6 121 [.raw (.map (some m))]:: .box b7 24 [.raw v]::(R++LF)) rfl (.swap _ _ _) (.refl _) (.refl _) ?_
   refine AD ?_
   refine E0 (.swap _ _ _) ?_
   refine wf ?_
   refine Im (f:=eDig) (m:= [l[k]]) (R:=R) (LF:= .box b6 121 [.raw (.map (some m))]:: .map m (BQ kDig vBool (Cn l[k] true met)):: .box b7 24 [.raw v]::LF) (fun R'=> .box b6 121 [.raw (.map (some m))]:: .map m (BQ kDig vBool (Cn l[k] true met)):: .box b7 24 [.raw v]::(R'++LF)) rfl rfl hv Du (fun R'=>Du.symm) (by simp only[AN,Af];omega) (by simp only[AN,Af];omega) fun v2 R2 hv2=>?_
   refine wf ?_
   refine Hr [.raw v2] rfl rfl hv2.one rfl (by simp) ?_
   refine wf ?_
   refine wf ?_
   refine⟨(k+1,_),⟨by dsimp only;omega,hall',Cn l[k] true met,v2,R2,?_,?_,rfl⟩,by dsimp only;omega,⟨rfl,rfl,rfl,rfl,rfl,rfl⟩,.refl _⟩
   ·dsimp only;rw[ht];exact hm.add _
   ·dsimp only;rw[ht];exact hv2
  ·have hyes:l[k]∈Kk out (l.take k):=by
    rw[hml]at h;simpa using h
   rw[if_pos hyes]at ht
   refine wf ?_
   exact⟨(k+1,_),⟨by dsimp only;omega,hall',met,v,R,by dsimp only;rw[ht];exact hm,by dsimp only;rw[ht];exact hv,rfl⟩,by dsimp only;omega,⟨rfl,rfl,rfl,rfl,rfl,rfl⟩,.refl _⟩
 ·have hA:P4 G l=true:=by
   unfold P4
   refine Bg.2 fun d hd=>?_
   obtain⟨i,hi,rfl⟩:=AZ.1 hd
   exact hall i hi (by omega)
  refine wf ?_
  rw[AE (by omega)]at hm hv
  exact⟨trivial,_,_,.cons (.tmp 5) .nil,.refl _,by rw[hA];exact rfl,_,⟨met,v,R,hm,hv,rfl⟩,fun _=>rfl⟩
end Go.Proofs
namespace Go.Proofs
open Go Go.Q
def ndG (G:List (Dig × List Dig)) (d:Dig):List Dig:=(C4 d G).getD []
theorem S9 (out:List Dig) (x:Dig) (l:List Dig):Kk out (x::l)=Kk (if x∈out then out else out++ [x]) l:=rfl
theorem Kd: ∀ {l out:List Dig} {d:Dig},d∈Kk out l↔d∈out∨d∈l
 | [],out,d=>by simp[Kk]
 |x::l,out,d=>by
  rw[S9,Kd]
  split
  ·rename_i h
   constructor
   ·rintro(h1|h1)
    ·exact .inl h1
    ·exact .inr (AH _ h1)
   ·rintro(h1|h1)
    ·exact .inl h1
    ·rcases AI.1 h1 with rfl|h1
     ·exact .inl h
     ·exact .inr h1
  ·simp[or_assoc]
theorem Pz: ∀ {l out:List Dig},out.Nodup→(Kk out l).Nodup
 | [],_,h=>h
 |x::l,out,h=>by
  rw[S9]
  refine Pz ?_
  split
  ·exact h
  ·rename_i hx
   refine H3.2 ⟨h,Fy _ _,fun a ha b hb=>?_⟩
   rw[An.1 hb]
   rintro rfl
   exact hx ha
theorem OH: ∀ {l out:List Dig},out <+:Kk out l
 | [],_=>List.prefix_refl _
 |x::l,out=>by
  rw[S9]
  refine List.IsPrefix.trans ?_ OH
  split
  ·exact List.prefix_refl _
  ·exact List.prefix_append _ _
structure mW (nd:Dig→List Dig) (l out:List Dig) (i:Nat):Prop where
 nodup:out.Nodup
 sub: ∀ d∈l,d∈out
 reach: ∀ d∈out,Q.Reach nd l d
 done: ∀ j (h:j < out.length),j < i→ ∀ d∈nd out[j],d∈out
theorem mW.start (nd:Dig→List Dig) (l:List Dig):mW nd l (Kk [] l) 0:=
 ⟨Pz .nil,fun d hd=>Kd.2 (.inr hd),fun d hd=> .base ((Kd.1 hd).elim (fun h=>absurd h (by simp)) id),fun _ _ h=>absurd h (by omega)⟩
theorem mW.step {nd:Dig→List Dig} {l out:List Dig} {i:Nat} (h:mW nd l out i) (hi:i < out.length):mW nd l (Kk out (nd out[i])) (i+1):=by
 refine⟨Pz h.nodup,fun d hd=>Kd.2 (.inl (h.sub d hd)),fun d hd=>?_,fun j hj hji d hd=>?_⟩
 ·rcases Kd.1 hd with h1|h1
  ·exact h.reach d h1
  ·exact .step (h.reach _ (AF hi)) h1
 ·have hjo:j < out.length:=by omega
  have e:(Kk out (nd out[i]))[j]=out[j]:=(OH.getElem hjo).symm
  rw[e]at hd
  by_cases hj2:j < i
  ·exact Kd.2 (.inl (h.done j hjo hj2 d hd))
  ·have hje:j=i:=by omega
   subst hje
   exact Kd.2 (.inr hd)
theorem mW.fin {nd:Dig→List Dig} {l out:List Dig} {i:Nat} (h:mW nd l out i) (hi:out.length≤i) (d:Dig):d∈out↔Q.Reach nd l d:=by
 refine⟨h.reach d,fun hr=>?_⟩
 induction hr with
 |base hd=>exact h.sub _ hd
 |step _ hd ih=>
  obtain⟨j,hj,rfl⟩:=AZ.1 ih
  exact h.done j hj (by omega) _ hd
theorem mW.len {nd:Dig→List Dig} {l out U:List Dig} {i:Nat} (h:mW nd l out i) (hU: ∀ x∈U,∀ d∈nd x,d∈U) (hl: ∀ d∈l,d∈U):out.length≤U.length:=
 Eg h.nodup fun d hd=>(h.reach d hd).in_ hU hl
theorem fB {l:List Dig} (h:l.Nodup):H2 (sortD l):=by
 have h2:(sortD l).Nodup:=(List.mergeSort_perm l _).nodup_iff.2 h
 refine Ay.2 fun i j hi hj hij=>?_
 have a:=Ay.1 (KA l) i j hi hj hij
 have b:=Ay.1 h2 i j hi hj hij
 rcases Dig.tri (sortD l)[i] (sortD l)[j]with h'|h'|h'
 ·exact h'
 ·exact absurd h' b
 ·exact absurd h' a
theorem VN {l:List Dig} {d:Dig}:d∈sortD l↔d∈l:=cy
theorem rj: ∀ (s:List Sto) (m:List (Dig × List Dig)) (d:Dig),(C4 d (s.foldl (fun m x=>Cn x.id (BP x.patch) m) m)).isSome=(decide (d∈ids s)||(C4 d m).isSome)
 | [],m,d=>by simp[ids]
 |x::s,m,d=>by
  rw[BM,rj s,Ei]
  by_cases e:d=x.id<;>simp[ids,e]
theorem l5: ∀ (s:List Sto) (m:List (Dig × List Dig)) (d:Dig) (r:List Dig),C4 d (s.foldl (fun m x=>Cn x.id (BP x.patch) m) m)=some r→(∃ x∈s,x.id=d∧r=BP x.patch)∨C4 d m=some r
 | [],m,d,r,h=> .inr h
 |x::s,m,d,r,h=>by
  rw[BM]at h
  rcases l5 s _ d r h with ⟨y,hy,h1,h2⟩|h1
  ·exact .inl ⟨y,AH _ hy,h1,h2⟩
  ·rw[Ei]at h1
   split at h1
   ·rename_i e
    exact .inl ⟨x,AG,e.symm,(CN h1).symm⟩
   ·exact .inr h1
theorem XQ (s:List Sto) (d:Dig):(C4 d (gr s)).isSome=decide (d∈ids s):=by
 rw[gr,rj];simp[C4]
theorem BH.ndG {s:List Sto} (v:BH s):Go.Proofs.ndG (gr s)=Go.Proofs.ndS s:=by
 funext d
 have h1:=XQ s d
 unfold Go.Proofs.ndG
 cases hg:C4 d (gr s)with
 |none=>
  rw[hg]at h1
  have hd: ¬d∈ids s:=by simpa using h1
  have hn:Go.Proofs.getS s d=none:=by
   cases hs:Go.Proofs.getS s d with
   |none=>rfl
   |some p=>
    obtain⟨x,hx,e,_⟩:=Kf hs
    exact absurd (AQ.2 ⟨x,hx,e⟩) hd
  rw[Go.Proofs.ndS,hn,NL,NL,Tu]
 |some r=>
  rcases l5 s [] d r hg with ⟨x,hx,e,rfl⟩|h2
  ·subst e
   rw[v.ndS hx];rfl
  ·simp[C4]at h2
attribute [local irreducible] ER AV BA Fc
def clG (G:List (Dig × List Dig)) (U l:List Dig):List Dig × Bool:=if P4 G l=false then([],false)else(MG (ndG G) U.length (Df [] l),true)
structure mR (G:List (Dig × List Dig)) (U:List Dig):Prop where
 is: ∀ d,(C4 d G).isSome=decide (d∈U)
 len:U.length≤200
 cl: ∀ x∈U,∀ d∈ndG G x,d∈U
 nd: ∀ x,(ndG G x).length≤400
theorem mR.all {G:List (Dig × List Dig)} {U l:List Dig} (h:mR G U):P4 G l=true↔ ∀ d∈l,d∈U:=by
 unfold P4
 rw[Bg]
 exact⟨fun k d hd=>by have:=k d hd;rw[h.is]at this;exact BB this,fun k d hd=>by rw[h.is];exact BR (k d hd)⟩
theorem nG:Cp Tryz.prog 24 [.raw (.slice none 0 0)]:=LZ (v:= .slice none 0 0) (by kernel_rfl) rfl fun _=> .raw _
theorem TQ (G:List (Dig × List Dig)) (U:List Dig) (hG:mR G U) (l:List Dig) (t:CF) (hl:l.length≤400):CB Tryz.prog 108 [.fmap (BQ kDig (Jr eDig) G),.slice (l.map eDig) t] (.tuple [.slice ((clG G U l).1.map eDig) .ro,.raw (.bool (clG G U l).2)]):=⟨by
 refine Au Tryz.func108 Tryz.ntmps108 rfl (rs:= [.tmp 4,.tmp 5]) rfl rfl fun hb LF=>?_
 refine wf ?_
 refine Rr fun m=>?_
 refine C6 fun b6=>?_
 refine wf ?_
 refine C6 (hZ:=nG) fun b7=>?_
 refine wf ?_
 refine CW (xs:= [.tmp 13]) [.box b6 121 [.raw (.map (some m))],.map m (BQ kDig vBool []),.box b7 24 [.raw (.slice none 0 0)]] LF (f:=160) (cs:= [.pt [.fmap (BQ kDig (Jr eDig) G)] 0,.raw (.pointer (some ⟨b6,0,none⟩)),.raw (.pointer (some ⟨b7,0,none⟩))]) (.refl _) rfl rfl (Bc (l₁:= [_,_])).symm _ (eR G l t b6 m b7 [] _ ⟨[],.slice none 0 0,[],fun d=>by simp[C4],.nil none (by simp),rfl⟩ (by simp;omega)) fun r L1 ⟨hr,out0,hC,ho⟩=>?_
 subst hr
 refine wf ?_
 refine AW (fun h=>?_) (fun h=>?_)
 ·have h0:P4 G l=false:=by simpa using h
  refine wf ?_
  refine HH (hs:=DD _ _) ?_
  rw[clG,if_pos h0]
  exact .tuple2 (.ro _ _) (.refl _)
 have h1:P4 G l=true:=by simpa using h
 have hlU:=hG.all.1 h1
 rw[clG,if_neg (by simp[h1])]
 have ho:=ho h1
 subst ho
 refine wf ?_
 refine Ad (σ:=Nat × List Dig × List Res) (fun k=>k.1≤k.2.1.length∧mW (ndG G) l k.2.1 k.1∧qc b6 m b7 k.2.1 k.2.2) (fun k=>U.length - k.1) (fun k=> [(2,.pt [.fmap (BQ kDig (Jr eDig) G)] 0),(7,.raw (.pointer (some ⟨b7,0,none⟩))),(8,.clo 160 [.pt [.fmap (BQ kDig (Jr eDig) G)] 0,.raw (.pointer (some ⟨b6,0,none⟩)),.raw (.pointer (some ⟨b7,0,none⟩))]),(9,.raw (.int .i64 k.1))]) (fun k=>k.2.2++LF) (0,Kk [] l,L1) ⟨by simp,mW.start _ _,hC⟩ ⟨rfl,rfl,rfl,rfl⟩ (.refl _) ?_
 rintro⟨k,out,L2⟩ ⟨hk,hI,met,v,R,hm,hv,rfl⟩
 dsimp only at hk hI hm hv ⊢
 have hol:=hI.len hG.cl hlU
 have hUl:=hG.len
 obtain⟨o,c,rfl⟩:=hv.slice
 refine wf ?_
 refine KU rfl ?_
 refine wf ?_
 refine A6 (fun hc=>?_) (fun hc=>?_)
 ·have hlt:k < out.length:=by omega
  have hne:out≠ []:=fun e=>by subst e;simp at hlt
  obtain⟨_,r,cur,rest,rfl,rfl,hcur,hsz,hlc⟩:=hv.inv hne
  refine wn ?_
  refine Bj 7 ?_ ?_
  ·decide+kernel
  refine wf ?_
  refine Fb (k:=k) rfl rfl hlt ?_
  refine OW (f:=eDig) (a0:=out[k]) rfl (Dc _ (AH _ (AH _ (AH _ AG)))) (by rw[hcur,BG];exact PX FU out k hlt rest) (by omega) ?_
  refine wf ?_
  have hin:out[k]∈U:=(hI.reach _ (AF hlt)).in_ hG.cl hlU
  have hA:P4 G (ndG G out[k])=true:=hG.all.2 (hG.cl _ hin)
  have hnd:=hG.nd out[k]
  refine CW (xs:= [.tmp 28]) (.box b6 121 [.raw (.map (some m))]:: .map m (BQ kDig vBool met):: .box b7 24 [.raw (.slice (some ⟨r,0,none⟩) out.length c)]:: [.raw r (.cells cur 31 (0,0))]) LF (f:=160) (cs:= [.pt [.fmap (BQ kDig (Jr eDig) G)] 0,.raw (.pointer (some ⟨b6,0,none⟩)),.raw (.pointer (some ⟨b7,0,none⟩))]) (.refl _) rfl rfl (.refl _) _ (eR G (ndG G out[k]) .ro b6 m b7 out _ ⟨met,_,_,hm,hv,rfl⟩ (by omega)) fun r L3 ⟨hr,out1,hC1,ho1⟩=>?_
  have ho1:=ho1 hA
  subst ho1
  refine wf ?_
  refine wf ?_
  have hpl:=(OH (out:=out) (l:=ndG G out[k])).length_le
  exact⟨(k+1,Kk out (ndG G out[k]),L3),⟨by dsimp only;omega,hI.step hlt,hC1⟩,by dsimp only;omega,⟨rfl,rfl,rfl,rfl⟩,.refl _⟩
 have hfin:=hI.fin (by omega)
 have hmx:(sortD out).length≤maxN∧(sortD out).length*32≤maxN:=by
  have:maxN=140737488355328:=rfl
  have h2:(sortD out).length=out.length:=Cg _
  omega
 refine wf ?_
 refine CW (xs:= [.tmp 30,.func 61]) R (.box b6 121 [.raw (.map (some m))]:: .map m (BQ kDig vBool met):: .box b7 24 [.raw (.slice o out.length c)]::LF) (f:=60) (cs:= []) (CA _) rfl rfl Du _ (Sk out _ R hv (by omega)) fun r L3 ⟨v2,e2,hv2⟩=>?_
 subst e2
 refine AD ?_
 refine E0 Du.symm ?_
 refine DX ?_
 refine CQ (by kernel_rfl) ?_
 refine wo ?_
 refine AD ?_
 refine Gn (f:=eDig) 4 hv2 hmx Du rfl ?_
 refine wf ?_
 refine HH ?_
 have e:sortD out=MG (ndG G) U.length (Df [] l):=by
  refine H2.ext (fB hI.nodup) (Oq (Fu .nil)) fun d=>?_
  rw[VN,hfin]
  exact(ME hG.cl hlU (Ah _)).symm
 rw[e]
 exact .refl _⟩
theorem JG (p:Pat):H2 (BP p):=by
 unfold BP
 split
 ·exact .nil
 ·exact Rl _ _ (Fu .nil)
theorem ox (s:List Sto) (d:Dig):H2 (ndS s d):=JG _
theorem BH.grOk {s:List Sto} (v:BH s):mR (gr s) (ids s):=by
 have h8:=v.close.1.1
 refine⟨XQ s,by rw[HT];omega,fun x _ d hd=>?_,fun x=>?_⟩
 ·rw[v.ndG]at hd
  exact v.close.nd x d hd
 ·rw[v.ndG]
  have:=v.close.small (ox s x) (v.close.nd x)
  omega
theorem BH.clG {s:List Sto} (v:BH s) (l:List Dig):(Go.Proofs.clG (gr s) (ids s) l).1=(Dh s l).1∧(Dh s l).2=if(Go.Proofs.clG (gr s) (ids s) l).2=false then 7 else 0:=by
 have h1:P4 (gr s) l=DW (ids s) l:=by
  unfold P4 DW
  congr 1
  funext d
  exact XQ s d
 unfold Go.Proofs.clG Dh
 rw[h1,v.ndG,HT]
 split<;>simp
instance aU (s:List Sto) (l:List Dig) (t u:CF) [hs:B1 (BH s)] [hl:B1 (l.length≤400)]:CB Tryz.prog 46 [.slice (s.map eSto) t,.slice (l.map eDig) u] (.tuple [.slice ((Dh s l).1.map eDig) .ro,.raw (.int .i64 (Dh s l).2)]):=⟨by
 have v:=hs.out
 have i1:B1 (HF s):=⟨v.close.1⟩
 have i2:=fun t=>TQ (gr s) (ids s) v.grOk l t hl.out
 refine Au Tryz.func46 Tryz.ntmps46 rfl (rs:= [.tmp 4,.tmp 5]) rfl rfl fun hb LF=>?_
 obtain⟨e1,e2⟩:=v.clG l
 refine wf ?_
 refine AW (fun h=>?_) (fun h=>?_)
 ·have h0:(clG (gr s) (ids s) l).2=false:=by simpa using h
  rw[if_pos h0]at e2
  have e3:(Dh s l).1= []:=by
   unfold Dh at e2 ⊢
   split
   ·rfl
   ·rename_i h3
    rw[if_neg h3]at e2
    simp at e2
  refine wf ?_
  refine HH ?_
  rw[e2,e3]
  exact .tuple2 (.ro _ _) (.refl _)
 ·have h0:(clG (gr s) (ids s) l).2=true:=by simpa using h
  rw[h0]at e2
  simp at e2
  refine wf ?_
  refine HH ?_
  rw[e2,←e1]
  exact .refl _⟩
def cm (l:List Dig):List (Dig × Bool):=l.foldl (fun m x=>Cn x true m) []
def cM (s l:List Sto):List (Dig × List (Dig × Bool)):=l.foldl (fun m x=>Cn x.id (cm (Px s x.id)) m) []
def zn (s:List Sto):List PV:= [.slice (s.map eSto) .ro]++ [.fmap (BQ kDig (zT kDig vBool) (cM s s))]
@[simp] theorem xf (s:List Sto):(zn s).length=2:=rfl
instance zf {a b c:PV}:FK [a,b] 0 [c] [c,b]:=Dd (a:= [a]) (b:= [b]) (new:= [c]) rfl
instance ze {a b c:PV}:FK [a,b] 1 [c] [a,c]:=Ag (a:= [a]) (n:=1) (off:=0) rfl (MA (a:= [b]) (new:= [c]) rfl)
instance {b:Option Nat}:Dy (.raw (.map b)) [.raw (.map b)]:=⟨.one (Dv.out)⟩
attribute [local irreducible] Km
end Go.Proofs
namespace Go.Proofs
open Go Go.Q
attribute [local irreducible] ER AV BA Fc
def pS (l:List Dig) (d:Dig):Int:=if d∈l then(l.idxOf d:Int)else -1
theorem ZZ {l:List Dig} {d:Dig} {k:Nat} (hk:k < l.length) (hn:d∉l.take k) (e:d=l[k]):l.idxOf d=k:=by
 induction l generalizing k with
 |nil=>simp at hk
 |cons x l ih=>
  cases k with
  |zero=>simp at e;subst e;simp
  |succ k=>
   simp only[Oz,AI,not_or]at hn
   have:=ih (k:=k) (by simpa using hk) hn.2 (by simpa using e)
   rw[List.idxOf_cons,beq_eq_false_iff_ne.2 (Ne.symm hn.1),cond_false,this]
instance w7 (l:List Dig) (d:Dig) (t:CF):CB Tryz.prog 77 [.slice (l.map eDig) t,.agg (eDig d)] (.raw (.int .i64 (pS l d))):=⟨by
 refine Au Tryz.func77 Tryz.ntmps77 rfl (rs:= [.tmp 4]) rfl rfl fun hb LF=>?_
 have hlen:l.length≤140737488355328:=(hb (.slice (l.map eDig) t) (by simp)).slice_map
 refine wf ?_
 refine Ad (σ:=Nat) (fun k=>k≤l.length∧d∉l.take k) (fun k=>l.length - k) (fun k=> [(0,.slice (l.map eDig) t),(3,.pt (eDig d) 0),(7,.raw (.int .i64 l.length)),(8,.raw (.int .i64 k))]) (fun _=>LF) 0 ⟨by simp,by simp⟩ ⟨rfl,rfl,rfl,rfl⟩ (.refl _) ?_
 rintro k ⟨hk,hn⟩
 refine wf ?_
 refine A6 (fun hc=>?_) (fun hc=>?_)
 ·have hlt:k < l.length:=by omega
  refine wf ?_
  refine A6 (fun h=>?_) (fun h=>?_)
  ·refine wf ?_
   refine B2 (.of_eq ?_)
   rw[pS,if_pos (h ▸ AF hlt),ZZ hlt hn h]
  ·refine wf ?_
   refine⟨k+1,⟨by omega,?_⟩,by dsimp only;omega,⟨rfl,rfl,rfl,rfl⟩,.refl _⟩
   rw[A7 hlt,Aj,An]
   rintro(h'|h')
   ·exact hn h'
   ·exact h h'
 ·refine wf ?_
  refine B2 (.of_eq ?_)
  rw[AE (by omega)]at hn
  rw[pS,if_neg hn]⟩
instance qb (l:List Dig) (d:Dig) (t:CF):CB Tryz.prog 26 [.slice (l.map eDig) t,.agg (eDig d)] (.raw (.bool (decide (d∈l)))):=⟨by
 refine Au Tryz.func26 Tryz.ntmps26 rfl (rs:= [.tmp 4]) rfl rfl fun hb LF=>?_
 refine wf ?_
 refine B2 (.of_eq ?_)
 by_cases h:d∈l<;>simp[pS,h]⟩
end Go.Proofs
namespace Go.Proofs
open Go Go.Q
attribute [local irreducible] ER AV BA Fc
def FE {α:Type} (p:α→Bool) (l:List α):Int:=if l.any p=true then(l.findIdx p:Int)else -1
theorem IA {α:Type} {p:α→Bool} {l:List α} {k:Nat} (hk:k < l.length) (hn:(l.take k).any p=false) (e:p l[k]=true):l.findIdx p=k:=by
 refine qg hk |>.2 ⟨e,fun j hj=>?_⟩
 have:=Bl.1 hn (l[j]) (DZ.2 ⟨j,by omega,rfl⟩)
 simpa using this
theorem gH (F:Nat) (cs:List PV) (p:Dig→Bool) [hF:Az Tryz.prog F] [hp: ∀ d,CB Tryz.prog F (.agg (eDig d)::cs) (.raw (.bool (p d)))] (l:List Dig) (t:CF):
  CB Tryz.prog 109 [.slice (l.map eDig) t,.clo F cs] (.raw (.int .i64 (FE p l))):=⟨by
 refine Au Tryz.func109 Tryz.ntmps109 rfl (rs:= [.tmp 4]) rfl rfl fun hb LF=>?_
 have hlen:l.length≤140737488355328:=(hb (.slice (l.map eDig) t) (by simp)).slice_map
 refine wf ?_
 refine Ad (σ:=Nat) (fun k=>k≤l.length∧(l.take k).any p=false) (fun k=>l.length - k) (fun k=> [(0,.slice (l.map eDig) t),(1,.clo F cs),(7,.raw (.int .i64 l.length)),(8,.raw (.int .i64 k))]) (fun _=>LF) 0 ⟨by simp,by simp⟩ ⟨rfl,rfl,rfl,rfl⟩ (.refl _) ?_
 rintro k ⟨hk,hn⟩
 refine wf ?_
 refine A6 (fun hc=>?_) (fun hc=>?_)
 ·have hlt:k < l.length:=by omega
  refine wf ?_
  refine AW (fun h=>?_) (fun h=>?_)
  ·refine wf ?_
   refine B2 (.of_eq ?_)
   have e:l.any p=true:=Bu.2 ⟨l[k],AF hlt,h⟩
   rw[FE,if_pos e,IA hlt hn h]
  ·refine wf ?_
   refine⟨k+1,⟨by omega,?_⟩,by dsimp only;omega,⟨rfl,rfl,rfl,rfl⟩,.refl _⟩
   rw[A7 hlt,GG,hn]
   simp[h]
 ·refine wf ?_
  refine B2 (.of_eq ?_)
  rw[AE (by omega)]at hn
  rw[FE,if_neg (by simp[hn])]⟩
theorem KH (F:Nat) (cs:List PV) (p:Dig→Bool) [hF:Az Tryz.prog F] [hp: ∀ d,CB Tryz.prog F (.agg (eDig d)::cs) (.raw (.bool (p d)))] (l:List Dig) (t:CF):
  CB Tryz.prog 47 [.slice (l.map eDig) t,.clo F cs] (.raw (.bool (l.any p))):=⟨by
 have i1: ∀ t,CB Tryz.prog 109 [.slice (l.map eDig) t,.clo F cs] (.raw (.int .i64 (FE p l))):=gH F cs p l
 refine Au Tryz.func47 Tryz.ntmps47 rfl (rs:= [.tmp 4]) rfl rfl fun hb LF=>?_
 refine wf ?_
 refine B2 (.of_eq ?_)
 cases h:l.any p<;>simp[FE,h]⟩
theorem U7 (F:Nat) (cs:List PV) (p:Sto→Bool) [hF:Az Tryz.prog F] (l:List Sto) (t:CF) (hp: ∀ d∈l,CB Tryz.prog F (.agg (eSto d)::cs) (.raw (.bool (p d)))):
  CB Tryz.prog 51 [.slice (l.map eSto) t,.clo F cs] (.raw (.int .i64 (FE p l))):=⟨by
 refine Au Tryz.func51 Tryz.ntmps51 rfl (rs:= [.tmp 4]) rfl rfl fun hb LF=>?_
 have hlen:l.length≤140737488355328:=(hb (.slice (l.map eSto) t) (by simp)).slice_map
 refine wf ?_
 refine Ad (σ:=Nat) (fun k=>k≤l.length∧(l.take k).any p=false) (fun k=>l.length - k) (fun k=> [(0,.slice (l.map eSto) t),(1,.clo F cs),(7,.raw (.int .i64 l.length)),(8,.raw (.int .i64 k))]) (fun _=>LF) 0 ⟨by simp,by simp⟩ ⟨rfl,rfl,rfl,rfl⟩ (.refl _) ?_
 rintro k ⟨hk,hn⟩
 refine wf ?_
 refine A6 (fun hc=>?_) (fun hc=>?_)
 ·have hlt:k < l.length:=by omega
  have hpk:=hp _ (AF hlt)
  refine wf ?_
  refine AW (fun h=>?_) (fun h=>?_)
  ·refine wf ?_
   refine B2 (.of_eq ?_)
   have e:l.any p=true:=Bu.2 ⟨l[k],AF hlt,h⟩
   rw[FE,if_pos e,IA hlt hn h]
  ·refine wf ?_
   refine⟨k+1,⟨by omega,?_⟩,by dsimp only;omega,⟨rfl,rfl,rfl,rfl⟩,.refl _⟩
   rw[A7 hlt,GG,hn]
   simp[h]
 ·refine wf ?_
  refine B2 (.of_eq ?_)
  rw[AE (by omega)]at hn
  rw[FE,if_neg (by simp[hn])]⟩
theorem Vs (F:Nat) (cs:List PV) (p:Sto→Bool) [hF:Az Tryz.prog F] [hp: ∀ d,CB Tryz.prog F (.agg (eSto d)::cs) (.raw (.bool (p d)))] (l:List Sto) (t:CF):
  CB Tryz.prog 51 [.slice (l.map eSto) t,.clo F cs] (.raw (.int .i64 (FE p l))):=U7 F cs p l t fun d _=>hp d
theorem Uw (F:Nat) (cs:List PV) (p:Sto→Bool) [hF:Az Tryz.prog F] (l:List Sto) (t:CF) (hp: ∀ d∈l,CB Tryz.prog F (.agg (eSto d)::cs) (.raw (.bool (p d)))):
  CB Tryz.prog 97 [.slice (l.map eSto) t,.clo F cs] (.raw (.bool (l.any p))):=⟨by
 have i1: ∀ t,CB Tryz.prog 51 [.slice (l.map eSto) t,.clo F cs] (.raw (.int .i64 (FE p l))):=fun t=>U7 F cs p l t hp
 refine Au Tryz.func97 Tryz.ntmps97 rfl (rs:= [.tmp 4]) rfl rfl fun hb LF=>?_
 refine wf ?_
 refine B2 (.of_eq ?_)
 cases h:l.any p<;>simp[FE,h]⟩
instance zK (p:Pat) [hs:B1 (ED p=false)]:CB Tryz.prog 73 [.agg (Bz p)] (.tuple [.agg (eDig (FB p).1),.raw (.int .i64 (FB p).2)]):=⟨by
 have i1:B1 ((Cb p).1.length≤1000000):=⟨by have:=QQ p;omega⟩
 refine Au Tryz.func73 Tryz.ntmps73 rfl (rs:= [.cell 2 31,.tmp 3]) rfl rfl fun hb LF=>?_
 refine wf ?_
 refine C6 fun b2=>?_
 refine wf ?_
 refine AY (fun h=>?_) (fun h=>?_)
 ·refine wf ?_
  refine Jk rfl ?_
  rw[FB,if_pos h]
  exact .refl _
 ·refine wf ?_
  refine Jk rfl ?_
  rw[FB,if_neg (by simpa using h)]
  exact .refl _⟩
instance sy (x:Sto) (d:Dig):CB Tryz.prog 155 [.agg (eSto x),.agg (eDig d)] (.raw (.int .i64 (Ep x.id d))):=⟨by
 refine Au Tryz.func155 Tryz.ntmps155 rfl (rs:= [.tmp 4]) rfl rfl fun hb LF=>?_
 refine wf ?_
 exact B2 (.refl _)⟩
def Jf (s:List Sto) (d:Dig):Nat:=s.findIdx fun x=>decide (0≤Ep x.id d)
theorem XA {s:List Sto} {d:Dig} {i:Nat} (hi:i≤s.length) (h1: ∀ k (h:k < s.length),k < i→Ep s[k].id d < 0) (h2: ∀ k (h:k < s.length),i≤k→0≤Ep s[k].id d):Jf s d=i:=by
 unfold Jf
 rcases B9 i s.length with h|h
 ·refine(qg h).2 ⟨BR (h2 i h (Ah _)),fun j hj=>DB ?_⟩
  have:=h1 j (by omega) hj
  omega
 ·have e:i=s.length:=by omega
  subst e
  refine A0B.2 fun x hx=>DB ?_
  obtain⟨k,hk,rfl⟩:=AZ.1 hx
  have:=h1 k hk hk
  omega
theorem Yv {s:List Sto} (ha:H2 (ids s)) {d:Dig} {i:Nat} (h1: ∀ k (h:k < s.length),k < i→Ep s[k].id d < 0) (h2: ∀ k (h:k < s.length),i≤k→0≤Ep s[k].id d):d∈ids s↔ ∃ h:i < s.length,Ep s[i].id d=0:=by
 constructor
 ·intro h
  obtain⟨x,hx,rfl⟩:=AQ.1 h
  obtain⟨k,hk,rfl⟩:=AZ.1 hx
  have hz:Ep s[k].id s[k].id=0:=ML.2 rfl
  have hik:i≤k:=by
   rcases B9 k i with h'|h'
   ·have:=h1 k hk h';omega
   ·exact h'
  have hi:i < s.length:=by omega
  refine⟨hi,?_⟩
  rcases B9 i k with h'|h'
  ·have hp:=Ay.1 ha i k (by simpa [ids]using hi) (by simpa [ids]using hk) h'
   simp only[ids,BN]at hp
   have:=h2 i hi (Ah _)
   have hp:Ep s[i].id s[k].id < 0:=hp
   omega
  ·have e:i=k:=by omega
   subst e;exact hz
 ·rintro⟨h,e⟩
  rw[←ML.1 e]
  exact AQ.2 ⟨s[i],AF h,rfl⟩
theorem mE {s:List Sto} (ha:H2 (ids s)) {i k:Nat} (hk:k < s.length) (hik:i≤k) {d:Dig}:(Ep s[k].id d < 0→Ep s[i].id d < 0)∧(0≤Ep s[i].id d→0≤Ep s[k].id d):=by
 rcases B9 i k with h|h
 ·have hp:=Ay.1 ha i k (by simp[ids];omega) (by simpa [ids]using hk) h
  simp only[ids,BN]at hp
  refine⟨fun h'=>Dig.lt_trans hp h',fun h'=>?_⟩
  rcases Ug (Ep s[k].id d) 0 with h2|h2
  ·have:Ep s[i].id d < 0:=Dig.lt_trans hp h2
   omega
  ·exact h2
 ·have e:i=k:=by omega
  subst e;exact⟨id,id⟩
theorem gv (s:List Sto) (t:CF) (d:Dig) (ha:H2 (ids s)) (hl:s.length≤1000000):CB Tryz.prog 154 [.slice (s.map eSto) t,.agg (eDig d),.clo 155 []] (.tuple [.raw (.int .i64 (Jf s d)),.raw (.bool (decide (d∈ids s)))]):=⟨by
 refine Au Tryz.func154 Tryz.ntmps154 rfl (rs:= [.tmp 6,.tmp 7]) rfl rfl fun hb LF=>?_
 refine wf ?_
 refine Ad (σ:=Nat × Nat) (fun k=>k.1≤k.2∧k.2≤s.length∧(∀ i (h:i < s.length),i < k.1→Ep s[i].id d < 0)∧(∀ i (h:i < s.length),k.2≤i→0≤Ep s[i].id d)) (fun k=>k.2 - k.1) (fun k=> [(0,.slice (s.map eSto) t),(2,.clo 155 []),(4,.pt (eDig d) 0),(8,.raw (.int .i64 s.length)),(9,.raw (.int .i64 k.1)),(10,.raw (.int .i64 k.2))]) (fun _=>LF) (0,s.length) ⟨by simp,by simp,fun i h h'=>by omega,fun i h h'=>by omega⟩ ⟨rfl,rfl,rfl,rfl,rfl,rfl⟩ (.refl _) ?_
 rintro⟨i,j⟩ ⟨hij,hjn,h1,h2⟩
 dsimp only at hij hjn h1 h2 ⊢
 refine wf ?_
 refine A6 (fun hc=>?_) (fun hc=>?_)
 ·have hlt:i < j:=by omega
  obtain⟨m,hm⟩: ∃ m,m=(i+j) / 2 ^ (min 1 64):=⟨_,rfl⟩
  have hm2:m=(i+j) / 2:=hm
  have hmn:m < s.length:=by omega
  refine wf ?_
  refine X1 (n:=(((i+j) / 2 ^ (min 1 64):Nat):Int)) rfl (IntWalk.i64_in _ ⟨by omega,by omega⟩) ?_
  rw[←hm]
  refine wf ?_
  refine A6 (fun h=>?_) (fun h=>?_)
  ·refine wf ?_
   exact⟨(m+1,j),⟨by dsimp only;omega,hjn,fun k hk hkm=>(mE (d:=d) ha hmn (by omega)).1 h,h2⟩,by dsimp only;omega,⟨rfl,rfl,rfl,rfl,rfl,rfl⟩,.refl _⟩
  ·refine wf ?_
   exact⟨(i,m),⟨by dsimp only;omega,by dsimp only;omega,h1,fun k hk hkm=>(mE (d:=d) ha hk hkm).2 (Int.not_lt.1 h)⟩,by dsimp only;omega,⟨rfl,rfl,rfl,rfl,rfl,rfl⟩,.refl _⟩
 ·have e:i=j:=by omega
  subst e
  refine Decidable.byCases (p:=i < s.length) (fun hin=>?_) (fun hin=>?_)
  ·have g:decide ((i:Int) < (s.length:Int))=true:=BR (by omega)
   refine wf ?_
   refine HH (.of_eq ?_)
   have hpm:=Yv ha h1 h2
   rw[XA hjn h1 h2]
   have e2:decide (d∈ids s)=decide (Ep s[i].id d=0):=by
    rw[decide_eq_decide,hpm]
    exact⟨fun⟨_,h⟩=>h,fun h=>⟨hin,h⟩⟩
   rw[e2]
  ·have g:decide ((i:Int) < (s.length:Int))=false:=DB (by omega)
   refine wf ?_
   refine HH (.of_eq ?_)
   have hpm:=Yv ha h1 h2
   rw[XA hjn h1 h2,DB (fun h=>hin (hpm.1 h).1)]⟩
theorem TI (s:List Sto) (t:CF) (d:Dig) (ha:H2 (ids s)) (hl:s.length≤1000000):CB Tryz.prog 92 [.slice (s.map eSto) t,.agg (eDig d)] (.tuple [.raw (.int .i64 (Jf s d)),.raw (.bool (decide (d∈ids s)))]):=⟨by
 have i1: ∀ t,CB Tryz.prog 154 [.slice (s.map eSto) t,.agg (eDig d),.clo 155 []] (.tuple [.raw (.int .i64 (Jf s d)),.raw (.bool (decide (d∈ids s)))]):=fun t=>gv s t d ha hl
 refine Au Tryz.func92 Tryz.ntmps92 rfl (rs:= [.tmp 4,.tmp 5]) rfl rfl fun hb LF=>?_
 refine wf ?_
 exact HH (.refl _)⟩
theorem fz (s:List Sto) (t:CF) (d:Dig) (ha:H2 (ids s)) (hl:s.length≤1000000):CB Tryz.prog 138 [.agg (eDig d),.pt [.slice (s.map eSto) t] 0] (.raw (.bool (!decide (d∈ids s)))):=⟨by
 have i1: ∀ t,CB Tryz.prog 92 [.slice (s.map eSto) t,.agg (eDig d)] (.tuple [.raw (.int .i64 (Jf s d)),.raw (.bool (decide (d∈ids s)))]):=fun t=>TI s t d ha hl
 refine Au Tryz.func138 Tryz.ntmps138 rfl (rs:= [.tmp 3]) rfl rfl fun hb LF=>?_
 refine wf ?_
 exact B2 (.refl _)⟩
theorem ku (s:List Sto) (t:CF) (p:Pat) (ha:H2 (ids s)) (hl:s.length≤1000000) (hg:ED p=false):CB Tryz.prog 74 [.slice (s.map eSto) t,.agg (Bz p)] (.raw (.bool (!DW (ids s) (BP p)))):=⟨by
 have i0:B1 (ED p=false):=⟨hg⟩
 have i1: ∀ t d,CB Tryz.prog 138 [.agg (eDig d),.pt [.slice (s.map eSto) t] 0] (.raw (.bool (!decide (d∈ids s)))):=fun t d=>fz s t d ha hl
 have i2: ∀ t u,CB Tryz.prog 47 [.slice ((BP p).map eDig) t,.clo 138 [.pt [.slice (s.map eSto) u] 0]] (.raw (.bool ((BP p).any fun d=>!decide (d∈ids s)))):=fun t u=>KH 138 [.pt [.slice (s.map eSto) u] 0] (fun d=>!decide (d∈ids s)) (BP p) t
 refine Au Tryz.func74 Tryz.ntmps74 rfl (rs:= [.tmp 4]) rfl rfl fun hb LF=>?_
 refine wf ?_
 refine B2 (.of_eq ?_)
 rw[DW,zO]⟩
instance vM (k:Int):CB Tryz.prog 191 [.raw (.int .i64 k)] (.raw (.int .i64 (iW k))):=⟨by
 refine Au Tryz.func191 Tryz.ntmps191 rfl (rs:= [.tmp 2]) rfl rfl fun hb LF=>?_
 refine wf ?_
 repeat' (first|(refine A6 (fun h=>?_) (fun h=>?_)<;>refine wf ?_)|(refine AY (fun h=>?_) (fun h=>?_)<;>refine wf ?_)|(refine AW (fun h=>?_) (fun h=>?_)<;>refine wf ?_)|(refine Av (fun h=>?_) (fun h=>?_)<;>(have h2:=h;(try simp only[AB,A8,AJ,AL]at h2);refine wf ?_)))
 all_goals (refine B2 (.of_eq ?_);simp only[iW];first|(simp_all;done)|grind)⟩
def vm (k:Int) (a:Atm):Bool:=if a.kind≠1 then false else if k=5∨k=6 then decide (a.type=1)else if k=4 then decide (a.type=2∨a.type=3)else true
instance ru (k:Int) (a:Atm):CB Tryz.prog 188 [.raw (.int .i64 k),.agg (eAtm a)] (.raw (.bool (vm k a))):=⟨by
 refine Au Tryz.func188 Tryz.ntmps188 rfl (rs:= [.tmp 4]) rfl rfl fun hb LF=>?_
 refine wf ?_
 repeat' (first|(refine A6 (fun h=>?_) (fun h=>?_)<;>refine wf ?_)|(refine AY (fun h=>?_) (fun h=>?_)<;>refine wf ?_)|(refine AW (fun h=>?_) (fun h=>?_)<;>refine wf ?_)|(refine Av (fun h=>?_) (fun h=>?_)<;>(have h2:=h;(try simp only[AB,A8,AJ,AL]at h2);refine wf ?_)))
 all_goals (refine B2 (.of_eq ?_);simp only[vm];first|(simp_all;done)|grind)⟩
def vP (x f g:Ident) (a:Atm):Bool:=decide (x=f)||(decide (a.kind=5)&&decide (a.file=g))
def wa (k:Int) (g:Ident) (a:Atm):Bool:=decide (k=0)||(decide (a.kind=k)&&decide (a.file=g))
instance sx (c:Chg) (a:Atm):CB Tryz.prog 187 [.agg (eAtm a),.pt (eChg c) 0] (.raw (.bool (vm c.kind a))):=⟨by
 refine Au Tryz.func187 Tryz.ntmps187 rfl (rs:= [.tmp 3]) rfl rfl fun hb LF=>?_
 refine wf ?_
 exact B2 (.refl _)⟩
instance sw (a:Atm):CB Tryz.prog 189 [.agg (eAtm a)] (.raw (.bool (oa a))):=⟨by
 refine Au Tryz.func189 Tryz.ntmps189 rfl (rs:= [.tmp 2]) rfl rfl fun hb LF=>?_
 refine wf ?_
 repeat' (first|(refine A6 (fun h=>?_) (fun h=>?_)<;>refine wf ?_)|(refine AY (fun h=>?_) (fun h=>?_)<;>refine wf ?_)|(refine AW (fun h=>?_) (fun h=>?_)<;>refine wf ?_)|(refine Av (fun h=>?_) (fun h=>?_)<;>(have h2:=h;(try simp only[AB,A8,AJ,AL]at h2);refine wf ?_)))
 all_goals (refine B2 (.of_eq ?_);simp only[oa];first|(simp_all;done)|grind)⟩
instance sv (x g:Ident) (c:Chg) (a:Atm):CB Tryz.prog 190 [.agg (eAtm a),.pt (eIdent x) 0,.pt (eChg c) 0,.pt (eIdent g) 0] (.raw (.bool (vP x c.file g a))):=⟨by
 refine Au Tryz.func190 Tryz.ntmps190 rfl (rs:= [.tmp 5]) rfl rfl fun hb LF=>?_
 refine wf ?_
 repeat' (first|(refine A6 (fun h=>?_) (fun h=>?_)<;>refine wf ?_)|(refine AY (fun h=>?_) (fun h=>?_)<;>refine wf ?_)|(refine AW (fun h=>?_) (fun h=>?_)<;>refine wf ?_)|(refine Av (fun h=>?_) (fun h=>?_)<;>(have h2:=h;(try simp only[AB,A8,AJ,AL]at h2);refine wf ?_)))
 all_goals (refine B2 (.of_eq ?_);simp only[vP];first|(simp_all;done)|grind)⟩
instance su (k:Int) (g:Ident) (a:Atm):CB Tryz.prog 192 [.agg (eAtm a),.pt [.raw (.int .i64 k)] 0,.pt (eIdent g) 0] (.raw (.bool (wa k g a))):=⟨by
 refine Au Tryz.func192 Tryz.ntmps192 rfl (rs:= [.tmp 4]) rfl rfl fun hb LF=>?_
 refine wf ?_
 repeat' (first|(refine A6 (fun h=>?_) (fun h=>?_)<;>refine wf ?_)|(refine AY (fun h=>?_) (fun h=>?_)<;>refine wf ?_)|(refine AW (fun h=>?_) (fun h=>?_)<;>refine wf ?_)|(refine Av (fun h=>?_) (fun h=>?_)<;>(have h2:=h;(try simp only[AB,A8,AJ,AL]at h2);refine wf ?_)))
 all_goals (refine B2 (.of_eq ?_);simp only[wa];first|(simp_all;done)|grind)⟩
def Je (l:List Rfc) (r:Rfc):List Rfc:=if r.id.patch=Dig.zero then l else l++ [r]
def cY (b:Nat) (l:List Rfc) (t:CF):List Res:= [.box b 171 [.slice (l.map eRfc) t],.tok t l.length 34]
theorem qU (x:Ident) (f:Nat) (cs:List PV) (b:Nat) (l:List Rfc) (t:CF) (hl:l.length≤1000000):
  BA Tryz.prog 186 [.agg (eIdent x),.clo f cs,.raw (.pointer (some ⟨b,0,none⟩))] (cY b l t) (fun _ L'=> ∃ t',L'=cY b (Je l ⟨x,f,cs⟩) t'):=by
 refine C5 Tryz.func186 rfl Tryz.ntmps186 (rs:= []) rfl rfl fun hb LF=>?_
 rw[show cY b l t++LF= .box b 171 [.slice (l.map eRfc) t]:: .tok t l.length 34::LF from rfl]
 refine wf ?_
 refine AY (fun h=>?_) (fun h=>?_)
 ·refine dB fun t'=>?_
  exact⟨trivial,[],cY b (l++ [⟨x,f,cs⟩]) t',.nil,.refl _,t',by rw[Je,if_neg h]⟩
 ·refine wf ?_
  have h0:x.patch=Dig.zero:=by simpa using h
  exact⟨trivial,[],cY b l t,.nil,.refl _,t,by rw[Je,if_pos h0]⟩
section
variable {N:Nat} {all:Array Oper} {K:Env→List Res→Prop} {fl:List Bool} {os:List Oper} {ρ:Env} {L:List Res} {Q:PPost} {c:Code} {d:Nat} {ty:TypeId} {pos:String} {af:Array Edge}
theorem XM {x x0 x1:Operand} {ats:Array TypeId} {b f:Nat} {l:List Rfc} {t:CF} {id:Ident} {cs:List PV} {a1:PV} {LF:List Res}
  (qx:ρ.ev x= .clo 186 [.raw (.pointer (some ⟨b,0,none⟩))]) (q0:ρ.ev x0= .agg (eIdent id)) (q1:ρ.ev x1=a1) [h1:Wa a1 f cs] (hl:l.length≤1000000)
  (k: ∀ t' u,AV Tryz.prog N all K fl.tail os (CV ρ d u) (.box b 171 [.slice ((Je l (Rfc.mk id f cs)).map eRfc) t']:: .tok t' (Je l (Rfc.mk id f cs)).length 34::LF)) (hd:Nat.blt d N=true:=by rfl) (hfl:fl.headD true=true:=by rfl):
  AV Tryz.prog N all K fl (⟨some d,.call { callee:= .value x,args:= #[x0,x1],argTypes:=ats },ty,pos,af,none⟩::os) ρ (.box b 171 [.slice (l.map eRfc) t]:: .tok t l.length 34::LF):=
 CW (xs:= [x0,x1]) (cY b l t) LF (.of_eq qx) rfl rfl (.refl _) (fun _ L'=> ∃ t',L'=cY b (Je l ⟨id,f,cs⟩) t')
  (BA.args (bs:= [.agg (eIdent id),.clo f cs,.raw (.pointer (some ⟨b,0,none⟩))]) rfl (fun i g1 g2=>by
   match i,g1,g2 with
   |0,_,_=>exact .of_eq q0
   |1,_,_=>show Le (ρ.ev x1) _;rw[q1];exact h1.out
   |2,_,_=>exact .refl _
   |m+3,g1,_=>exact absurd g1 (by simp)) (qU id f cs b l t hl)) (fun r L' ⟨t',e⟩=>by subst e;exact k t' r) hd hfl
end
theorem Ti (l:List Rfc) (r:Rfc):(Je l r).length≤l.length+1:=by unfold Je;split<;>simp
def DT (id:Dig) (c:Chg):Ident:=if c.file.patch=Dig.zero then { c.file with patch:=id }else c.file
def Y6 (c:Chg):List Rfc:=if c.kind≠1∧c.kind≠7 then Je [] ⟨c.file,187,[.pt (eChg c) 0]⟩else []
def bJ (c:Chg) (l:List Rfc):List Rfc:=if c.kind=2 then Je l ⟨c.parent,189,[]⟩else l
def O8 (g:Ident) (c:Chg) (x:Ident):Rfc:=⟨x,190,[.pt (eIdent x) 0,.pt (eChg c) 0,.pt (eIdent g) 0]⟩
def iR (g:Ident) (c:Chg) (l:List Rfc):List Rfc:=if c.kind=5∨c.kind=6 then [c.after,c.before].foldl (fun l x=>Je l (O8 g c x)) l else l
def Mz (g:Ident) (c:Chg) (x:Ident):Rfc:=⟨x,192,[.pt [.raw (.int .i64 (iW c.kind))] 0,.pt (eIdent g) 0]⟩
def tQ (g:Ident) (c:Chg) (l:List Rfc) (o:List Ident):List Rfc:=o.foldl (fun l x=>Je l (Mz g c x)) l
def JZ (id:Dig) (c:Chg):List Rfc:=tQ (DT id c) c (iR (DT id c) c (bJ c (Y6 c))) c.over
theorem Kh {α:Type} (f:α→Rfc): ∀ (o:List α) (l:List Rfc),(o.foldl (fun l x=>Je l (f x)) l).length≤l.length+o.length
 | [],l=>by simp
 |x::o,l=>by
  have:=Kh f o (Je l (f x))
  have:=Ti l (f x)
  simp only[BM,AN]
  omega
theorem dY (c:Chg):(Y6 c).length≤1:=by
 unfold Y6;split
 ·exact Ti _ _
 ·simp
theorem dX (c:Chg) (l:List Rfc):(bJ c l).length≤l.length+1:=by
 unfold bJ;split
 ·exact Ti _ _
 ·omega
theorem dW (g:Ident) (c:Chg) (l:List Rfc):(iR g c l).length≤l.length+2:=by
 unfold iR;split
 ·exact Kh _ _ _
 ·omega
instance ju (id:Dig) (c:Chg) [hs:B1 (c.over.length≤400)]:CB Tryz.prog 139 [.agg (eDig id),.agg (eChg c)] (.slice ((JZ id c).map eRfc) .ro):=⟨by
 have hover:=hs.out
 have r1:=dY c
 have r2:=dX c (Y6 c)
 have r3:=dW (DT id c) c (bJ c (Y6 c))
 refine Au Tryz.func139 Tryz.ntmps139 rfl (rs:= [.tmp 4]) rfl rfl fun hb LF=>?_
 refine wf ?_
 refine C6 fun b5=>?_
 refine wf ?_
 refine KZ True [(2,.pt (eDig id) 0),(3,.pt (eChg c) 0),(5,.raw (.pointer (some ⟨b5,0,none⟩)))] (.box b5 65 (eIdent (DT id c))::LF) ?_ fun _=>?_
 ·refine A6 (fun h=>?_) (fun h=>?_)
  ·refine wf ?_
   rw[DT,if_pos h]
   exact⟨trivial,⟨rfl,rfl,rfl⟩,.refl _⟩
  ·refine wf ?_
   rw[DT,if_neg h]
   exact⟨trivial,⟨rfl,rfl,rfl⟩,.refl _⟩
 generalize hg:DT id c=g at r3 ⊢
 refine Ao 5 ?_
 refine wf ?_
 refine C6 fun b6=>?_
 refine wo ?_
 refine AD ?_
 refine EO 34 ?_
 refine E0 (.swap _ _ _) ?_
 refine ws ?_
 refine BZ [(29,.raw (.bool (decide (c.kind≠1∧c.kind≠7)))),(3,.pt (eChg c) 0),(5,.pt (eIdent g) 0),(6,.raw (.pointer (some ⟨b6,0,none⟩))),(7,.clo 186 [.raw (.pointer (some ⟨b6,0,none⟩))])] (.box b6 171 [.slice [] .nil]:: .tok .nil 0 34::LF) ?_ ?_
 ·repeat' (first|(refine A6 (fun h=>?_) (fun h=>?_)<;>refine wf ?_)|(refine AY (fun h=>?_) (fun h=>?_)<;>refine wf ?_)|(refine AW (fun h=>?_) (fun h=>?_)<;>refine wf ?_)|(refine Av (fun h=>?_) (fun h=>?_)<;>(have h2:=h;(try simp only[AB,A8,AJ,AL]at h2);refine wf ?_)))
  all_goals (refine⟨⟨CD (by rfl) ?_,rfl,rfl,rfl,rfl⟩,.refl _⟩;first|(simp_all;done)|grind)
 refine Cv (σ:=List Rfc × CF) (fun s=>s.1=Y6 c) (fun s=> [(3,.pt (eChg c) 0),(5,.pt (eIdent g) 0),(6,.raw (.pointer (some ⟨b6,0,none⟩))),(7,.clo 186 [.raw (.pointer (some ⟨b6,0,none⟩))])]) (fun s=> .box b6 171 [.slice (s.1.map eRfc) s.2]:: .tok s.2 s.1.length 34::LF) ?_ ?_
 ·refine A6 (fun h=>?_) (fun h=>?_)
  ·refine wf ?_
   refine XM (l:= []) rfl rfl (by(conv=>lhs;whnf);done) (h1:=(by first|infer_instance|fail)) (by simp) fun t' u=>?_
   refine wf ?_
   exact⟨(Je [] ⟨c.file,187,[.pt (eChg c) 0]⟩,t'),by rw[Y6,if_pos h],⟨rfl,rfl,rfl,rfl⟩,.refl _⟩
  ·refine wf ?_
   exact⟨([],.nil),by rw[Y6,if_neg h],⟨rfl,rfl,rfl,rfl⟩,.refl _⟩
 rintro⟨l1,t1⟩ hl1
 dsimp only at hl1 ⊢
 have k1:l1.length≤1:=by rw[hl1];exact r1
 rw[←hl1]at r2 r3
 refine wf ?_
 refine Cv (σ:=List Rfc × CF) (fun s=>s.1=bJ c l1) (fun s=> [(3,.pt (eChg c) 0),(5,.pt (eIdent g) 0),(6,.raw (.pointer (some ⟨b6,0,none⟩))),(7,.clo 186 [.raw (.pointer (some ⟨b6,0,none⟩))])]) (fun s=> .box b6 171 [.slice (s.1.map eRfc) s.2]:: .tok s.2 s.1.length 34::LF) ?_ ?_
 ·refine A6 (fun h=>?_) (fun h=>?_)
  ·refine wf ?_
   refine XM rfl rfl (by(conv=>lhs;whnf);done) (h1:=(by first|infer_instance|fail)) (by omega) fun t' u=>?_
   refine wf ?_
   exact⟨(Je l1 ⟨c.parent,189,[]⟩,t'),by rw[bJ,if_pos h],⟨rfl,rfl,rfl,rfl⟩,.refl _⟩
  ·refine wf ?_
   exact⟨(l1,t1),by rw[bJ,if_neg h],⟨rfl,rfl,rfl,rfl⟩,.refl _⟩
 rintro⟨l2,t2⟩ hl2
 dsimp only at hl2 ⊢
 rw[←hl2]at r2 r3
 refine ws ?_
 refine BZ [(49,.raw (.bool (decide (c.kind=5∨c.kind=6)))),(3,.pt (eChg c) 0),(5,.pt (eIdent g) 0),(6,.raw (.pointer (some ⟨b6,0,none⟩))),(7,.clo 186 [.raw (.pointer (some ⟨b6,0,none⟩))])] (.box b6 171 [.slice (l2.map eRfc) t2]:: .tok t2 l2.length 34::LF) ?_ ?_
 ·repeat' (first|(refine A6 (fun h=>?_) (fun h=>?_)<;>refine wf ?_)|(refine AY (fun h=>?_) (fun h=>?_)<;>refine wf ?_)|(refine AW (fun h=>?_) (fun h=>?_)<;>refine wf ?_)|(refine Av (fun h=>?_) (fun h=>?_)<;>(have h2:=h;(try simp only[AB,A8,AJ,AL]at h2);refine wf ?_)))
  all_goals (refine⟨⟨CD (by rfl) ?_,rfl,rfl,rfl,rfl⟩,.refl _⟩;first|(simp_all;done)|grind)
 refine Cv (σ:=List Rfc × CF) (fun s=>s.1=iR g c l2) (fun s=> [(3,.pt (eChg c) 0),(5,.pt (eIdent g) 0),(6,.raw (.pointer (some ⟨b6,0,none⟩))),(7,.clo 186 [.raw (.pointer (some ⟨b6,0,none⟩))])]) (fun s=> .box b6 171 [.slice (s.1.map eRfc) s.2]:: .tok s.2 s.1.length 34::LF) ?_ ?_
 ·refine A6 (fun h=>?_) (fun h=>?_)
  ·refine wf ?_
   refine Ad (σ:=Nat × List Rfc × CF) (fun k=>k.1≤2∧k.2.1=([c.after,c.before].take k.1).foldl (fun l x=>Je l (O8 g c x)) l2) (fun k=>2 - k.1) (fun k=> [(3,.pt (eChg c) 0),(5,.pt (eIdent g) 0),(6,.raw (.pointer (some ⟨b6,0,none⟩))),(7,.clo 186 [.raw (.pointer (some ⟨b6,0,none⟩))]),(54,.slice ([c.after,c.before].map eIdent) .ro),(55,.raw (.int .i64 2)),(56,.raw (.int .i64 k.1))]) (fun k=> .box b6 171 [.slice (k.2.1.map eRfc) k.2.2]:: .tok k.2.2 k.2.1.length 34::LF) (0,l2,t2) ⟨by simp,rfl⟩ ⟨rfl,rfl,rfl,rfl,rfl,rfl,rfl⟩ (.refl _) ?_
   rintro⟨k,m,t3⟩ ⟨hk,hm⟩
   dsimp only at hk hm ⊢
   have hml:m.length≤10:=by
    have:=Kh (O8 g c) ([c.after,c.before].take k) l2
    rw[←hm,Aa]at this
    simp only[AN,Af]at this
    omega
   refine wf ?_
   refine A6 (fun hc=>?_) (fun hc=>?_)
   ·have hlt:k < [c.after,c.before].length:=by simp only[AN,Af];omega
    refine wz fun b9=>?_
    refine Ao 9 ?_
    refine wf ?_
    refine XM rfl rfl (by(conv=>lhs;whnf);done) (h1:=(by first|infer_instance|fail)) (by omega) fun t' u=>?_
    refine wf ?_
    refine⟨(k+1,Je m (O8 g c [c.after,c.before][k]),t'),⟨by dsimp only;omega,?_⟩,by dsimp only;omega,⟨rfl,rfl,rfl,rfl,rfl,rfl,rfl⟩,.refl _⟩
    dsimp only
    rw[A7 hlt,BO,←hm];rfl
   ·rw[AE (by simp only[AN,Af];omega)]at hm
    refine wf ?_
    exact⟨(m,t3),by rw[iR,if_pos h];exact hm,⟨rfl,rfl,rfl,rfl⟩,.refl _⟩
  ·refine wf ?_
   exact⟨(l2,t2),by rw[iR,if_neg h],⟨rfl,rfl,rfl,rfl⟩,.refl _⟩
 rintro⟨l3,t3⟩ hl3
 dsimp only at hl3 ⊢
 rw[←hl3]at r3
 refine wf ?_
 refine C6 fun b10=>?_
 refine wo ?_
 refine AD ?_
 refine Ao 10 ?_
 refine wf ?_
 refine Ad (σ:=Nat × List Rfc × CF) (fun k=>k.1≤c.over.length∧k.2.1=tQ g c l3 (c.over.take k.1)) (fun k=>c.over.length - k.1) (fun k=> [(5,.pt (eIdent g) 0),(6,.raw (.pointer (some ⟨b6,0,none⟩))),(7,.clo 186 [.raw (.pointer (some ⟨b6,0,none⟩))]),(10,.pt [.raw (.int .i64 (iW c.kind))] 0),(69,.slice (c.over.map eIdent) .ro),(70,.raw (.int .i64 c.over.length)),(71,.raw (.int .i64 k.1))]) (fun k=> .box b6 171 [.slice (k.2.1.map eRfc) k.2.2]:: .tok k.2.2 k.2.1.length 34::LF) (0,l3,t3) ⟨by simp,rfl⟩ ⟨rfl,rfl,rfl,rfl,rfl,rfl,rfl⟩ (.refl _) ?_
 rintro⟨k,m,t4⟩ ⟨hk,hm⟩
 dsimp only at hk hm ⊢
 have hml:m.length≤1000:=by
  have:=Kh (Mz g c) (c.over.take k) l3
  rw[Aa]at this
  have e:m.length=((c.over.take k).foldl (fun l x=>Je l (Mz g c x)) l3).length:=by rw[hm];rfl
  omega
 refine wf ?_
 refine A6 (fun hc=>?_) (fun hc=>?_)
 ·have hlt:k < c.over.length:=by omega
  refine wz fun b12=>?_
  refine Ao 12 ?_
  refine wf ?_
  refine XM rfl rfl (by(conv=>lhs;whnf);done) (h1:=(by first|infer_instance|fail)) (by omega) fun t' u=>?_
  refine wf ?_
  refine⟨(k+1,Je m (Mz g c c.over[k]),t'),⟨by dsimp only;omega,?_⟩,by dsimp only;omega,⟨rfl,rfl,rfl,rfl,rfl,rfl,rfl⟩,.refl _⟩
  dsimp only
  rw[A7 hlt,tQ,BO,hm];rfl
 ·rw[AE (by omega)]at hm
  refine wf ?_
  refine B2 (.ros ?_)
  rw[hm,JZ,hg,←hl1,←hl2,←hl3]⟩
end Go.Proofs
namespace Go.Q
open Go
theorem Dt.lendRow {w:World} {g:Gh} {r E sz cap:Nat} {xs:List (List PV)} {rest:List PV} {LF:List Res} (hi:Dt w g (.box r E (xs.flatten++rest)::LF)) (hs: ∀ e∈xs,e.length=sz) (hc:xs.length≤cap) (hm:xs.length≤maxN∧xs.length*sz≤maxN):
  ∃ g',g.le g'∧Dt w g' []∧VR g' (.slice (some ⟨r,0,none⟩) xs.length cap) (.slice xs .ro):=by
 obtain⟨us,h1,h2,h3,h4⟩:=hi.res _ (AG)
 have hlen:us.length=(xs.flatten++rest).length:=h2.len
 let u:=us.take xs.flatten.length
 have hul:u.length=xs.flatten.length:=by
  simp only[u,Aa,hlen,AA];omega
 have hu:EB g u xs.flatten:=⟨hul,fun i k1 k2=>by
  have:=h2.at_ i (by rw[hlen,AA];omega) (by rw[AA];omega)
  rw[BC k2]at this
  simpa [u]using this⟩
 have hle:=Gh.le_lay (g:=g) (b:=r) (from_:=0) (us:=u) (fun o _=>h3 o)
 have hcell: ∀ j (h:j < u.length),w.cell? ⟨r,j,none⟩=some u[j]:=fun j h=>by
  have hj:j < us.length:=by rw[hlen,AA];omega
  simp only[World.cell?,h1,CY,BT,if_false,VE]
  rw[AO hj]
  simp[u]
 refine⟨g.lay r 0 u,hle,⟨fun b o v hv=>?_,hi.satM,by simp,by simp[Al],hi.glob.mono hle⟩,?_⟩
 ·by_cases hin:b=r∧0≤o∧o < 0+u.length
  ·obtain⟨rfl,_,h5⟩:=hin
   have hj:o < u.length:=by omega
   have:=Gh.lay_in (g:=g) (b:=b) (from_:=0) hj
   rw[BG,hv]at this
   cases this
   exact hcell o hj
  ·rw[Gh.lay_out hin]at hv
   exact hi.sat b o v hv
 ·exact VR.of_cells (g:=g.lay r 0 u) (t:= .ro) (sz:=sz) (b:=r) (off:=0) (cap:=cap) hs hc hm (us:=u) (hu.mono hle) (fun j hj=>Gh.lay_in hj) (fun b' cap' e=>by cases e) (by simp)
theorem EB.repl {g g':Gh} {vs:List Value} {ps bs:List PV} {a b:PV} (hv:EB g vs (ps++a::bs)) (hle:g.le g') (h: ∀ v,VR g v a→VR g' v b):EB g' vs (ps++b::bs):=
 ⟨by rw[hv.len];simp,fun i k1 k2=>by
  have h0:=hv.at_ i k1 (by simpa using k2)
  by_cases hi1:i < ps.length
  ·rw[BC hi1]at h0 ⊢;exact h0.mono hle
  ·rw[Bk (by omega)]at h0 ⊢
   by_cases hi2:i - ps.length=0
   ·have e1: ∀ (a:PV),(a::bs)[i - ps.length]'(by simp[hi2])=a:=fun a=>by simp[hi2]
    rw[e1]at h0 ⊢
    exact h _ h0
   ·obtain⟨m,hm'⟩: ∃ m,i - ps.length=m+1:=⟨i - ps.length - 1,by omega⟩
    simp only[hm',DF]at h0 ⊢
    exact h0.mono hle⟩
theorem BA.lend {P:Program} {f:Nat} {X:Value} {r E sz n cap:Nat} {xs:List (List PV)} {rest:List PV} (ps bs:List PV) (hs: ∀ e∈xs,e.length=sz) (hn:xs.length=n) (hc:n≤cap) (hm:n≤maxN∧n*sz≤maxN)
  (h:Fn P f (ps++ .slice xs .ro::bs) (.raw X)):BA P f (ps++ .raw (.slice (some ⟨r,0,none⟩) n cap)::bs) [.box r E (xs.flatten++rest)] (fun x L'=>x= .raw X∧L'= [.box r E (xs.flatten++rest)]):=by
 intro vs w g LF hv hi
 subst hn
 obtain⟨g',hle,hi',hsl⟩:=hi.lendRow hs hc hm
 have hv':EB g' vs (ps++ .slice xs .ro::bs):=hv.repl hle fun v hv=>by rw[hv.raw_inv];exact hsl
 refine(h vs w g' [] hv' (by simpa using hi')).mono ?_
 rintro e w' ⟨v,x,g'',L',rfl,k2,k3,k4,k5,rfl,rfl⟩
 have hk: ∀ k,k < w.heap.size→w'.heap[k]? =w.heap[k]?:=fun k hk=>k4.keep k hk (by simp[Al])
 exact⟨v,.raw X,g,_,rfl,by rw[k2.raw_inv];exact .raw _,hi.later hk,⟨k4.os,k4.tape,k4.output,k4.size,fun k h _=>hk k h,.refl g,fun _ _ _=>⟨fun _=>rfl,rfl⟩⟩,.refl _ _,rfl,rfl⟩
theorem Dt.boxRaw {w:World} {g:Gh} {r E:Nat} {cs:List PV} {LF:List Res} (hi:Dt w g (.box r E cs::LF)): ∃ us:List Value,EB g us cs∧Dt w g (.raw r (.cells us.toArray E (0,0))::LF):=by
 obtain⟨us,h1,h2,h3,h4⟩:=hi.res _ (AG)
 refine⟨us,h2,hi.sat,hi.satM,fun x hx=>?_,hi.nodup,hi.glob⟩
 rcases AI.1 hx with rfl|hx
 ·exact⟨h1,h3,h4⟩
 ·exact hi.res x (AH _ hx)
theorem Dt.rawBox {w:World} {g:Gh} {r E:Nat} {cur:Array Value} {cs:List PV} {LF:List Res} (hi:Dt w g (.raw r (.cells cur E (0,0))::LF)) (h:EB g cur.toList cs):Dt w g (.box r E cs::LF):=by
 obtain⟨h1,h3,h4⟩:=hi.res _ (AG)
 refine⟨hi.sat,hi.satM,fun x hx=>?_,hi.nodup,hi.glob⟩
 rcases AI.1 hx with rfl|hx
 ·exact⟨cur.toList,by simpa using h1,h,h3,h4⟩
 ·exact hi.res x (AH _ hx)
inductive Hl (E sz:Nat):Value→List (List PV)→List Res→Prop
 |nil (o:Option Addr) (ho: ∀ a,o=some a→a.spot=none):Hl E sz (.slice o 0 0) [] []
 |row {r n cap:Nat} {xs:List (List PV)} {rest:List PV} (hn:xs.length=n) (hl:n≤cap) (hs: ∀ e∈xs,e.length=sz) (hc:xs.flatten.length+rest.length=cap*sz):Hl E sz (.slice (some ⟨r,0,none⟩) n cap) xs [.box r E (xs.flatten++rest)]
theorem Hl.slice {E sz:Nat} {v:Value} {xs:List (List PV)} {R:List Res} (h:Hl E sz v xs R):(∃ o c,v= .slice o xs.length c)∧ ∀ e∈xs,e.length=sz:=by
 cases h with
 |nil o ho=>exact⟨⟨_,_,rfl⟩,by simp⟩
 |row hn hl hs hc=>subst hn;exact⟨⟨_,_,rfl⟩,hs⟩
theorem Hl.open {E sz:Nat} {v:Value} {xs:List (List PV)} {R LF:List Res} {w:World} {g:Gh} (h:Hl E sz v xs R) (hi:Dt w g (R++LF)): ∃ us R₁,EB g us xs.flatten∧MM E sz v xs.length us R₁∧Dt w g (R₁++LF)∧Al R₁=Al R:=by
 cases h with
 |nil o ho=>exact⟨[],[],.nil g,.nil o ho,hi,rfl⟩
 |row hn hl hs hc=>
  rename_i r n cap rest
  subst hn
  obtain⟨us,h1,h2⟩:=Dt.boxRaw hi
  have hfl:=De hs
  have hul:us.length=xs.flatten.length+rest.length:=by rw[h1.len,AA]
  refine⟨us.take (xs.length*sz),_,⟨by rw[Aa,hul,hfl];omega,fun i k1 k2=>?_⟩,.row hl (by rw[Cj,hul,hc]) (by rw[Aa,hul,hfl];omega) (by simp),h2,rfl⟩
  have:=h1.at_ i (by rw[hul];omega) (by rw[AA];omega)
  rw[BC k2]at this
  simpa using this
theorem Hl.close {E sz:Nat} {v:Value} {xs:List (List PV)} {us:List Value} {R LF:List Res} {w:World} {g:Gh} {n:Nat} (hn:xs.length=n) (hs: ∀ e∈xs,e.length=sz) (h:MM E sz v n us R) (hu:EB g us xs.flatten) (hi:Dt w g (R++LF)): ∃ R',Hl E sz v xs R'∧Dt w g (R'++LF)∧Al R'=Al R:=by
 have hfl:=De hs
 cases h with
 |nil o ho=>
  have hx:xs= []:=BL hn
  subst hx
  exact⟨[],.nil o ho,hi,rfl⟩
 |row hl hc hu' hcur=>
  subst hn
  rename_i r cap cur
  have hcl:cur.toList.length=cap*sz:=by simpa using hc
  have hle:xs.length*sz≤cap*sz:=B3 _ hl
  have hv:EB g cur.toList (xs.flatten++(cur.toList.drop (xs.length*sz)).map .raw):=by
   conv=>lhs;rw[←Bm (xs.length*sz) cur.toList]
   rw[hcur]
   exact hu.append (EB.raws g _)
  exact⟨_,.row rfl hl hs (by rw[AR,B5,hcl,hfl];omega),Dt.rawBox hi hv,rfl⟩
theorem Hl.lend {P:Program} {f E sz:Nat} {X v:Value} {xs:List (List PV)} {R:List Res} (hr:Hl E sz v xs R) (ps bs:List PV) (hm:xs.length≤maxN∧xs.length*sz≤maxN) (h:Fn P f (ps++ .slice xs .ro::bs) (.raw X)):
  BA P f (ps++ .raw v::bs) R (fun x L'=>x= .raw X∧L'=R):=by
 cases hr with
 |nil o ho=>
  intro vs w g LF hv hi
  exact h vs w g LF (hv.repl (.refl g) fun v hv=>by rw[hv.raw_inv];exact .nilR) hi
 |row hn hl hs hc=>
  subst hn
  exact BA.lend ps bs hs rfl hl hm h
section
variable {P:Program} {N:Nat} {all:Array Oper} {K:Env→List Res→Prop} {fl:List Bool} {os:List Oper} {ρ:Env} {L:List Res} {d:Nat} {ty:TypeId} {pos:String} {af:Array Edge}
theorem jk {T T₂ E E₂ sz by_:Nat} {α:Type} {f:α→List PV} [hT:aY P T E sz by_] [h2:MO P T₂ E₂] [hf:NX f sz] [hff:K6 f] {x y:Operand} {v:Value} {xs:List (List PV)} {m:List α} {t:CF} {R LF:List Res} (F:List Res→List Res)
  (hx:ρ.ev x= .raw v) (hy:ρ.ev y= .slice (m.map f) t) (hv:Hl E sz v xs R) (hp:L.Perm (R++LF)) (hq: ∀ R',(R'++LF).Perm (F R')) (hb:(xs.length+m.length)*by_≤140737488355328) (hm:xs.length+m.length≤140737488355328)
  (k: ∀ v' R',Hl E sz v' (xs++m.map f) R'→AV P N all K fl.tail os (CV ρ d (.raw v')) (F R')) (hd:Nat.blt d N=true:=by rfl) (hfl:fl.headD true=true:=by rfl):
  AV P N all K fl (⟨some d,.call { callee:= .builtin .append,args:= #[x,y],argTypes:= #[T,T₂] },ty,pos,af,none⟩::os) ρ L:=
 Da rfl (PO hd) hfl (Fc.perm hp fun a w g ha hi=>by
  have h1:=Cd ha (x:=x) (by simp[Op.operands,Call.operands]) hx
  have h3:=ha y (by simp[Op.operands,Call.operands])
  rw[hy]at h3
  have hms: ∀ e∈m.map f,e.length=sz:=fun e he=>by obtain⟨a,_,rfl⟩:=AQ.1 he;exact hf.out a
  obtain⟨base,cap,e,_,_,hnone,_,_,us,hus,hcell⟩:=h3.slice_cells (sz:=sz) hms
  rw[AR]at e
  have hvl:us.length=m.length*sz:=by rw[hus.len,De hms,AR]
  obtain⟨us0,R₁,q1,q2,q3,q4⟩:=hv.open hi
  have hone: ∀ x∈us,x.oneCell'=true:=hus.one (fun c hc=>by
   obtain⟨e,he,hce⟩:=E9.1 hc
   obtain⟨a,_,rfl⟩:=AQ.1 he
   exact hff.out a c hce)
  obtain⟨v',w',R',p1,p2,p3,p4,p5⟩:=WG (P:=P) (T:=T) (T₂:=T₂) (ty:=ty) (.inr ⟨_,h2.out⟩) (.slice base m.length cap) us q3 q2 (fun _=>rfl) hvl hone (fun w' hs'=>by
   cases base with
   |none=>
    have h0:=(hnone rfl).1
    have hm0:m= []:=by simpa using h0
    have:us= []:=BL (by rw[hvl,hm0];simp)
    rw[this];rfl
   |some ad=>
    obtain⟨b,o,s⟩:=ad
    obtain⟨hsp,hH⟩:=hcell _ rfl
    show(loadCells _ (m.length*sz)).run P w'=_
    rw[←hvl]
    exact Iw (hsp.imp_left fun h=>We hus h.1) fun j hj=>hs' _ _ _ (hH j hj)) hb hm
  obtain⟨R₂,z1,z2,z3⟩:=Hl.close (xs:=xs++m.map f) (n:=xs.length+m.length) (by simp) (fun e he=>(Aj.1 he).elim (hv.slice.2 e) (hms e)) p2 (by rw[CJ];exact q1.append hus) p3
  have hbl: ∀ (A B:List Res),Al A=Al B→Al (A++LF)=Al (B++LF):=fun A B h=>by
   simp only[Al,Dm]at h ⊢;rw[h]
  refine Oper.wq_of_run (show(do pure (.value (←Builtin.append_ #[T,T₂] ty (#[x,y].map a.eval))):Sem Next).run P w= .ok (.value v') w' by
   simp only[Hn,Ar,CU,h1,e,Sem.run_bind,p1,Result.andThen_ok,Sem.run_pure]) ?_
  refine⟨_,.raw v',g,F R₂,rfl,.raw _,z2.perm (hq R₂),?_,?_,k v' R₂ z1⟩
  ·rw[←hbl _ _ q4];exact p4
  ·intro b hb' hlt
   rw[←hbl _ _ q4]
   have hb2:b∈Al (R'++LF):=by rw[←hbl _ _ z3];exact((hq R₂).filterMap _).symm.subset hb'
   exact p5 b hb2 hlt)
end
end Go.Q
namespace Go.Proofs
open Go Go.Q
attribute [local irreducible] ER AV BA Fc
instance yY:aY Tryz.prog 68 125 172 296:=⟨by
 have h2:(Tryz.prog.info? 125).map (fun i=>(i.size,i.bytes,i.zero.isSome,(i.zero.getD undef).cells.size))=some (172,296,true,172):=by kernel_rfl
 obtain⟨i,hi,e⟩:=Bn.1 h2
 simp only[Prod.mk.injEq]at e
 obtain⟨e1,e2,e3,e4⟩:=e
 obtain⟨z,hz⟩:=Fe.1 e3
 rw[hz]at e4
 exact⟨i,z,by kernel_rfl,hi,e1,e2,hz,e4,by decide,by decide⟩⟩
def y9 (b:Nat) (v:Value) (R LF:List Res):List Res:= .box b 68 [.raw v]::(R++LF)
theorem Zt (p:Pat) (hs:ED p=false):BA Tryz.prog 81 [.agg (Bz p)] [] (fun r L'=> ∃ x y,r= .tuple [x,y,.raw (.int .i64 (Kq p).2.2)]∧(((Kq p).2.2≠0∧L'= [])∨((Kq p).2.2=0∧ ∃ v,x= .raw v∧Hl 125 172 v ((Kq p).1.map eAtm) L'∧(Kq p).1.length≤100000))):=by
 obtain⟨hg1,hg2,hg3,hg4,hg5⟩:=Ek hs
 refine C5 Tryz.func81 rfl Tryz.ntmps81 (rs:= [.tmp 2,.tmp 3,.tmp 4]) rfl rfl fun hb LF=>?_
 have zr:Cp Tryz.prog 68 [.raw (.slice none 0 0)]:=LZ (v:= .slice none 0 0) (by kernel_rfl) rfl fun _=> .raw _
 refine wf ?_
 refine AY (fun h1=>?_) (fun h1=>?_)
 ·refine wf ?_
  have e:C9 p=([],J9 p):=by rw[Ie,if_pos h1]
  have e2:Kq p=([],[],J9 p):=by rw[Kq,e,if_pos h1]
  rw[e2]
  exact⟨trivial,_,[],.cons (.tmp 2) (.cons (.tmp 3) (.cons (.tmp 4) .nil)),.refl _,_,_,rfl,.inl ⟨h1,rfl⟩⟩
 have hH:=Mw h1
 refine wf ?_
 refine C6 (hZ:=zr) fun b6=>?_
 refine wf ?_
 refine Ad (σ:=Nat × Value × List Res × List Atm) (fun k=>k.1≤p.changes.length∧Hl 125 172 k.2.1 (k.2.2.2.map eAtm) k.2.2.1∧k.2.2.2.length≤k.1*81∧NU k.2.2.2∧(∀ c∈p.changes.take k.1,1≤c.kind∧c.kind≤7)∧C9 p=DA (p.changes.drop k.1) k.2.2.2) (fun k=>p.changes.length - k.1) (fun k=> [(1,.pt (Bz p) 0),(6,.raw (.pointer (some ⟨b6,0,none⟩))),(20,.slice (p.changes.map eChg) .ro),(21,.raw (.int .i64 p.changes.length)),(22,.raw (.int .i64 k.1))]) (fun k=>y9 b6 k.2.1 k.2.2.1 LF) (0,.slice none 0 0,[],[]) ⟨by simp,.nil none (by simp),by simp,fun i h=>absurd h (by simp),by simp,hH⟩ ⟨rfl,rfl,rfl,rfl,rfl⟩ (.refl _) ?_
 rintro⟨k,v,R,own⟩ ⟨hk,hrow,hlen,hid,hkd,he⟩
 dsimp only at hk hrow hlen hid hkd he
 rw[show y9 b6 (k,v,R,own).2.1 (k,v,R,own).2.2.1 LF= .box b6 68 [.raw v]::(R++LF) from rfl]
 refine wf ?_
 refine A6 (fun hc=>?_) (fun hc=>?_)
 ·have hlt:k < p.changes.length:=by omega
  rw[LP hlt]at he
  refine wz fun b8=>?_
  refine Ao 8 ?_
  refine wf ?_
  refine AY (fun h2=>?_) (fun h2=>?_)
  ·refine wf ?_
   rw[if_pos h2]at he
   have e2:Kq p=([],[],C3 p.changes[k]):=by rw[Kq,he,if_pos h2]
   rw[e2]
   exact⟨trivial,_,[],.cons (.tmp 2) (.cons (.tmp 3) (.cons (.tmp 4) .nil)),.cons _ (DD R LF),_,_,rfl,.inl ⟨h2,rfl⟩⟩
  rw[if_neg (by simp[h2])]at he
  have hll:p.changes[k].lines.length≤2000:=JT h2
  have hkk:1≤p.changes[k].kind∧p.changes[k].kind≤7:=Mr h2
  have hmm:=Lu p.changes[k] own.length
  have hl40:=(hg5 _ (AF hlt)).lines
  have i1:B1 (C3 p.changes[k]=0∧own.length≤100000∧NU own):=⟨h2,by omega,hid⟩
  have hmx:(own.map eAtm).length≤maxN∧(own.map eAtm).length*172≤maxN:=by
   have:maxN=140737488355328:=rfl
   rw[AR];omega
  refine wf ?_
  refine CW (xs:= [.tmp 31,.tmp 32]) R (.box b6 68 [.raw v]::LF) (f:=143) (cs:= []) (CA _) rfl rfl Bc.symm _ (hrow.lend [.agg (eChg p.changes[k])] [] hmx (inferInstance:CB Tryz.prog 143 [.agg (eChg p.changes[k]),.slice (own.map eAtm) .ro] (.raw (.int .i64 (FA p.changes[k] own)))).out) fun r L' ⟨e1,e2⟩=>?_
  subst e1
  rw[e2]
  refine wf ?_
  refine wf ?_
  refine E0 Bc ?_
  refine AY (fun h3=>?_) (fun h3=>?_)
  ·refine wf ?_
   rw[if_pos h3]at he
   have e2:Kq p=([],[],FA p.changes[k] own):=by rw[Kq,he,if_pos h3]
   rw[e2]
   exact⟨trivial,_,[],.cons (.tmp 2) (.cons (.tmp 3) (.cons (.tmp 4) .nil)),.cons _ (DD R LF),_,_,rfl,.inl ⟨h3,rfl⟩⟩
  rw[if_neg (by simp[h3])]at he
  have hrow':=hrow
  obtain⟨⟨o,cc,ev⟩,_⟩:=hrow.slice
  rw[AR]at ev
  subst ev
  refine wf ?_
  refine KU rfl ?_
  refine wf ?_
  refine GD (Rp p.changes[k] own.length hkk ⟨hll,by omega,by omega⟩) [41] (σ:=Value × List Res × List Atm) (fun pre s=>Hl 125 172 s.1 (s.2.2.map eAtm) s.2.1∧s.2.2=own++pre) (fun _ _=>False) (fun s LF'=>y9 b6 s.1 s.2.1 LF') (.slice o own.length cc,R,own) LF ?_ rfl (fun _=>rfl) (by simp) (fun _ _=>by simp[y9]) (.refl _) ⟨hrow',by simp⟩ ?_ ?_ (fun _ _ h=>h.elim)
  ·exact .refl _
  ·rintro pre x ⟨v1,R1,own1⟩ LF' hpre ⟨hr1,hI⟩
   dsimp only at hr1 hI
   have hpl:=hpre.length_le
   have hol:own1.length≤90000:=by
    rw[hI,AA]
    rw[AA,B6]at hpl
    omega
   rw[show y9 b6 (v1,R1,own1).1 (v1,R1,own1).2.1 LF'= .box b6 68 [.raw v1]::(R1++LF') from rfl]
   refine wz fun b11=>?_
   refine Ao 11 ?_
   refine wf ?_
   refine jk (f:=eAtm) (m:= [x]) (R:=R1) (LF:= .box b6 68 [.raw v1]::LF') (fun R'=> .box b6 68 [.raw v1]::(R'++LF')) rfl rfl hr1 Bc.symm (fun R'=>Bc) (by simp only[AR,AN,Af];omega) (by simp only[AR,AN,Af];omega) fun v2 R2 hr2=>?_
   have h1c:v2.oneCell'=true:=by
    obtain⟨⟨o2,c2,e2⟩,_⟩:=hr2.slice
    rw[e2];rfl
   refine Hr [.raw v2] rfl rfl h1c rfl (by simp) ?_
   refine wf ?_
   exact⟨(v2,R2,own1++ [x]),⟨by dsimp only;rw[Ak];exact hr2,by dsimp only;rw[hI,AU]⟩,.refl _⟩
  ·rintro⟨v1,R1,own1⟩ ⟨hr1,hI⟩
   dsimp only at hr1 hI
   refine wf ?_
   refine⟨(k+1,v1,R1,own1),⟨by dsimp only;omega,hr1,?_,?_,?_,?_⟩,by dsimp only;omega,⟨rfl,rfl,rfl,rfl,rfl⟩,.refl _⟩
   ·dsimp only
    rw[hI,AA];omega
   ·dsimp only
    rw[hI];exact Po _ hid
   ·dsimp only
    intro c hcm
    rw[A7 hlt]at hcm
    rcases Aj.1 hcm with h|h
    ·exact hkd c h
    ·rw[An.1 h];exact hkk
   ·dsimp only
    rw[hI];exact he
 have hkk:k=p.changes.length:=by omega
 rw[DH (by omega)]at he
 rw[AE (by omega)]at hkd
 have he':C9 p=(own,0):=he
 have i1:B1 (cK p):=⟨⟨O9 hs,Ym (Tb h1),hkd⟩⟩
 refine wf ?_
 have h0: ¬(C9 p).2≠0:=by rw[he'];simp
 refine A6 (fun h=>?_) (fun h=>?_)
 ·refine wf ?_
  have e2:Kq p=([],[],4):=by rw[Kq,if_neg h0,if_pos h]
  rw[e2]
  exact⟨trivial,_,[],.cons (.tmp 2) (.cons (.tmp 3) (.cons (.tmp 4) .nil)),.cons _ (DD R LF),_,_,rfl,.inl ⟨by decide,rfl⟩⟩
 ·refine wf ?_
  have e2:Kq p=(own,Na p,0):=by rw[Kq,if_neg h0,if_neg h,he']
  rw[e2]
  exact⟨trivial,_,R,.cons (.tmp 2) (.cons (.tmp 3) (.cons (.tmp 4) .nil)),.cons _ (.refl _),_,_,rfl,.inr ⟨rfl,_,rfl,hrow,by dsimp only;omega⟩⟩
end Go.Proofs
namespace Go.Proofs
open Go.Shelf
def Tryz.sortI_ren:Go.Shelf.Ren:=⟨fun|6=>158|15=>125|14=>214|28=>178|29=>179|20=>265|21=>266|22=>267|23=>268|24=>269|25=>270|26=>271|27=>272|46=>295|47=>225|48=>226|49=>296|50=>297|57=>304|n=>n,fun|22=>71|24=>65|25=>189|3=>3|39=>157|0=>0|53=>212|55=>214|4=>4|46=>206|45=>205|50=>134|5=>5|9=>9|66=>245|70=>249|76=>287|77=>288|n=>n,fun|n=>n⟩
theorem Tryz.sortI:Go.Proofs.SlLaysF0.n6 Tryz.prog Tryz.sortI_ren:={
 mixed:=by kernel_rfl
 f6:=⟨Tryz.f158.name,by decide,Tryz.func158.trans (congrArg some (by kernel_rfl))⟩
 f14:=⟨Tryz.f214.name,by decide,Tryz.func214.trans (congrArg some (by kernel_rfl))⟩
 f15:=Tryz.func125.trans (congrArg some (by kernel_rfl))
 f20:=⟨Tryz.f265.name,by decide,Tryz.func265.trans (congrArg some (by kernel_rfl))⟩
 f21:=⟨Tryz.f266.name,by decide,Tryz.func266.trans (congrArg some (by kernel_rfl))⟩
 f22:=⟨Tryz.f267.name,by decide,Tryz.func267.trans (congrArg some (by kernel_rfl))⟩
 f23:=⟨Tryz.f268.name,by decide,Tryz.func268.trans (congrArg some (by kernel_rfl))⟩
 f24:=⟨Tryz.f269.name,by decide,Tryz.func269.trans (congrArg some (by kernel_rfl))⟩
 f25:=⟨Tryz.f270.name,by decide,Tryz.func270.trans (congrArg some (by kernel_rfl))⟩
 f26:=⟨Tryz.f271.name,by decide,Tryz.func271.trans (congrArg some (by kernel_rfl))⟩
 f27:=⟨Tryz.f272.name,by decide,Tryz.func272.trans (congrArg some (by kernel_rfl))⟩
 f28:=Tryz.func178.trans (congrArg some (by kernel_rfl))
 f29:=Tryz.func179.trans (congrArg some (by kernel_rfl))
 f46:=⟨Tryz.f295.name,by decide,Tryz.func295.trans (congrArg some (by kernel_rfl))⟩
 f47:=Tryz.func225.trans (congrArg some (by kernel_rfl))
 f48:=Tryz.func226.trans (congrArg some (by kernel_rfl))
 f49:=⟨Tryz.f296.name,by decide,Tryz.func296.trans (congrArg some (by kernel_rfl))⟩
 f50:=⟨Tryz.f297.name,by decide,Tryz.func297.trans (congrArg some (by kernel_rfl))⟩
 f57:=⟨Tryz.f304.name,by decide,Tryz.func304.trans (congrArg some (by kernel_rfl))⟩
 t0:=Tryz.underlying0
 a0:=Tryz.isAgg0
 z0:=Tryz.sizeOf0
 v0:=Tryz.zeroValue0
 t3:=Tryz.underlying3
 a3:=Tryz.isAgg3
 z3:=Tryz.sizeOf3
 v3:=Tryz.zeroValue3
 t4:=Tryz.underlying4
 a4:=Tryz.isAgg4
 z4:=Tryz.sizeOf4
 v4:=Tryz.zeroValue4
 t5:=Tryz.underlying5
 a5:=Tryz.isAgg5
 z5:=Tryz.sizeOf5
 v5:=Tryz.zeroValue5
 t9:=Tryz.underlying9
 a9:=Tryz.isAgg9
 z9:=Tryz.sizeOf9
 v9:=Tryz.zeroValue9
 t22:=Tryz.underlying71
 a22:=Tryz.isAgg71
 z22:=Tryz.sizeOf71
 v22:=Tryz.zeroValue71
 t25:=Tryz.underlying189
 a25:=Tryz.isAgg189
 z25:=Tryz.sizeOf189
 v25:=Tryz.zeroValue189
 t39:=Tryz.underlying157
 a39:=Tryz.isAgg157
 z39:=Tryz.sizeOf157
 v39:=Tryz.zeroValue157
 t45:=Tryz.underlying205
 a45:=Tryz.isAgg205
 z45:=Tryz.sizeOf205
 v45:=Tryz.zeroValue205
 t46:=Tryz.underlying206
 a46:=Tryz.isAgg206
 z46:=Tryz.sizeOf206
 v46:=Tryz.zeroValue206
 t50:=Tryz.underlying134
 a50:=Tryz.isAgg134
 z50:=Tryz.sizeOf134
 v50:=Tryz.zeroValue134
 t53:=Tryz.underlying212
 a53:=Tryz.isAgg212
 z53:=Tryz.sizeOf212
 v53:=Tryz.zeroValue212
 t55:=Tryz.underlying214
 a55:=Tryz.isAgg214
 z55:=Tryz.sizeOf214
 v55:=Tryz.zeroValue214
 t66:=Tryz.underlying245
 a66:=Tryz.isAgg245
 z66:=Tryz.sizeOf245
 v66:=Tryz.zeroValue245
 t70:=Tryz.underlying249
 a70:=Tryz.isAgg249
 z70:=Tryz.sizeOf249
 v70:=Tryz.zeroValue249
 t76:=Tryz.underlying287
 a76:=Tryz.isAgg287
 z76:=Tryz.sizeOf287
 v76:=Tryz.zeroValue287
 t77:=Tryz.underlying288
 a77:=Tryz.isAgg288
 z77:=Tryz.sizeOf288
 v77:=Tryz.zeroValue288 }
end Go.Proofs
