/- Contracts of the program: splitting: partition. -/
import Derived.Test.YtaibdmankdppkaaGreatDoorYau
set_option linter.unusedSimpArgs false
set_option linter.unusedVariables false
set_option maxHeartbeats 8000000
namespace Go.Q
open Go
def Ui (l:List Int):List PV:= [.slice (l.map eI) .ro]
@[simp] theorem pG (l:List Int):(Ui l).length=1:=rfl
instance :NX Ui 1:=⟨pG⟩
theorem aI {n:Nat} {f:Nat→PV} {c:Nat} (h:c < n):At ((List.range n).map f) (0+c*1) (f c):=⟨by simp[h]⟩
theorem Ra {n:Nat} {f g:Nat→PV} {c:Nat} (h:c < n) (hg: ∀ d,d < n→g d=if d=c then g c else f d):FK ((List.range n).map f) (0+c*1) [g c] ((List.range n).map g):=⟨by
 have hs:((List.range n).map f).set c (g c)=(List.range n).map g:=by
  refine EA (by simp) fun i h1 h2=>?_
  simp only[AR,H4]at h2
  rw[mZ,BN,BN,List.getElem_range,hg i h2]
  by_cases e:c=i
  ·rw[if_pos e,if_pos e.symm]
  ·rw[if_neg e,if_neg fun k=>e k.symm]
 refine⟨?_,by simp;omega⟩
 rw[BG,IH,←hs,Gu,if_pos (by simpa using h),AU,MQ]
 rfl⟩
end Go.Q
namespace Go.Proofs
open Go Go.Q
attribute [local irreducible] ER AV Gw BA Fc
theorem Qk (A:List (List Int)) (m:List Int) (c:Int):RA (A++ [m]) c=if c∈A.flatten then RA A c else if c∈m then(A.length:Int)else -1:=by
 unfold RA
 rw[List.findIdx?_append]
 cases h:A.findIdx? (fun l=>decide (c∈l))with
 |some k=>
  obtain⟨hk,h1,_⟩:=Kv.1 h
  rw[if_pos (E9.2 ⟨_,AF hk,BB h1⟩)]
  rfl
 |none=>
  have hn:c∉A.flatten:=fun hc=>by
   obtain⟨l,hl,hcl⟩:=E9.1 hc
   have:=wE.1 h l hl
   simp[hcl]at this
  rw[if_neg hn]
  by_cases hm:c∈m
  ·rw[if_pos hm,List.findIdx?_cons]
   simp[hm]
  ·rw[if_neg hm,List.findIdx?_cons]
   simp[hm]
theorem Rs (A:List (List Int)) (c:Int): -1≤RA A c∧RA A c < A.length∧(0≤RA A c↔c∈A.flatten):=by
 unfold RA
 cases h:A.findIdx? (fun l=>decide (c∈l))with
 |some k=>
  obtain⟨hk,h1,_⟩:=Kv.1 h
  refine⟨by dsimp only;omega,by dsimp only;omega,fun _=>E9.2 ⟨_,AF hk,BB h1⟩,fun _=>by dsimp only;omega⟩
 |none=>
  refine⟨by decide,by dsimp only;omega,fun h=>absurd h (by decide),fun hc=>?_⟩
  obtain⟨l,hl,hcl⟩:=E9.1 hc
  have:=wE.1 h l hl
  simp[hcl]at this
theorem bf {n:Nat} {D l:List Int} {ps:List (List Int)}:Fw n D (l::ps)=(Tp n D l&&decide (l≠ [])&&Fw n (D++l) ps):=rfl
theorem fo {n:Nat} {D l:List Int} {i:Nat} (hi:i < l.length) (h:R4 n D l i=true):Tp n D l=false:=by
 unfold Tp
 exact J6.2 ⟨i,Br.2 hi,by simp[h]⟩
theorem bc {n:Nat} {D l:List Int} (h: ∀ i,i < l.length→R4 n D l i=false):Tp n D l=true:=by
 unfold Tp
 exact Bg.2 fun i hi=>by simp[h i (Br.1 hi)]
def ZY (n:Nat) (A:List (List Int)):List PV:=(List.range n).map fun c=> .raw (.int .i64 (RA A (c:Nat)))
theorem pR (n:Nat) (A:List (List Int)):ZY n (A++ [[]])=ZY n A:=by
 unfold ZY
 refine CC fun c _=>?_
 rw[Qk]
 obtain⟨h1,h2,h3⟩:=Rs A c
 split
 ·rfl
 ·rename_i h
  rw[if_neg Ai]
  have: ¬0≤RA A c:=fun k=>h (h3.1 k)
  rw[show RA A c= -1 by omega]
theorem pQ {n:Nat} {A:List (List Int)} {l:List Int} {i:Nat} (hi:i < l.length) {c:Nat} (hc:c < n) (hx:l[i]=(c:Int)) (hn:(c:Int)∉A.flatten++l.take i):FK (ZY n (A++ [l.take i])) (0+c*1) [.raw (.int .i64 A.length)] (ZY n (A++ [l.take (i+1)])):=by
 have h1:(c:Int)∉A.flatten:=fun h=>hn (Dc _ h)
 have h2:(c:Int)∉l.take i:=fun h=>hn (EE _ h)
 have e:l.take (i+1)=l.take i++ [(c:Int)]:=by rw[A7 hi,hx]
 have hg:RA (A++ [l.take (i+1)]) c=A.length:=by rw[Qk,if_neg h1,if_pos (by rw[e];simp)]
 have:=Ra (f:=fun d=>PV.raw (.int .i64 (RA (A++ [l.take i]) (d:Nat)))) (g:=fun d=>PV.raw (.int .i64 (RA (A++ [l.take (i+1)]) (d:Nat)))) hc fun d hd=>by
  by_cases hdc:d=c
  ·rw[if_pos hdc,hdc]
  ·rw[if_neg hdc,Qk,Qk]
   have:((d:Int)∈l.take (i+1))=((d:Int)∈l.take i):=by
    rw[e]
    simp only[Aj,An,eq_iff_iff]
    exact⟨fun h=>h.elim id fun h=>absurd (by omega) hdc,.inl⟩
   simp only[this]
 rw[hg]at this
 exact this
theorem qK {n:Nat} {A:List (List Int)} {l:List Int} {i:Nat} (hi:i < l.length) {c:Nat} (hx:l[i]=(c:Int)):R4 n A.flatten l i=(decide (n≤c)||decide (0≤RA (A++ [l.take i]) c)||(decide (0 < i)&&decide ((c:Int)≤l.getD (i - 1) 0))):=by
 unfold R4
 have e:l.getD i 0=(c:Int):=by simp[List.getD,hi,hx]
 have h3:=(Rs (A++ [l.take i]) c).2.2
 rw[CJ,GQ]at h3
 rw[e,DB (show ¬(c:Int) < 0 by omega),GU]
 congr 1
 congr 1
 ·rw[decide_eq_decide];omega
 ·rw[decide_eq_decide];exact h3.symm
theorem XD (n:Nat) (Q:List (List Int)) (t:CF) (hn:n≤1000000) (hQ:Q.length≤1000000) (hl: ∀ l∈Q,l.length≤1000000):BA Tryz.prog 63 [.raw (.int .i64 (n:Int)),.slice (Q.map Ui) t] []
  (fun r L'=>L'= []∧((r= .tuple [.slice [] .nil,.raw (.bool false)]∧Fw n [] Q=false)∨ ∃ b,r= .tuple [.slice (((List.range n).map fun c=>RA Q (c:Nat)).map eI) .ro,.raw (.bool b)]∧Fw n [] Q=b)):=by
 refine C5 Tryz.func63 rfl Tryz.ntmps63 (rs:= [.tmp 4,.tmp 5]) rfl rfl fun hb LF=>?_
 refine wf ?_
 refine rA (z:= .raw (.int .i64 0)) rfl rfl (by omega) (by omega) fun b=>?_
 refine wf ?_
 refine KU rfl ?_
 refine wf ?_
 refine Ad (σ:=Nat) (fun k=>k≤n) (fun k=>n - k) (fun k=> [(0,.raw (.int .i64 (n:Int))),(1,.slice (Q.map Ui) t),(6,.raw (.slice (some ⟨b,0,none⟩) n n)),(16,.raw (.int .i64 (n:Int))),(17,.raw (.int .i64 k))]) (fun k=> .box b 3 ((List.range n).map fun c=>if c < k then .raw (.int .i64 (-1))else .raw (.int .i64 0))::LF) 0 (by omega) ⟨rfl,rfl,rfl,rfl,rfl⟩ (by
  have:((List.range n).map fun c=>if c < 0 then(PV.raw (.int .i64 (-1)))else .raw (.int .i64 0))=List.replicate n (.raw (.int .i64 0)):=EA (by simp) fun i h1 h2=>by simp
  rw[this];exact .refl _) ?_
 rintro k hk
 refine wf ?_
 refine A6 (fun hc=>?_) (fun hc=>?_)
 ·have hlt:k < n:=by omega
  have ip:FK ((List.range n).map fun c=>if c < k then(PV.raw (.int .i64 (-1)))else .raw (.int .i64 0)) (0+k*1) [.raw (.int .i64 (-1))] ((List.range n).map fun c=>if c < k+1 then .raw (.int .i64 (-1))else .raw (.int .i64 0)):=by
   have:=Ra (f:=fun c=>if c < k then(PV.raw (.int .i64 (-1)))else .raw (.int .i64 0)) (g:=fun c=>if c < k+1 then(PV.raw (.int .i64 (-1)))else .raw (.int .i64 0)) hlt fun d hd=>by
    by_cases e:d=k
    ·rw[if_pos e];simp[e]
    ·rw[if_neg e]
     by_cases h2:d < k
     ·rw[if_pos h2,if_pos (by omega)]
     ·rw[if_neg h2,if_neg (by omega)]
   simpa using this
  refine wf ?_
  refine Fb (k:=k) rfl rfl hlt ?_
  refine wf ?_
  exact⟨k+1,by omega,by dsimp only;omega,⟨rfl,rfl,rfl,rfl,rfl⟩,.refl _⟩
 have h0:((List.range n).map fun c=>if c < k then(PV.raw (.int .i64 (-1)))else .raw (.int .i64 0))=ZY n []:=by
  unfold ZY
  refine CC fun c hcm=>?_
  have:=Br.1 hcm
  rw[if_pos (by omega)]
  rfl
 rw[h0]
 clear h0
 refine wf ?_
 refine Ad (σ:=Nat) (fun k=>k≤Q.length∧Fw n [] Q=Fw n (Q.take k).flatten (Q.drop k)∧(Q.take k).flatten.length≤k*1000000) (fun k=>Q.length - k) (fun k=> [(0,.raw (.int .i64 (n:Int))),(1,.slice (Q.map Ui) t),(6,.raw (.slice (some ⟨b,0,none⟩) n n)),(8,.raw (.int .i64 ((Q.take k).flatten.length:Nat))),(24,.slice (Q.map Ui) t),(25,.raw (.int .i64 Q.length)),(26,.raw (.int .i64 k))]) (fun k=> .box b 3 (ZY n (Q.take k))::LF) 0 ⟨by simp,by simp,by simp⟩ ⟨rfl,rfl,rfl,rfl,rfl,rfl,rfl⟩ (.refl _) ?_
 rintro k ⟨hk,hok,hfl⟩
 refine wf ?_
 refine A6 (fun hc=>?_) (fun hc=>?_)
 ·have hlt:k < Q.length:=by omega
  have hll:=hl _ (AF hlt)
  rw[CH hlt,bf]at hok
  obtain⟨l,hql⟩: ∃ l,l=Q[k]:=⟨_,rfl⟩
  rw[←hql]at hok hll
  have htk:Q.take (k+1)=Q.take k++ [l]:=by rw[A7 hlt,hql]
  generalize hD:(Q.take k).flatten=D at hok hfl
  refine wf ?_
  rw[←hql]
  refine A6 (fun he=>?_) (fun he=>?_)
  ·refine wf ?_
   have hl0:l= []:=BL (by omega)
   exact⟨trivial,_,[],.cons (.tmp 4) (.cons (.tmp 5) .nil),.cons _ (.refl _),rfl,.inl ⟨rfl,by rw[hok,hl0];simp⟩⟩
  obtain⟨A,hA⟩: ∃ A,A=Q.take k:=⟨_,rfl⟩
  have hAl:A.length=k:=by rw[hA];simp;omega
  rw[←hA]at hD htk ⊢
  refine wf ?_
  refine Ad (σ:=Nat) (fun i=>i≤l.length∧ ∀ j,j < i→R4 n D l j=false) (fun i=>l.length - i) (fun i=> [(0,.raw (.int .i64 (n:Int))),(1,.slice (Q.map Ui) t),(6,.raw (.slice (some ⟨b,0,none⟩) n n)),(8,.raw (.int .i64 ((D.length+i:Nat)))),(9,.raw (.int .i64 k)),(10,.slice (l.map eI) .ro),(24,.slice (Q.map Ui) t),(25,.raw (.int .i64 Q.length)),(26,.raw (.int .i64 k)),(34,.slice (l.map eI) .ro),(35,.raw (.int .i64 l.length)),(36,.raw (.int .i64 i))]) (fun i=> .box b 3 (ZY n (A++ [l.take i]))::LF) 0 ⟨by simp,fun j hj=>absurd hj (DK _)⟩ ⟨rfl,rfl,rfl,by rw[←hD];rfl,rfl,rfl,rfl,rfl,rfl,rfl,rfl,rfl⟩ (by rw[List.take_zero,pR];exact .refl _) ?_
  rintro i ⟨hi,hbad⟩
  refine wf ?_
  refine A6 (fun hc2=>?_) (fun hc2=>?_)
  ·have hil:i < l.length:=by omega
   have hret:R4 n D l i=true→Fw n [] Q=false:=fun h=>by rw[hok,fo hil h];rfl
   refine wf ?_
   by_cases hx0:l[i] < 0
   ·have hb1:R4 n D l i=true:=by
     unfold R4
     rw[show l.getD i 0=l[i] by simp[List.getD,hil],BR hx0];rfl
    have hret:=hret hb1
    generalize l[i]=x at*
    refine BZ [(67,.raw (.bool (R4 n D l i))),(0,.raw (.int .i64 (n:Int))),(1,.slice (Q.map Ui) t),(6,.raw (.slice (some ⟨b,0,none⟩) n n)),(8,.raw (.int .i64 ((D.length+i:Nat)))),(9,.raw (.int .i64 k)),(10,.slice (l.map eI) .ro),(11,.raw (.int .i64 i)),(12,.raw (.int .i64 x)),(24,.slice (Q.map Ui) t),(25,.raw (.int .i64 Q.length)),(26,.raw (.int .i64 k)),(34,.slice (l.map eI) .ro),(35,.raw (.int .i64 l.length)),(36,.raw (.int .i64 i))] (.box b 3 (ZY n (A++ [l.take i]))::LF) ?_ ?_
    ·repeat' (first|(refine A6 (fun h=>?_) (fun h=>?_)<;>refine wf ?_)|(refine AY (fun h=>?_) (fun h=>?_)<;>refine wf ?_)|(refine AW (fun h=>?_) (fun h=>?_)<;>refine wf ?_)|(refine Av (fun h=>?_) (fun h=>?_)<;>(have h2:=h;(try simp only[AB,A8,AJ,AL]at h2);refine wf ?_)))
     all_goals first|(refine⟨⟨CD (by rfl) ?_,rfl,rfl,rfl,rfl,rfl,rfl,rfl,rfl,rfl,rfl,rfl,rfl,rfl,rfl⟩,.refl _⟩;first|(rw[hb1];done)|(rw[hb1];first|(simp_all;done)|(exfalso;simp_all;omega)))|(exfalso;simp_all;done)|(exfalso;simp_all;omega)|(trace_state;fail)
    refine wf ?_
    refine AW (fun hr=>?_) (fun hr=>?_)
    ·refine wf ?_
     exact⟨trivial,_,[],.cons (.tmp 4) (.cons (.tmp 5) .nil),.cons _ (.refl _),rfl,.inl ⟨rfl,hret⟩⟩
    ·rw[hb1]at hr
     simp at hr
   ·obtain⟨c,hcx⟩:=zP (show 0≤l[i] by omega)
    have hbe:=qK (n:=n) (A:=A) hil hcx
    rw[hD]at hbe
    have iat: ∀ hcn:c < n,At (ZY n (A++ [l.take i])) (0+c*1) (.raw (.int .i64 (RA (A++ [l.take i]) (c:Nat)))):=fun hcn=>aI (f:=fun c=>PV.raw (.int .i64 (RA (A++ [l.take i]) (c:Nat)))) hcn
    rw[hcx]
    by_cases hcn:c < n
    ·have iat:=iat hcn
     refine BZ [(67,.raw (.bool (R4 n D l i))),(0,.raw (.int .i64 (n:Int))),(1,.slice (Q.map Ui) t),(6,.raw (.slice (some ⟨b,0,none⟩) n n)),(8,.raw (.int .i64 ((D.length+i:Nat)))),(9,.raw (.int .i64 k)),(10,.slice (l.map eI) .ro),(11,.raw (.int .i64 i)),(12,.raw (.int .i64 (c:Int))),(24,.slice (Q.map Ui) t),(25,.raw (.int .i64 Q.length)),(26,.raw (.int .i64 k)),(34,.slice (l.map eI) .ro),(35,.raw (.int .i64 l.length)),(36,.raw (.int .i64 i))] (.box b 3 (ZY n (A++ [l.take i]))::LF) ?_ ?_
     ·rcases Q2 i with hi0|hi0
      ·rw[DB (show ¬0 < i by omega),vJ,yR]at hbe
       repeat' (first|(refine Fb (k:=c) rfl rfl hcn ?_;refine wf ?_)|(refine A6 (fun h=>?_) (fun h=>?_)<;>refine wf ?_)|(refine AY (fun h=>?_) (fun h=>?_)<;>refine wf ?_)|(refine AW (fun h=>?_) (fun h=>?_)<;>refine wf ?_)|(refine Av (fun h=>?_) (fun h=>?_)<;>(have h2:=h;(try simp only[AB,A8,AJ,AL]at h2);refine wf ?_)))
       all_goals first|(refine⟨⟨CD (by rfl) ?_,rfl,rfl,rfl,rfl,rfl,rfl,rfl,rfl,rfl,rfl,rfl,rfl,rfl,rfl⟩,.refl _⟩;rw[hbe];first|(simp_all;done)|(simp_all;omega)|grind)|(exfalso;simp_all;done)|(exfalso;simp_all;omega)|(trace_state;fail)
      ·have hj:i - 1 < l.length:=by omega
       repeat' (first|(refine Fb (k:=c) rfl rfl hcn ?_;refine wf ?_)|(refine A6 (fun h=>?_) (fun h=>?_)<;>refine wf ?_)|(refine AY (fun h=>?_) (fun h=>?_)<;>refine wf ?_)|(refine AW (fun h=>?_) (fun h=>?_)<;>refine wf ?_)|(refine Av (fun h=>?_) (fun h=>?_)<;>(have h2:=h;(try simp only[AB,A8,AJ,AL]at h2);refine wf ?_)))
       all_goals first|(refine⟨⟨CD (by rfl) ?_,rfl,rfl,rfl,rfl,rfl,rfl,rfl,rfl,rfl,rfl,rfl,rfl,rfl,rfl⟩,.refl _⟩;rw[hbe];first|(simp_all;done)|(simp_all;omega)|grind)|(exfalso;simp_all;done)|(exfalso;simp_all;omega)|(trace_state;fail)
     refine wf ?_
     refine AW (fun hr=>?_) (fun hr=>?_)
     ·refine wf ?_
      exact⟨trivial,_,[],.cons (.tmp 4) (.cons (.tmp 5) .nil),.cons _ (.refl _),rfl,.inl ⟨rfl,hret hr⟩⟩
     have hnm:(c:Int)∉A.flatten++l.take i:=fun hm=>by
      have:=hbe.symm.trans hr
      have h3:=(Rs (A++ [l.take i]) c).2.2
      rw[CJ,GQ]at h3
      rw[BR (h3.2 hm)]at this
      simp at this
     have iput:=pQ hil hcn hcx hnm
     rw[hAl]at iput
     refine wf ?_
     refine Fb (k:=c) rfl rfl hcn ?_
     refine wf ?_
     refine⟨i+1,⟨by omega,fun j hj=>?_⟩,by dsimp only;omega,⟨rfl,rfl,rfl,rfl,rfl,rfl,rfl,rfl,rfl,rfl,rfl,rfl⟩,.refl _⟩
     by_cases e:j=i
     ·rw[e];exact hr
     ·exact hbad j (by omega)
    ·have hb1:R4 n D l i=true:=by rw[hbe,BR (show n≤c by omega)];rfl
     have hret:=hret hb1
     refine BZ [(67,.raw (.bool (R4 n D l i))),(0,.raw (.int .i64 (n:Int))),(1,.slice (Q.map Ui) t),(6,.raw (.slice (some ⟨b,0,none⟩) n n)),(8,.raw (.int .i64 ((D.length+i:Nat)))),(9,.raw (.int .i64 k)),(10,.slice (l.map eI) .ro),(11,.raw (.int .i64 i)),(12,.raw (.int .i64 (c:Int))),(24,.slice (Q.map Ui) t),(25,.raw (.int .i64 Q.length)),(26,.raw (.int .i64 k)),(34,.slice (l.map eI) .ro),(35,.raw (.int .i64 l.length)),(36,.raw (.int .i64 i))] (.box b 3 (ZY n (A++ [l.take i]))::LF) ?_ ?_
     ·repeat' (first|(refine A6 (fun h=>?_) (fun h=>?_)<;>refine wf ?_)|(refine AY (fun h=>?_) (fun h=>?_)<;>refine wf ?_)|(refine AW (fun h=>?_) (fun h=>?_)<;>refine wf ?_)|(refine Av (fun h=>?_) (fun h=>?_)<;>(have h2:=h;(try simp only[AB,A8,AJ,AL]at h2);refine wf ?_)))
      all_goals first|(refine⟨⟨CD (by rfl) ?_,rfl,rfl,rfl,rfl,rfl,rfl,rfl,rfl,rfl,rfl,rfl,rfl,rfl,rfl⟩,.refl _⟩;first|(rw[hb1];done)|(rw[hb1];first|(simp_all;done)|(exfalso;simp_all;omega)))|(exfalso;simp_all;done)|(exfalso;simp_all;omega)|(trace_state;fail)
     refine wf ?_
     refine AW (fun hr=>?_) (fun hr=>?_)
     ·refine wf ?_
      exact⟨trivial,_,[],.cons (.tmp 4) (.cons (.tmp 5) .nil),.cons _ (.refl _),rfl,.inl ⟨rfl,hret⟩⟩
     ·rw[hb1]at hr
      simp at hr
  ·obtain rfl:i=l.length:=by omega
   have hl0:l≠ []:=fun e=>he (by rw[e];rfl)
   rw[bc (fun j hj=>hbad j (by omega)),BR hl0,EK,EK]at hok
   refine wf ?_
   refine⟨k+1,⟨by omega,?_,?_⟩,by dsimp only;omega,⟨rfl,rfl,rfl,?_,rfl,rfl,rfl⟩,?_⟩
   ·rw[hok,htk,CJ,GQ,hD]
   ·rw[htk,CJ,GQ,hD,AA];omega
   ·have e2:((Q.take (k+1)).flatten.length:Nat)=D.length+l.length:=by rw[htk,CJ,GQ,hD,AA]
    simp only[e2]
    rfl
   ·dsimp only
    rw[htk,E8];exact .refl _
 ·have hk2:k=Q.length:=by omega
  subst hk2
  rw[List.drop_length,E8]at hok
  rw[E8]at hfl ⊢
  have e1:(((List.range n).map fun c=>RA Q (c:Nat)).map eI).flatten=ZY n Q:=by
   unfold ZY
   rw[CG]
   generalize List.range n=rs
   induction rs with
   |nil=>rfl
   |cons x xs ih=>rw[Ar,Ck,ih];rfl
  have hv1:Hl 3 1 (.slice (some ⟨b,0,none⟩) n n) (((List.range n).map fun c=>RA Q (c:Nat)).map eI) [.box b 3 (ZY n Q)]:=by
   have:=Hl.row (E:=3) (sz:=1) (r:=b) (n:=n) (cap:=n) (xs:=((List.range n).map fun c=>RA Q (c:Nat)).map eI) (rest:= []) (by simp) (Ah _) (by simp[eI]) (by rw[e1];simp[ZY])
   rw[e1,BX]at this
   exact this
  refine Jd 6 hv1 ⟨by simp[maxN];omega,by simp[maxN];omega⟩ (.refl _) rfl ?_
  refine wf ?_
  refine⟨trivial,_,[],.cons (.tmp 4) (.cons (.tmp 5) .nil),.refl _,rfl,.inr ⟨_,rfl,?_⟩⟩
  rw[hok]
  show decide (Q.flatten.length=n)=decide ((Q.flatten.length:Int)=n)
  rw[decide_eq_decide];omega
theorem dq {cs:List Chg} {n:Int} {k:Nat} (hk:k < cs.length) (h1:(CP cs k:Int)≤n) (h2: ∀ i,k < i→i < cs.length→ ¬(CP cs i:Int)≤n):Dz cs n=k:=by
 unfold Dz
 rw[OA (f:=CP cs) (fun i j h=>Ej cs h) hk h1 h2]
 rfl
def ln (b:Nat) (k:Nat) (LF:List Res):List Res:= .box b 3 [.raw (.int .i64 (k:Int))]::LF
theorem W2 {s:List Sto} (v:BH s) {x:Sto} (hx:x∈s) {n:Nat} (hn:n < x.patch.changes.length):CB Tryz.prog 31 [.agg (Bz x.patch),.raw (.int .i64 (n:Int))] (.raw (.int .i64 (CP x.patch.changes n:Int))):=⟨by
 have hb0:=v.close.1.2 x hx
 have i1:B1 (ED x.patch=false):=⟨hb0⟩
 obtain⟨_,_,g1,g2,gch⟩:=Ek hb0
 have hp:=EN (Fj (v.id x hx).1).1
 have hc16:CP x.patch.changes x.patch.changes.length≤16200:=by
  have h1:cntS s x.id=CP x.patch.changes x.patch.changes.length:=by rw[v.cntS hx,hp.cnt]
  have h2:cntS s x.id≤16200:=by rw[v.cntS hx];exact(E1 hb0).1
  omega
 refine Au Tryz.func31 Tryz.ntmps31 rfl (rs:= [.tmp 4]) rfl rfl fun hb LF=>?_
 have he:(Cb x.patch).2=0:=by
  have:=(v.id x hx).1
  rw[FB]at this
  split at this
  ·rename_i h;exact absurd this h
  ·rename_i h;simpa using h
 refine wf ?_
 refine BZ [(21,.raw (.bool (false))),(1,.raw (.int .i64 (n:Int))),(2,.pt (Bz x.patch) 0)] (LF) ?_ ?_
 ·repeat' (first|(refine A6 (fun h=>?_) (fun h=>?_)<;>refine wf ?_)|(refine AY (fun h=>?_) (fun h=>?_)<;>refine wf ?_)|(refine AW (fun h=>?_) (fun h=>?_)<;>refine wf ?_)|(refine Av (fun h=>?_) (fun h=>?_)<;>(have h2:=h;(try simp only[AB,A8,AJ,AL]at h2);refine wf ?_)))
  all_goals (refine⟨⟨CD (by rfl) ?_,rfl,rfl⟩,.refl _⟩;first|(simp_all;done)|(exfalso;simp_all;omega)|grind|(trace_state;fail))
 refine wf ?_
 refine Y9 fun b5=>?_
 obtain⟨L,hL⟩: ∃ L,L=x.patch.changes.take n:=⟨_,rfl⟩
 have hfl:CP L L.length=CP x.patch.changes n:=by
  unfold CP
  rw[E8,hL]
 have hLl:L.length=n:=by rw[hL,Aa];omega
 have hLm: ∀ c∈L,c∈x.patch.changes:=fun c hc=>Et (hL ▸ hc)
 have hnn:=Ej x.patch.changes (show n≤x.patch.changes.length by omega)
 rw[←hL]
 clear hL
 refine Ad (σ:=Nat) (fun k=>k≤L.length) (fun k=>L.length - k) (fun k=> [(5,.raw (.pointer (some ⟨b5,0,none⟩))),(25,.slice (L.map eChg) .ro),(26,.raw (.int .i64 L.length)),(27,.raw (.int .i64 k))]) (fun k=>ln b5 (CP L k) LF) 0 (by omega) ⟨rfl,rfl,rfl,rfl⟩ (by rw[Rz];exact .refl _) ?_
 rintro k hk
 have hmk:=Ej L (show k≤L.length by omega)
 unfold ln
 refine wf ?_
 refine A6 (fun hc=>?_) (fun hc=>?_)
 ·have hlt:k < L.length:=by omega
  have hm:=hLm _ (AF hlt)
  have hkk:=v.kinds hx _ hm
  have hll:=(gch _ hm).lines
  have hs:=HX hlt
  have hm2:=Ej L (show k+1≤L.length by omega)
  refine wz fun b7=>?_
  refine Ao 7 ?_
  refine wf ?_
  refine GD (Rp L[k] (CP L k:Nat) hkk ⟨by omega,by omega,by omega⟩) [34] (σ:=Nat) (fun pre s=>s=CP L k+pre.length) (fun _ _=>False) (fun s LF'=>ln b5 s LF') (CP L k) LF (.refl _) rfl (fun _=>rfl) (by simp) (fun _ _=>rfl) (.refl _) (by simp) ?_ ?_ (fun _ _ h=>h.elim)
  ·rintro pre y q LF' hpre hI
   have hpl:=hpre.length_le
   rw[IW,AA,B6]at hpl
   unfold ln
   refine wf ?_
   refine⟨q+1,by dsimp only at hI ⊢;rw[AA,B6];omega,?_⟩
   exact .refl _
  ·rintro q hI
   rw[IW,←hs]at hI
   unfold ln
   refine wf ?_
   refine⟨k+1,by omega,by dsimp only;omega,⟨rfl,rfl,rfl,rfl⟩,?_⟩
   rw[hI];exact .refl _
 ·obtain rfl:k=L.length:=by omega
  refine wf ?_
  refine B2 (.of_eq ?_)
  rw[hfl]⟩
instance xd (a b:Int):CB Tryz.prog 229 [.raw (.int .i64 a),.raw (.int .i64 b)] (.raw (.bool (decide (a < b)))):=⟨by
 refine Au Tryz.func229 Tryz.ntmps229 rfl (rs:= [.tmp 4]) rfl rfl fun hb LF=>?_
 refine wf ?_
 refine B2 (.of_eq rfl)⟩
instance vj (a:Int):CB Tryz.prog 230 [.raw (.int .i64 a)] (.raw (.bool false)):=⟨by
 refine Au Tryz.func230 Tryz.ntmps230 rfl (rs:= [.tmp 2]) rfl rfl fun hb LF=>?_
 refine wf ?_
 refine B2 (.of_eq ?_)
 simp⟩
def Ph (l:List Int) (n:Int):Nat:=l.findIdx fun x=>decide (n≤x)
theorem oW {l:List Int} {n:Int} {i:Nat} (hi:i≤l.length) (h1: ∀ k (h:k < l.length),k < i→l[k] < n) (h2: ∀ k (h:k < l.length),i≤k→n≤l[k]):Ph l n=i:=by
 unfold Ph
 by_cases h:i < l.length
 ·refine qg h |>.2 ⟨BR (h2 i h (Ah _)),fun j hj=>?_⟩
  have:=h1 j (by omega) hj
  simp;omega
 ·obtain rfl:i=l.length:=by omega
  refine A0B.2 fun y hy=>?_
  obtain⟨k,hk,rfl⟩:=AZ.1 hy
  have:=h1 k hk hk
  simp;omega
theorem qI (l:List Int) (t:CF) (n:Int) (ha:l.Pairwise (·< ·)) (hl:l.length≤1000000):CB Tryz.prog 181 [.slice (l.map eI) t,.raw (.int .i64 n)] (.tuple [.raw (.int .i64 (Ph l n)),.raw (.bool (decide (l[Ph l n]? =some n)))]):=⟨by
 refine Au Tryz.func181 Tryz.ntmps181 rfl (rs:= [.tmp 4,.tmp 5]) rfl rfl fun hb LF=>?_
 refine wf ?_
 refine Ad (σ:=Nat × Nat) (fun k=>k.1≤k.2∧k.2≤l.length∧(∀ i (h:i < l.length),i < k.1→l[i] < n)∧(∀ i (h:i < l.length),k.2≤i→n≤l[i])) (fun k=>k.2 - k.1) (fun k=> [(0,.slice (l.map eI) t),(1,.raw (.int .i64 n)),(6,.raw (.int .i64 l.length)),(7,.raw (.int .i64 k.1)),(8,.raw (.int .i64 k.2))]) (fun _=>LF) (0,l.length) ⟨Xy _,Ah _,fun i _ h=>absurd h (DK _),fun i h h2=>absurd h (Nat.not_lt.2 h2)⟩ ⟨rfl,rfl,rfl,rfl,rfl⟩ (.refl _) ?_
 rintro⟨i,j⟩ ⟨hij,hjn,h1,h2⟩
 dsimp only at hij hjn h1 h2 ⊢
 have mono: ∀ a b (ha':a < l.length) (hb':b < l.length),a < b→l[a] < l[b]:=fun a b x y h=>Ay.1 ha a b x y h
 refine wf ?_
 refine A6 (fun hc=>?_) (fun hc=>?_)
 ·have hlt:i < j:=by omega
  obtain⟨m,hm⟩: ∃ m,m=(i+j) / 2 ^ (min 1 64):=⟨_,rfl⟩
  have hm2:m=(i+j) / 2:=hm
  have hmn:m < l.length:=by omega
  refine wf ?_
  refine X1 (n:=(((i+j) / 2 ^ (min 1 64):Nat):Int)) rfl (IntWalk.i64_in _ ⟨by omega,by omega⟩) ?_
  rw[←hm]
  refine wf ?_
  refine A6 (fun h=>?_) (fun h=>?_)
  ·refine wf ?_
   refine⟨(m+1,j),⟨by dsimp only;omega,hjn,fun k hk hkm=>?_,h2⟩,by dsimp only;omega,⟨rfl,rfl,rfl,rfl,rfl⟩,.refl _⟩
   dsimp only at hkm
   by_cases e:k=m
   ·subst e;exact h
   ·have:=mono k m hk hmn (by omega);omega
  ·refine wf ?_
   refine⟨(i,m),⟨by dsimp only;omega,by dsimp only;omega,h1,fun k hk hkm=>?_⟩,by dsimp only;omega,⟨rfl,rfl,rfl,rfl,rfl⟩,.refl _⟩
   dsimp only at hkm
   by_cases e:k=m
   ·subst e;omega
   ·have:=mono m k hmn hk (by omega);omega
 ·have e:i=j:=by omega
  subst e
  rw[oW hjn h1 h2]
  by_cases hin:i < l.length
  ·have g:decide ((i:Int) < (l.length:Int))=true:=BR (by omega)
   refine wf ?_
   refine BZ [(5,.raw (.bool (decide (l[i]? =some n)))),(4,.raw (.int .i64 i))] (LF) ?_ ?_
   ·repeat' (first|(refine A6 (fun h=>?_) (fun h=>?_)<;>refine wf ?_)|(refine AY (fun h=>?_) (fun h=>?_)<;>refine wf ?_)|(refine AW (fun h=>?_) (fun h=>?_)<;>refine wf ?_)|(refine Av (fun h=>?_) (fun h=>?_)<;>(have h2:=h;(try simp only[AB,A8,AJ,AL]at h2);refine wf ?_)))
    all_goals (refine⟨⟨CD (by rfl) ?_,rfl⟩,.refl _⟩;rw[AO hin];first|(simp_all;done)|(simp_all;omega)|(trace_state;fail))
   refine wf ?_
   refine HH (.of_eq rfl)
  ·have g:decide ((i:Int) < (l.length:Int))=false:=DB (by omega)
   refine wf ?_
   refine HH (.of_eq ?_)
   rw[FS (by omega)]
   rfl⟩
def Eb (cs:List Chg):List Int:=(List.range cs.length).map fun i=>(CP cs i:Int)
theorem Jh (cs:List Chg):(Eb cs).length=cs.length:=by simp[Eb]
theorem NC {cs:List Chg} {i:Nat} (h:i < (Eb cs).length):(Eb cs)[i]=(CP cs i:Int):=by simp[Eb]
theorem lg {c:Chg} (h1:1≤c.kind) (h7:c.kind≤7):1≤cntC c:=by
 rw[ug h1 h7];unfold cQ;split<;>omega
theorem eG {cs:List Chg} (hk: ∀ c∈cs,1≤c.kind∧c.kind≤7) {i j:Nat} (h:i < j) (hj:j < cs.length):CP cs i < CP cs j:=by
 have h1:=Ej cs (show i+1≤j by omega)
 have hi:i < cs.length:=by omega
 have h2:=HX hi
 have h3:=hk _ (AF hi)
 have:=lg h3.1 h3.2
 omega
theorem Zp {cs:List Chg} (hk: ∀ c∈cs,1≤c.kind∧c.kind≤7):(Eb cs).Pairwise (·< ·):=by
 refine Ay.2 fun i j hi hj hij=>?_
 rw[NC,NC]
 have:=eG hk hij (by rw[Jh]at hj;exact hj)
 omega
theorem Tj (l:List Int) (n:Int):Ph l n≤l.length∧(∀ k (h:k < l.length),k < Ph l n→l[k] < n)∧ ∀ h:Ph l n < l.length,n≤l[Ph l n]:=by
 refine⟨A0A,fun k h hk=>?_,fun h=>?_⟩
 ·have:=Uf hk
  simp at this;omega
 ·have:=Y3 (w:=h)
  exact BB this
theorem kL {cs:List Chg} (hk: ∀ c∈cs,1≤c.kind∧c.kind≤7) (hne:cs≠ []) {n:Int} (h0:0≤n):
  ((Eb cs)[Ph (Eb cs) n]? =some n→Ph (Eb cs) n=Dz cs n)∧(¬(Eb cs)[Ph (Eb cs) n]? =some n→Ph (Eb cs) n=Dz cs n+1):=by
 obtain⟨h1,h2,h3⟩:=Tj (Eb cs) n
 have hasc:=Zp hk
 generalize Ph (Eb cs) n=p at*
 rw[Jh]at h1
 have up: ∀ i,p < i→i < cs.length→ ∀ hp:p < cs.length,(CP cs p:Int) < CP cs i:=fun i a b hp=>by have:=eG hk a b;omega
 constructor
 ·intro h
  obtain⟨hp,he⟩:=Bb.1 h
  rw[NC]at he
  rw[Jh]at hp
  rw[dq hp (by omega) fun i a b=>by have:=up i a b hp;omega]
 ·intro h
  have hlt: ∀ hp:p < cs.length,n < CP cs p:=fun hp=>by
   have hp':p < (Eb cs).length:=by rw[Jh];exact hp
   have h4:=h3 hp'
   rw[AO hp',NC]at h
   rw[NC]at h4
   have: ¬(CP cs p:Int)=n:=fun e=>h (by rw[e])
   omega
  have hp0:p≠0:=fun e=>by
   have:=hlt (by rw[e];exact P0.2 hne)
   rw[e,Rz]at this;omega
  obtain⟨q,rfl⟩: ∃ q,p=q+1:=⟨p - 1,by omega⟩
  have hq:q < (Eb cs).length:=by rw[Jh];omega
  have h5:=h2 q hq (by omega)
  rw[NC]at h5
  rw[dq (k:=q) (by omega) (by omega) fun i a b=>by
   have:=hlt (by omega)
   have:=Ej cs (show q+1≤i by omega)
   omega]
theorem Vn {cs:List Chg} (hk: ∀ c∈cs,1≤c.kind∧c.kind≤7) (hne:cs≠ []) (hl:cs.length≤1000000) (b:Nat) (us:List PV) (tg:CF) [At us 6 (.slice ((Eb cs).map eI) tg)] (y:Ident) (h0:0≤y.n):BA Tryz.prog 128 [.raw (.pointer (some ⟨b,0,none⟩)),.agg (eIdent y)] [.box b 104 us]
  (fun r L'=>r= .raw (.int .i64 (Dz cs y.n:Int))∧L'= [.box b 104 us]):=by
 have cb:=qI (Eb cs) tg y.n (Zp hk) (by rw[Jh];exact hl)
 obtain⟨m1,m2⟩:=kL hk hne h0
 have hpl:=(Tj (Eb cs) y.n).1
 rw[Jh]at hpl
 refine C5 Tryz.func128 rfl Tryz.ntmps128 (rs:= [.tmp 4]) rfl rfl fun hb LF=>?_
 refine wn ?_
 refine Bj 12 ?_ ?_
 ·decide+kernel
 refine wf ?_
 refine AY (fun h=>?_) (fun h=>?_)
 ·refine wf ?_
  exact⟨trivial,_,_,.cons (.tmp 4) .nil,.refl _,by show PV.raw (.int .i64 ((Ph (Eb cs) y.n:Int) - 1))=_;rw[m2 h];congr 2;omega,rfl⟩
 ·refine wf ?_
  exact⟨trivial,_,_,.cons (.tmp 4) .nil,.refl _,by show PV.raw (.int .i64 ((Ph (Eb cs) y.n:Nat):Int))=_;rw[m1 h],rfl⟩
def gE (cs:List Chg) (ns:List Int) (i:Nat) (st:Bool) (y:Ident):Bool:=st||(Ea y&&decide (ns.getD i 0 < ns.getD (Dz cs y.n) 0))
theorem gj {cs:List Chg} (hk: ∀ c∈cs,1≤c.kind∧c.kind≤7) (hl:cs.length≤1000000) (ns:List Int) (hns:ns.length=cs.length) (b3 bx i:Nat) (hi:i < cs.length) (us:List PV) (tg:CF) [At us 5 (.slice (ns.map eI) .ro)] [At us 6 (.slice ((Eb cs).map eI) tg)] (st:Bool) (y:Ident):
  BA Tryz.prog 127 [.agg (eIdent y),.raw (.pointer (some ⟨b3,0,none⟩)),.pt [.raw (.pointer (some ⟨bx,0,none⟩))] 0,.pt [.raw (.int .i64 (i:Int))] 0] [.box b3 4 [.raw (.bool st)],.box bx 104 us]
  (fun r L'=>r= .agg (eIdent y)∧L'= [.box b3 4 [.raw (.bool (gE cs ns i st y))],.box bx 104 us]):=by
 have hne:cs≠ []:=fun e=>by rw[e]at hi;exact absurd hi (DK _)
 have hm:=Oi (n:=y.n) hne
 refine C5 Tryz.func127 rfl Tryz.ntmps127 (rs:= [.cell 5 65]) rfl rfl fun hb LF=>?_
 rw[B0,B0,B8]
 refine wf ?_
 refine C6 fun b5=>?_
 refine wn ?_
 refine Bj 24 ?_ ?_
 ·decide+kernel
 refine wf ?_
 refine Av (fun h=>?_) (fun h=>?_)
 ·have e:gE cs ns i st y=true:=by unfold gE;rw[h];rfl
  rw[e]
  refine wf ?_
  exact⟨trivial,_,_,.cons (.cell 5 65 rfl AG FF.out (by simp)) .nil,.cons _ (.refl _),rfl,rfl⟩
 ·refine wf ?_
  refine Av (fun ho=>?_) (fun ho=>?_)
  ·have h0:0≤y.n:=by unfold Ea at ho;simp at ho;exact ho.2
   have hm':Dz cs y.n < ns.length:=by omega
   have hi':i < ns.length:=by omega
   have e:gE cs ns i st y=decide (ns[i] < ns[Dz cs y.n]):=by
    unfold gE
    rw[h,ho,GU,EK]
    simp[List.getD,hm',hi']
   rw[e]
   refine wf ?_
   refine QI (xs:= [.tmp 15,.tmp 16]) [.box bx 104 us] (.box b5 65 (eIdent Ident.zero):: .box b3 4 [.raw (.bool st)]::LF) (.raw (.int .i64 (Dz cs y.n:Int))) (f:=128) (cs:= []) (CA _) rfl rfl Oe (Vn hk hne hl bx us tg y h0) ?_
   refine wf ?_
   exact⟨trivial,_,_,.cons (.cell 5 65 rfl AG FF.out (by simp)) .nil,.cons _ (.refl _),rfl,rfl⟩
  ·have e:gE cs ns i st y=false:=by unfold gE;rw[h,ho];rfl
   rw[e]
   refine wf ?_
   exact⟨trivial,_,_,.cons (.cell 5 65 rfl AG FF.out (by simp)) .nil,.cons _ (.refl _),rfl,rfl⟩
theorem Zg {cs:List Chg} {ns:List Int} {i:Nat}: ∀ (l:List Ident) (st:Bool),l.foldl (gE cs ns i) st=(st||l.any fun y=>Ea y&&decide (ns.getD i 0 < ns.getD (Dz cs y.n) 0))
 | [],st=>by simp
 |y::l,st=>by rw[BM,Zg l,gE,ab,Bool.or_assoc]
theorem lU {cs:List Chg} (hk: ∀ c∈cs,1≤c.kind∧c.kind≤7) (hl:cs.length≤1000000) (ho: ∀ c∈cs,c.over.length≤1000) (ns:List Int) (hns:ns.length=cs.length) (bx:Nat) (us:List PV) (tg:CF) [At us 4 (.slice (cs.map eChg) .ro)] [At us 5 (.slice (ns.map eI) .ro)] [At us 6 (.slice ((Eb cs).map eI) tg)]:
  BA Tryz.prog 65 [.raw (.pointer (some ⟨bx,0,none⟩))] [.box bx 104 us]
  (fun r L'=>r= .raw (.bool ((List.range cs.length).any fun i=>(Ct (cs.getD i Chg.zero)).any fun y=>Ea y&&decide (ns.getD i 0 < ns.getD (Dz cs y.n) 0)))∧L'= [.box bx 104 us]):=by
 refine C5 Tryz.func65 rfl Tryz.ntmps65 (rs:= [.tmp 2]) rfl rfl fun hb LF=>?_
 rw[B0,B8]
 refine wf ?_
 refine Y9 fun b3=>?_
 let E:Nat→Bool:=fun i=>(Ct (cs.getD i Chg.zero)).any fun y=>Ea y&&decide (ns.getD i 0 < ns.getD (Dz cs y.n) 0)
 have hE: ∀ i,E i=(Ct (cs.getD i Chg.zero)).any fun y=>Ea y&&decide (ns.getD i 0 < ns.getD (Dz cs y.n) 0):=fun _=>rfl
 refine Ad (σ:=Nat) (fun k=>k≤cs.length) (fun k=>cs.length - k) (fun k=> [(1,.pt [.raw (.pointer (some ⟨bx,0,none⟩))] 0),(3,.raw (.pointer (some ⟨b3,0,none⟩))),(10,.slice (cs.map eChg) .ro),(11,.raw (.int .i64 cs.length)),(12,.raw (.int .i64 k))]) (fun k=> .box b3 4 [.raw (.bool ((List.range k).any E))]:: .box bx 104 us::LF) 0 (by omega) ⟨rfl,rfl,rfl,rfl,rfl⟩ (.refl _) ?_
 rintro k hk'
 refine wf ?_
 refine A6 (fun hc=>?_) (fun hc=>?_)
 ·have hlt:k < cs.length:=by omega
  have hm:=AF hlt
  have hov:=ho _ hm
  have e:(Ct cs[k]).foldl (gE cs ns k) ((List.range k).any E)=(List.range (k+1)).any E:=by
   rw[Zg,EJ,GG,ab,List.any_nil,yR,hE k]
   simp[List.getD,hlt]
  refine wf ?_
  refine C6 fun b4=>?_
  refine wz fun b5=>?_
  refine Ao 5 ?_
  refine Ao 4 ?_
  refine wf ?_
  refine Bx (xs:= [.tmp 17,.tmp 18]) [.box b3 4 [.raw (.bool ((List.range k).any E))],.box bx 104 us] LF (fun R'=>R'++LF) (f:=102) (cs:= []) (CA _) rfl rfl (.refl _) _ (Rn 127 _ (fun st:Bool=> [.box b3 4 [.raw (.bool st)],.box bx 104 us]) (fun y=>y) (gE cs ns k) cs[k] (fun st y _=>gj hk hl ns hns b3 bx k hlt us tg st y) hov ((List.range k).any E)) (fun _=> .refl _) fun r L' ⟨hr,hL'⟩=>?_
  rw[e]at hL'
  subst hL'
  rw[B0,B0,B8]
  refine wf ?_
  exact⟨k+1,by omega,by dsimp only;omega,⟨rfl,rfl,rfl,rfl,rfl⟩,.refl _⟩
 ·obtain rfl:k=cs.length:=by omega
  refine wf ?_
  exact⟨trivial,_,_,.cons (.tmp 2) .nil,.cons _ (.refl _),rfl,rfl⟩
end Go.Proofs
namespace Go.Q
open Go
def FP (p:Pat) (ns fs:List Int) (tf:CF) (ss:List Int) (ts:CF) (is:List Dig) (ti:CF):List PV:=Bz p++ [.slice (ns.map eI) .ro,.slice (fs.map eI) tf,.slice (ss.map eI) ts,.slice (is.map eDig) ti]
section
variable (p:Pat) (ns fs:List Int) (tf:CF) (ss:List Int) (ts:CF) (is:List Dig) (ti:CF)
@[simp] theorem xe:(FP p ns fs tf ss ts is ti).length=9:=rfl
instance zC:At (FP p ns fs tf ss ts is ti) 4 (.slice (p.changes.map eChg) .ro):=⟨rfl⟩
instance zB:At (FP p ns fs tf ss ts is ti) 5 (.slice (ns.map eI) .ro):=⟨rfl⟩
instance zA:At (FP p ns fs tf ss ts is ti) 6 (.slice (fs.map eI) tf):=⟨rfl⟩
instance z8:At (FP p ns fs tf ss ts is ti) 7 (.slice (ss.map eI) ts):=⟨rfl⟩
instance z7:At (FP p ns fs tf ss ts is ti) 8 (.slice (is.map eDig) ti):=⟨rfl⟩
instance xH (q:Pat):FK (FP p ns fs tf ss ts is ti) 0 (Bz q) (FP q ns fs tf ss ts is ti):=⟨rfl,Gg rfl⟩
instance xG (l:List Int):FK (FP p ns fs tf ss ts is ti) 5 [.slice (l.map eI) .ro] (FP p l fs tf ss ts is ti):=⟨rfl,Gg rfl⟩
end
end Go.Q
namespace Go.Proofs
open Go Go.Q
instance wI:Cp Tryz.prog 104 (FP Pat.zero [] [] .nil [] .nil [] .nil):=⟨by
 have h:((Tryz.prog.info? 104).bind (·.zero)).map (·.cells.toList)=some [.string ⟨#[]⟩,.string ⟨#[]⟩,.int .i64 0,.slice none 0 0,.slice none 0 0,.slice none 0 0,.slice none 0 0,.slice none 0 0,.slice none 0 0]:=by kernel_rfl
 obtain⟨v,h1,h2⟩:=Bn.1 h
 obtain⟨i,h3,h4⟩:=Dw.1 h1
 have hv: ∀ g,EB g [.string ⟨#[]⟩,.string ⟨#[]⟩,.int .i64 0,.slice none 0 0,.slice none 0 0,.slice none 0 0,.slice none 0 0,.slice none 0 0,.slice none 0 0] [.str [],.str [],.raw (.int .i64 0),.slice [] .ro,.slice [] .ro,.slice [] .ro,.slice [] .nil,.slice [] .nil,.slice [] .nil]:=fun g=> .cons (.str (by simp)) (.cons (.str (by simp)) (.cons (.raw _) (.cons .nilR (.cons .nilR (.cons .nilR (.cons (.nilN none (by simp)) (.cons (.nilN none (by simp)) (.cons (.nilN none (by simp)) (.nil g)))))))))
 exact⟨i,v,_,h3,h4,by rw[←h2],hv⟩⟩
attribute [local irreducible] ER AV Gw BA Fc
def Ku (cs:List Chg) (ns:List Int) (k:Nat) (j:Nat):Nat:=(((List.range k).filter fun d=>decide (ns.getD d 0=(j:Int))).map fun d=>cntC (cs.getD d Chg.zero)).sum
theorem S6 (cs:List Chg) (ns:List Int) (k j:Nat):Ku cs ns (k+1) j=Ku cs ns k j+if ns.getD k 0=(j:Int)then cntC (cs.getD k Chg.zero)else 0:=by
 unfold Ku
 rw[EJ,Fa,Ak,DC]
 by_cases h:ns.getD k 0=(j:Int)
 ·rw[if_pos h,Eu (by simpa using h)];simp
 ·rw[if_neg h,Ew (by simpa using h)];simp
theorem eT (cs:List Chg) (ns:List Int) (k j:Nat) (hk:k≤cs.length):Ku cs ns k j≤CP cs k:=by
 induction k with
 |zero=>simp[Ku]
 |succ k ih=>
  have:=ih (by omega)
  have hs:=HX (cs:=cs) (i:=k) (by omega)
  have hg:cs.getD k Chg.zero=cs[k]'(by omega):=by simp[List.getD,show k < cs.length by omega]
  rw[S6,hs,hg]
  split<;>omega
def Nc (cs:List Chg) (k:Nat):List Int:=(List.range k).map fun i=>(CP cs i:Int)
def H8 (cs:List Chg) (ns:List Int) (k:Nat):List Int:=(List.range k).map fun c=>(Ku cs ns c (ns.getD c 0).toNat:Int)
theorem gZ (cs:List Chg) (k:Nat):Nc cs (k+1)=Nc cs k++ [(CP cs k:Int)]:=by simp[Nc,EJ]
theorem fA (cs:List Chg) (ns:List Int) (k:Nat):H8 cs ns (k+1)=H8 cs ns k++ [(Ku cs ns k (ns.getD k 0).toNat:Int)]:=by simp[H8,EJ]
def Xn (cs:List Chg) (ns:List Int) (m k:Nat):List PV:=(List.range m).map fun j=> .raw (.int .i64 (Ku cs ns k j:Int))
theorem Ts {s:List Sto} (v:BH s) {x:Sto} (hx:x∈s) (ns:List Int) (hns:ns.length=x.patch.changes.length) (m:Nat) (hm:m≤1000000) (hr: ∀ e∈ns,0≤e∧e < m):BA Tryz.prog 64 [.agg (Bz x.patch),.slice (ns.map eI) .ro,.raw (.int .i64 (m:Int))] []
  (fun r L'=> ∃ b tf ts,r= .raw (.pointer (some ⟨b,0,none⟩))∧L'= [.box b 104 (FP x.patch ns (Nc x.patch.changes x.patch.changes.length) tf (H8 x.patch.changes ns x.patch.changes.length) ts [] .nil)]):=by
 have hb0:=v.close.1.2 x hx
 have i1:B1 (ED x.patch=false):=⟨hb0⟩
 obtain⟨_,_,g1,g2,gch⟩:=Ek hb0
 have hp:=EN (Fj (v.id x hx).1).1
 have hcn:cntS s x.id=CP x.patch.changes x.patch.changes.length:=by rw[v.cntS hx,hp.cnt]
 have hc16:cntS s x.id≤16200:=by rw[v.cntS hx];exact(E1 hb0).1
 have cc:=Ov v hx
 refine C5 Tryz.func64 rfl Tryz.ntmps64 (rs:= [.tmp 6]) rfl rfl fun hb LF=>?_
 refine vK fun b3=>?_
 refine vK fun b7=>?_
 refine rA (z:= .raw (.int .i64 0)) rfl rfl (by omega) (by omega) fun b8=>?_
 refine wf ?_
 refine E0 Oe ?_
 refine Ao 3 ?_
 refine EO 1 ?_
 refine EO 1 ?_
 refine Ad (σ:=Nat × CF × CF) (fun k=>k.1≤x.patch.changes.length) (fun k=>x.patch.changes.length - k.1) (fun k=> [(1,.slice (ns.map eI) .ro),(3,.pt (Bz x.patch) 0),(7,.raw (.pointer (some ⟨b7,0,none⟩))),(8,.raw (.slice (some ⟨b8,0,none⟩) m m)),(19,.slice (x.patch.changes.map eChg) .ro),(20,.raw (.int .i64 x.patch.changes.length)),(21,.raw (.int .i64 k.1))]) (fun k=> .tok k.2.1 (Nc x.patch.changes k.1).length 1:: .tok k.2.2 (H8 x.patch.changes ns k.1).length 1:: .box b8 3 (Xn x.patch.changes ns m k.1):: .box b7 104 (FP x.patch ns (Nc x.patch.changes k.1) k.2.1 (H8 x.patch.changes ns k.1) k.2.2 [] .nil)::LF) (0,.nil,.nil) (by dsimp only;omega) ⟨rfl,rfl,rfl,rfl,rfl,rfl,rfl⟩ (by
  have:Xn x.patch.changes ns m 0=List.replicate m (.raw (.int .i64 0)):=EA (by simp[Xn]) fun i h1 h2=>by simp[Xn,Ku]
  dsimp only
  rw[this];exact .refl _) ?_
 rintro⟨k,tf,ts⟩ hk
 dsimp only at hk ⊢
 refine wf ?_
 refine A6 (fun hc=>?_) (fun hc=>?_)
 ·have hlt:k < x.patch.changes.length:=by omega
  have cf:=W2 v hx hlt
  have hkn:k < ns.length:=by omega
  have hnr:=hr _ (AF hkn)
  obtain⟨c,hcx⟩:=zP hnr.1
  have hcm:c < m:=by omega
  have hng:ns.getD k 0=(c:Int):=by simp[List.getD,hkn,hcx]
  have hgk:x.patch.changes.getD k Chg.zero=x.patch.changes[k]:=by simp[List.getD,hlt]
  have hf1:=Ej x.patch.changes (show k≤x.patch.changes.length by omega)
  have hf2:=Ej x.patch.changes (show k+1≤x.patch.changes.length by omega)
  have hfs:=HX hlt
  have hck:=eT x.patch.changes ns k c hk
  have hfl:(Nc x.patch.changes k).length=k:=by simp[Nc]
  have hsl:(H8 x.patch.changes ns k).length=k:=by simp[H8]
  refine wf ?_
  refine Cv (σ:=Unit) (fun _=>True) (fun _=> [(1,.slice (ns.map eI) .ro),(3,.pt (Bz x.patch) 0),(7,.raw (.pointer (some ⟨b7,0,none⟩))),(8,.raw (.slice (some ⟨b8,0,none⟩) m m)),(19,.slice (x.patch.changes.map eChg) .ro),(20,.raw (.int .i64 x.patch.changes.length)),(21,.raw (.int .i64 k)),(9,.raw (.int .i64 k)),(10,.raw (.int .i64 (CP x.patch.changes k:Int))),(11,.raw (.int .i64 (CP x.patch.changes (k+1):Int)))]) (fun _=> .tok tf (Nc x.patch.changes k).length 1:: .tok ts (H8 x.patch.changes ns k).length 1:: .box b8 3 (Xn x.patch.changes ns m k):: .box b7 104 (FP x.patch ns (Nc x.patch.changes k) tf (H8 x.patch.changes ns k) ts [] .nil)::LF) ?_ ?_
  ·refine A6 (fun h=>?_) (fun h=>?_)
   ·have cf2:CB Tryz.prog 31 [.agg (Bz x.patch),.raw (.int .i64 ((k:Int)+1))] (.raw (.int .i64 (CP x.patch.changes (k+1):Int))):=W2 v hx (n:=k+1) (by omega)
    refine wf ?_
    exact⟨(),trivial,⟨rfl,rfl,rfl,rfl,rfl,rfl,rfl,rfl,rfl,rfl⟩,.refl _⟩
   ·have e:(cntS s x.id:Int)=(CP x.patch.changes (k+1):Int):=by rw[hcn,show k+1=x.patch.changes.length by omega]
    rw[←e]
    refine wf ?_
    exact⟨(),trivial,⟨rfl,rfl,rfl,rfl,rfl,rfl,rfl,rfl,rfl,rfl⟩,.refl _⟩
  rintro - -
  refine wf ?_
  have iat:At (Xn x.patch.changes ns m k) (0+c*1) (.raw (.int .i64 (Ku x.patch.changes ns k c:Int))):=aI (f:=fun j=>PV.raw (.int .i64 (Ku x.patch.changes ns k j:Int))) hcm
  have iput:FK (Xn x.patch.changes ns m k) (0+c*1) [.raw (.int .i64 (Ku x.patch.changes ns (k+1) c:Int))] (Xn x.patch.changes ns m (k+1)):=Ra (f:=fun j=>PV.raw (.int .i64 (Ku x.patch.changes ns k j:Int))) (g:=fun j=>PV.raw (.int .i64 (Ku x.patch.changes ns (k+1) j:Int))) hcm fun d hd=>by
   by_cases e:d=c
   ·rw[if_pos e,e]
   ·rw[if_neg e,S6,hng,if_neg (by omega),Dq]
  refine Il (f:=eI) (l:=Nc x.patch.changes k) (m:= [(CP x.patch.changes k:Int)]) (by rfl) (by rfl) (by simp only[B6];omega) (by simp only[B6];omega) (fun t=> .here) fun t1=>?_
  rw[←gZ]
  refine wf ?_
  refine GJ (ay:= .slice ((Nc x.patch.changes (k+1)).map eI) t1) (FP x.patch ns (Nc x.patch.changes (k+1)) t1 (H8 x.patch.changes ns k) ts [] .nil) rfl rfl Dv.out rfl (by simp) ?_
  have hss:H8 x.patch.changes ns k++ [(Ku x.patch.changes ns k c:Int)]=H8 x.patch.changes ns (k+1):=by rw[fA,hng];rfl
  refine AD ?_
  refine DX ?_
  refine Cv (σ:=CF) (fun _=>True) (fun _=> [(1,.slice (ns.map eI) .ro),(3,.pt (Bz x.patch) 0),(7,.raw (.pointer (some ⟨b7,0,none⟩))),(8,.raw (.slice (some ⟨b8,0,none⟩) m m)),(19,.slice (x.patch.changes.map eChg) .ro),(20,.raw (.int .i64 x.patch.changes.length)),(21,.raw (.int .i64 k)),(9,.raw (.int .i64 k)),(10,.raw (.int .i64 (CP x.patch.changes k:Int))),(11,.raw (.int .i64 (CP x.patch.changes (k+1):Int)))]) (fun t2=> .tok t1 (Nc x.patch.changes (k+1)).length 1:: .tok t2 (H8 x.patch.changes ns (k+1)).length 1:: .box b8 3 (Xn x.patch.changes ns m k):: .box b7 104 (FP x.patch ns (Nc x.patch.changes (k+1)) t1 (H8 x.patch.changes ns (k+1)) t2 [] .nil)::LF) ?_ ?_
  ·refine wn ?_
   refine Gp [4,11,13,16] (by decide+kernel) ?_
   refine B4 0 ?_
   refine B4 1 ?_
   refine B4 2 ?_
   refine B4 3 ?_
   refine B4 5 ?_
   refine B4 6 ?_
   refine B4 7 ?_
   refine B4 8 ?_
   refine B4 9 ?_
   rw[hcx]
   refine B4 10 (hq:=fun _=>by refine Fb (k:=c) rfl rfl hcm ?_;refine AD ?_;exact⟨Cz _ _ _,rfl⟩) ?_
   refine Cw (fuel:=6) [4,11] (by decide+kernel) (by simp) fun i hi=>?_
   simp only[AI,Ai,or_false]at hi
   rcases hi with rfl|rfl
   ·refine⟨_,rfl,?_⟩
    refine wo ?_
    refine AD ?_
    refine Ab 5 11 ?_
    refine wo ?_
    refine AD ?_
    refine B4 12 ?_
    refine Ab 3 13 ?_
    refine Il (f:=eI) (l:=H8 x.patch.changes ns k) (m:= [(Ku x.patch.changes ns k c:Int)]) (by rfl) (by rfl) (by simp only[B6];omega) (by simp only[B6];omega) (fun t=> .there .here) fun t2=>?_
    rw[hss]
    refine AD ?_
    refine B4 14 ?_
    refine B4 15 ?_
    refine Ab 0 16 ?_
    refine GJ (ay:= .slice ((H8 x.patch.changes ns (k+1)).map eI) t2) (FP x.patch ns (Nc x.patch.changes (k+1)) t1 (H8 x.patch.changes ns (k+1)) t2 [] .nil) rfl rfl Dv.out rfl (by simp) ?_
    refine AD ?_
    refine Cu (by decide+kernel) ?_
    exact⟨t2,trivial,⟨rfl,rfl,rfl,rfl,rfl,rfl,rfl,rfl,rfl,rfl⟩,.refl _⟩
   ·refine⟨_,rfl,?_⟩
    refine wo ?_
    refine AD ?_
    refine B4 12 ?_
    refine Ab 4 4 ?_
    refine wo ?_
    refine AD ?_
    refine Ab 3 13 ?_
    refine Il (f:=eI) (l:=H8 x.patch.changes ns k) (m:= [(Ku x.patch.changes ns k c:Int)]) (by rfl) (by rfl) (by simp only[B6];omega) (by simp only[B6];omega) (fun t=> .there .here) fun t2=>?_
    rw[hss]
    refine AD ?_
    refine B4 14 ?_
    refine B4 15 ?_
    refine Ab 0 16 ?_
    refine GJ (ay:= .slice ((H8 x.patch.changes ns (k+1)).map eI) t2) (FP x.patch ns (Nc x.patch.changes (k+1)) t1 (H8 x.patch.changes ns (k+1)) t2 [] .nil) rfl rfl Dv.out rfl (by simp) ?_
    refine AD ?_
    refine Cu (by decide+kernel) ?_
    exact⟨t2,trivial,⟨rfl,rfl,rfl,rfl,rfl,rfl,rfl,rfl,rfl,rfl⟩,.refl _⟩
  rintro t2 -
  have ev:((Ku x.patch.changes ns (k+1) c:Nat):Int)=(Ku x.patch.changes ns k c:Int)+((CP x.patch.changes (k+1):Int) - (CP x.patch.changes k:Int)):=by rw[S6,hng,if_pos rfl,hgk,hfs];omega
  rw[ev]at iput
  refine wf ?_
  rw[hcx]
  refine Fb (k:=c) rfl rfl hcm ?_
  refine wf ?_
  refine Fb (k:=c) rfl rfl hcm ?_
  refine wf ?_
  exact⟨(k+1,t1,t2),by dsimp only;omega,by dsimp only;omega,⟨rfl,rfl,rfl,rfl,rfl,rfl,rfl⟩,.refl _⟩
 ·obtain rfl:k=x.patch.changes.length:=by omega
  refine wf ?_
  exact⟨trivial,_,[_],.cons (.tmp 6) .nil,.cons _ (.cons _ (.cons _ (.refl _))),_,_,_,rfl,rfl⟩
def fQ (cs:List Chg) (ns ss:List Int) (is:List Dig) (k:Nat) (y:Ident):Ident:=
 if Ea y=true then⟨if ns.getD (Dz cs y.n) 0=(k:Int)then Dig.zero else is.getD (ns.getD (Dz cs y.n) 0).toNat Dig.zero,y.n - CP cs (Dz cs y.n)+ss.getD (Dz cs y.n) 0⟩else y
theorem kO {cs:List Chg} (hk: ∀ c∈cs,1≤c.kind∧c.kind≤7) (hl:cs.length≤1000000) (hf:CP cs cs.length≤1000000000) (p:Pat) (ns ss:List Int) (hns:ns.length=cs.length) (hss:ss.length=cs.length) (hsb: ∀ e∈ss,0≤e∧e≤1000000000) (tf ts ti:CF) (is:List Dig) (bx k:Nat) (y:Ident)
  (hy:Ea y=true→y.n≤1000000000∧cs≠ []∧(¬ns.getD (Dz cs y.n) 0=(k:Int)→ ∃ j:Nat,ns.getD (Dz cs y.n) 0=(j:Int)∧j < is.length)):
  BA Tryz.prog 129 [.agg (eIdent y),.pt [.raw (.pointer (some ⟨bx,0,none⟩))] 0,.pt [.raw (.int .i64 (k:Int))] 0] [.box bx 104 (FP p ns (Eb cs) tf ss ts is ti)]
  (fun r L'=>r= .agg (eIdent (fQ cs ns ss is k y))∧L'= [.box bx 104 (FP p ns (Eb cs) tf ss ts is ti)]):=by
 refine C5 Tryz.func129 rfl Tryz.ntmps129 (rs:= [.cell 4 65]) rfl rfl fun hb LF=>?_
 rw[B0,B8]
 refine wf ?_
 refine C6 fun b4=>?_
 refine wf ?_
 refine AW (fun h=>?_) (fun h=>?_)
 ·have e:fQ cs ns ss is k y=y:=by unfold fQ;rw[if_neg (by simpa using h)]
  rw[e]
  refine wf ?_
  exact⟨trivial,_,_,.cons (.cell 4 65 rfl AG FF.out (by simp)) .nil,.cons _ (.refl _),rfl,rfl⟩
 have ho:Ea y=true:=by simpa using h
 have h0:0≤y.n:=by unfold Ea at ho;simp at ho;exact ho.2
 obtain⟨hyn,hne,hj⟩:=hy ho
 have hm:=Oi (n:=y.n) hne
 unfold fQ
 rw[if_pos ho]
 have hfm:=Ej cs (show Dz cs y.n≤cs.length by omega)
 have hmf:Dz cs y.n < (Eb cs).length:=by rw[Jh];exact hm
 have hmn:Dz cs y.n < ns.length:=by omega
 have hms:Dz cs y.n < ss.length:=by omega
 have e1:ns.getD (Dz cs y.n) 0=ns[Dz cs y.n]:=by simp[List.getD,hmn]
 have e2:ss.getD (Dz cs y.n) 0=ss[Dz cs y.n]:=by simp[List.getD,hms]
 have hsm:=hsb _ (AF hms)
 have e3:(Eb cs)[Dz cs y.n]=(CP cs (Dz cs y.n):Int):=NC hmf
 rw[e1]at hj ⊢
 rw[e2]
 refine wf ?_
 refine QI (xs:= [.tmp 11,.tmp 12]) [.box bx 104 (FP p ns (Eb cs) tf ss ts is ti)] (.box b4 65 (eIdent Ident.zero)::LF) (.raw (.int .i64 (Dz cs y.n:Int))) (f:=128) (cs:= []) (CA _) rfl rfl (.swap _ _ _) (Vn hk hne hl bx _ tf y h0) ?_
 refine wn ?_
 refine Bj 18 ?_ ?_
 ·decide+kernel
 refine wf ?_
 rw[e3]
 refine A6 (fun h2=>?_) (fun h2=>?_)
 ·rw[if_pos h2]
  refine wf ?_
  exact⟨trivial,_,_,.cons (.cell 4 65 rfl AG FF.out (by simp)) .nil,.cons _ (.refl _),rfl,rfl⟩
 ·rw[if_neg h2]
  obtain⟨j,hje,hjl⟩:=hj h2
  have hjn:(ns[Dz cs y.n]).toNat < is.length:=by omega
  have e4:is.getD (ns[Dz cs y.n]).toNat Dig.zero=is[(ns[Dz cs y.n]).toNat]:=by simp[List.getD,hjn]
  rw[e4]
  refine wn ?_
  refine Bj 15 ?_ ?_
  ·decide+kernel
  refine wf ?_
  exact⟨trivial,_,_,.cons (.cell 4 65 rfl AG FF.out (by simp)) .nil,.cons _ (.refl _),rfl,rfl⟩
end Go.Proofs
namespace Go.Proofs
open Go Go.Q
def Nh (Q:List (List Int)) (n:Nat):List Int:=(List.range n).map fun c=>RA Q (c:Nat)
theorem XN (Q:List (List Int)) (n:Nat):(Nh Q n).length=n:=by simp[Nh]
theorem uE {Q:List (List Int)} {n c:Nat} (h:c < n):(Nh Q n).getD c 0=RA Q (c:Nat):=by simp[Nh,List.getD,h]
theorem Vt {Q:List (List Int)} {n c:Nat} (h:Fw n [] Q=true) (hc:c < n):(Nh Q n).getD c 0=(K3 (Eh Q) c:Int):=by
 rw[uE hc,Sq h hc];rfl
theorem nX {cs:List Chg} {ns:List Int} {k c:Nat} (h:c < k):(H8 cs ns k).getD c 0=(Ku cs ns c (ns.getD c 0).toNat:Int):=by simp[H8,List.getD,h]
theorem lf {cs:List Chg} {Q:List (List Int)} (h:Fw cs.length [] Q=true) {c:Nat} (hc:c < cs.length):Ku cs (Nh Q cs.length) c ((Nh Q cs.length).getD c 0).toNat=TD (Eh Q) cs c:=by
 unfold Ku TD
 rw[Vt h hc,Dx]
 congr 2
 refine iL fun d hd=>?_
 have hd:=Br.1 hd
 rw[Vt h (by omega),decide_eq_decide]
 omega
theorem xw {cs:List Chg} {Q:List (List Int)} (h:Fw cs.length [] Q=true) (hne:cs≠ []) (is:List Dig) (k:Nat) (y:Ident):fQ cs (Nh Q cs.length) (H8 cs (Nh Q cs.length) cs.length) is k y=fS (Eh Q) cs is k y:=by
 have hm:=Oi (n:=y.n) hne
 unfold fQ fS
 rw[Vt h hm,nX hm,lf h hm,Dx]
 have e:((K3 (Eh Q) (Dz cs y.n):Int)=(k:Int))=(K3 (Eh Q) (Dz cs y.n)=k):=by rw[eq_iff_iff];omega
 simp only[e]
theorem nW {cs:List Chg} {ns:List Int} {m:Nat} (hm:CP cs cs.length≤m): ∀ e∈H8 cs ns cs.length,0≤e∧e≤m:=by
 intro e he
 unfold H8 at he
 obtain⟨c,hc,rfl⟩:=AQ.1 he
 have hc:=Br.1 hc
 have h1:=eT cs ns c (ns.getD c 0).toNat (by omega)
 have h2:=Ej cs (show c≤cs.length by omega)
 omega
theorem pr {cs:List Chg} {Q:List (List Int)} (h:Fw cs.length [] Q=true):((List.range cs.length).any fun i=>(Ct (cs.getD i Chg.zero)).any fun y=>Ea y&&decide ((Nh Q cs.length).getD i 0 < (Nh Q cs.length).getD (Dz cs y.n) 0))=Ki (Eh Q) cs:=by
 unfold Ki
 rw[Ih,Bu,Bu]
 refine exists_congr fun i=>and_congr_right fun hi=>?_
 have hi:=Br.1 hi
 have hne:cs≠ []:=fun e=>by rw[e]at hi;exact absurd hi (DK _)
 have hf:(fun y=>Ea y&&decide ((Nh Q cs.length).getD i 0 < (Nh Q cs.length).getD (Dz cs y.n) 0))=fun y=>Ea y&&decide (K3 (Eh Q) i < K3 (Eh Q) (Dz cs y.n)):=by
  funext y
  congr 1
  rw[Vt h hi,Vt h (Oi hne),decide_eq_decide]
  omega
 rw[hf]
theorem uO (cs:List Chg):Nc cs cs.length=Eb cs:=rfl
end Go.Proofs
namespace Go.Q
open Go
instance yc (p:Pat) (ns fs:List Int) (tf:CF) (ss:List Int) (ts:CF) (is:List Dig) (ti:CF):Y7 (FP p ns fs tf ss ts is ti) 0 5 (Bz p):=⟨rfl,Gg rfl⟩
end Go.Q
namespace Go.Proofs
open Go Go.Q
theorem ob {a b c d:Res} {l:List Res}:(a::b::c::d::l).Perm (d::a::b::c::l):=((Oe (a:=b) (b:=c) (c:=d)).cons a).trans (.swap d a (b::c::l))
attribute [local irreducible] ER AV Gw BA Fc
theorem oc {s:List Sto} (v:BH s) {x:Sto} (hx:x∈s) (ns ss:List Int) (hns:ns.length=x.patch.changes.length) (hss:ss.length=x.patch.changes.length) (hsb: ∀ e∈ss,0≤e∧e≤1000000000) (tf ts ti:CF) (is:List Dig) (his:is.length≤1000) (bx k:Nat) (l:List Nat) (hll: ∀ c∈l,c < x.patch.changes.length) (hl:l.length≤1000000) (tl:CF) (m:Mta)
  (hy: ∀ c∈l,∀ y∈Ct (x.patch.changes.getD c Chg.zero),Ea y=true→ ¬ns.getD (Dz x.patch.changes y.n) 0=(k:Int)→ ∃ j:Nat,ns.getD (Dz x.patch.changes y.n) 0=(j:Int)∧j < is.length):
  BA Tryz.prog 66 [.raw (.pointer (some ⟨bx,0,none⟩)),.raw (.int .i64 (k:Int)),.slice ((l.map fun c:Nat=>(c:Int)).map eI) tl,.agg (FY m)] [.box bx 104 (FP x.patch ns (Eb x.patch.changes) tf ss ts is ti)]
  (fun r L'=>(∃ tg,r= .agg (ia m (Kj (sortD (BP x.patch++is))) (l.map fun c=>Eo (fQ x.patch.changes ns ss is k) (x.patch.changes.getD c Chg.zero)) tg))∧L'= [.box bx 104 (FP x.patch ns (Eb x.patch.changes) tf ss ts is ti)]):=by
 refine C5 Tryz.func66 rfl Tryz.ntmps66 (rs:= [.cell 8 40]) rfl rfl fun hb LF=>?_
 rw[B0,B8]
 refine wf ?_
 refine C6 fun b8=>?_
 refine AD ?_
 repeat(refine DX ?_)
 refine CQ (by kernel_rfl) ?_
 iterate 6 (refine w1 ?_)
 refine TM (hZ:=qk) (c0:= [.str m.author]) (c1:= [.str m.message]) (c2:= [.raw (.int .i64 m.time)]) (r0:= [.str m.author,.str [],.raw (.int .i64 0),.raw (.slice none 0 0),.slice [] .nil]) (r1:= [.str m.author,.str m.message,.raw (.int .i64 0),.raw (.slice none 0 0),.slice [] .nil]) (r2:=MN m (.slice none 0 0) [] .nil) (hP0:=⟨rfl,by simp⟩) (hP1:=⟨rfl,by simp⟩) (hP2:=⟨rfl,by simp⟩) ?_ ?_ ?_ rfl rfl rfl ?_
 ·exact Dj.one (c:= .str m.author) Dv.out
 ·exact Dj.one (c:= .str m.message) Dv.out
 ·exact Dj.one (c:= .raw (.int .i64 m.time)) Dv.out
 refine C6 fun b9=>?_
 refine QF (new:=MN m (.slice none 0 0) [] .nil) (hf:=⟨eH rfl⟩) rfl rfl .here rfl (by simp) ?_
 refine AD ?_
 have hb0:=v.close.1.2 x hx
 have i1:B1 (ED x.patch=false):=⟨hb0⟩
 have hnl:(BP x.patch).length≤s.length:=by
  have:=Eg (JG x.patch).nodup (fun d hd=>v.close.2 x hx d hd)
  unfold ids at this
  rwa [AR]at this
 have hsl:=v.close.1.1
 refine DX ?_
 refine Cv (σ:=Value × List Res) (fun q=>VB q.1 (BP x.patch++is) q.2) (fun q=> [(2,.slice ((l.map fun c:Nat=>(c:Int)).map eI) tl),(4,.pt [.raw (.pointer (some ⟨bx,0,none⟩))] 0),(5,.pt [.raw (.int .i64 (k:Int))] 0),(8,.raw (.pointer (some ⟨b8,0,none⟩))),(9,.raw (.pointer (some ⟨b9,0,none⟩)))]) (fun q=> .box b9 40 (MN m q.1 [] .nil):: .box b8 40 (Bz Pat.zero):: .box bx 104 (FP x.patch ns (Eb x.patch.changes) tf ss ts is ti)::(q.2++LF)) ?_ ?_
 ·refine wn ?_
  refine Gp [3,5,9,10,12] (by decide+kernel) ?_
  refine B4 0 ?_
  refine B4 1 ?_
  refine B4 2 ?_
  refine B4 6 ?_
  refine B4 7 ?_
  refine B4 8 ?_
  refine Cw (fuel:=6) [3,9] (by decide+kernel) (by simp) fun i hi=>?_
  simp only[AI,Ai,or_false]at hi
  rcases hi with rfl|rfl
  ·refine⟨_,rfl,?_⟩
   refine wo ?_
   refine AD ?_
   refine B4 4 ?_
   refine Cw (fuel:=4) [5,9] (by decide+kernel) (by simp) fun i hi=>?_
   simp only[AI,Ai,or_false]at hi
   rcases hi with rfl|rfl
   ·refine⟨_,rfl,?_⟩
    refine Bx (xs:= [.tmp 23]) [] (.box b9 40 (MN m (.slice none 0 0) [] .nil):: .box b8 40 (Bz Pat.zero):: .box bx 104 (FP x.patch ns (Eb x.patch.changes) tf ss ts is ti)::LF) (fun R'=> .box b9 40 (MN m (.slice none 0 0) [] .nil):: .box b8 40 (Bz Pat.zero):: .box bx 104 (FP x.patch ns (Eb x.patch.changes) tf ss ts is ti)::(R'++LF)) (f:=57) (cs:= []) (CA _) rfl rfl (.refl _) _ (Ow (BP x.patch) .ro (by omega)) (fun _=>Du.symm) fun r R1 ⟨v1,hr,hv1⟩=>?_
    subst hr
    refine AD ?_
    refine Ab 3 9 ?_
    refine wo ?_
    refine AD ?_
    refine Ab 2 10 ?_
    refine Im (f:=eDig) (l:=BP x.patch) (m:=is) (R:=R1) (LF:= .box b9 40 (MN m (.slice none 0 0) [] .nil):: .box b8 40 (Bz Pat.zero):: .box bx 104 (FP x.patch ns (Eb x.patch.changes) tf ss ts is ti)::LF) (fun R'=> .box b9 40 (MN m (.slice none 0 0) [] .nil):: .box b8 40 (Bz Pat.zero):: .box bx 104 (FP x.patch ns (Eb x.patch.changes) tf ss ts is ti)::(R'++LF)) rfl rfl hv1 Du (fun R'=>Du.symm) (by omega) (by omega) fun v2 R2 hv2=>?_
    refine AD ?_
    refine B4 11 ?_
    refine Ab 0 12 ?_
    refine Hr (MN m v2 [] .nil) rfl rfl hv2.one rfl (by simp) ?_
    refine AD ?_
    refine Cu (by decide+kernel) ?_
    exact⟨(v2,R2),hv2,⟨rfl,rfl,rfl,rfl,rfl⟩,.refl _⟩
   ·refine⟨_,rfl,?_⟩
    refine wo ?_
    refine AD ?_
    refine Ab 3 5 ?_
    refine Bx (xs:= [.tmp 23]) [] (.box b9 40 (MN m (.slice none 0 0) [] .nil):: .box b8 40 (Bz Pat.zero):: .box bx 104 (FP x.patch ns (Eb x.patch.changes) tf ss ts is ti)::LF) (fun R'=> .box b9 40 (MN m (.slice none 0 0) [] .nil):: .box b8 40 (Bz Pat.zero):: .box bx 104 (FP x.patch ns (Eb x.patch.changes) tf ss ts is ti)::(R'++LF)) (f:=57) (cs:= []) (CA _) rfl rfl (.refl _) _ (Ow (BP x.patch) .ro (by omega)) (fun _=>Du.symm) fun r R1 ⟨v1,hr,hv1⟩=>?_
    subst hr
    refine AD ?_
    refine Ab 2 10 ?_
    refine Im (f:=eDig) (l:=BP x.patch) (m:=is) (R:=R1) (LF:= .box b9 40 (MN m (.slice none 0 0) [] .nil):: .box b8 40 (Bz Pat.zero):: .box bx 104 (FP x.patch ns (Eb x.patch.changes) tf ss ts is ti)::LF) (fun R'=> .box b9 40 (MN m (.slice none 0 0) [] .nil):: .box b8 40 (Bz Pat.zero):: .box bx 104 (FP x.patch ns (Eb x.patch.changes) tf ss ts is ti)::(R'++LF)) rfl rfl hv1 Du (fun R'=>Du.symm) (by omega) (by omega) fun v2 R2 hv2=>?_
    refine AD ?_
    refine B4 11 ?_
    refine Ab 0 12 ?_
    refine Hr (MN m v2 [] .nil) rfl rfl hv2.one rfl (by simp) ?_
    refine AD ?_
    refine Cu (by decide+kernel) ?_
    exact⟨(v2,R2),hv2,⟨rfl,rfl,rfl,rfl,rfl⟩,.refl _⟩
  ·refine⟨_,rfl,?_⟩
   refine wo ?_
   refine AD ?_
   refine Ab 5 3 ?_
   refine wo ?_
   refine AD ?_
   refine B4 4 ?_
   refine Ab 3 5 ?_
   refine Bx (xs:= [.tmp 23]) [] (.box b9 40 (MN m (.slice none 0 0) [] .nil):: .box b8 40 (Bz Pat.zero):: .box bx 104 (FP x.patch ns (Eb x.patch.changes) tf ss ts is ti)::LF) (fun R'=> .box b9 40 (MN m (.slice none 0 0) [] .nil):: .box b8 40 (Bz Pat.zero):: .box bx 104 (FP x.patch ns (Eb x.patch.changes) tf ss ts is ti)::(R'++LF)) (f:=57) (cs:= []) (CA _) rfl rfl (.refl _) _ (Ow (BP x.patch) .ro (by omega)) (fun _=>Du.symm) fun r R1 ⟨v1,hr,hv1⟩=>?_
   subst hr
   refine AD ?_
   refine Ab 2 10 ?_
   refine Im (f:=eDig) (l:=BP x.patch) (m:=is) (R:=R1) (LF:= .box b9 40 (MN m (.slice none 0 0) [] .nil):: .box b8 40 (Bz Pat.zero):: .box bx 104 (FP x.patch ns (Eb x.patch.changes) tf ss ts is ti)::LF) (fun R'=> .box b9 40 (MN m (.slice none 0 0) [] .nil):: .box b8 40 (Bz Pat.zero):: .box bx 104 (FP x.patch ns (Eb x.patch.changes) tf ss ts is ti)::(R'++LF)) rfl rfl hv1 Du (fun R'=>Du.symm) (by omega) (by omega) fun v2 R2 hv2=>?_
   refine AD ?_
   refine B4 11 ?_
   refine Ab 0 12 ?_
   refine Hr (MN m v2 [] .nil) rfl rfl hv2.one rfl (by simp) ?_
   refine AD ?_
   refine Cu (by decide+kernel) ?_
   exact⟨(v2,R2),hv2,⟨rfl,rfl,rfl,rfl,rfl⟩,.refl _⟩
 rintro⟨vd,R⟩ hR
 dsimp only at hR ⊢
 have hlen:(BP x.patch++is).length≤2000:=by rw[AA];omega
 have hsl2:(sortD (BP x.patch++is)).length=(BP x.patch++is).length:=by unfold sortD;rw[Cg]
 obtain⟨_,_,g1,g2,gch⟩:=Ek hb0
 have hkd:=v.kinds hx
 have hp:=EN (Fj (v.id x hx).1).1
 have hc16:CP x.patch.changes x.patch.changes.length≤16200:=by rw[←hp.cnt];exact(E1 hb0).1
 obtain⟨l',hl'⟩: ∃ l':List Int,l'=l.map fun c:Nat=>(c:Int):=⟨_,rfl⟩
 have hll':l'.length=l.length:=by rw[hl',AR]
 rw[←hl']
 refine wf ?_
 refine Bx (xs:= [.tmp 32,.func 61]) R (.box b9 40 (MN m vd [] .nil):: .box b8 40 (Bz Pat.zero):: .box bx 104 (FP x.patch ns (Eb x.patch.changes) tf ss ts is ti)::LF) (fun R'=> .box b9 40 (MN m vd [] .nil):: .box b8 40 (Bz Pat.zero):: .box bx 104 (FP x.patch ns (Eb x.patch.changes) tf ss ts is ti)::(R'++LF)) (f:=60) (cs:= []) (CA _) rfl rfl Du _ (Sk (BP x.patch++is) vd R hR (by omega)) (fun _=>Du.symm) fun r L2 ⟨v2,e2,hv2⟩=>?_
 subst e2
 refine wf ?_
 refine Bx (xs:= [.tmp 35]) L2 (.box b9 40 (MN m v2 [] .nil):: .box b8 40 (Bz Pat.zero):: .box bx 104 (FP x.patch ns (Eb x.patch.changes) tf ss ts is ti)::LF) (fun R'=> .box b9 40 (MN m v2 [] .nil):: .box b8 40 (Bz Pat.zero):: .box bx 104 (FP x.patch ns (Eb x.patch.changes) tf ss ts is ti)::(R'++LF)) (f:=62) (cs:= []) (CA _) rfl rfl Du _ (Pw (sortD (BP x.patch++is)) v2 L2 hv2 (by omega)) (fun _=>Du.symm) fun r L3 ⟨hr,hL3⟩=>?_
 subst hr hL3
 refine wo ?_
 refine GJ (ay:= .slice ((Kj (sortD (BP x.patch++is))).map eDig) .ro) (ia m (Kj (sortD (BP x.patch++is))) [] .nil) rfl rfl Dv.out rfl (by simp) ?_
 refine wf ?_
 refine E0 (.swap _ _ _) ?_
 refine EO 139 ?_
 refine Ad (σ:=Nat × List Chg × CF) (fun q=>q.1≤l.length∧q.2.1=(l.take q.1).map fun c=>Eo (fQ x.patch.changes ns ss is k) (x.patch.changes.getD c Chg.zero)) (fun q=>l.length - q.1) (fun q=> [(4,.pt [.raw (.pointer (some ⟨bx,0,none⟩))] 0),(5,.pt [.raw (.int .i64 (k:Int))] 0),(8,.raw (.pointer (some ⟨b8,0,none⟩))),(9,.raw (.pointer (some ⟨b9,0,none⟩))),(38,.slice (l'.map eI) tl),(39,.raw (.int .i64 l'.length)),(40,.raw (.int .i64 q.1))]) (fun q=> .tok q.2.2 (q.2.1).length 139:: .box b8 40 (Bz Pat.zero):: .box b9 40 (ia m (Kj (sortD (BP x.patch++is))) q.2.1 q.2.2):: .box bx 104 (FP x.patch ns (Eb x.patch.changes) tf ss ts is ti)::LF) (0,[],.nil) ⟨by simp,by simp⟩ ⟨rfl,rfl,rfl,rfl,rfl,rfl,rfl⟩ (.refl _) ?_
 rintro⟨j,cs1,tg⟩ ⟨hj,hcs⟩
 dsimp only at hj hcs ⊢
 refine wf ?_
 refine A6 (fun hc=>?_) (fun hc=>?_)
 ·have hjl:j < l.length:=by omega
  have hjl':j < l'.length:=by omega
  have hlj:=hll _ (AF hjl)
  have hel:l'[j]=(l[j]:Int):=by simp[hl']
  have hl1:cs1.length=j:=by rw[hcs];simp;omega
  have hch:=AF hlj
  have hgd:x.patch.changes.getD l[j] Chg.zero=x.patch.changes[l[j]]:=by simp[List.getD,hlj]
  have hyj:=hy _ (AF hjl)
  rw[hgd]at hyj
  refine wn ?_
  refine HQ [(4,.pt [.raw (.pointer (some ⟨bx,0,none⟩))] 0),(5,.pt [.raw (.int .i64 (k:Int))] 0),(8,.raw (.pointer (some ⟨b8,0,none⟩))),(9,.raw (.pointer (some ⟨b9,0,none⟩))),(11,.raw (.int .i64 (l[j]:Int))),(38,.slice (l'.map eI) tl),(39,.raw (.int .i64 l'.length)),(40,.raw (.int .i64 j))] ⟨rfl,rfl,rfl,rfl,congrArg (fun e=>PV.raw (.int .i64 e)) hel,rfl,rfl,rfl⟩ (.refl _) ?_
  refine Bj 13 ?_ ?_
  ·decide+kernel
  refine wf ?_
  refine QI (xs:= [.tmp 53,.tmp 54]) [.box bx 104 (FP x.patch ns (Eb x.patch.changes) tf ss ts is ti)] (.tok tg cs1.length 139:: .box b8 40 (Bz Pat.zero):: .box b9 40 (ia m (Kj (sortD (BP x.patch++is))) cs1 tg)::LF) (.agg (eChg (Eo (fQ x.patch.changes ns ss is k) x.patch.changes[l[j]]))) (f:=102) (cs:= []) (CA _) rfl rfl ob (Rn 129 _ (fun _:Unit=> [.box bx 104 (FP x.patch ns (Eb x.patch.changes) tf ss ts is ti)]) (fQ x.patch.changes ns ss is k) (fun _ _=>()) x.patch.changes[l[j]] (fun _ y hy'=>kO hkd (by omega) (by omega) x.patch ns ss hns hss hsb tf ts ti is bx k y fun ho=>⟨by have:=Sz v hx hch y hy';omega,fun e=>by rw[e]at hlj;exact absurd hlj (DK _),hyj y hy' ho⟩) (by have:=(gch _ hch).over;omega) ()) ?_
  refine dB fun v'=>?_
  refine GJ (ay:= .slice ((cs1++ [Eo (fQ x.patch.changes ns ss is k) x.patch.changes[l[j]]]).map eChg) v') (ia m (Kj (sortD (BP x.patch++is))) (cs1++ [Eo (fQ x.patch.changes ns ss is k) x.patch.changes[l[j]]]) v') rfl rfl Dv.out rfl (by simp) ?_
  refine wf ?_
  refine wf ?_
  refine⟨(j+1,(cs1++ [Eo (fQ x.patch.changes ns ss is k) x.patch.changes[l[j]]]),v'),⟨by dsimp only;omega,?_⟩,by dsimp only;omega,⟨rfl,rfl,rfl,rfl,rfl,rfl,rfl⟩,.refl _⟩
  dsimp only
  rw[A7 hjl,Ak,hcs,List.map_singleton,hgd]
 ·have hcs:cs1=l.map fun c=>Eo (fQ x.patch.changes ns ss is k) (x.patch.changes.getD c Chg.zero):=by rw[hcs,AE (by omega)]
  rw[←hcs]
  refine wf ?_
  exact⟨trivial,_,_,.cons (.cell 8 40 rfl (AH _ AG) FF.out (by simp)) .nil,.cons _ (.cons _ (.cons _ (.refl _))),⟨tg,rfl⟩,rfl⟩
end Go.Proofs
