/- Contracts of the program: splitting: partition. -/
import Derived.Test.YtaibdmankdppkaaGreatDoorZau
set_option linter.unusedSimpArgs false
set_option linter.unusedVariables false
set_option maxHeartbeats 8000000
namespace Go.Q
open Go
def Pg (l:List Int):List PV:= [.slice (l.map eI) .ro]
@[simp] theorem pY (l:List Int):(Pg l).length=1:=rfl
instance :NS Pg 1:=⟨pY⟩
theorem aW {n:Nat} {f:Nat→PV} {c:Nat} (h:c < n):At ((List.range n).map f) (0+c*1) (f c):=⟨by simp[h]⟩
theorem Rn {n:Nat} {f g:Nat→PV} {c:Nat} (h:c < n) (hg: ∀ d,d < n→g d=if d=c then g c else f d):FO ((List.range n).map f) (0+c*1) [g c] ((List.range n).map g):=⟨by
 have hs:((List.range n).map f).set c (g c)=(List.range n).map g:=by
  refine EC (by simp) fun i h1 h2=>?_
  simp only[AR,HH]at h2
  rw[mo,BK,BK,dN,hg i h2]
  by_cases e:c=i
  ·rw[if_pos e,if_pos e.symm]
  ·rw[if_neg e,if_neg fun k=>e k.symm]
 refine⟨?_,by simp;omega⟩
 rw[BC,IV,←hs,H5,if_pos (by simpa using h),AV,Mb]
 rfl⟩
end Go.Q
namespace Go.Proofs
open Go Go.Q
attribute [local irreducible] ER AU H8 BA Fk
theorem Qy (A:List (List Int)) (m:List Int) (c:Int):RP (A++ [m]) c=if c∈A.flatten then RP A c else if c∈m then(A.length:Int)else -1:=by
 unfold RP
 rw[List.findIdx?_append]
 cases h:A.findIdx? (fun l=>decide (c∈l))with
 |some k=>
  obtain⟨hk,h1,_⟩:=Kv.1 h
  rw[if_pos (EB.2 ⟨_,AB hk,BJ h1⟩)]
  rfl
 |none=>
  have hn:c∉A.flatten:=fun hc=>by
   obtain⟨l,hl,hcl⟩:=EB.1 hc
   have:=wU.1 h l hl
   simp[hcl]at this
  rw[if_neg hn]
  by_cases hm:c∈m
  ·rw[if_pos hm,List.findIdx?_cons]
   simp[hm]
  ·rw[if_neg hm,List.findIdx?_cons]
   simp[hm]
theorem S7 (A:List (List Int)) (c:Int): -1≤RP A c∧RP A c < A.length∧(0≤RP A c↔c∈A.flatten):=by
 unfold RP
 cases h:A.findIdx? (fun l=>decide (c∈l))with
 |some k=>
  obtain⟨hk,h1,_⟩:=Kv.1 h
  refine⟨by dsimp only;omega,by dsimp only;omega,fun _=>EB.2 ⟨_,AB hk,BJ h1⟩,fun _=>by dsimp only;omega⟩
 |none=>
  refine⟨by decide,by dsimp only;omega,fun h=>absurd h (by decide),fun hc=>?_⟩
  obtain⟨l,hl,hcl⟩:=EB.1 hc
  have:=wU.1 h l hl
  simp[hcl]at this
theorem bu {n:Nat} {D l:List Int} {ps:List (List Int)}:FL n D (l::ps)=(U2 n D l&&decide (l≠ [])&&FL n (D++l) ps):=rfl
theorem gF {n:Nat} {D l:List Int} {i:Nat} (hi:i < l.length) (h:RJ n D l i=true):U2 n D l=false:=by
 unfold U2
 exact JC.2 ⟨i,Bg.2 hi,by simp[h]⟩
theorem bt {n:Nat} {D l:List Int} (h: ∀ i,i < l.length→RJ n D l i=false):U2 n D l=true:=by
 unfold U2
 exact Bc.2 fun i hi=>by simp[h i (Bg.1 hi)]
def Zh (n:Nat) (A:List (List Int)):List PV:=(List.range n).map fun c=> .raw (.int .i64 (RP A (c:Nat)))
theorem pg (n:Nat) (A:List (List Int)):Zh n (A++ [[]])=Zh n A:=by
 unfold Zh
 refine Ca fun c _=>?_
 rw[Qy]
 obtain⟨h1,h2,h3⟩:=S7 A c
 split
 ·rfl
 ·rename_i h
  rw[if_neg Ai]
  have: ¬0≤RP A c:=fun k=>h (h3.1 k)
  rw[show RP A c= -1 by omega]
theorem pf {n:Nat} {A:List (List Int)} {l:List Int} {i:Nat} (hi:i < l.length) {c:Nat} (hc:c < n) (hx:l[i]=(c:Int)) (hn:(c:Int)∉A.flatten++l.take i):FO (Zh n (A++ [l.take i])) (0+c*1) [.raw (.int .i64 A.length)] (Zh n (A++ [l.take (i+1)])):=by
 have h1:(c:Int)∉A.flatten:=fun h=>hn (E1 _ h)
 have h2:(c:Int)∉l.take i:=fun h=>hn (DW _ h)
 have e:l.take (i+1)=l.take i++ [(c:Int)]:=by rw[A7 hi,hx]
 have hg:RP (A++ [l.take (i+1)]) c=A.length:=by rw[Qy,if_neg h1,if_pos (by rw[e];simp)]
 have:=Rn (f:=fun d=>PV.raw (.int .i64 (RP (A++ [l.take i]) (d:Nat)))) (g:=fun d=>PV.raw (.int .i64 (RP (A++ [l.take (i+1)]) (d:Nat)))) hc fun d hd=>by
  by_cases hdc:d=c
  ·rw[if_pos hdc,hdc]
  ·rw[if_neg hdc,Qy,Qy]
   have:((d:Int)∈l.take (i+1))=((d:Int)∈l.take i):=by
    rw[e]
    simp only[Aj,Ah,eq_iff_iff]
    exact⟨fun h=>h.elim id fun h=>absurd (by omega) hdc,.inl⟩
   simp only[this]
 rw[hg]at this
 exact this
theorem qU {n:Nat} {A:List (List Int)} {l:List Int} {i:Nat} (hi:i < l.length) {c:Nat} (hx:l[i]=(c:Int)):RJ n A.flatten l i=(decide (n≤c)||decide (0≤RP (A++ [l.take i]) c)||(decide (0 < i)&&decide ((c:Int)≤l.getD (i - 1) 0))):=by
 unfold RJ
 have e:l.getD i 0=(c:Int):=by simp[List.getD,hi,hx]
 have h3:=(S7 (A++ [l.take i]) c).2.2
 rw[CG,Gb]at h3
 rw[e,Cp (show ¬(c:Int) < 0 by omega),Gd]
 congr 1
 congr 1
 ·rw[decide_eq_decide];omega
 ·rw[decide_eq_decide];exact h3.symm
theorem XK (n:Nat) (Q:List (List Int)) (t:CC) (hn:n≤1000000) (hQ:Q.length≤1000000) (hl: ∀ l∈Q,l.length≤1000000):BA Tryz.prog 63 [.raw (.int .i64 (n:Int)),.slice (Q.map Pg) t] []
  (fun r L'=>L'= []∧((r= .tuple [.slice [] .nil,.raw (.bool false)]∧FL n [] Q=false)∨ ∃ b,r= .tuple [.slice (((List.range n).map fun c=>RP Q (c:Nat)).map eI) .ro,.raw (.bool b)]∧FL n [] Q=b)):=by
 refine C4 Tryz.func63 rfl Tryz.ntmps63 (rs:= [.tmp 4,.tmp 5]) rfl rfl fun hb LF=>?_
 refine wf ?_
 refine rN (z:= .raw (.int .i64 0)) rfl rfl (by omega) (by omega) fun b=>?_
 refine wf ?_
 refine KY rfl ?_
 refine wf ?_
 refine Ab (σ:=Nat) (fun k=>k≤n) (fun k=>n - k) (fun k=> [(0,.raw (.int .i64 (n:Int))),(1,.slice (Q.map Pg) t),(6,.raw (.slice (some ⟨b,0,none⟩) n n)),(16,.raw (.int .i64 (n:Int))),(17,.raw (.int .i64 k))]) (fun k=> .box b 3 ((List.range n).map fun c=>if c < k then .raw (.int .i64 (-1))else .raw (.int .i64 0))::LF) 0 (by omega) ⟨rfl,rfl,rfl,rfl,rfl⟩ (by
  have:((List.range n).map fun c=>if c < 0 then(PV.raw (.int .i64 (-1)))else .raw (.int .i64 0))=List.replicate n (.raw (.int .i64 0)):=EC (by simp) fun i h1 h2=>by simp
  rw[this];exact .refl _) ?_
 rintro k hk
 refine wf ?_
 refine A6 (fun hc=>?_) (fun hc=>?_)
 ·have hlt:k < n:=by omega
  have ip:FO ((List.range n).map fun c=>if c < k then(PV.raw (.int .i64 (-1)))else .raw (.int .i64 0)) (0+k*1) [.raw (.int .i64 (-1))] ((List.range n).map fun c=>if c < k+1 then .raw (.int .i64 (-1))else .raw (.int .i64 0)):=by
   have:=Rn (f:=fun c=>if c < k then(PV.raw (.int .i64 (-1)))else .raw (.int .i64 0)) (g:=fun c=>if c < k+1 then(PV.raw (.int .i64 (-1)))else .raw (.int .i64 0)) hlt fun d hd=>by
    by_cases e:d=k
    ·rw[if_pos e];simp[e]
    ·rw[if_neg e]
     by_cases h2:d < k
     ·rw[if_pos h2,if_pos (by omega)]
     ·rw[if_neg h2,if_neg (by omega)]
   simpa using this
  refine wf ?_
  refine Fi (k:=k) rfl rfl hlt ?_
  refine wf ?_
  exact⟨k+1,by omega,by dsimp only;omega,⟨rfl,rfl,rfl,rfl,rfl⟩,.refl _⟩
 have h0:((List.range n).map fun c=>if c < k then(PV.raw (.int .i64 (-1)))else .raw (.int .i64 0))=Zh n []:=by
  unfold Zh
  refine Ca fun c hcm=>?_
  have:=Bg.1 hcm
  rw[if_pos (by omega)]
  rfl
 rw[h0]
 clear h0
 refine wf ?_
 refine Ab (σ:=Nat) (fun k=>k≤Q.length∧FL n [] Q=FL n (Q.take k).flatten (Q.drop k)∧(Q.take k).flatten.length≤k*1000000) (fun k=>Q.length - k) (fun k=> [(0,.raw (.int .i64 (n:Int))),(1,.slice (Q.map Pg) t),(6,.raw (.slice (some ⟨b,0,none⟩) n n)),(8,.raw (.int .i64 ((Q.take k).flatten.length:Nat))),(24,.slice (Q.map Pg) t),(25,.raw (.int .i64 Q.length)),(26,.raw (.int .i64 k))]) (fun k=> .box b 3 (Zh n (Q.take k))::LF) 0 ⟨by simp,by simp,by simp⟩ ⟨rfl,rfl,rfl,rfl,rfl,rfl,rfl⟩ (.refl _) ?_
 rintro k ⟨hk,hok,hfl⟩
 refine wf ?_
 refine A6 (fun hc=>?_) (fun hc=>?_)
 ·have hlt:k < Q.length:=by omega
  have hll:=hl _ (AB hlt)
  rw[C6 hlt,bu]at hok
  obtain⟨l,hql⟩: ∃ l,l=Q[k]:=⟨_,rfl⟩
  rw[←hql]at hok hll
  have htk:Q.take (k+1)=Q.take k++ [l]:=by rw[A7 hlt,hql]
  generalize hD:(Q.take k).flatten=D at hok hfl
  refine wf ?_
  rw[←hql]
  refine A6 (fun he=>?_) (fun he=>?_)
  ·refine wf ?_
   have hl0:l= []:=BN (by omega)
   exact⟨trivial,_,[],.cons (.tmp 4) (.cons (.tmp 5) .nil),.cons _ (.refl _),rfl,.inl ⟨rfl,by rw[hok,hl0];simp⟩⟩
  obtain⟨A,hA⟩: ∃ A,A=Q.take k:=⟨_,rfl⟩
  have hAl:A.length=k:=by rw[hA];simp;omega
  rw[←hA]at hD htk ⊢
  refine wf ?_
  refine Ab (σ:=Nat) (fun i=>i≤l.length∧ ∀ j,j < i→RJ n D l j=false) (fun i=>l.length - i) (fun i=> [(0,.raw (.int .i64 (n:Int))),(1,.slice (Q.map Pg) t),(6,.raw (.slice (some ⟨b,0,none⟩) n n)),(8,.raw (.int .i64 ((D.length+i:Nat)))),(9,.raw (.int .i64 k)),(10,.slice (l.map eI) .ro),(24,.slice (Q.map Pg) t),(25,.raw (.int .i64 Q.length)),(26,.raw (.int .i64 k)),(34,.slice (l.map eI) .ro),(35,.raw (.int .i64 l.length)),(36,.raw (.int .i64 i))]) (fun i=> .box b 3 (Zh n (A++ [l.take i]))::LF) 0 ⟨by simp,fun j hj=>absurd hj (DF _)⟩ ⟨rfl,rfl,rfl,by rw[←hD];rfl,rfl,rfl,rfl,rfl,rfl,rfl,rfl,rfl⟩ (by rw[List.take_zero,pg];exact .refl _) ?_
  rintro i ⟨hi,hbad⟩
  refine wf ?_
  refine A6 (fun hc2=>?_) (fun hc2=>?_)
  ·have hil:i < l.length:=by omega
   have hret:RJ n D l i=true→FL n [] Q=false:=fun h=>by rw[hok,gF hil h];rfl
   refine wf ?_
   by_cases hx0:l[i] < 0
   ·have hb1:RJ n D l i=true:=by
     unfold RJ
     rw[show l.getD i 0=l[i] by simp[List.getD,hil],BF hx0];rfl
    have hret:=hret hb1
    generalize l[i]=x at*
    refine BT [(67,.raw (.bool (RJ n D l i))),(0,.raw (.int .i64 (n:Int))),(1,.slice (Q.map Pg) t),(6,.raw (.slice (some ⟨b,0,none⟩) n n)),(8,.raw (.int .i64 ((D.length+i:Nat)))),(9,.raw (.int .i64 k)),(10,.slice (l.map eI) .ro),(11,.raw (.int .i64 i)),(12,.raw (.int .i64 x)),(24,.slice (Q.map Pg) t),(25,.raw (.int .i64 Q.length)),(26,.raw (.int .i64 k)),(34,.slice (l.map eI) .ro),(35,.raw (.int .i64 l.length)),(36,.raw (.int .i64 i))] (.box b 3 (Zh n (A++ [l.take i]))::LF) ?_ ?_
    ·repeat' (first|(refine A6 (fun h=>?_) (fun h=>?_)<;>refine wf ?_)|(refine AX (fun h=>?_) (fun h=>?_)<;>refine wf ?_)|(refine AW (fun h=>?_) (fun h=>?_)<;>refine wf ?_)|(refine Ay (fun h=>?_) (fun h=>?_)<;>(have h2:=h;(try simp only[AD,A8,AI,AN]at h2);refine wf ?_)))
     all_goals first|(refine⟨⟨C9 (by rfl) ?_,rfl,rfl,rfl,rfl,rfl,rfl,rfl,rfl,rfl,rfl,rfl,rfl,rfl,rfl⟩,.refl _⟩;first|(rw[hb1];done)|(rw[hb1];first|(simp_all;done)|(exfalso;simp_all;omega)))|(exfalso;simp_all;done)|(exfalso;simp_all;omega)|(trace_state;fail)
    refine wf ?_
    refine AW (fun hr=>?_) (fun hr=>?_)
    ·refine wf ?_
     exact⟨trivial,_,[],.cons (.tmp 4) (.cons (.tmp 5) .nil),.cons _ (.refl _),rfl,.inl ⟨rfl,hret⟩⟩
    ·rw[hb1]at hr
     simp at hr
   ·obtain⟨c,hcx⟩:=zY (show 0≤l[i] by omega)
    have hbe:=qU (n:=n) (A:=A) hil hcx
    rw[hD]at hbe
    have iat: ∀ hcn:c < n,At (Zh n (A++ [l.take i])) (0+c*1) (.raw (.int .i64 (RP (A++ [l.take i]) (c:Nat)))):=fun hcn=>aW (f:=fun c=>PV.raw (.int .i64 (RP (A++ [l.take i]) (c:Nat)))) hcn
    rw[hcx]
    by_cases hcn:c < n
    ·have iat:=iat hcn
     refine BT [(67,.raw (.bool (RJ n D l i))),(0,.raw (.int .i64 (n:Int))),(1,.slice (Q.map Pg) t),(6,.raw (.slice (some ⟨b,0,none⟩) n n)),(8,.raw (.int .i64 ((D.length+i:Nat)))),(9,.raw (.int .i64 k)),(10,.slice (l.map eI) .ro),(11,.raw (.int .i64 i)),(12,.raw (.int .i64 (c:Int))),(24,.slice (Q.map Pg) t),(25,.raw (.int .i64 Q.length)),(26,.raw (.int .i64 k)),(34,.slice (l.map eI) .ro),(35,.raw (.int .i64 l.length)),(36,.raw (.int .i64 i))] (.box b 3 (Zh n (A++ [l.take i]))::LF) ?_ ?_
     ·rcases QJ i with hi0|hi0
      ·rw[Cp (show ¬0 < i by omega),vS,Bool.or_false]at hbe
       repeat' (first|(refine Fi (k:=c) rfl rfl hcn ?_;refine wf ?_)|(refine A6 (fun h=>?_) (fun h=>?_)<;>refine wf ?_)|(refine AX (fun h=>?_) (fun h=>?_)<;>refine wf ?_)|(refine AW (fun h=>?_) (fun h=>?_)<;>refine wf ?_)|(refine Ay (fun h=>?_) (fun h=>?_)<;>(have h2:=h;(try simp only[AD,A8,AI,AN]at h2);refine wf ?_)))
       all_goals first|(refine⟨⟨C9 (by rfl) ?_,rfl,rfl,rfl,rfl,rfl,rfl,rfl,rfl,rfl,rfl,rfl,rfl,rfl,rfl⟩,.refl _⟩;rw[hbe];first|(simp_all;done)|(simp_all;omega)|grind)|(exfalso;simp_all;done)|(exfalso;simp_all;omega)|(trace_state;fail)
      ·have hj:i - 1 < l.length:=by omega
       repeat' (first|(refine Fi (k:=c) rfl rfl hcn ?_;refine wf ?_)|(refine A6 (fun h=>?_) (fun h=>?_)<;>refine wf ?_)|(refine AX (fun h=>?_) (fun h=>?_)<;>refine wf ?_)|(refine AW (fun h=>?_) (fun h=>?_)<;>refine wf ?_)|(refine Ay (fun h=>?_) (fun h=>?_)<;>(have h2:=h;(try simp only[AD,A8,AI,AN]at h2);refine wf ?_)))
       all_goals first|(refine⟨⟨C9 (by rfl) ?_,rfl,rfl,rfl,rfl,rfl,rfl,rfl,rfl,rfl,rfl,rfl,rfl,rfl,rfl⟩,.refl _⟩;rw[hbe];first|(simp_all;done)|(simp_all;omega)|grind)|(exfalso;simp_all;done)|(exfalso;simp_all;omega)|(trace_state;fail)
     refine wf ?_
     refine AW (fun hr=>?_) (fun hr=>?_)
     ·refine wf ?_
      exact⟨trivial,_,[],.cons (.tmp 4) (.cons (.tmp 5) .nil),.cons _ (.refl _),rfl,.inl ⟨rfl,hret hr⟩⟩
     have hnm:(c:Int)∉A.flatten++l.take i:=fun hm=>by
      have:=hbe.symm.trans hr
      have h3:=(S7 (A++ [l.take i]) c).2.2
      rw[CG,Gb]at h3
      rw[BF (h3.2 hm)]at this
      simp at this
     have iput:=pf hil hcn hcx hnm
     rw[hAl]at iput
     refine wf ?_
     refine Fi (k:=c) rfl rfl hcn ?_
     refine wf ?_
     refine⟨i+1,⟨by omega,fun j hj=>?_⟩,by dsimp only;omega,⟨rfl,rfl,rfl,rfl,rfl,rfl,rfl,rfl,rfl,rfl,rfl,rfl⟩,.refl _⟩
     by_cases e:j=i
     ·rw[e];exact hr
     ·exact hbad j (by omega)
    ·have hb1:RJ n D l i=true:=by rw[hbe,BF (show n≤c by omega)];rfl
     have hret:=hret hb1
     refine BT [(67,.raw (.bool (RJ n D l i))),(0,.raw (.int .i64 (n:Int))),(1,.slice (Q.map Pg) t),(6,.raw (.slice (some ⟨b,0,none⟩) n n)),(8,.raw (.int .i64 ((D.length+i:Nat)))),(9,.raw (.int .i64 k)),(10,.slice (l.map eI) .ro),(11,.raw (.int .i64 i)),(12,.raw (.int .i64 (c:Int))),(24,.slice (Q.map Pg) t),(25,.raw (.int .i64 Q.length)),(26,.raw (.int .i64 k)),(34,.slice (l.map eI) .ro),(35,.raw (.int .i64 l.length)),(36,.raw (.int .i64 i))] (.box b 3 (Zh n (A++ [l.take i]))::LF) ?_ ?_
     ·repeat' (first|(refine A6 (fun h=>?_) (fun h=>?_)<;>refine wf ?_)|(refine AX (fun h=>?_) (fun h=>?_)<;>refine wf ?_)|(refine AW (fun h=>?_) (fun h=>?_)<;>refine wf ?_)|(refine Ay (fun h=>?_) (fun h=>?_)<;>(have h2:=h;(try simp only[AD,A8,AI,AN]at h2);refine wf ?_)))
      all_goals first|(refine⟨⟨C9 (by rfl) ?_,rfl,rfl,rfl,rfl,rfl,rfl,rfl,rfl,rfl,rfl,rfl,rfl,rfl,rfl⟩,.refl _⟩;first|(rw[hb1];done)|(rw[hb1];first|(simp_all;done)|(exfalso;simp_all;omega)))|(exfalso;simp_all;done)|(exfalso;simp_all;omega)|(trace_state;fail)
     refine wf ?_
     refine AW (fun hr=>?_) (fun hr=>?_)
     ·refine wf ?_
      exact⟨trivial,_,[],.cons (.tmp 4) (.cons (.tmp 5) .nil),.cons _ (.refl _),rfl,.inl ⟨rfl,hret⟩⟩
     ·rw[hb1]at hr
      simp at hr
  ·obtain rfl:i=l.length:=by omega
   have hl0:l≠ []:=fun e=>he (by rw[e];rfl)
   rw[bt (fun j hj=>hbad j (by omega)),BF hl0,EK,EK]at hok
   refine wf ?_
   refine⟨k+1,⟨by omega,?_,?_⟩,by dsimp only;omega,⟨rfl,rfl,rfl,?_,rfl,rfl,rfl⟩,?_⟩
   ·rw[hok,htk,CG,Gb,hD]
   ·rw[htk,CG,Gb,hD,AA];omega
   ·have e2:((Q.take (k+1)).flatten.length:Nat)=D.length+l.length:=by rw[htk,CG,Gb,hD,AA]
    simp only[e2]
    rfl
   ·dsimp only
    rw[htk,EA];exact .refl _
 ·have hk2:k=Q.length:=by omega
  subst hk2
  rw[List.drop_length,EA]at hok
  rw[EA]at hfl ⊢
  have e1:(((List.range n).map fun c=>RP Q (c:Nat)).map eI).flatten=Zh n Q:=by
   unfold Zh
   rw[CR]
   generalize List.range n=rs
   induction rs with
   |nil=>rfl
   |cons x xs ih=>rw[Ar,Ch,ih];rfl
  have hv1:Ht 3 1 (.slice (some ⟨b,0,none⟩) n n) (((List.range n).map fun c=>RP Q (c:Nat)).map eI) [.box b 3 (Zh n Q)]:=by
   have:=Ht.row (E:=3) (sz:=1) (r:=b) (n:=n) (cap:=n) (xs:=((List.range n).map fun c=>RP Q (c:Nat)).map eI) (rest:= []) (by simp) (Ak _) (by simp[eI]) (by rw[e1];simp[Zh])
   rw[e1,BW]at this
   exact this
  refine Jj 6 hv1 ⟨by simp[maxN];omega,by simp[maxN];omega⟩ (.refl _) rfl ?_
  refine wf ?_
  refine⟨trivial,_,[],.cons (.tmp 4) (.cons (.tmp 5) .nil),.refl _,rfl,.inr ⟨_,rfl,?_⟩⟩
  rw[hok]
  show decide (Q.flatten.length=n)=decide ((Q.flatten.length:Int)=n)
  rw[decide_eq_decide];omega
theorem eE {cs:List Chg} {n:Int} {k:Nat} (hk:k < cs.length) (h1:(CD cs k:Int)≤n) (h2: ∀ i,k < i→i < cs.length→ ¬(CD cs i:Int)≤n):DT cs n=k:=by
 unfold DT
 rw[OO (f:=CD cs) (fun i j h=>EN cs h) hk h1 h2]
 rfl
def mC (b:Nat) (k:Nat) (LF:List Res):List Res:= .box b 3 [.raw (.int .i64 (k:Int))]::LF
theorem P6 {s:List Sto} (v:BP s) {x:Sto} (hx:x∈s) {n:Nat} (hn:n < x.patch.changes.length):C8 Tryz.prog 31 [.agg (Bn x.patch),.raw (.int .i64 (n:Int))] (.raw (.int .i64 (CD x.patch.changes n:Int))):=⟨by
 have hb0:=v.close.1.2 x hx
 have i1:B0 (E7 x.patch=false):=⟨hb0⟩
 obtain⟨_,_,g1,g2,gch⟩:=EW hb0
 have hp:=EH (Fc (v.id x hx).1).1
 have hc16:CD x.patch.changes x.patch.changes.length≤16200:=by
  have h1:cntS s x.id=CD x.patch.changes x.patch.changes.length:=by rw[v.cntS hx,hp.cnt]
  have h2:cntS s x.id≤16200:=by rw[v.cntS hx];exact(Dc hb0).1
  omega
 refine Av Tryz.func31 Tryz.ntmps31 rfl (rs:= [.tmp 4]) rfl rfl fun hb LF=>?_
 have he:(CV x.patch).2=0:=by
  have:=(v.id x hx).1
  rw[Ej]at this
  split at this
  ·rename_i h;exact absurd this h
  ·rename_i h;simpa using h
 refine wf ?_
 refine BT [(21,.raw (.bool (false))),(1,.raw (.int .i64 (n:Int))),(2,.pt (Bn x.patch) 0)] (LF) ?_ ?_
 ·repeat' (first|(refine A6 (fun h=>?_) (fun h=>?_)<;>refine wf ?_)|(refine AX (fun h=>?_) (fun h=>?_)<;>refine wf ?_)|(refine AW (fun h=>?_) (fun h=>?_)<;>refine wf ?_)|(refine Ay (fun h=>?_) (fun h=>?_)<;>(have h2:=h;(try simp only[AD,A8,AI,AN]at h2);refine wf ?_)))
  all_goals (refine⟨⟨C9 (by rfl) ?_,rfl,rfl⟩,.refl _⟩;first|(simp_all;done)|(exfalso;simp_all;omega)|grind|(trace_state;fail))
 refine wf ?_
 refine YD fun b5=>?_
 obtain⟨L,hL⟩: ∃ L,L=x.patch.changes.take n:=⟨_,rfl⟩
 have hfl:CD L L.length=CD x.patch.changes n:=by
  unfold CD
  rw[EA,hL]
 have hLl:L.length=n:=by rw[hL,Aa];omega
 have hLm: ∀ c∈L,c∈x.patch.changes:=fun c hc=>Et (hL ▸ hc)
 have hnn:=EN x.patch.changes (show n≤x.patch.changes.length by omega)
 rw[←hL]
 clear hL
 refine Ab (σ:=Nat) (fun k=>k≤L.length) (fun k=>L.length - k) (fun k=> [(5,.raw (.pointer (some ⟨b5,0,none⟩))),(25,.slice (L.map eChg) .ro),(26,.raw (.int .i64 L.length)),(27,.raw (.int .i64 k))]) (fun k=>mC b5 (CD L k) LF) 0 (by omega) ⟨rfl,rfl,rfl,rfl⟩ (by rw[SA];exact .refl _) ?_
 rintro k hk
 have hmk:=EN L (show k≤L.length by omega)
 unfold mC
 refine wf ?_
 refine A6 (fun hc=>?_) (fun hc=>?_)
 ·have hlt:k < L.length:=by omega
  have hm:=hLm _ (AB hlt)
  have hkk:=v.kinds hx _ hm
  have hll:=(gch _ hm).lines
  have hs:=FV hlt
  have hm2:=EN L (show k+1≤L.length by omega)
  refine wz fun b7=>?_
  refine Al 7 ?_
  refine wf ?_
  refine GK (S4 L[k] (CD L k:Nat) hkk ⟨by omega,by omega,by omega⟩) [34] (σ:=Nat) (fun pre s=>s=CD L k+pre.length) (fun _ _=>False) (fun s LF'=>mC b5 s LF') (CD L k) LF (.refl _) rfl (fun _=>rfl) (by simp) (fun _ _=>rfl) (.refl _) (by simp) ?_ ?_ (fun _ _ h=>h.elim)
  ·rintro pre y q LF' hpre hI
   have hpl:=hpre.length_le
   rw[Hc,AA,Au]at hpl
   unfold mC
   refine wf ?_
   refine⟨q+1,by dsimp only at hI ⊢;rw[AA,Au];omega,?_⟩
   exact .refl _
  ·rintro q hI
   rw[Hc,←hs]at hI
   unfold mC
   refine wf ?_
   refine⟨k+1,by omega,by dsimp only;omega,⟨rfl,rfl,rfl,rfl⟩,?_⟩
   rw[hI];exact .refl _
 ·obtain rfl:k=L.length:=by omega
  refine wf ?_
  refine B1 (.of_eq ?_)
  rw[hfl]⟩
instance xm (a b:Int):C8 Tryz.prog 229 [.raw (.int .i64 a),.raw (.int .i64 b)] (.raw (.bool (decide (a < b)))):=⟨by
 refine Av Tryz.func229 Tryz.ntmps229 rfl (rs:= [.tmp 4]) rfl rfl fun hb LF=>?_
 refine wf ?_
 refine B1 (.of_eq rfl)⟩
instance vt (a:Int):C8 Tryz.prog 230 [.raw (.int .i64 a)] (.raw (.bool false)):=⟨by
 refine Av Tryz.func230 Tryz.ntmps230 rfl (rs:= [.tmp 2]) rfl rfl fun hb LF=>?_
 refine wf ?_
 refine B1 (.of_eq ?_)
 simp⟩
def Q4 (l:List Int) (n:Int):Nat:=l.findIdx fun x=>decide (n≤x)
theorem oo {l:List Int} {n:Int} {i:Nat} (hi:i≤l.length) (h1: ∀ k (h:k < l.length),k < i→l[k] < n) (h2: ∀ k (h:k < l.length),i≤k→n≤l[k]):Q4 l n=i:=by
 unfold Q4
 by_cases h:i < l.length
 ·refine qp h |>.2 ⟨BF (h2 i h (Ak _)),fun j hj=>?_⟩
  have:=h1 j (by omega) hj
  simp;omega
 ·obtain rfl:i=l.length:=by omega
  refine A0I.2 fun y hy=>?_
  obtain⟨k,hk,rfl⟩:=AY.1 hy
  have:=h1 k hk hk
  simp;omega
theorem qS (l:List Int) (t:CC) (n:Int) (ha:l.Pairwise (·< ·)) (hl:l.length≤1000000):C8 Tryz.prog 181 [.slice (l.map eI) t,.raw (.int .i64 n)] (.tuple [.raw (.int .i64 (Q4 l n)),.raw (.bool (decide (l[Q4 l n]? =some n)))]):=⟨by
 refine Av Tryz.func181 Tryz.ntmps181 rfl (rs:= [.tmp 4,.tmp 5]) rfl rfl fun hb LF=>?_
 refine wf ?_
 refine Ab (σ:=Nat × Nat) (fun k=>k.1≤k.2∧k.2≤l.length∧(∀ i (h:i < l.length),i < k.1→l[i] < n)∧(∀ i (h:i < l.length),k.2≤i→n≤l[i])) (fun k=>k.2 - k.1) (fun k=> [(0,.slice (l.map eI) t),(1,.raw (.int .i64 n)),(6,.raw (.int .i64 l.length)),(7,.raw (.int .i64 k.1)),(8,.raw (.int .i64 k.2))]) (fun _=>LF) (0,l.length) ⟨RQ _,Ak _,fun i _ h=>absurd h (DF _),fun i h h2=>absurd h (Nat.not_lt.2 h2)⟩ ⟨rfl,rfl,rfl,rfl,rfl⟩ (.refl _) ?_
 rintro⟨i,j⟩ ⟨hij,hjn,h1,h2⟩
 dsimp only at hij hjn h1 h2 ⊢
 have mono: ∀ a b (ha':a < l.length) (hb':b < l.length),a < b→l[a] < l[b]:=fun a b x y h=>Ax.1 ha a b x y h
 refine wf ?_
 refine A6 (fun hc=>?_) (fun hc=>?_)
 ·have hlt:i < j:=by omega
  obtain⟨m,hm⟩: ∃ m,m=(i+j) / 2 ^ (min 1 64):=⟨_,rfl⟩
  have hm2:m=(i+j) / 2:=hm
  have hmn:m < l.length:=by omega
  refine wf ?_
  refine X7 (n:=(((i+j) / 2 ^ (min 1 64):Nat):Int)) rfl (IntWalk.i64_in _ ⟨by omega,by omega⟩) ?_
  rw[←hm]
  refine wf ?_
  refine A6 (fun h=>?_) (fun h=>?_)
  ·refine wf ?_
   refine⟨(m+1,j),⟨by dsimp only;omega,hjn,fun k hk hkm=>?_,h2⟩,by dsimp only;omega,⟨rfl,rfl,rfl,rfl,rfl⟩,.refl _⟩
   dsimp only at hkm
   by_cases e:k=m
   ·subst e;exact h
   ·have:=mono k m hk hmn (by omega);omega
  ·refine wf ?_
   refine⟨(i,m),⟨by dsimp only;omega,by dsimp only;omega,h1,fun k hk hkm=>?_⟩,by dsimp only;omega,⟨rfl,rfl,rfl,rfl,rfl⟩,.refl _⟩
   dsimp only at hkm
   by_cases e:k=m
   ·subst e;omega
   ·have:=mono m k hmn hk (by omega);omega
 ·have e:i=j:=by omega
  subst e
  rw[oo hjn h1 h2]
  by_cases hin:i < l.length
  ·have g:decide ((i:Int) < (l.length:Int))=true:=BF (by omega)
   refine wf ?_
   refine BT [(5,.raw (.bool (decide (l[i]? =some n)))),(4,.raw (.int .i64 i))] (LF) ?_ ?_
   ·repeat' (first|(refine A6 (fun h=>?_) (fun h=>?_)<;>refine wf ?_)|(refine AX (fun h=>?_) (fun h=>?_)<;>refine wf ?_)|(refine AW (fun h=>?_) (fun h=>?_)<;>refine wf ?_)|(refine Ay (fun h=>?_) (fun h=>?_)<;>(have h2:=h;(try simp only[AD,A8,AI,AN]at h2);refine wf ?_)))
    all_goals (refine⟨⟨C9 (by rfl) ?_,rfl⟩,.refl _⟩;rw[AO hin];first|(simp_all;done)|(simp_all;omega)|(trace_state;fail))
   refine wf ?_
   refine HT (.of_eq rfl)
  ·have g:decide ((i:Int) < (l.length:Int))=false:=Cp (by omega)
   refine wf ?_
   refine HT (.of_eq ?_)
   rw[FW (by omega)]
   rfl⟩
def Ee (cs:List Chg):List Int:=(List.range cs.length).map fun i=>(CD cs i:Int)
theorem Jm (cs:List Chg):(Ee cs).length=cs.length:=by simp[Ee]
theorem NL {cs:List Chg} {i:Nat} (h:i < (Ee cs).length):(Ee cs)[i]=(CD cs i:Int):=by simp[Ee]
theorem ly {c:Chg} (h1:1≤c.kind) (h7:c.kind≤7):1≤FH c:=by
 rw[uq h1 h7];unfold ct;split<;>omega
theorem eY {cs:List Chg} (hk: ∀ c∈cs,1≤c.kind∧c.kind≤7) {i j:Nat} (h:i < j) (hj:j < cs.length):CD cs i < CD cs j:=by
 have h1:=EN cs (show i+1≤j by omega)
 have hi:i < cs.length:=by omega
 have h2:=FV hi
 have h3:=hk _ (AB hi)
 have:=ly h3.1 h3.2
 omega
theorem Zz {cs:List Chg} (hk: ∀ c∈cs,1≤c.kind∧c.kind≤7):(Ee cs).Pairwise (·< ·):=by
 refine Ax.2 fun i j hi hj hij=>?_
 rw[NL,NL]
 have:=eY hk hij (by rw[Jm]at hj;exact hj)
 omega
theorem Tv (l:List Int) (n:Int):Q4 l n≤l.length∧(∀ k (h:k < l.length),k < Q4 l n→l[k] < n)∧ ∀ h:Q4 l n < l.length,n≤l[Q4 l n]:=by
 refine⟨A0H,fun k h hk=>?_,fun h=>?_⟩
 ·have:=Uw hk
  simp at this;omega
 ·have:=Y7 (w:=h)
  exact BJ this
theorem kc {cs:List Chg} (hk: ∀ c∈cs,1≤c.kind∧c.kind≤7) (hne:cs≠ []) {n:Int} (h0:0≤n):
  ((Ee cs)[Q4 (Ee cs) n]? =some n→Q4 (Ee cs) n=DT cs n)∧(¬(Ee cs)[Q4 (Ee cs) n]? =some n→Q4 (Ee cs) n=DT cs n+1):=by
 obtain⟨h1,h2,h3⟩:=Tv (Ee cs) n
 have hasc:=Zz hk
 generalize Q4 (Ee cs) n=p at*
 rw[Jm]at h1
 have up: ∀ i,p < i→i < cs.length→ ∀ hp:p < cs.length,(CD cs p:Int) < CD cs i:=fun i a b hp=>by have:=eY hk a b;omega
 constructor
 ·intro h
  obtain⟨hp,he⟩:=Ba.1 h
  rw[NL]at he
  rw[Jm]at hp
  rw[eE hp (by omega) fun i a b=>by have:=up i a b hp;omega]
 ·intro h
  have hlt: ∀ hp:p < cs.length,n < CD cs p:=fun hp=>by
   have hp':p < (Ee cs).length:=by rw[Jm];exact hp
   have h4:=h3 hp'
   rw[AO hp',NL]at h
   rw[NL]at h4
   have: ¬(CD cs p:Int)=n:=fun e=>h (by rw[e])
   omega
  have hp0:p≠0:=fun e=>by
   have:=hlt (by rw[e];exact PC.2 hne)
   rw[e,SA]at this;omega
  obtain⟨q,rfl⟩: ∃ q,p=q+1:=⟨p - 1,by omega⟩
  have hq:q < (Ee cs).length:=by rw[Jm];omega
  have h5:=h2 q hq (by omega)
  rw[NL]at h5
  rw[eE (k:=q) (by omega) (by omega) fun i a b=>by
   have:=hlt (by omega)
   have:=EN cs (show q+1≤i by omega)
   omega]
theorem Vz {cs:List Chg} (hk: ∀ c∈cs,1≤c.kind∧c.kind≤7) (hne:cs≠ []) (hl:cs.length≤1000000) (b:Nat) (us:List PV) (tg:CC) [At us 6 (.slice ((Ee cs).map eI) tg)] (y:Ident) (h0:0≤y.n):BA Tryz.prog 128 [.raw (.pointer (some ⟨b,0,none⟩)),.agg (eIdent y)] [.box b 104 us]
  (fun r L'=>r= .raw (.int .i64 (DT cs y.n:Int))∧L'= [.box b 104 us]):=by
 have cb:=qS (Ee cs) tg y.n (Zz hk) (by rw[Jm];exact hl)
 obtain⟨m1,m2⟩:=kc hk hne h0
 have hpl:=(Tv (Ee cs) y.n).1
 rw[Jm]at hpl
 refine C4 Tryz.func128 rfl Tryz.ntmps128 (rs:= [.tmp 4]) rfl rfl fun hb LF=>?_
 refine wn ?_
 refine BZ 12 ?_ ?_
 ·decide+kernel
 refine wf ?_
 refine AX (fun h=>?_) (fun h=>?_)
 ·refine wf ?_
  exact⟨trivial,_,_,.cons (.tmp 4) .nil,.refl _,by show PV.raw (.int .i64 ((Q4 (Ee cs) y.n:Int) - 1))=_;rw[m2 h];congr 2;omega,rfl⟩
 ·refine wf ?_
  exact⟨trivial,_,_,.cons (.tmp 4) .nil,.refl _,by show PV.raw (.int .i64 ((Q4 (Ee cs) y.n:Nat):Int))=_;rw[m1 h],rfl⟩
def gE (cs:List Chg) (ns:List Int) (i:Nat) (st:Bool) (y:Ident):Bool:=st||(Ed y&&decide (ns.getD i 0 < ns.getD (DT cs y.n) 0))
theorem iJ {cs:List Chg} (hk: ∀ c∈cs,1≤c.kind∧c.kind≤7) (hl:cs.length≤1000000) (ns:List Int) (hns:ns.length=cs.length) (b3 bx i:Nat) (hi:i < cs.length) (us:List PV) (tg:CC) [At us 5 (.slice (ns.map eI) .ro)] [At us 6 (.slice ((Ee cs).map eI) tg)] (st:Bool) (y:Ident):
  BA Tryz.prog 127 [.agg (eIdent y),.raw (.pointer (some ⟨b3,0,none⟩)),.pt [.raw (.pointer (some ⟨bx,0,none⟩))] 0,.pt [.raw (.int .i64 (i:Int))] 0] [.box b3 4 [.raw (.bool st)],.box bx 104 us]
  (fun r L'=>r= .agg (eIdent y)∧L'= [.box b3 4 [.raw (.bool (gE cs ns i st y))],.box bx 104 us]):=by
 have hne:cs≠ []:=fun e=>by rw[e]at hi;exact absurd hi (DF _)
 have hm:=P1 (n:=y.n) hne
 refine C4 Tryz.func127 rfl Tryz.ntmps127 (rs:= [.cell 5 65]) rfl rfl fun hb LF=>?_
 rw[B3,B3,BB]
 refine wf ?_
 refine Bx fun b5=>?_
 refine wn ?_
 refine BZ 24 ?_ ?_
 ·decide+kernel
 refine wf ?_
 refine Ay (fun h=>?_) (fun h=>?_)
 ·have e:gE cs ns i st y=true:=by unfold gE;rw[h];rfl
  rw[e]
  refine wf ?_
  exact⟨trivial,_,_,.cons (.cell 5 65 rfl AG FA.out (by simp)) .nil,.cons _ (.refl _),rfl,rfl⟩
 ·refine wf ?_
  refine Ay (fun ho=>?_) (fun ho=>?_)
  ·have h0:0≤y.n:=by unfold Ed at ho;simp at ho;exact ho.2
   have hm':DT cs y.n < ns.length:=by omega
   have hi':i < ns.length:=by omega
   have e:gE cs ns i st y=decide (ns[i] < ns[DT cs y.n]):=by
    unfold gE
    rw[h,ho,Gd,EK]
    simp[List.getD,hm',hi']
   rw[e]
   refine wf ?_
   refine Qa (xs:= [.tmp 15,.tmp 16]) [.box bx 104 us] (.box b5 65 (eIdent Ident.zero):: .box b3 4 [.raw (.bool st)]::LF) (.raw (.int .i64 (DT cs y.n:Int))) (f:=128) (cs:= []) (C5 _) rfl rfl Ox (Vz hk hne hl bx us tg y h0) ?_
   refine wf ?_
   exact⟨trivial,_,_,.cons (.cell 5 65 rfl AG FA.out (by simp)) .nil,.cons _ (.refl _),rfl,rfl⟩
  ·have e:gE cs ns i st y=false:=by unfold gE;rw[h,ho];rfl
   rw[e]
   refine wf ?_
   exact⟨trivial,_,_,.cons (.cell 5 65 rfl AG FA.out (by simp)) .nil,.cons _ (.refl _),rfl,rfl⟩
theorem Zp {cs:List Chg} {ns:List Int} {i:Nat}: ∀ (l:List Ident) (st:Bool),l.foldl (gE cs ns i) st=(st||l.any fun y=>Ed y&&decide (ns.getD i 0 < ns.getD (DT cs y.n) 0))
 | [],st=>by simp
 |y::l,st=>by rw[Bp,Zp l,gE,yZ,Bool.or_assoc]
theorem lk {cs:List Chg} (hk: ∀ c∈cs,1≤c.kind∧c.kind≤7) (hl:cs.length≤1000000) (ho: ∀ c∈cs,c.over.length≤1000) (ns:List Int) (hns:ns.length=cs.length) (bx:Nat) (us:List PV) (tg:CC) [At us 4 (.slice (cs.map eChg) .ro)] [At us 5 (.slice (ns.map eI) .ro)] [At us 6 (.slice ((Ee cs).map eI) tg)]:
  BA Tryz.prog 65 [.raw (.pointer (some ⟨bx,0,none⟩))] [.box bx 104 us]
  (fun r L'=>r= .raw (.bool ((List.range cs.length).any fun i=>(Ct (cs.getD i Chg.zero)).any fun y=>Ed y&&decide (ns.getD i 0 < ns.getD (DT cs y.n) 0)))∧L'= [.box bx 104 us]):=by
 refine C4 Tryz.func65 rfl Tryz.ntmps65 (rs:= [.tmp 2]) rfl rfl fun hb LF=>?_
 rw[B3,BB]
 refine wf ?_
 refine YD fun b3=>?_
 let E:Nat→Bool:=fun i=>(Ct (cs.getD i Chg.zero)).any fun y=>Ed y&&decide (ns.getD i 0 < ns.getD (DT cs y.n) 0)
 have hE: ∀ i,E i=(Ct (cs.getD i Chg.zero)).any fun y=>Ed y&&decide (ns.getD i 0 < ns.getD (DT cs y.n) 0):=fun _=>rfl
 refine Ab (σ:=Nat) (fun k=>k≤cs.length) (fun k=>cs.length - k) (fun k=> [(1,.pt [.raw (.pointer (some ⟨bx,0,none⟩))] 0),(3,.raw (.pointer (some ⟨b3,0,none⟩))),(10,.slice (cs.map eChg) .ro),(11,.raw (.int .i64 cs.length)),(12,.raw (.int .i64 k))]) (fun k=> .box b3 4 [.raw (.bool ((List.range k).any E))]:: .box bx 104 us::LF) 0 (by omega) ⟨rfl,rfl,rfl,rfl,rfl⟩ (.refl _) ?_
 rintro k hk'
 refine wf ?_
 refine A6 (fun hc=>?_) (fun hc=>?_)
 ·have hlt:k < cs.length:=by omega
  have hm:=AB hlt
  have hov:=ho _ hm
  have e:(Ct cs[k]).foldl (gE cs ns k) ((List.range k).any E)=(List.range (k+1)).any E:=by
   rw[Zp,EJ,Ei,yZ,List.any_nil,Bool.or_false,hE k]
   simp[List.getD,hlt]
  refine wf ?_
  refine Bx fun b4=>?_
  refine wz fun b5=>?_
  refine Al 5 ?_
  refine Al 4 ?_
  refine wf ?_
  refine C0 (xs:= [.tmp 17,.tmp 18]) [.box b3 4 [.raw (.bool ((List.range k).any E))],.box bx 104 us] LF (fun R'=>R'++LF) (f:=102) (cs:= []) (C5 _) rfl rfl (.refl _) _ (S0 127 _ (fun st:Bool=> [.box b3 4 [.raw (.bool st)],.box bx 104 us]) (fun y=>y) (gE cs ns k) cs[k] (fun st y _=>iJ hk hl ns hns b3 bx k hlt us tg st y) hov ((List.range k).any E)) (fun _=> .refl _) fun r L' ⟨hr,hL'⟩=>?_
  rw[e]at hL'
  subst hL'
  rw[B3,B3,BB]
  refine wf ?_
  exact⟨k+1,by omega,by dsimp only;omega,⟨rfl,rfl,rfl,rfl,rfl⟩,.refl _⟩
 ·obtain rfl:k=cs.length:=by omega
  refine wf ?_
  exact⟨trivial,_,_,.cons (.tmp 2) .nil,.cons _ (.refl _),rfl,rfl⟩
end Go.Proofs
namespace Go.Q
open Go
def FR (p:Pat) (ns fs:List Int) (tf:CC) (ss:List Int) (ts:CC) (is:List Dig) (ti:CC):List PV:=Bn p++ [.slice (ns.map eI) .ro,.slice (fs.map eI) tf,.slice (ss.map eI) ts,.slice (is.map eDig) ti]
section
variable (p:Pat) (ns fs:List Int) (tf:CC) (ss:List Int) (ts:CC) (is:List Dig) (ti:CC)
@[simp] theorem xn:(FR p ns fs tf ss ts is ti).length=9:=rfl
instance zL:At (FR p ns fs tf ss ts is ti) 4 (.slice (p.changes.map eChg) .ro):=⟨rfl⟩
instance zK:At (FR p ns fs tf ss ts is ti) 5 (.slice (ns.map eI) .ro):=⟨rfl⟩
instance zJ:At (FR p ns fs tf ss ts is ti) 6 (.slice (fs.map eI) tf):=⟨rfl⟩
instance zI:At (FR p ns fs tf ss ts is ti) 7 (.slice (ss.map eI) ts):=⟨rfl⟩
instance zH:At (FR p ns fs tf ss ts is ti) 8 (.slice (is.map eDig) ti):=⟨rfl⟩
instance xP (q:Pat):FO (FR p ns fs tf ss ts is ti) 0 (Bn q) (FR q ns fs tf ss ts is ti):=⟨rfl,Gq rfl⟩
instance xO (l:List Int):FO (FR p ns fs tf ss ts is ti) 5 [.slice (l.map eI) .ro] (FR p l fs tf ss ts is ti):=⟨rfl,Gq rfl⟩
end
end Go.Q
namespace Go.Proofs
open Go Go.Q
instance wY:Ck Tryz.prog 104 (FR Pat.zero [] [] .nil [] .nil [] .nil):=⟨by
 have h:((Tryz.prog.info? 104).bind (·.zero)).map (·.cells.toList)=some [.string ⟨#[]⟩,.string ⟨#[]⟩,.int .i64 0,.slice none 0 0,.slice none 0 0,.slice none 0 0,.slice none 0 0,.slice none 0 0,.slice none 0 0]:=by kernel_rfl
 obtain⟨v,h1,h2⟩:=Bl.1 h
 obtain⟨i,h3,h4⟩:=Dy.1 h1
 have hv: ∀ g,ED g [.string ⟨#[]⟩,.string ⟨#[]⟩,.int .i64 0,.slice none 0 0,.slice none 0 0,.slice none 0 0,.slice none 0 0,.slice none 0 0,.slice none 0 0] [.str [],.str [],.raw (.int .i64 0),.slice [] .ro,.slice [] .ro,.slice [] .ro,.slice [] .nil,.slice [] .nil,.slice [] .nil]:=fun g=> .cons (.str (by simp)) (.cons (.str (by simp)) (.cons (.raw _) (.cons .nilR (.cons .nilR (.cons .nilR (.cons (.nilN none (by simp)) (.cons (.nilN none (by simp)) (.cons (.nilN none (by simp)) (.nil g)))))))))
 exact⟨i,v,_,h3,h4,by rw[←h2],hv⟩⟩
attribute [local irreducible] ER AU H8 BA Fk
def Ku (cs:List Chg) (ns:List Int) (k:Nat) (j:Nat):Nat:=(((List.range k).filter fun d=>decide (ns.getD d 0=(j:Int))).map fun d=>FH (cs.getD d Chg.zero)).sum
theorem SG (cs:List Chg) (ns:List Int) (k j:Nat):Ku cs ns (k+1) j=Ku cs ns k j+if ns.getD k 0=(j:Int)then FH (cs.getD k Chg.zero)else 0:=by
 unfold Ku
 rw[EJ,Eo,Aq,GM]
 by_cases h:ns.getD k 0=(j:Int)
 ·rw[if_pos h,GH (by simpa using h)];simp
 ·rw[if_neg h,Eu (by simpa using h)];simp
theorem eo (cs:List Chg) (ns:List Int) (k j:Nat) (hk:k≤cs.length):Ku cs ns k j≤CD cs k:=by
 induction k with
 |zero=>simp[Ku]
 |succ k ih=>
  have:=ih (by omega)
  have hs:=FV (cs:=cs) (i:=k) (by omega)
  have hg:cs.getD k Chg.zero=cs[k]'(by omega):=by simp[List.getD,show k < cs.length by omega]
  rw[SG,hs,hg]
  split<;>omega
def Nm (cs:List Chg) (k:Nat):List Int:=(List.range k).map fun i=>(CD cs i:Int)
def HO (cs:List Chg) (ns:List Int) (k:Nat):List Int:=(List.range k).map fun c=>(Ku cs ns c (ns.getD c 0).toNat:Int)
theorem gx (cs:List Chg) (k:Nat):Nm cs (k+1)=Nm cs k++ [(CD cs k:Int)]:=by simp[Nm,EJ]
theorem fM (cs:List Chg) (ns:List Int) (k:Nat):HO cs ns (k+1)=HO cs ns k++ [(Ku cs ns k (ns.getD k 0).toNat:Int)]:=by simp[HO,EJ]
def Xt (cs:List Chg) (ns:List Int) (m k:Nat):List PV:=(List.range m).map fun j=> .raw (.int .i64 (Ku cs ns k j:Int))
theorem U5 {s:List Sto} (v:BP s) {x:Sto} (hx:x∈s) (ns:List Int) (hns:ns.length=x.patch.changes.length) (m:Nat) (hm:m≤1000000) (hr: ∀ e∈ns,0≤e∧e < m):BA Tryz.prog 64 [.agg (Bn x.patch),.slice (ns.map eI) .ro,.raw (.int .i64 (m:Int))] []
  (fun r L'=> ∃ b tf ts,r= .raw (.pointer (some ⟨b,0,none⟩))∧L'= [.box b 104 (FR x.patch ns (Nm x.patch.changes x.patch.changes.length) tf (HO x.patch.changes ns x.patch.changes.length) ts [] .nil)]):=by
 have hb0:=v.close.1.2 x hx
 have i1:B0 (E7 x.patch=false):=⟨hb0⟩
 obtain⟨_,_,g1,g2,gch⟩:=EW hb0
 have hp:=EH (Fc (v.id x hx).1).1
 have hcn:cntS s x.id=CD x.patch.changes x.patch.changes.length:=by rw[v.cntS hx,hp.cnt]
 have hc16:cntS s x.id≤16200:=by rw[v.cntS hx];exact(Dc hb0).1
 have cc:=SF v hx
 refine C4 Tryz.func64 rfl Tryz.ntmps64 (rs:= [.tmp 6]) rfl rfl fun hb LF=>?_
 refine vV fun b3=>?_
 refine vV fun b7=>?_
 refine rN (z:= .raw (.int .i64 0)) rfl rfl (by omega) (by omega) fun b8=>?_
 refine wf ?_
 refine E3 Ox ?_
 refine Al 3 ?_
 refine EO 1 ?_
 refine EO 1 ?_
 refine Ab (σ:=Nat × CC × CC) (fun k=>k.1≤x.patch.changes.length) (fun k=>x.patch.changes.length - k.1) (fun k=> [(1,.slice (ns.map eI) .ro),(3,.pt (Bn x.patch) 0),(7,.raw (.pointer (some ⟨b7,0,none⟩))),(8,.raw (.slice (some ⟨b8,0,none⟩) m m)),(19,.slice (x.patch.changes.map eChg) .ro),(20,.raw (.int .i64 x.patch.changes.length)),(21,.raw (.int .i64 k.1))]) (fun k=> .tok k.2.1 (Nm x.patch.changes k.1).length 1:: .tok k.2.2 (HO x.patch.changes ns k.1).length 1:: .box b8 3 (Xt x.patch.changes ns m k.1):: .box b7 104 (FR x.patch ns (Nm x.patch.changes k.1) k.2.1 (HO x.patch.changes ns k.1) k.2.2 [] .nil)::LF) (0,.nil,.nil) (by dsimp only;omega) ⟨rfl,rfl,rfl,rfl,rfl,rfl,rfl⟩ (by
  have:Xt x.patch.changes ns m 0=List.replicate m (.raw (.int .i64 0)):=EC (by simp[Xt]) fun i h1 h2=>by simp[Xt,Ku]
  dsimp only
  rw[this];exact .refl _) ?_
 rintro⟨k,tf,ts⟩ hk
 dsimp only at hk ⊢
 refine wf ?_
 refine A6 (fun hc=>?_) (fun hc=>?_)
 ·have hlt:k < x.patch.changes.length:=by omega
  have cf:=P6 v hx hlt
  have hkn:k < ns.length:=by omega
  have hnr:=hr _ (AB hkn)
  obtain⟨c,hcx⟩:=zY hnr.1
  have hcm:c < m:=by omega
  have hng:ns.getD k 0=(c:Int):=by simp[List.getD,hkn,hcx]
  have hgk:x.patch.changes.getD k Chg.zero=x.patch.changes[k]:=by simp[List.getD,hlt]
  have hf1:=EN x.patch.changes (show k≤x.patch.changes.length by omega)
  have hf2:=EN x.patch.changes (show k+1≤x.patch.changes.length by omega)
  have hfs:=FV hlt
  have hck:=eo x.patch.changes ns k c hk
  have hfl:(Nm x.patch.changes k).length=k:=by simp[Nm]
  have hsl:(HO x.patch.changes ns k).length=k:=by simp[HO]
  refine wf ?_
  refine Cv (σ:=Unit) (fun _=>True) (fun _=> [(1,.slice (ns.map eI) .ro),(3,.pt (Bn x.patch) 0),(7,.raw (.pointer (some ⟨b7,0,none⟩))),(8,.raw (.slice (some ⟨b8,0,none⟩) m m)),(19,.slice (x.patch.changes.map eChg) .ro),(20,.raw (.int .i64 x.patch.changes.length)),(21,.raw (.int .i64 k)),(9,.raw (.int .i64 k)),(10,.raw (.int .i64 (CD x.patch.changes k:Int))),(11,.raw (.int .i64 (CD x.patch.changes (k+1):Int)))]) (fun _=> .tok tf (Nm x.patch.changes k).length 1:: .tok ts (HO x.patch.changes ns k).length 1:: .box b8 3 (Xt x.patch.changes ns m k):: .box b7 104 (FR x.patch ns (Nm x.patch.changes k) tf (HO x.patch.changes ns k) ts [] .nil)::LF) ?_ ?_
  ·refine A6 (fun h=>?_) (fun h=>?_)
   ·have cf2:C8 Tryz.prog 31 [.agg (Bn x.patch),.raw (.int .i64 ((k:Int)+1))] (.raw (.int .i64 (CD x.patch.changes (k+1):Int))):=P6 v hx (n:=k+1) (by omega)
    refine wf ?_
    exact⟨(),trivial,⟨rfl,rfl,rfl,rfl,rfl,rfl,rfl,rfl,rfl,rfl⟩,.refl _⟩
   ·have e:(cntS s x.id:Int)=(CD x.patch.changes (k+1):Int):=by rw[hcn,show k+1=x.patch.changes.length by omega]
    rw[←e]
    refine wf ?_
    exact⟨(),trivial,⟨rfl,rfl,rfl,rfl,rfl,rfl,rfl,rfl,rfl,rfl⟩,.refl _⟩
  rintro - -
  refine wf ?_
  have iat:At (Xt x.patch.changes ns m k) (0+c*1) (.raw (.int .i64 (Ku x.patch.changes ns k c:Int))):=aW (f:=fun j=>PV.raw (.int .i64 (Ku x.patch.changes ns k j:Int))) hcm
  have iput:FO (Xt x.patch.changes ns m k) (0+c*1) [.raw (.int .i64 (Ku x.patch.changes ns (k+1) c:Int))] (Xt x.patch.changes ns m (k+1)):=Rn (f:=fun j=>PV.raw (.int .i64 (Ku x.patch.changes ns k j:Int))) (g:=fun j=>PV.raw (.int .i64 (Ku x.patch.changes ns (k+1) j:Int))) hcm fun d hd=>by
   by_cases e:d=c
   ·rw[if_pos e,e]
   ·rw[if_neg e,SG,hng,if_neg (by omega),Dt]
  refine Iw (f:=eI) (l:=Nm x.patch.changes k) (m:= [(CD x.patch.changes k:Int)]) (by rfl) (by rfl) (by simp only[Au];omega) (by simp only[Au];omega) (fun t=> .here) fun t1=>?_
  rw[←gx]
  refine wf ?_
  refine GU (ay:= .slice ((Nm x.patch.changes (k+1)).map eI) t1) (FR x.patch ns (Nm x.patch.changes (k+1)) t1 (HO x.patch.changes ns k) ts [] .nil) rfl rfl Dx.out rfl (by simp) ?_
  have hss:HO x.patch.changes ns k++ [(Ku x.patch.changes ns k c:Int)]=HO x.patch.changes ns (k+1):=by rw[fM,hng];rfl
  refine AE ?_
  refine DZ ?_
  refine Cv (σ:=CC) (fun _=>True) (fun _=> [(1,.slice (ns.map eI) .ro),(3,.pt (Bn x.patch) 0),(7,.raw (.pointer (some ⟨b7,0,none⟩))),(8,.raw (.slice (some ⟨b8,0,none⟩) m m)),(19,.slice (x.patch.changes.map eChg) .ro),(20,.raw (.int .i64 x.patch.changes.length)),(21,.raw (.int .i64 k)),(9,.raw (.int .i64 k)),(10,.raw (.int .i64 (CD x.patch.changes k:Int))),(11,.raw (.int .i64 (CD x.patch.changes (k+1):Int)))]) (fun t2=> .tok t1 (Nm x.patch.changes (k+1)).length 1:: .tok t2 (HO x.patch.changes ns (k+1)).length 1:: .box b8 3 (Xt x.patch.changes ns m k):: .box b7 104 (FR x.patch ns (Nm x.patch.changes (k+1)) t1 (HO x.patch.changes ns (k+1)) t2 [] .nil)::LF) ?_ ?_
  ·refine wn ?_
   refine H2 [4,11,13,16] (by decide+kernel) ?_
   refine B5 0 ?_
   refine B5 1 ?_
   refine B5 2 ?_
   refine B5 3 ?_
   refine B5 5 ?_
   refine B5 6 ?_
   refine B5 7 ?_
   refine B5 8 ?_
   refine B5 9 ?_
   rw[hcx]
   refine B5 10 (hq:=fun _=>by refine Fi (k:=c) rfl rfl hcm ?_;refine AE ?_;exact⟨DB _ _ _,rfl⟩) ?_
   refine Cw (fuel:=6) [4,11] (by decide+kernel) (by simp) fun i hi=>?_
   simp only[AH,Ai,or_false]at hi
   rcases hi with rfl|rfl
   ·refine⟨_,rfl,?_⟩
    refine wo ?_
    refine AE ?_
    refine Ad 5 11 ?_
    refine wo ?_
    refine AE ?_
    refine B5 12 ?_
    refine Ad 3 13 ?_
    refine Iw (f:=eI) (l:=HO x.patch.changes ns k) (m:= [(Ku x.patch.changes ns k c:Int)]) (by rfl) (by rfl) (by simp only[Au];omega) (by simp only[Au];omega) (fun t=> .there .here) fun t2=>?_
    rw[hss]
    refine AE ?_
    refine B5 14 ?_
    refine B5 15 ?_
    refine Ad 0 16 ?_
    refine GU (ay:= .slice ((HO x.patch.changes ns (k+1)).map eI) t2) (FR x.patch ns (Nm x.patch.changes (k+1)) t1 (HO x.patch.changes ns (k+1)) t2 [] .nil) rfl rfl Dx.out rfl (by simp) ?_
    refine AE ?_
    refine Cu (by decide+kernel) ?_
    exact⟨t2,trivial,⟨rfl,rfl,rfl,rfl,rfl,rfl,rfl,rfl,rfl,rfl⟩,.refl _⟩
   ·refine⟨_,rfl,?_⟩
    refine wo ?_
    refine AE ?_
    refine B5 12 ?_
    refine Ad 4 4 ?_
    refine wo ?_
    refine AE ?_
    refine Ad 3 13 ?_
    refine Iw (f:=eI) (l:=HO x.patch.changes ns k) (m:= [(Ku x.patch.changes ns k c:Int)]) (by rfl) (by rfl) (by simp only[Au];omega) (by simp only[Au];omega) (fun t=> .there .here) fun t2=>?_
    rw[hss]
    refine AE ?_
    refine B5 14 ?_
    refine B5 15 ?_
    refine Ad 0 16 ?_
    refine GU (ay:= .slice ((HO x.patch.changes ns (k+1)).map eI) t2) (FR x.patch ns (Nm x.patch.changes (k+1)) t1 (HO x.patch.changes ns (k+1)) t2 [] .nil) rfl rfl Dx.out rfl (by simp) ?_
    refine AE ?_
    refine Cu (by decide+kernel) ?_
    exact⟨t2,trivial,⟨rfl,rfl,rfl,rfl,rfl,rfl,rfl,rfl,rfl,rfl⟩,.refl _⟩
  rintro t2 -
  have ev:((Ku x.patch.changes ns (k+1) c:Nat):Int)=(Ku x.patch.changes ns k c:Int)+((CD x.patch.changes (k+1):Int) - (CD x.patch.changes k:Int)):=by rw[SG,hng,if_pos rfl,hgk,hfs];omega
  rw[ev]at iput
  refine wf ?_
  rw[hcx]
  refine Fi (k:=c) rfl rfl hcm ?_
  refine wf ?_
  refine Fi (k:=c) rfl rfl hcm ?_
  refine wf ?_
  exact⟨(k+1,t1,t2),by dsimp only;omega,by dsimp only;omega,⟨rfl,rfl,rfl,rfl,rfl,rfl,rfl⟩,.refl _⟩
 ·obtain rfl:k=x.patch.changes.length:=by omega
  refine wf ?_
  exact⟨trivial,_,[_],.cons (.tmp 6) .nil,.cons _ (.cons _ (.cons _ (.refl _))),_,_,_,rfl,rfl⟩
def fQ (cs:List Chg) (ns ss:List Int) (is:List Dig) (k:Nat) (y:Ident):Ident:=
 if Ed y=true then⟨if ns.getD (DT cs y.n) 0=(k:Int)then Dig.zero else is.getD (ns.getD (DT cs y.n) 0).toNat Dig.zero,y.n - CD cs (DT cs y.n)+ss.getD (DT cs y.n) 0⟩else y
theorem kg {cs:List Chg} (hk: ∀ c∈cs,1≤c.kind∧c.kind≤7) (hl:cs.length≤1000000) (hf:CD cs cs.length≤1000000000) (p:Pat) (ns ss:List Int) (hns:ns.length=cs.length) (hss:ss.length=cs.length) (hsb: ∀ e∈ss,0≤e∧e≤1000000000) (tf ts ti:CC) (is:List Dig) (bx k:Nat) (y:Ident)
  (hy:Ed y=true→y.n≤1000000000∧cs≠ []∧(¬ns.getD (DT cs y.n) 0=(k:Int)→ ∃ j:Nat,ns.getD (DT cs y.n) 0=(j:Int)∧j < is.length)):
  BA Tryz.prog 129 [.agg (eIdent y),.pt [.raw (.pointer (some ⟨bx,0,none⟩))] 0,.pt [.raw (.int .i64 (k:Int))] 0] [.box bx 104 (FR p ns (Ee cs) tf ss ts is ti)]
  (fun r L'=>r= .agg (eIdent (fQ cs ns ss is k y))∧L'= [.box bx 104 (FR p ns (Ee cs) tf ss ts is ti)]):=by
 refine C4 Tryz.func129 rfl Tryz.ntmps129 (rs:= [.cell 4 65]) rfl rfl fun hb LF=>?_
 rw[B3,BB]
 refine wf ?_
 refine Bx fun b4=>?_
 refine wf ?_
 refine AW (fun h=>?_) (fun h=>?_)
 ·have e:fQ cs ns ss is k y=y:=by unfold fQ;rw[if_neg (by simpa using h)]
  rw[e]
  refine wf ?_
  exact⟨trivial,_,_,.cons (.cell 4 65 rfl AG FA.out (by simp)) .nil,.cons _ (.refl _),rfl,rfl⟩
 have ho:Ed y=true:=by simpa using h
 have h0:0≤y.n:=by unfold Ed at ho;simp at ho;exact ho.2
 obtain⟨hyn,hne,hj⟩:=hy ho
 have hm:=P1 (n:=y.n) hne
 unfold fQ
 rw[if_pos ho]
 have hfm:=EN cs (show DT cs y.n≤cs.length by omega)
 have hmf:DT cs y.n < (Ee cs).length:=by rw[Jm];exact hm
 have hmn:DT cs y.n < ns.length:=by omega
 have hms:DT cs y.n < ss.length:=by omega
 have e1:ns.getD (DT cs y.n) 0=ns[DT cs y.n]:=by simp[List.getD,hmn]
 have e2:ss.getD (DT cs y.n) 0=ss[DT cs y.n]:=by simp[List.getD,hms]
 have hsm:=hsb _ (AB hms)
 have e3:(Ee cs)[DT cs y.n]=(CD cs (DT cs y.n):Int):=NL hmf
 rw[e1]at hj ⊢
 rw[e2]
 refine wf ?_
 refine Qa (xs:= [.tmp 11,.tmp 12]) [.box bx 104 (FR p ns (Ee cs) tf ss ts is ti)] (.box b4 65 (eIdent Ident.zero)::LF) (.raw (.int .i64 (DT cs y.n:Int))) (f:=128) (cs:= []) (C5 _) rfl rfl (.swap _ _ _) (Vz hk hne hl bx _ tf y h0) ?_
 refine wn ?_
 refine BZ 18 ?_ ?_
 ·decide+kernel
 refine wf ?_
 rw[e3]
 refine A6 (fun h2=>?_) (fun h2=>?_)
 ·rw[if_pos h2]
  refine wf ?_
  exact⟨trivial,_,_,.cons (.cell 4 65 rfl AG FA.out (by simp)) .nil,.cons _ (.refl _),rfl,rfl⟩
 ·rw[if_neg h2]
  obtain⟨j,hje,hjl⟩:=hj h2
  have hjn:(ns[DT cs y.n]).toNat < is.length:=by omega
  have e4:is.getD (ns[DT cs y.n]).toNat Dig.zero=is[(ns[DT cs y.n]).toNat]:=by simp[List.getD,hjn]
  rw[e4]
  refine wn ?_
  refine BZ 15 ?_ ?_
  ·decide+kernel
  refine wf ?_
  exact⟨trivial,_,_,.cons (.cell 4 65 rfl AG FA.out (by simp)) .nil,.cons _ (.refl _),rfl,rfl⟩
end Go.Proofs
namespace Go.Proofs
open Go Go.Q
def Nq (Q:List (List Int)) (n:Nat):List Int:=(List.range n).map fun c=>RP Q (c:Nat)
theorem XV (Q:List (List Int)) (n:Nat):(Nq Q n).length=n:=by simp[Nq]
theorem uJ {Q:List (List Int)} {n c:Nat} (h:c < n):(Nq Q n).getD c 0=RP Q (c:Nat):=by simp[Nq,List.getD,h]
theorem W5 {Q:List (List Int)} {n c:Nat} (h:FL n [] Q=true) (hc:c < n):(Nq Q n).getD c 0=(JE (E4 Q) c:Int):=by
 rw[uJ hc,TH h hc];rfl
theorem nn {cs:List Chg} {ns:List Int} {k c:Nat} (h:c < k):(HO cs ns k).getD c 0=(Ku cs ns c (ns.getD c 0).toNat:Int):=by simp[HO,List.getD,h]
theorem lx {cs:List Chg} {Q:List (List Int)} (h:FL cs.length [] Q=true) {c:Nat} (hc:c < cs.length):Ku cs (Nq Q cs.length) c ((Nq Q cs.length).getD c 0).toNat=Nj (E4 Q) cs c:=by
 unfold Ku Nj
 rw[W5 h hc,Dz]
 congr 2
 refine im fun d hd=>?_
 have hd:=Bg.1 hd
 rw[W5 h (by omega),decide_eq_decide]
 omega
theorem y9 {cs:List Chg} {Q:List (List Int)} (h:FL cs.length [] Q=true) (hne:cs≠ []) (is:List Dig) (k:Nat) (y:Ident):fQ cs (Nq Q cs.length) (HO cs (Nq Q cs.length) cs.length) is k y=fS (E4 Q) cs is k y:=by
 have hm:=P1 (n:=y.n) hne
 unfold fQ fS
 rw[W5 h hm,nn hm,lx h hm,Dz]
 have e:((JE (E4 Q) (DT cs y.n):Int)=(k:Int))=(JE (E4 Q) (DT cs y.n)=k):=by rw[eq_iff_iff];omega
 simp only[e]
theorem nm {cs:List Chg} {ns:List Int} {m:Nat} (hm:CD cs cs.length≤m): ∀ e∈HO cs ns cs.length,0≤e∧e≤m:=by
 intro e he
 unfold HO at he
 obtain⟨c,hc,rfl⟩:=AQ.1 he
 have hc:=Bg.1 hc
 have h1:=eo cs ns c (ns.getD c 0).toNat (by omega)
 have h2:=EN cs (show c≤cs.length by omega)
 omega
theorem qF {cs:List Chg} {Q:List (List Int)} (h:FL cs.length [] Q=true):((List.range cs.length).any fun i=>(Ct (cs.getD i Chg.zero)).any fun y=>Ed y&&decide ((Nq Q cs.length).getD i 0 < (Nq Q cs.length).getD (DT cs y.n) 0))=K1 (E4 Q) cs:=by
 unfold K1
 rw[Iu,Bw,Bw]
 refine exists_congr fun i=>and_congr_right fun hi=>?_
 have hi:=Bg.1 hi
 have hne:cs≠ []:=fun e=>by rw[e]at hi;exact absurd hi (DF _)
 have hf:(fun y=>Ed y&&decide ((Nq Q cs.length).getD i 0 < (Nq Q cs.length).getD (DT cs y.n) 0))=fun y=>Ed y&&decide (JE (E4 Q) i < JE (E4 Q) (DT cs y.n)):=by
  funext y
  congr 1
  rw[W5 h hi,W5 h (P1 hne),decide_eq_decide]
  omega
 rw[hf]
theorem uY (cs:List Chg):Nm cs cs.length=Ee cs:=rfl
end Go.Proofs
namespace Go.Q
open Go
instance yl (p:Pat) (ns fs:List Int) (tf:CC) (ss:List Int) (ts:CC) (is:List Dig) (ti:CC):YB (FR p ns fs tf ss ts is ti) 0 5 (Bn p):=⟨rfl,Gq rfl⟩
end Go.Q
namespace Go.Proofs
open Go Go.Q
theorem ow {a b c d:Res} {l:List Res}:(a::b::c::d::l).Perm (d::a::b::c::l):=((Ox (a:=b) (b:=c) (c:=d)).cons a).trans (.swap d a (b::c::l))
attribute [local irreducible] ER AU H8 BA Fk
theorem ox {s:List Sto} (v:BP s) {x:Sto} (hx:x∈s) (ns ss:List Int) (hns:ns.length=x.patch.changes.length) (hss:ss.length=x.patch.changes.length) (hsb: ∀ e∈ss,0≤e∧e≤1000000000) (tf ts ti:CC) (is:List Dig) (his:is.length≤1000) (bx k:Nat) (l:List Nat) (hll: ∀ c∈l,c < x.patch.changes.length) (hl:l.length≤1000000) (tl:CC) (m:Mta)
  (hy: ∀ c∈l,∀ y∈Ct (x.patch.changes.getD c Chg.zero),Ed y=true→ ¬ns.getD (DT x.patch.changes y.n) 0=(k:Int)→ ∃ j:Nat,ns.getD (DT x.patch.changes y.n) 0=(j:Int)∧j < is.length):
  BA Tryz.prog 66 [.raw (.pointer (some ⟨bx,0,none⟩)),.raw (.int .i64 (k:Int)),.slice ((l.map fun c:Nat=>(c:Int)).map eI) tl,.agg (GF m)] [.box bx 104 (FR x.patch ns (Ee x.patch.changes) tf ss ts is ti)]
  (fun r L'=>(∃ tg,r= .agg (jB m (KX (sortD (B7 x.patch++is))) (l.map fun c=>FU (fQ x.patch.changes ns ss is k) (x.patch.changes.getD c Chg.zero)) tg))∧L'= [.box bx 104 (FR x.patch ns (Ee x.patch.changes) tf ss ts is ti)]):=by
 refine C4 Tryz.func66 rfl Tryz.ntmps66 (rs:= [.cell 8 40]) rfl rfl fun hb LF=>?_
 rw[B3,BB]
 refine wf ?_
 refine Bx fun b8=>?_
 refine AE ?_
 repeat(refine DZ ?_)
 refine CK (by kernel_rfl) ?_
 iterate 6 (refine w1 ?_)
 refine TX (hZ:=qv) (c0:= [.str m.author]) (c1:= [.str m.message]) (c2:= [.raw (.int .i64 m.time)]) (r0:= [.str m.author,.str [],.raw (.int .i64 0),.raw (.slice none 0 0),.slice [] .nil]) (r1:= [.str m.author,.str m.message,.raw (.int .i64 0),.raw (.slice none 0 0),.slice [] .nil]) (r2:=MZ m (.slice none 0 0) [] .nil) (hP0:=⟨rfl,by simp⟩) (hP1:=⟨rfl,by simp⟩) (hP2:=⟨rfl,by simp⟩) ?_ ?_ ?_ rfl rfl rfl ?_
 ·exact Dn.one (c:= .str m.author) Dx.out
 ·exact Dn.one (c:= .str m.message) Dx.out
 ·exact Dn.one (c:= .raw (.int .i64 m.time)) Dx.out
 refine Bx fun b9=>?_
 refine QX (new:=MZ m (.slice none 0 0) [] .nil) (hf:=⟨eZ rfl⟩) rfl rfl .here rfl (by simp) ?_
 refine AE ?_
 have hb0:=v.close.1.2 x hx
 have i1:B0 (E7 x.patch=false):=⟨hb0⟩
 have hnl:(B7 x.patch).length≤s.length:=by
  have:=El (IY x.patch).nodup (fun d hd=>v.close.2 x hx d hd)
  unfold ids at this
  rwa [AR]at this
 have hsl:=v.close.1.1
 refine DZ ?_
 refine Cv (σ:=Value × List Res) (fun q=>VN q.1 (B7 x.patch++is) q.2) (fun q=> [(2,.slice ((l.map fun c:Nat=>(c:Int)).map eI) tl),(4,.pt [.raw (.pointer (some ⟨bx,0,none⟩))] 0),(5,.pt [.raw (.int .i64 (k:Int))] 0),(8,.raw (.pointer (some ⟨b8,0,none⟩))),(9,.raw (.pointer (some ⟨b9,0,none⟩)))]) (fun q=> .box b9 40 (MZ m q.1 [] .nil):: .box b8 40 (Bn Pat.zero):: .box bx 104 (FR x.patch ns (Ee x.patch.changes) tf ss ts is ti)::(q.2++LF)) ?_ ?_
 ·refine wn ?_
  refine H2 [3,5,9,10,12] (by decide+kernel) ?_
  refine B5 0 ?_
  refine B5 1 ?_
  refine B5 2 ?_
  refine B5 6 ?_
  refine B5 7 ?_
  refine B5 8 ?_
  refine Cw (fuel:=6) [3,9] (by decide+kernel) (by simp) fun i hi=>?_
  simp only[AH,Ai,or_false]at hi
  rcases hi with rfl|rfl
  ·refine⟨_,rfl,?_⟩
   refine wo ?_
   refine AE ?_
   refine B5 4 ?_
   refine Cw (fuel:=4) [5,9] (by decide+kernel) (by simp) fun i hi=>?_
   simp only[AH,Ai,or_false]at hi
   rcases hi with rfl|rfl
   ·refine⟨_,rfl,?_⟩
    refine C0 (xs:= [.tmp 23]) [] (.box b9 40 (MZ m (.slice none 0 0) [] .nil):: .box b8 40 (Bn Pat.zero):: .box bx 104 (FR x.patch ns (Ee x.patch.changes) tf ss ts is ti)::LF) (fun R'=> .box b9 40 (MZ m (.slice none 0 0) [] .nil):: .box b8 40 (Bn Pat.zero):: .box bx 104 (FR x.patch ns (Ee x.patch.changes) tf ss ts is ti)::(R'++LF)) (f:=57) (cs:= []) (C5 _) rfl rfl (.refl _) _ (P8 (B7 x.patch) .ro (by omega)) (fun _=>Dw.symm) fun r R1 ⟨v1,hr,hv1⟩=>?_
    subst hr
    refine AE ?_
    refine Ad 3 9 ?_
    refine wo ?_
    refine AE ?_
    refine Ad 2 10 ?_
    refine Iy (f:=eDig) (l:=B7 x.patch) (m:=is) (R:=R1) (LF:= .box b9 40 (MZ m (.slice none 0 0) [] .nil):: .box b8 40 (Bn Pat.zero):: .box bx 104 (FR x.patch ns (Ee x.patch.changes) tf ss ts is ti)::LF) (fun R'=> .box b9 40 (MZ m (.slice none 0 0) [] .nil):: .box b8 40 (Bn Pat.zero):: .box bx 104 (FR x.patch ns (Ee x.patch.changes) tf ss ts is ti)::(R'++LF)) rfl rfl hv1 Dw (fun R'=>Dw.symm) (by omega) (by omega) fun v2 R2 hv2=>?_
    refine AE ?_
    refine B5 11 ?_
    refine Ad 0 12 ?_
    refine IA (MZ m v2 [] .nil) rfl rfl hv2.one rfl (by simp) ?_
    refine AE ?_
    refine Cu (by decide+kernel) ?_
    exact⟨(v2,R2),hv2,⟨rfl,rfl,rfl,rfl,rfl⟩,.refl _⟩
   ·refine⟨_,rfl,?_⟩
    refine wo ?_
    refine AE ?_
    refine Ad 3 5 ?_
    refine C0 (xs:= [.tmp 23]) [] (.box b9 40 (MZ m (.slice none 0 0) [] .nil):: .box b8 40 (Bn Pat.zero):: .box bx 104 (FR x.patch ns (Ee x.patch.changes) tf ss ts is ti)::LF) (fun R'=> .box b9 40 (MZ m (.slice none 0 0) [] .nil):: .box b8 40 (Bn Pat.zero):: .box bx 104 (FR x.patch ns (Ee x.patch.changes) tf ss ts is ti)::(R'++LF)) (f:=57) (cs:= []) (C5 _) rfl rfl (.refl _) _ (P8 (B7 x.patch) .ro (by omega)) (fun _=>Dw.symm) fun r R1 ⟨v1,hr,hv1⟩=>?_
    subst hr
    refine AE ?_
    refine Ad 2 10 ?_
    refine Iy (f:=eDig) (l:=B7 x.patch) (m:=is) (R:=R1) (LF:= .box b9 40 (MZ m (.slice none 0 0) [] .nil):: .box b8 40 (Bn Pat.zero):: .box bx 104 (FR x.patch ns (Ee x.patch.changes) tf ss ts is ti)::LF) (fun R'=> .box b9 40 (MZ m (.slice none 0 0) [] .nil):: .box b8 40 (Bn Pat.zero):: .box bx 104 (FR x.patch ns (Ee x.patch.changes) tf ss ts is ti)::(R'++LF)) rfl rfl hv1 Dw (fun R'=>Dw.symm) (by omega) (by omega) fun v2 R2 hv2=>?_
    refine AE ?_
    refine B5 11 ?_
    refine Ad 0 12 ?_
    refine IA (MZ m v2 [] .nil) rfl rfl hv2.one rfl (by simp) ?_
    refine AE ?_
    refine Cu (by decide+kernel) ?_
    exact⟨(v2,R2),hv2,⟨rfl,rfl,rfl,rfl,rfl⟩,.refl _⟩
  ·refine⟨_,rfl,?_⟩
   refine wo ?_
   refine AE ?_
   refine Ad 5 3 ?_
   refine wo ?_
   refine AE ?_
   refine B5 4 ?_
   refine Ad 3 5 ?_
   refine C0 (xs:= [.tmp 23]) [] (.box b9 40 (MZ m (.slice none 0 0) [] .nil):: .box b8 40 (Bn Pat.zero):: .box bx 104 (FR x.patch ns (Ee x.patch.changes) tf ss ts is ti)::LF) (fun R'=> .box b9 40 (MZ m (.slice none 0 0) [] .nil):: .box b8 40 (Bn Pat.zero):: .box bx 104 (FR x.patch ns (Ee x.patch.changes) tf ss ts is ti)::(R'++LF)) (f:=57) (cs:= []) (C5 _) rfl rfl (.refl _) _ (P8 (B7 x.patch) .ro (by omega)) (fun _=>Dw.symm) fun r R1 ⟨v1,hr,hv1⟩=>?_
   subst hr
   refine AE ?_
   refine Ad 2 10 ?_
   refine Iy (f:=eDig) (l:=B7 x.patch) (m:=is) (R:=R1) (LF:= .box b9 40 (MZ m (.slice none 0 0) [] .nil):: .box b8 40 (Bn Pat.zero):: .box bx 104 (FR x.patch ns (Ee x.patch.changes) tf ss ts is ti)::LF) (fun R'=> .box b9 40 (MZ m (.slice none 0 0) [] .nil):: .box b8 40 (Bn Pat.zero):: .box bx 104 (FR x.patch ns (Ee x.patch.changes) tf ss ts is ti)::(R'++LF)) rfl rfl hv1 Dw (fun R'=>Dw.symm) (by omega) (by omega) fun v2 R2 hv2=>?_
   refine AE ?_
   refine B5 11 ?_
   refine Ad 0 12 ?_
   refine IA (MZ m v2 [] .nil) rfl rfl hv2.one rfl (by simp) ?_
   refine AE ?_
   refine Cu (by decide+kernel) ?_
   exact⟨(v2,R2),hv2,⟨rfl,rfl,rfl,rfl,rfl⟩,.refl _⟩
 rintro⟨vd,R⟩ hR
 dsimp only at hR ⊢
 have hlen:(B7 x.patch++is).length≤2000:=by rw[AA];omega
 have hsl2:(sortD (B7 x.patch++is)).length=(B7 x.patch++is).length:=by unfold sortD;rw[DA]
 obtain⟨_,_,g1,g2,gch⟩:=EW hb0
 have hkd:=v.kinds hx
 have hp:=EH (Fc (v.id x hx).1).1
 have hc16:CD x.patch.changes x.patch.changes.length≤16200:=by rw[←hp.cnt];exact(Dc hb0).1
 obtain⟨l',hl'⟩: ∃ l':List Int,l'=l.map fun c:Nat=>(c:Int):=⟨_,rfl⟩
 have hll':l'.length=l.length:=by rw[hl',AR]
 rw[←hl']
 refine wf ?_
 refine C0 (xs:= [.tmp 32,.func 61]) R (.box b9 40 (MZ m vd [] .nil):: .box b8 40 (Bn Pat.zero):: .box bx 104 (FR x.patch ns (Ee x.patch.changes) tf ss ts is ti)::LF) (fun R'=> .box b9 40 (MZ m vd [] .nil):: .box b8 40 (Bn Pat.zero):: .box bx 104 (FR x.patch ns (Ee x.patch.changes) tf ss ts is ti)::(R'++LF)) (f:=60) (cs:= []) (C5 _) rfl rfl Dw _ (TA (B7 x.patch++is) vd R hR (by omega)) (fun _=>Dw.symm) fun r L2 ⟨v2,e2,hv2⟩=>?_
 subst e2
 refine wf ?_
 refine C0 (xs:= [.tmp 35]) L2 (.box b9 40 (MZ m v2 [] .nil):: .box b8 40 (Bn Pat.zero):: .box bx 104 (FR x.patch ns (Ee x.patch.changes) tf ss ts is ti)::LF) (fun R'=> .box b9 40 (MZ m v2 [] .nil):: .box b8 40 (Bn Pat.zero):: .box bx 104 (FR x.patch ns (Ee x.patch.changes) tf ss ts is ti)::(R'++LF)) (f:=62) (cs:= []) (C5 _) rfl rfl Dw _ (QE (sortD (B7 x.patch++is)) v2 L2 hv2 (by omega)) (fun _=>Dw.symm) fun r L3 ⟨hr,hL3⟩=>?_
 subst hr hL3
 refine wo ?_
 refine GU (ay:= .slice ((KX (sortD (B7 x.patch++is))).map eDig) .ro) (jB m (KX (sortD (B7 x.patch++is))) [] .nil) rfl rfl Dx.out rfl (by simp) ?_
 refine wf ?_
 refine E3 (.swap _ _ _) ?_
 refine EO 139 ?_
 refine Ab (σ:=Nat × List Chg × CC) (fun q=>q.1≤l.length∧q.2.1=(l.take q.1).map fun c=>FU (fQ x.patch.changes ns ss is k) (x.patch.changes.getD c Chg.zero)) (fun q=>l.length - q.1) (fun q=> [(4,.pt [.raw (.pointer (some ⟨bx,0,none⟩))] 0),(5,.pt [.raw (.int .i64 (k:Int))] 0),(8,.raw (.pointer (some ⟨b8,0,none⟩))),(9,.raw (.pointer (some ⟨b9,0,none⟩))),(38,.slice (l'.map eI) tl),(39,.raw (.int .i64 l'.length)),(40,.raw (.int .i64 q.1))]) (fun q=> .tok q.2.2 (q.2.1).length 139:: .box b8 40 (Bn Pat.zero):: .box b9 40 (jB m (KX (sortD (B7 x.patch++is))) q.2.1 q.2.2):: .box bx 104 (FR x.patch ns (Ee x.patch.changes) tf ss ts is ti)::LF) (0,[],.nil) ⟨by simp,by simp⟩ ⟨rfl,rfl,rfl,rfl,rfl,rfl,rfl⟩ (.refl _) ?_
 rintro⟨j,cs1,tg⟩ ⟨hj,hcs⟩
 dsimp only at hj hcs ⊢
 refine wf ?_
 refine A6 (fun hc=>?_) (fun hc=>?_)
 ·have hjl:j < l.length:=by omega
  have hjl':j < l'.length:=by omega
  have hlj:=hll _ (AB hjl)
  have hel:l'[j]=(l[j]:Int):=by simp[hl']
  have hl1:cs1.length=j:=by rw[hcs];simp;omega
  have hch:=AB hlj
  have hgd:x.patch.changes.getD l[j] Chg.zero=x.patch.changes[l[j]]:=by simp[List.getD,hlj]
  have hyj:=hy _ (AB hjl)
  rw[hgd]at hyj
  refine wn ?_
  refine HD [(4,.pt [.raw (.pointer (some ⟨bx,0,none⟩))] 0),(5,.pt [.raw (.int .i64 (k:Int))] 0),(8,.raw (.pointer (some ⟨b8,0,none⟩))),(9,.raw (.pointer (some ⟨b9,0,none⟩))),(11,.raw (.int .i64 (l[j]:Int))),(38,.slice (l'.map eI) tl),(39,.raw (.int .i64 l'.length)),(40,.raw (.int .i64 j))] ⟨rfl,rfl,rfl,rfl,congrArg (fun e=>PV.raw (.int .i64 e)) hel,rfl,rfl,rfl⟩ (.refl _) ?_
  refine BZ 13 ?_ ?_
  ·decide+kernel
  refine wf ?_
  refine Qa (xs:= [.tmp 53,.tmp 54]) [.box bx 104 (FR x.patch ns (Ee x.patch.changes) tf ss ts is ti)] (.tok tg cs1.length 139:: .box b8 40 (Bn Pat.zero):: .box b9 40 (jB m (KX (sortD (B7 x.patch++is))) cs1 tg)::LF) (.agg (eChg (FU (fQ x.patch.changes ns ss is k) x.patch.changes[l[j]]))) (f:=102) (cs:= []) (C5 _) rfl rfl ow (S0 129 _ (fun _:Unit=> [.box bx 104 (FR x.patch ns (Ee x.patch.changes) tf ss ts is ti)]) (fQ x.patch.changes ns ss is k) (fun _ _=>()) x.patch.changes[l[j]] (fun _ y hy'=>kg hkd (by omega) (by omega) x.patch ns ss hns hss hsb tf ts ti is bx k y fun ho=>⟨by have:=TM v hx hch y hy';omega,fun e=>by rw[e]at hlj;exact absurd hlj (DF _),hyj y hy' ho⟩) (by have:=(gch _ hch).over;omega) ()) ?_
  refine dR fun v'=>?_
  refine GU (ay:= .slice ((cs1++ [FU (fQ x.patch.changes ns ss is k) x.patch.changes[l[j]]]).map eChg) v') (jB m (KX (sortD (B7 x.patch++is))) (cs1++ [FU (fQ x.patch.changes ns ss is k) x.patch.changes[l[j]]]) v') rfl rfl Dx.out rfl (by simp) ?_
  refine wf ?_
  refine wf ?_
  refine⟨(j+1,(cs1++ [FU (fQ x.patch.changes ns ss is k) x.patch.changes[l[j]]]),v'),⟨by dsimp only;omega,?_⟩,by dsimp only;omega,⟨rfl,rfl,rfl,rfl,rfl,rfl,rfl⟩,.refl _⟩
  dsimp only
  rw[A7 hjl,Aq,hcs,List.map_singleton,hgd]
 ·have hcs:cs1=l.map fun c=>FU (fQ x.patch.changes ns ss is k) (x.patch.changes.getD c Chg.zero):=by rw[hcs,AF (by omega)]
  rw[←hcs]
  refine wf ?_
  exact⟨trivial,_,_,.cons (.cell 8 40 rfl (AJ _ AG) FA.out (by simp)) .nil,.cons _ (.cons _ (.cons _ (.refl _))),⟨tg,rfl⟩,rfl⟩
end Go.Proofs
