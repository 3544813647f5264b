/- Contracts of the reference: Squashed, Squash. -/
import Derived.Test.YtaibdmankdppkaaGreatDoorXat
set_option linter.unusedSimpArgs false
set_option linter.unusedVariables false
set_option maxHeartbeats 8000000
namespace Go.Proofs
open Go Go.Q
attribute [local irreducible] ER AQ H0 BG Fu
instance (m:Mta) (ds:List Dig) (cs:List Chg) (tg:CN):Jl (.agg (gF m ds cs tg)) (.agg (Ba ⟨m.author,m.message,m.time,ds,cs⟩)):=⟨qF m ds cs tg⟩
instance (m:Mta) (ds:List Dig) (cs:List Chg) (tg:CN):Cx (gF m ds cs tg) 5:=⟨rfl⟩
instance yX (m:Mta) (ds:List Dig) (cs:List Chg) (tg:CN):At (gF m ds cs tg) 4 (.slice (cs.map eChg) tg):=⟨rfl⟩
end Go.Proofs
namespace Go.Q
open Go
def U7 (l:List Int):List PV:= [.slice (l.map eI) .ro]
@[simp] theorem ng (l:List Int):(U7 l).length=1:=rfl
instance :NR U7 1:=⟨ng⟩
theorem ZT {n:Nat} {f:Nat→PV} {c:Nat} (h:c < n):At ((List.range n).map f) (0+c*1) (f c):=⟨by simp[h]⟩
theorem R9 {n:Nat} {f g:Nat→PV} {c:Nat} (h:c < n) (hg: ∀ d,d < n→g d=if d=c then g c else f d):FB ((List.range n).map f) (0+c*1) [g c] ((List.range n).map g):=⟨by
 have hs:((List.range n).map f).set c (g c)=(List.range n).map g:=by
  refine DY (by simp) fun i h1 h2=>?_
  simp only[AR,FF]at h2
  rw[l8,BQ,BQ,Pk,hg i h2]
  by_cases e:c=i
  ·rw[if_pos e,if_pos e.symm]
  ·rw[if_neg e,if_neg fun k=>e k.symm]
 refine⟨?_,by simp;omega⟩
 rw[BL,IG,←hs,Gu,if_pos (by simpa using h),AV,MM]
 rfl⟩
end Go.Q
namespace Go.Proofs
open Go Go.Q
attribute [local irreducible] ER AQ H0 BG Fu
theorem QW (A:List (List Int)) (m:List Int) (c:Int):Qn (A++ [m]) c=if c∈A.flatten then Qn A c else if c∈m then(A.length:Int)else -1:=by
 unfold Qn
 rw[List.findIdx?_append]
 cases h:A.findIdx? (fun l=>decide (c∈l))with
 |some k=>
  obtain⟨hk,h1,_⟩:=Ks.1 h
  rw[if_pos (EA.2 ⟨_,AJ hk,BF h1⟩)]
  rfl
 |none=>
  have hn:c∉A.flatten:=fun hc=>by
   obtain⟨l,hl,hcl⟩:=EA.1 hc
   have:=ug.1 h l hl
   simp[hcl]at this
  rw[if_neg hn]
  by_cases hm:c∈m
  ·rw[if_pos hm,List.findIdx?_cons]
   simp[hm]
  ·rw[if_neg hm,List.findIdx?_cons]
   simp[hm]
theorem RQ (A:List (List Int)) (c:Int): -1≤Qn A c∧Qn A c < A.length∧(0≤Qn A c↔c∈A.flatten):=by
 unfold Qn
 cases h:A.findIdx? (fun l=>decide (c∈l))with
 |some k=>
  obtain⟨hk,h1,_⟩:=Ks.1 h
  refine⟨by dsimp only;omega,by dsimp only;omega,fun _=>EA.2 ⟨_,AJ hk,BF h1⟩,fun _=>by dsimp only;omega⟩
 |none=>
  refine⟨by decide,by dsimp only;omega,fun h=>absurd h (by decide),fun hc=>?_⟩
  obtain⟨l,hl,hcl⟩:=EA.1 hc
  have:=ug.1 h l hl
  simp[hcl]at this
theorem aW {n:Nat} {D l:List Int} {ps:List (List Int)}:FO n D (l::ps)=(TK n D l&&decide (l≠ [])&&FO n (D++l) ps):=rfl
theorem eb {n:Nat} {D l:List Int} {i:Nat} (hi:i < l.length) (h:Pd n D l i=true):TK n D l=false:=by
 unfold TK
 exact J3.2 ⟨i,BW.2 hi,by simp[h]⟩
theorem aV {n:Nat} {D l:List Int} (h: ∀ i,i < l.length→Pd n D l i=false):TK n D l=true:=by
 unfold TK
 exact BT.2 fun i hi=>by simp[h i (BW.1 hi)]
def Yp (n:Nat) (A:List (List Int)):List PV:=(List.range n).map fun c=> .raw (.int .i64 (Qn A (c:Nat)))
theorem nl (n:Nat) (A:List (List Int)):Yp n (A++ [[]])=Yp n A:=by
 unfold Yp
 refine C6 fun c _=>?_
 rw[QW]
 obtain⟨h1,h2,h3⟩:=RQ A c
 split
 ·rfl
 ·rename_i h
  rw[if_neg Ah]
  have: ¬0≤Qn A c:=fun k=>h (h3.1 k)
  rw[show Qn A c= -1 by omega]
theorem nk {n:Nat} {A:List (List Int)} {l:List Int} {i:Nat} (hi:i < l.length) {c:Nat} (hc:c < n) (hx:l[i]=(c:Int)) (hn:(c:Int)∉A.flatten++l.take i):FB (Yp n (A++ [l.take i])) (0+c*1) [.raw (.int .i64 A.length)] (Yp n (A++ [l.take (i+1)])):=by
 have h1:(c:Int)∉A.flatten:=fun h=>hn (EI _ h)
 have h2:(c:Int)∉l.take i:=fun h=>hn (ED _ h)
 have e:l.take (i+1)=l.take i++ [(c:Int)]:=by rw[A7 hi,hx]
 have hg:Qn (A++ [l.take (i+1)]) c=A.length:=by rw[QW,if_neg h1,if_pos (by rw[e];simp)]
 have:=R9 (f:=fun d=>PV.raw (.int .i64 (Qn (A++ [l.take i]) (d:Nat)))) (g:=fun d=>PV.raw (.int .i64 (Qn (A++ [l.take (i+1)]) (d:Nat)))) hc fun d hd=>by
  by_cases hdc:d=c
  ·rw[if_pos hdc,hdc]
  ·rw[if_neg hdc,QW,QW]
   have:((d:Int)∈l.take (i+1))=((d:Int)∈l.take i):=by
    rw[e]
    simp only[Ai,Ag,eq_iff_iff]
    exact⟨fun h=>h.elim id fun h=>absurd (by omega) hdc,.inl⟩
   simp only[this]
 rw[hg]at this
 exact this
theorem oY {n:Nat} {A:List (List Int)} {l:List Int} {i:Nat} (hi:i < l.length) {c:Nat} (hx:l[i]=(c:Int)):Pd n A.flatten l i=(decide (n≤c)||decide (0≤Qn (A++ [l.take i]) c)||(decide (0 < i)&&decide ((c:Int)≤l.getD (i - 1) 0))):=by
 unfold Pd
 have e:l.getD i 0=(c:Int):=by simp[List.getD,hi,hx]
 have h3:=(RQ (A++ [l.take i]) c).2.2
 rw[CF,GV]at h3
 rw[e,Ck (show ¬(c:Int) < 0 by omega),Fi]
 congr 1
 congr 1
 ·rw[decide_eq_decide];omega
 ·rw[decide_eq_decide];exact h3.symm
theorem WU (n:Nat) (Q:List (List Int)) (t:CN) (hn:n≤1000000) (hQ:Q.length≤1000000) (hl: ∀ l∈Q,l.length≤1000000):BG Tryz.prog 63 [.raw (.int .i64 (n:Int)),.slice (Q.map U7) t] []
  (fun r L'=>L'= []∧((r= .tuple [.slice [] .nil,.raw (.bool false)]∧FO n [] Q=false)∨ ∃ b,r= .tuple [.slice (((List.range n).map fun c=>Qn Q (c:Nat)).map eI) .ro,.raw (.bool b)]∧FO n [] Q=b)):=by
 refine CA Tryz.func63 rfl Tryz.ntmps63 (rs:= [.tmp 4,.tmp 5]) rfl rfl fun hb LF=>?_
 refine wf ?_
 refine pf (z:= .raw (.int .i64 0)) rfl rfl (by omega) (by omega) fun b=>?_
 refine wf ?_
 refine KP rfl ?_
 refine wf ?_
 refine Ab (σ:=Nat) (fun k=>k≤n) (fun k=>n - k) (fun k=> [(0,.raw (.int .i64 (n:Int))),(1,.slice (Q.map U7) t),(6,.raw (.slice (some ⟨b,0,none⟩) n n)),(16,.raw (.int .i64 (n:Int))),(17,.raw (.int .i64 k))]) (fun k=> .box b 3 ((List.range n).map fun c=>if c < k then .raw (.int .i64 (-1))else .raw (.int .i64 0))::LF) 0 (by omega) ⟨rfl,rfl,rfl,rfl,rfl⟩ (by
  have:((List.range n).map fun c=>if c < 0 then(PV.raw (.int .i64 (-1)))else .raw (.int .i64 0))=List.replicate n (.raw (.int .i64 0)):=DY (by simp) fun i h1 h2=>by simp
  rw[this];exact .refl _) ?_
 rintro k hk
 refine wf ?_
 refine A6 (fun hc=>?_) (fun hc=>?_)
 ·have hlt:k < n:=by omega
  have ip:FB ((List.range n).map fun c=>if c < k then(PV.raw (.int .i64 (-1)))else .raw (.int .i64 0)) (0+k*1) [.raw (.int .i64 (-1))] ((List.range n).map fun c=>if c < k+1 then .raw (.int .i64 (-1))else .raw (.int .i64 0)):=by
   have:=R9 (f:=fun c=>if c < k then(PV.raw (.int .i64 (-1)))else .raw (.int .i64 0)) (g:=fun c=>if c < k+1 then(PV.raw (.int .i64 (-1)))else .raw (.int .i64 0)) hlt fun d hd=>by
    by_cases e:d=k
    ·rw[if_pos e];simp[e]
    ·rw[if_neg e]
     by_cases h2:d < k
     ·rw[if_pos h2,if_pos (by omega)]
     ·rw[if_neg h2,if_neg (by omega)]
   simpa using this
  refine wf ?_
  refine Fe (k:=k) rfl rfl hlt ?_
  refine wf ?_
  exact⟨k+1,by omega,by dsimp only;omega,⟨rfl,rfl,rfl,rfl,rfl⟩,.refl _⟩
 have h0:((List.range n).map fun c=>if c < k then(PV.raw (.int .i64 (-1)))else .raw (.int .i64 0))=Yp n []:=by
  unfold Yp
  refine C6 fun c hcm=>?_
  have:=BW.1 hcm
  rw[if_pos (by omega)]
  rfl
 rw[h0]
 clear h0
 refine wf ?_
 refine Ab (σ:=Nat) (fun k=>k≤Q.length∧FO n [] Q=FO n (Q.take k).flatten (Q.drop k)∧(Q.take k).flatten.length≤k*1000000) (fun k=>Q.length - k) (fun k=> [(0,.raw (.int .i64 (n:Int))),(1,.slice (Q.map U7) t),(6,.raw (.slice (some ⟨b,0,none⟩) n n)),(8,.raw (.int .i64 ((Q.take k).flatten.length:Nat))),(24,.slice (Q.map U7) t),(25,.raw (.int .i64 Q.length)),(26,.raw (.int .i64 k))]) (fun k=> .box b 3 (Yp n (Q.take k))::LF) 0 ⟨by simp,by simp,by simp⟩ ⟨rfl,rfl,rfl,rfl,rfl,rfl,rfl⟩ (.refl _) ?_
 rintro k ⟨hk,hok,hfl⟩
 refine wf ?_
 refine A6 (fun hc=>?_) (fun hc=>?_)
 ·have hlt:k < Q.length:=by omega
  have hll:=hl _ (AJ hlt)
  rw[CP hlt,aW]at hok
  obtain⟨l,hql⟩: ∃ l,l=Q[k]:=⟨_,rfl⟩
  rw[←hql]at hok hll
  have htk:Q.take (k+1)=Q.take k++ [l]:=by rw[A7 hlt,hql]
  generalize hD:(Q.take k).flatten=D at hok hfl
  refine wf ?_
  rw[←hql]
  refine A6 (fun he=>?_) (fun he=>?_)
  ·refine wf ?_
   have hl0:l= []:=BO (by omega)
   exact⟨trivial,_,[],.cons (.tmp 4) (.cons (.tmp 5) .nil),.cons _ (.refl _),rfl,.inl ⟨rfl,by rw[hok,hl0];simp⟩⟩
  obtain⟨A,hA⟩: ∃ A,A=Q.take k:=⟨_,rfl⟩
  have hAl:A.length=k:=by rw[hA];simp;omega
  rw[←hA]at hD htk ⊢
  refine wf ?_
  refine Ab (σ:=Nat) (fun i=>i≤l.length∧ ∀ j,j < i→Pd n D l j=false) (fun i=>l.length - i) (fun i=> [(0,.raw (.int .i64 (n:Int))),(1,.slice (Q.map U7) t),(6,.raw (.slice (some ⟨b,0,none⟩) n n)),(8,.raw (.int .i64 ((D.length+i:Nat)))),(9,.raw (.int .i64 k)),(10,.slice (l.map eI) .ro),(24,.slice (Q.map U7) t),(25,.raw (.int .i64 Q.length)),(26,.raw (.int .i64 k)),(34,.slice (l.map eI) .ro),(35,.raw (.int .i64 l.length)),(36,.raw (.int .i64 i))]) (fun i=> .box b 3 (Yp n (A++ [l.take i]))::LF) 0 ⟨by simp,fun j hj=>absurd hj (Dv _)⟩ ⟨rfl,rfl,rfl,by rw[←hD];rfl,rfl,rfl,rfl,rfl,rfl,rfl,rfl,rfl⟩ (by rw[List.take_zero,nl];exact .refl _) ?_
  rintro i ⟨hi,hbad⟩
  refine wf ?_
  refine A6 (fun hc2=>?_) (fun hc2=>?_)
  ·have hil:i < l.length:=by omega
   have hret:Pd n D l i=true→FO n [] Q=false:=fun h=>by rw[hok,eb hil h];rfl
   refine wf ?_
   by_cases hx0:l[i] < 0
   ·have hb1:Pd n D l i=true:=by
     unfold Pd
     rw[show l.getD i 0=l[i] by simp[List.getD,hil],BK hx0];rfl
    have hret:=hret hb1
    generalize l[i]=x at*
    refine BR [(67,.raw (.bool (Pd n D l i))),(0,.raw (.int .i64 (n:Int))),(1,.slice (Q.map U7) t),(6,.raw (.slice (some ⟨b,0,none⟩) n n)),(8,.raw (.int .i64 ((D.length+i:Nat)))),(9,.raw (.int .i64 k)),(10,.slice (l.map eI) .ro),(11,.raw (.int .i64 i)),(12,.raw (.int .i64 x)),(24,.slice (Q.map U7) t),(25,.raw (.int .i64 Q.length)),(26,.raw (.int .i64 k)),(34,.slice (l.map eI) .ro),(35,.raw (.int .i64 l.length)),(36,.raw (.int .i64 i))] (.box b 3 (Yp n (A++ [l.take i]))::LF) ?_ ?_
    ·repeat' (first|(refine A6 (fun h=>?_) (fun h=>?_)<;>refine wf ?_)|(refine AX (fun h=>?_) (fun h=>?_)<;>refine wf ?_)|(refine AU (fun h=>?_) (fun h=>?_)<;>refine wf ?_)|(refine Ar (fun h=>?_) (fun h=>?_)<;>(have h2:=h;(try simp only[AB,A8,AG,AL]at h2);refine wf ?_)))
     all_goals first|(refine⟨⟨C4 (by rfl) ?_,rfl,rfl,rfl,rfl,rfl,rfl,rfl,rfl,rfl,rfl,rfl,rfl,rfl,rfl⟩,.refl _⟩;first|(rw[hb1];done)|(rw[hb1];first|(simp_all;done)|(exfalso;simp_all;omega)))|(exfalso;simp_all;done)|(exfalso;simp_all;omega)|(trace_state;fail)
    refine wf ?_
    refine AU (fun hr=>?_) (fun hr=>?_)
    ·refine wf ?_
     exact⟨trivial,_,[],.cons (.tmp 4) (.cons (.tmp 5) .nil),.cons _ (.refl _),rfl,.inl ⟨rfl,hret⟩⟩
    ·rw[hb1]at hr
     simp at hr
   ·obtain⟨c,hcx⟩:=yB (show 0≤l[i] by omega)
    have hbe:=oY (n:=n) (A:=A) hil hcx
    rw[hD]at hbe
    have iat: ∀ hcn:c < n,At (Yp n (A++ [l.take i])) (0+c*1) (.raw (.int .i64 (Qn (A++ [l.take i]) (c:Nat)))):=fun hcn=>ZT (f:=fun c=>PV.raw (.int .i64 (Qn (A++ [l.take i]) (c:Nat)))) hcn
    rw[hcx]
    by_cases hcn:c < n
    ·have iat:=iat hcn
     refine BR [(67,.raw (.bool (Pd n D l i))),(0,.raw (.int .i64 (n:Int))),(1,.slice (Q.map U7) t),(6,.raw (.slice (some ⟨b,0,none⟩) n n)),(8,.raw (.int .i64 ((D.length+i:Nat)))),(9,.raw (.int .i64 k)),(10,.slice (l.map eI) .ro),(11,.raw (.int .i64 i)),(12,.raw (.int .i64 (c:Int))),(24,.slice (Q.map U7) t),(25,.raw (.int .i64 Q.length)),(26,.raw (.int .i64 k)),(34,.slice (l.map eI) .ro),(35,.raw (.int .i64 l.length)),(36,.raw (.int .i64 i))] (.box b 3 (Yp n (A++ [l.take i]))::LF) ?_ ?_
     ·rcases Ph i with hi0|hi0
      ·rw[Ck (show ¬0 < i by omega),th,xG]at hbe
       repeat' (first|(refine Fe (k:=c) rfl rfl hcn ?_;refine wf ?_)|(refine A6 (fun h=>?_) (fun h=>?_)<;>refine wf ?_)|(refine AX (fun h=>?_) (fun h=>?_)<;>refine wf ?_)|(refine AU (fun h=>?_) (fun h=>?_)<;>refine wf ?_)|(refine Ar (fun h=>?_) (fun h=>?_)<;>(have h2:=h;(try simp only[AB,A8,AG,AL]at h2);refine wf ?_)))
       all_goals first|(refine⟨⟨C4 (by rfl) ?_,rfl,rfl,rfl,rfl,rfl,rfl,rfl,rfl,rfl,rfl,rfl,rfl,rfl,rfl⟩,.refl _⟩;rw[hbe];first|(simp_all;done)|(simp_all;omega)|grind)|(exfalso;simp_all;done)|(exfalso;simp_all;omega)|(trace_state;fail)
      ·have hj:i - 1 < l.length:=by omega
       repeat' (first|(refine Fe (k:=c) rfl rfl hcn ?_;refine wf ?_)|(refine A6 (fun h=>?_) (fun h=>?_)<;>refine wf ?_)|(refine AX (fun h=>?_) (fun h=>?_)<;>refine wf ?_)|(refine AU (fun h=>?_) (fun h=>?_)<;>refine wf ?_)|(refine Ar (fun h=>?_) (fun h=>?_)<;>(have h2:=h;(try simp only[AB,A8,AG,AL]at h2);refine wf ?_)))
       all_goals first|(refine⟨⟨C4 (by rfl) ?_,rfl,rfl,rfl,rfl,rfl,rfl,rfl,rfl,rfl,rfl,rfl,rfl,rfl,rfl⟩,.refl _⟩;rw[hbe];first|(simp_all;done)|(simp_all;omega)|grind)|(exfalso;simp_all;done)|(exfalso;simp_all;omega)|(trace_state;fail)
     refine wf ?_
     refine AU (fun hr=>?_) (fun hr=>?_)
     ·refine wf ?_
      exact⟨trivial,_,[],.cons (.tmp 4) (.cons (.tmp 5) .nil),.cons _ (.refl _),rfl,.inl ⟨rfl,hret hr⟩⟩
     have hnm:(c:Int)∉A.flatten++l.take i:=fun hm=>by
      have:=hbe.symm.trans hr
      have h3:=(RQ (A++ [l.take i]) c).2.2
      rw[CF,GV]at h3
      rw[BK (h3.2 hm)]at this
      simp at this
     have iput:=nk hil hcn hcx hnm
     rw[hAl]at iput
     refine wf ?_
     refine Fe (k:=c) rfl rfl hcn ?_
     refine wf ?_
     refine⟨i+1,⟨by omega,fun j hj=>?_⟩,by dsimp only;omega,⟨rfl,rfl,rfl,rfl,rfl,rfl,rfl,rfl,rfl,rfl,rfl,rfl⟩,.refl _⟩
     by_cases e:j=i
     ·rw[e];exact hr
     ·exact hbad j (by omega)
    ·have hb1:Pd n D l i=true:=by rw[hbe,BK (show n≤c by omega)];rfl
     have hret:=hret hb1
     refine BR [(67,.raw (.bool (Pd n D l i))),(0,.raw (.int .i64 (n:Int))),(1,.slice (Q.map U7) t),(6,.raw (.slice (some ⟨b,0,none⟩) n n)),(8,.raw (.int .i64 ((D.length+i:Nat)))),(9,.raw (.int .i64 k)),(10,.slice (l.map eI) .ro),(11,.raw (.int .i64 i)),(12,.raw (.int .i64 (c:Int))),(24,.slice (Q.map U7) t),(25,.raw (.int .i64 Q.length)),(26,.raw (.int .i64 k)),(34,.slice (l.map eI) .ro),(35,.raw (.int .i64 l.length)),(36,.raw (.int .i64 i))] (.box b 3 (Yp n (A++ [l.take i]))::LF) ?_ ?_
     ·repeat' (first|(refine A6 (fun h=>?_) (fun h=>?_)<;>refine wf ?_)|(refine AX (fun h=>?_) (fun h=>?_)<;>refine wf ?_)|(refine AU (fun h=>?_) (fun h=>?_)<;>refine wf ?_)|(refine Ar (fun h=>?_) (fun h=>?_)<;>(have h2:=h;(try simp only[AB,A8,AG,AL]at h2);refine wf ?_)))
      all_goals first|(refine⟨⟨C4 (by rfl) ?_,rfl,rfl,rfl,rfl,rfl,rfl,rfl,rfl,rfl,rfl,rfl,rfl,rfl,rfl⟩,.refl _⟩;first|(rw[hb1];done)|(rw[hb1];first|(simp_all;done)|(exfalso;simp_all;omega)))|(exfalso;simp_all;done)|(exfalso;simp_all;omega)|(trace_state;fail)
     refine wf ?_
     refine AU (fun hr=>?_) (fun hr=>?_)
     ·refine wf ?_
      exact⟨trivial,_,[],.cons (.tmp 4) (.cons (.tmp 5) .nil),.cons _ (.refl _),rfl,.inl ⟨rfl,hret⟩⟩
     ·rw[hb1]at hr
      simp at hr
  ·obtain rfl:i=l.length:=by omega
   have hl0:l≠ []:=fun e=>he (by rw[e];rfl)
   rw[aV (fun j hj=>hbad j (by omega)),BK hl0,Fh,Fh]at hok
   refine wf ?_
   refine⟨k+1,⟨by omega,?_,?_⟩,by dsimp only;omega,⟨rfl,rfl,rfl,?_,rfl,rfl,rfl⟩,?_⟩
   ·rw[hok,htk,CF,GV,hD]
   ·rw[htk,CF,GV,hD,AA];omega
   ·have e2:((Q.take (k+1)).flatten.length:Nat)=D.length+l.length:=by rw[htk,CF,GV,hD,AA]
    simp only[e2]
    rfl
   ·dsimp only
    rw[htk,EN];exact .refl _
 ·have hk2:k=Q.length:=by omega
  subst hk2
  rw[List.drop_length,EN]at hok
  rw[EN]at hfl ⊢
  have e1:(((List.range n).map fun c=>Qn Q (c:Nat)).map eI).flatten=Yp n Q:=by
   unfold Yp
   rw[CK]
   generalize List.range n=rs
   induction rs with
   |nil=>rfl
   |cons x xs ih=>rw[Aq,Cf,ih];rfl
  have hv1:Hf 3 1 (.slice (some ⟨b,0,none⟩) n n) (((List.range n).map fun c=>Qn Q (c:Nat)).map eI) [.box b 3 (Yp n Q)]:=by
   have:=Hf.row (E:=3) (sz:=1) (r:=b) (n:=n) (cap:=n) (xs:=((List.range n).map fun c=>Qn Q (c:Nat)).map eI) (rest:= []) (by simp) (Ak _) (by simp[eI]) (by rw[e1];simp[Yp])
   rw[e1,BU]at this
   exact this
  refine Je 6 hv1 ⟨by simp[maxN];omega,by simp[maxN];omega⟩ (.refl _) rfl ?_
  refine wf ?_
  refine⟨trivial,_,[],.cons (.tmp 4) (.cons (.tmp 5) .nil),.refl _,rfl,.inr ⟨_,rfl,?_⟩⟩
  rw[hok]
  show decide (Q.flatten.length=n)=decide ((Q.flatten.length:Int)=n)
  rw[decide_eq_decide];omega
theorem cP {cs:List Chg} {n:Int} {k:Nat} (hk:k < cs.length) (h1:(DT cs k:Int)≤n) (h2: ∀ i,k < i→i < cs.length→ ¬(DT cs i:Int)≤n):E1 cs n=k:=by
 unfold E1
 rw[O4 (f:=DT cs) (fun i j h=>FS cs h) hk h1 h2]
 rfl
def kY (b:Nat) (k:Nat) (LF:List Res):List Res:= .box b 3 [.raw (.int .i64 (k:Int))]::LF
theorem VT {s:List Sto} (v:Bc s) {x:Sto} (hx:x∈s) {n:Nat} (hn:n < x.patch.changes.length):C9 Tryz.prog 31 [.agg (Ba x.patch),.raw (.int .i64 (n:Int))] (.raw (.int .i64 (DT x.patch.changes n:Int))):=⟨by
 have hb0:=v.close.1.2 x hx
 have i1:B4 (E5 x.patch=false):=⟨hb0⟩
 obtain⟨_,_,g1,g2,gch⟩:=Eh hb0
 have hp:=Gl (IM (v.id x hx).1).1
 have hc16:DT x.patch.changes x.patch.changes.length≤16200:=by
  have h1:cntS s x.id=DT x.patch.changes x.patch.changes.length:=by rw[v.cntS hx,hp.cnt]
  have h2:cntS s x.id≤16200:=by rw[v.cntS hx];exact(Ej hb0).1
  omega
 refine Au Tryz.func31 Tryz.ntmps31 rfl (rs:= [.tmp 4]) rfl rfl fun hb LF=>?_
 have he:(CD x.patch).2=0:=by
  have:=(v.id x hx).1
  rw[EW]at this
  split at this
  ·rename_i h;exact absurd this h
  ·rename_i h;simpa using h
 refine wf ?_
 refine BR [(21,.raw (.bool (false))),(1,.raw (.int .i64 (n:Int))),(2,.pt (Ba x.patch) 0)] (LF) ?_ ?_
 ·repeat' (first|(refine A6 (fun h=>?_) (fun h=>?_)<;>refine wf ?_)|(refine AX (fun h=>?_) (fun h=>?_)<;>refine wf ?_)|(refine AU (fun h=>?_) (fun h=>?_)<;>refine wf ?_)|(refine Ar (fun h=>?_) (fun h=>?_)<;>(have h2:=h;(try simp only[AB,A8,AG,AL]at h2);refine wf ?_)))
  all_goals (refine⟨⟨C4 (by rfl) ?_,rfl,rfl⟩,.refl _⟩;first|(simp_all;done)|(exfalso;simp_all;omega)|grind|(trace_state;fail))
 refine wf ?_
 refine XY fun b5=>?_
 obtain⟨L,hL⟩: ∃ L,L=x.patch.changes.take n:=⟨_,rfl⟩
 have hfl:DT L L.length=DT x.patch.changes n:=by
  unfold DT
  rw[EN,hL]
 have hLl:L.length=n:=by rw[hL,AZ];omega
 have hLm: ∀ c∈L,c∈x.patch.changes:=fun c hc=>Ek (hL ▸ hc)
 have hnn:=FS x.patch.changes (show n≤x.patch.changes.length by omega)
 rw[←hL]
 clear hL
 refine Ab (σ:=Nat) (fun k=>k≤L.length) (fun k=>L.length - k) (fun k=> [(5,.raw (.pointer (some ⟨b5,0,none⟩))),(25,.slice (L.map eChg) .ro),(26,.raw (.int .i64 L.length)),(27,.raw (.int .i64 k))]) (fun k=>kY b5 (DT L k) LF) 0 (by omega) ⟨rfl,rfl,rfl,rfl⟩ (by rw[RV];exact .refl _) ?_
 rintro k hk
 have hmk:=FS L (show k≤L.length by omega)
 unfold kY
 refine wf ?_
 refine A6 (fun hc=>?_) (fun hc=>?_)
 ·have hlt:k < L.length:=by omega
  have hm:=hLm _ (AJ hlt)
  have hkk:=v.kinds hx _ hm
  have hll:=(gch _ hm).lines
  have hs:=JK hlt
  have hm2:=FS L (show k+1≤L.length by omega)
  refine wz fun b7=>?_
  refine Ay 7 ?_
  refine wf ?_
  refine JV (RK L[k] (DT L k:Nat) hkk ⟨by omega,by omega,by omega⟩) [34] (σ:=Nat) (fun pre s=>s=DT L k+pre.length) (fun _ _=>False) (fun s LF'=>kY b5 s LF') (DT L k) LF (.refl _) rfl (fun _=>rfl) (by simp) (fun _ _=>rfl) (.refl _) (by simp) ?_ ?_ (fun _ _ h=>h.elim)
  ·rintro pre y q LF' hpre hI
   have hpl:=hpre.length_le
   rw[R6,AA,BA]at hpl
   unfold kY
   refine wf ?_
   refine⟨q+1,by dsimp only at hI ⊢;rw[AA,BA];omega,?_⟩
   exact .refl _
  ·rintro q hI
   rw[R6,←hs]at hI
   unfold kY
   refine wf ?_
   refine⟨k+1,by omega,by dsimp only;omega,⟨rfl,rfl,rfl,rfl⟩,?_⟩
   rw[hI];exact .refl _
 ·obtain rfl:k=L.length:=by omega
  refine wf ?_
  refine Az (.of_eq ?_)
  rw[hfl]⟩
instance vu (a b:Int):C9 Tryz.prog 229 [.raw (.int .i64 a),.raw (.int .i64 b)] (.raw (.bool (decide (a < b)))):=⟨by
 refine Au Tryz.func229 Tryz.ntmps229 rfl (rs:= [.tmp 4]) rfl rfl fun hb LF=>?_
 refine wf ?_
 refine Az (.of_eq rfl)⟩
instance uF (a:Int):C9 Tryz.prog 230 [.raw (.int .i64 a)] (.raw (.bool false)):=⟨by
 refine Au Tryz.func230 Tryz.ntmps230 rfl (rs:= [.tmp 2]) rfl rfl fun hb LF=>?_
 refine wf ?_
 refine Az (.of_eq ?_)
 simp⟩
def PO (l:List Int) (n:Int):Nat:=l.findIdx fun x=>decide (n≤x)
theorem nC {l:List Int} {n:Int} {i:Nat} (hi:i≤l.length) (h1: ∀ k (h:k < l.length),k < i→l[k] < n) (h2: ∀ k (h:k < l.length),i≤k→n≤l[k]):PO l n=i:=by
 unfold PO
 by_cases h:i < l.length
 ·refine pE h |>.2 ⟨BK (h2 i h (Ak _)),fun j hj=>?_⟩
  have:=h1 j (by omega) hj
  simp;omega
 ·obtain rfl:i=l.length:=by omega
  refine yn.2 fun y hy=>?_
  obtain⟨k,hk,rfl⟩:=Ad.1 hy
  have:=h1 k hk hk
  simp;omega
theorem oW (l:List Int) (t:CN) (n:Int) (ha:l.Pairwise (·< ·)) (hl:l.length≤1000000):C9 Tryz.prog 181 [.slice (l.map eI) t,.raw (.int .i64 n)] (.tuple [.raw (.int .i64 (PO l n)),.raw (.bool (decide (l[PO l n]? =some n)))]):=⟨by
 refine Au Tryz.func181 Tryz.ntmps181 rfl (rs:= [.tmp 4,.tmp 5]) rfl rfl fun hb LF=>?_
 refine wf ?_
 refine Ab (σ:=Nat × Nat) (fun k=>k.1≤k.2∧k.2≤l.length∧(∀ i (h:i < l.length),i < k.1→l[i] < n)∧(∀ i (h:i < l.length),k.2≤i→n≤l[i])) (fun k=>k.2 - k.1) (fun k=> [(0,.slice (l.map eI) t),(1,.raw (.int .i64 n)),(6,.raw (.int .i64 l.length)),(7,.raw (.int .i64 k.1)),(8,.raw (.int .i64 k.2))]) (fun _=>LF) (0,l.length) ⟨XO _,Ak _,fun i _ h=>absurd h (Dv _),fun i h h2=>absurd h (Nat.not_lt.2 h2)⟩ ⟨rfl,rfl,rfl,rfl,rfl⟩ (.refl _) ?_
 rintro⟨i,j⟩ ⟨hij,hjn,h1,h2⟩
 dsimp only at hij hjn h1 h2 ⊢
 have mono: ∀ a b (ha':a < l.length) (hb':b < l.length),a < b→l[a] < l[b]:=fun a b x y h=>B7.1 ha a b x y h
 refine wf ?_
 refine A6 (fun hc=>?_) (fun hc=>?_)
 ·have hlt:i < j:=by omega
  obtain⟨m,hm⟩: ∃ m,m=(i+j) / 2 ^ (min 1 64):=⟨_,rfl⟩
  have hm2:m=(i+j) / 2:=hm
  have hmn:m < l.length:=by omega
  refine wf ?_
  refine W5 (n:=(((i+j) / 2 ^ (min 1 64):Nat):Int)) rfl (IntWalk.i64_in _ ⟨by omega,by omega⟩) ?_
  rw[←hm]
  refine wf ?_
  refine A6 (fun h=>?_) (fun h=>?_)
  ·refine wf ?_
   refine⟨(m+1,j),⟨by dsimp only;omega,hjn,fun k hk hkm=>?_,h2⟩,by dsimp only;omega,⟨rfl,rfl,rfl,rfl,rfl⟩,.refl _⟩
   dsimp only at hkm
   by_cases e:k=m
   ·subst e;exact h
   ·have:=mono k m hk hmn (by omega);omega
  ·refine wf ?_
   refine⟨(i,m),⟨by dsimp only;omega,by dsimp only;omega,h1,fun k hk hkm=>?_⟩,by dsimp only;omega,⟨rfl,rfl,rfl,rfl,rfl⟩,.refl _⟩
   dsimp only at hkm
   by_cases e:k=m
   ·subst e;omega
   ·have:=mono m k hmn hk (by omega);omega
 ·have e:i=j:=by omega
  subst e
  rw[nC hjn h1 h2]
  by_cases hin:i < l.length
  ·have g:decide ((i:Int) < (l.length:Int))=true:=BK (by omega)
   refine wf ?_
   refine BR [(5,.raw (.bool (decide (l[i]? =some n)))),(4,.raw (.int .i64 i))] (LF) ?_ ?_
   ·repeat' (first|(refine A6 (fun h=>?_) (fun h=>?_)<;>refine wf ?_)|(refine AX (fun h=>?_) (fun h=>?_)<;>refine wf ?_)|(refine AU (fun h=>?_) (fun h=>?_)<;>refine wf ?_)|(refine Ar (fun h=>?_) (fun h=>?_)<;>(have h2:=h;(try simp only[AB,A8,AG,AL]at h2);refine wf ?_)))
    all_goals (refine⟨⟨C4 (by rfl) ?_,rfl⟩,.refl _⟩;rw[AW hin];first|(simp_all;done)|(simp_all;omega)|(trace_state;fail))
   refine wf ?_
   refine HD (.of_eq rfl)
  ·have g:decide ((i:Int) < (l.length:Int))=false:=Ck (by omega)
   refine wf ?_
   refine HD (.of_eq ?_)
   rw[FT (by omega)]
   rfl⟩
def Ec (cs:List Chg):List Int:=(List.range cs.length).map fun i=>(DT cs i:Int)
theorem Jh (cs:List Chg):(Ec cs).length=cs.length:=by simp[Ec]
theorem N3 {cs:List Chg} {i:Nat} (h:i < (Ec cs).length):(Ec cs)[i]=(DT cs i:Int):=by simp[Ec]
theorem kS {c:Chg} (h1:1≤c.kind) (h7:c.kind≤7):1≤Kr c:=by
 rw[tC h1 h7];unfold bG;split<;>omega
theorem cu {cs:List Chg} (hk: ∀ c∈cs,1≤c.kind∧c.kind≤7) {i j:Nat} (h:i < j) (hj:j < cs.length):DT cs i < DT cs j:=by
 have h1:=FS cs (show i+1≤j by omega)
 have hi:i < cs.length:=by omega
 have h2:=JK hi
 have h3:=hk _ (AJ hi)
 have:=kS h3.1 h3.2
 omega
theorem ZD {cs:List Chg} (hk: ∀ c∈cs,1≤c.kind∧c.kind≤7):(Ec cs).Pairwise (·< ·):=by
 refine B7.2 fun i j hi hj hij=>?_
 rw[N3,N3]
 have:=cu hk hij (by rw[Jh]at hj;exact hj)
 omega
theorem TF (l:List Int) (n:Int):PO l n≤l.length∧(∀ k (h:k < l.length),k < PO l n→l[k] < n)∧ ∀ h:PO l n < l.length,n≤l[PO l n]:=by
 refine⟨ym,fun k h hk=>?_,fun h=>?_⟩
 ·have:=yj hk
  simp at this;omega
 ·have:=List.findIdx_getElem (w:=h)
  exact BF this
theorem jJ {cs:List Chg} (hk: ∀ c∈cs,1≤c.kind∧c.kind≤7) (hne:cs≠ []) {n:Int} (h0:0≤n):
  ((Ec cs)[PO (Ec cs) n]? =some n→PO (Ec cs) n=E1 cs n)∧(¬(Ec cs)[PO (Ec cs) n]? =some n→PO (Ec cs) n=E1 cs n+1):=by
 obtain⟨h1,h2,h3⟩:=TF (Ec cs) n
 have hasc:=ZD hk
 generalize PO (Ec cs) n=p at*
 rw[Jh]at h1
 have up: ∀ i,p < i→i < cs.length→ ∀ hp:p < cs.length,(DT cs p:Int) < DT cs i:=fun i a b hp=>by have:=cu hk a b;omega
 constructor
 ·intro h
  obtain⟨hp,he⟩:=Bu.1 h
  rw[N3]at he
  rw[Jh]at hp
  rw[cP hp (by omega) fun i a b=>by have:=up i a b hp;omega]
 ·intro h
  have hlt: ∀ hp:p < cs.length,n < DT cs p:=fun hp=>by
   have hp':p < (Ec cs).length:=by rw[Jh];exact hp
   have h4:=h3 hp'
   rw[AW hp',N3]at h
   rw[N3]at h4
   have: ¬(DT cs p:Int)=n:=fun e=>h (by rw[e])
   omega
  have hp0:p≠0:=fun e=>by
   have:=hlt (by rw[e];exact Oj.2 hne)
   rw[e,RV]at this;omega
  obtain⟨q,rfl⟩: ∃ q,p=q+1:=⟨p - 1,by omega⟩
  have hq:q < (Ec cs).length:=by rw[Jh];omega
  have h5:=h2 q hq (by omega)
  rw[N3]at h5
  rw[cP (k:=q) (by omega) (by omega) fun i a b=>by
   have:=hlt (by omega)
   have:=FS cs (show q+1≤i by omega)
   omega]
theorem VG {cs:List Chg} (hk: ∀ c∈cs,1≤c.kind∧c.kind≤7) (hne:cs≠ []) (hl:cs.length≤1000000) (b:Nat) (us:List PV) (tg:CN) [At us 6 (.slice ((Ec cs).map eI) tg)] (y:Ident) (h0:0≤y.n):BG Tryz.prog 128 [.raw (.pointer (some ⟨b,0,none⟩)),.agg (eIdent y)] [.box b 104 us]
  (fun r L'=>r= .raw (.int .i64 (E1 cs y.n:Int))∧L'= [.box b 104 us]):=by
 have cb:=oW (Ec cs) tg y.n (ZD hk) (by rw[Jh];exact hl)
 obtain⟨m1,m2⟩:=jJ hk hne h0
 have hpl:=(TF (Ec cs) y.n).1
 rw[Jh]at hpl
 refine CA Tryz.func128 rfl Tryz.ntmps128 (rs:= [.tmp 4]) rfl rfl fun hb LF=>?_
 refine wn ?_
 refine Bp 12 ?_ ?_
 ·decide+kernel
 refine wf ?_
 refine AX (fun h=>?_) (fun h=>?_)
 ·refine wf ?_
  exact⟨trivial,_,_,.cons (.tmp 4) .nil,.refl _,by show PV.raw (.int .i64 ((PO (Ec cs) y.n:Int) - 1))=_;rw[m2 h];congr 2;omega,rfl⟩
 ·refine wf ?_
  exact⟨trivial,_,_,.cons (.tmp 4) .nil,.refl _,by show PV.raw (.int .i64 ((PO (Ec cs) y.n:Nat):Int))=_;rw[m1 h],rfl⟩
def gE (cs:List Chg) (ns:List Int) (i:Nat) (st:Bool) (y:Ident):Bool:=st||(EY y&&decide (ns.getD i 0 < ns.getD (E1 cs y.n) 0))
theorem fV {cs:List Chg} (hk: ∀ c∈cs,1≤c.kind∧c.kind≤7) (hl:cs.length≤1000000) (ns:List Int) (hns:ns.length=cs.length) (b3 bx i:Nat) (hi:i < cs.length) (us:List PV) (tg:CN) [At us 5 (.slice (ns.map eI) .ro)] [At us 6 (.slice ((Ec cs).map eI) tg)] (st:Bool) (y:Ident):
  BG Tryz.prog 127 [.agg (eIdent y),.raw (.pointer (some ⟨b3,0,none⟩)),.pt [.raw (.pointer (some ⟨bx,0,none⟩))] 0,.pt [.raw (.int .i64 (i:Int))] 0] [.box b3 4 [.raw (.bool st)],.box bx 104 us]
  (fun r L'=>r= .agg (eIdent y)∧L'= [.box b3 4 [.raw (.bool (gE cs ns i st y))],.box bx 104 us]):=by
 have hne:cs≠ []:=fun e=>by rw[e]at hi;exact absurd hi (Dv _)
 have hm:=Mu (n:=y.n) hne
 refine CA Tryz.func127 rfl Tryz.ntmps127 (rs:= [.cell 5 65]) rfl rfl fun hb LF=>?_
 rw[B0,B0,B9]
 refine wf ?_
 refine CC fun b5=>?_
 refine wn ?_
 refine Bp 24 ?_ ?_
 ·decide+kernel
 refine wf ?_
 refine Ar (fun h=>?_) (fun h=>?_)
 ·have e:gE cs ns i st y=true:=by unfold gE;rw[h];rfl
  rw[e]
  refine wf ?_
  exact⟨trivial,_,_,.cons (.cell 5 65 rfl AF FE.out (by simp)) .nil,.cons _ (.refl _),rfl,rfl⟩
 ·refine wf ?_
  refine Ar (fun ho=>?_) (fun ho=>?_)
  ·have h0:0≤y.n:=by unfold EY at ho;simp at ho;exact ho.2
   have hm':E1 cs y.n < ns.length:=by omega
   have hi':i < ns.length:=by omega
   have e:gE cs ns i st y=decide (ns[i] < ns[E1 cs y.n]):=by
    unfold gE
    rw[h,ho,Fi,Fh]
    simp[List.getD,hm',hi']
   rw[e]
   refine wf ?_
   refine Q7 (xs:= [.tmp 15,.tmp 16]) [.box bx 104 us] (.box b5 65 (eIdent Ident.zero):: .box b3 4 [.raw (.bool st)]::LF) (.raw (.int .i64 (E1 cs y.n:Int))) (f:=128) (cs:= []) (C5 _) rfl rfl OZ (VG hk hne hl bx us tg y h0) ?_
   refine wf ?_
   exact⟨trivial,_,_,.cons (.cell 5 65 rfl AF FE.out (by simp)) .nil,.cons _ (.refl _),rfl,rfl⟩
  ·have e:gE cs ns i st y=false:=by unfold gE;rw[h,ho];rfl
   rw[e]
   refine wf ?_
   exact⟨trivial,_,_,.cons (.cell 5 65 rfl AF FE.out (by simp)) .nil,.cons _ (.refl _),rfl,rfl⟩
theorem Yy {cs:List Chg} {ns:List Int} {i:Nat}: ∀ (l:List Ident) (st:Bool),l.foldl (gE cs ns i) st=(st||l.any fun y=>EY y&&decide (ns.getD i 0 < ns.getD (E1 cs y.n) 0))
 | [],st=>by simp
 |y::l,st=>by rw[C0,Yy l,gE,Zd,Bool.or_assoc]
theorem kL {cs:List Chg} (hk: ∀ c∈cs,1≤c.kind∧c.kind≤7) (hl:cs.length≤1000000) (ho: ∀ c∈cs,c.over.length≤1000) (ns:List Int) (hns:ns.length=cs.length) (bx:Nat) (us:List PV) (tg:CN) [At us 4 (.slice (cs.map eChg) .ro)] [At us 5 (.slice (ns.map eI) .ro)] [At us 6 (.slice ((Ec cs).map eI) tg)]:
  BG Tryz.prog 65 [.raw (.pointer (some ⟨bx,0,none⟩))] [.box bx 104 us]
  (fun r L'=>r= .raw (.bool ((List.range cs.length).any fun i=>(Ct (cs.getD i Chg.zero)).any fun y=>EY y&&decide (ns.getD i 0 < ns.getD (E1 cs y.n) 0)))∧L'= [.box bx 104 us]):=by
 refine CA Tryz.func65 rfl Tryz.ntmps65 (rs:= [.tmp 2]) rfl rfl fun hb LF=>?_
 rw[B0,B9]
 refine wf ?_
 refine XY fun b3=>?_
 let E:Nat→Bool:=fun i=>(Ct (cs.getD i Chg.zero)).any fun y=>EY y&&decide (ns.getD i 0 < ns.getD (E1 cs y.n) 0)
 have hE: ∀ i,E i=(Ct (cs.getD i Chg.zero)).any fun y=>EY y&&decide (ns.getD i 0 < ns.getD (E1 cs y.n) 0):=fun _=>rfl
 refine Ab (σ:=Nat) (fun k=>k≤cs.length) (fun k=>cs.length - k) (fun k=> [(1,.pt [.raw (.pointer (some ⟨bx,0,none⟩))] 0),(3,.raw (.pointer (some ⟨b3,0,none⟩))),(10,.slice (cs.map eChg) .ro),(11,.raw (.int .i64 cs.length)),(12,.raw (.int .i64 k))]) (fun k=> .box b3 4 [.raw (.bool ((List.range k).any E))]:: .box bx 104 us::LF) 0 (by omega) ⟨rfl,rfl,rfl,rfl,rfl⟩ (.refl _) ?_
 rintro k hk'
 refine wf ?_
 refine A6 (fun hc=>?_) (fun hc=>?_)
 ·have hlt:k < cs.length:=by omega
  have hm:=AJ hlt
  have hov:=ho _ hm
  have e:(Ct cs[k]).foldl (gE cs ns k) ((List.range k).any E)=(List.range (k+1)).any E:=by
   rw[Yy,E8,Gy,Zd,List.any_nil,xG,hE k]
   simp[List.getD,hlt]
  refine wf ?_
  refine CC fun b4=>?_
  refine wz fun b5=>?_
  refine Ay 5 ?_
  refine Ay 4 ?_
  refine wf ?_
  refine Bx (xs:= [.tmp 17,.tmp 18]) [.box b3 4 [.raw (.bool ((List.range k).any E))],.box bx 104 us] LF (fun R'=>R'++LF) (f:=102) (cs:= []) (C5 _) rfl rfl (.refl _) _ (RJ 127 _ (fun st:Bool=> [.box b3 4 [.raw (.bool st)],.box bx 104 us]) (fun y=>y) (gE cs ns k) cs[k] (fun st y _=>fV hk hl ns hns b3 bx k hlt us tg st y) hov ((List.range k).any E)) (fun _=> .refl _) fun r L' ⟨hr,hL'⟩=>?_
  rw[e]at hL'
  subst hL'
  rw[B0,B0,B9]
  refine wf ?_
  exact⟨k+1,by omega,by dsimp only;omega,⟨rfl,rfl,rfl,rfl,rfl⟩,.refl _⟩
 ·obtain rfl:k=cs.length:=by omega
  refine wf ?_
  exact⟨trivial,_,_,.cons (.tmp 2) .nil,.cons _ (.refl _),rfl,rfl⟩
end Go.Proofs
namespace Go.Q
open Go
def FM (p:Pat) (ns fs:List Int) (tf:CN) (ss:List Int) (ts:CN) (is:List Dig) (ti:CN):List PV:=Ba p++ [.slice (ns.map eI) .ro,.slice (fs.map eI) tf,.slice (ss.map eI) ts,.slice (is.map eDig) ti]
section
variable (p:Pat) (ns fs:List Int) (tf:CN) (ss:List Int) (ts:CN) (is:List Dig) (ti:CN)
@[simp] theorem vv:(FM p ns fs tf ss ts is ti).length=9:=rfl
instance xw:At (FM p ns fs tf ss ts is ti) 4 (.slice (p.changes.map eChg) .ro):=⟨rfl⟩
instance xv:At (FM p ns fs tf ss ts is ti) 5 (.slice (ns.map eI) .ro):=⟨rfl⟩
instance xu:At (FM p ns fs tf ss ts is ti) 6 (.slice (fs.map eI) tf):=⟨rfl⟩
instance xt:At (FM p ns fs tf ss ts is ti) 7 (.slice (ss.map eI) ts):=⟨rfl⟩
instance xr:At (FM p ns fs tf ss ts is ti) 8 (.slice (is.map eDig) ti):=⟨rfl⟩
instance vV (q:Pat):FB (FM p ns fs tf ss ts is ti) 0 (Ba q) (FM q ns fs tf ss ts is ti):=⟨rfl,Gg rfl⟩
instance vS (l:List Int):FB (FM p ns fs tf ss ts is ti) 5 [.slice (l.map eI) .ro] (FM p l fs tf ss ts is ti):=⟨rfl,Gg rfl⟩
end
end Go.Q
namespace Go.Proofs
open Go Go.Q
instance uj:Cq Tryz.prog 104 (FM Pat.zero [] [] .nil [] .nil [] .nil):=⟨by
 have h:((Tryz.prog.info? 104).bind (·.zero)).map (·.cells.toList)=some [.string ⟨#[]⟩,.string ⟨#[]⟩,.int .i64 0,.slice none 0 0,.slice none 0 0,.slice none 0 0,.slice none 0 0,.slice none 0 0,.slice none 0 0]:=by kernel_rfl
 obtain⟨v,h1,h2⟩:=Bj.1 h
 obtain⟨i,h3,h4⟩:=Dy.1 h1
 have hv: ∀ g,EB g [.string ⟨#[]⟩,.string ⟨#[]⟩,.int .i64 0,.slice none 0 0,.slice none 0 0,.slice none 0 0,.slice none 0 0,.slice none 0 0,.slice none 0 0] [.str [],.str [],.raw (.int .i64 0),.slice [] .ro,.slice [] .ro,.slice [] .ro,.slice [] .nil,.slice [] .nil,.slice [] .nil]:=fun g=> .cons (.str (by simp)) (.cons (.str (by simp)) (.cons (.raw _) (.cons .nilR (.cons .nilR (.cons .nilR (.cons (.nilN none (by simp)) (.cons (.nilN none (by simp)) (.cons (.nilN none (by simp)) (.nil g)))))))))
 exact⟨i,v,_,h3,h4,by rw[←h2],hv⟩⟩
attribute [local irreducible] ER AQ H0 BG Fu
def Kq (cs:List Chg) (ns:List Int) (k:Nat) (j:Nat):Nat:=(((List.range k).filter fun d=>decide (ns.getD d 0=(j:Int))).map fun d=>Kr (cs.getD d Chg.zero)).sum
theorem Re (cs:List Chg) (ns:List Int) (k j:Nat):Kq cs ns (k+1) j=Kq cs ns k j+if ns.getD k 0=(j:Int)then Kr (cs.getD k Chg.zero)else 0:=by
 unfold Kq
 rw[E8,Fc,An,DX]
 by_cases h:ns.getD k 0=(j:Int)
 ·rw[if_pos h,El (by simpa using h)];simp
 ·rw[if_neg h,En (by simpa using h)];simp
theorem dI (cs:List Chg) (ns:List Int) (k j:Nat) (hk:k≤cs.length):Kq cs ns k j≤DT cs k:=by
 induction k with
 |zero=>simp[Kq]
 |succ k ih=>
  have:=ih (by omega)
  have hs:=JK (cs:=cs) (i:=k) (by omega)
  have hg:cs.getD k Chg.zero=cs[k]'(by omega):=by simp[List.getD,show k < cs.length by omega]
  rw[Re,hs,hg]
  split<;>omega
def NT (cs:List Chg) (k:Nat):List Int:=(List.range k).map fun i=>(DT cs i:Int)
def H7 (cs:List Chg) (ns:List Int) (k:Nat):List Int:=(List.range k).map fun c=>(Kq cs ns c (ns.getD c 0).toNat:Int)
theorem fM (cs:List Chg) (k:Nat):NT cs (k+1)=NT cs k++ [(DT cs k:Int)]:=by simp[NT,E8]
theorem dj (cs:List Chg) (ns:List Int) (k:Nat):H7 cs ns (k+1)=H7 cs ns k++ [(Kq cs ns k (ns.getD k 0).toNat:Int)]:=by simp[H7,E8]
def XG (cs:List Chg) (ns:List Int) (m k:Nat):List PV:=(List.range m).map fun j=> .raw (.int .i64 (Kq cs ns k j:Int))
theorem TN {s:List Sto} (v:Bc s) {x:Sto} (hx:x∈s) (ns:List Int) (hns:ns.length=x.patch.changes.length) (m:Nat) (hm:m≤1000000) (hr: ∀ e∈ns,0≤e∧e < m):BG Tryz.prog 64 [.agg (Ba x.patch),.slice (ns.map eI) .ro,.raw (.int .i64 (m:Int))] []
  (fun r L'=> ∃ b tf ts,r= .raw (.pointer (some ⟨b,0,none⟩))∧L'= [.box b 104 (FM x.patch ns (NT x.patch.changes x.patch.changes.length) tf (H7 x.patch.changes ns x.patch.changes.length) ts [] .nil)]):=by
 have hb0:=v.close.1.2 x hx
 have i1:B4 (E5 x.patch=false):=⟨hb0⟩
 obtain⟨_,_,g1,g2,gch⟩:=Eh hb0
 have hp:=Gl (IM (v.id x hx).1).1
 have hcn:cntS s x.id=DT x.patch.changes x.patch.changes.length:=by rw[v.cntS hx,hp.cnt]
 have hc16:cntS s x.id≤16200:=by rw[v.cntS hx];exact(Ej hb0).1
 have cc:=VZ v hx
 refine CA Tryz.func64 rfl Tryz.ntmps64 (rs:= [.tmp 6]) rfl rfl fun hb LF=>?_
 refine tj fun b3=>?_
 refine tj fun b7=>?_
 refine pf (z:= .raw (.int .i64 0)) rfl rfl (by omega) (by omega) fun b8=>?_
 refine wf ?_
 refine EP OZ ?_
 refine Ay 3 ?_
 refine EL 1 ?_
 refine EL 1 ?_
 refine Ab (σ:=Nat × CN × CN) (fun k=>k.1≤x.patch.changes.length) (fun k=>x.patch.changes.length - k.1) (fun k=> [(1,.slice (ns.map eI) .ro),(3,.pt (Ba x.patch) 0),(7,.raw (.pointer (some ⟨b7,0,none⟩))),(8,.raw (.slice (some ⟨b8,0,none⟩) m m)),(19,.slice (x.patch.changes.map eChg) .ro),(20,.raw (.int .i64 x.patch.changes.length)),(21,.raw (.int .i64 k.1))]) (fun k=> .tok k.2.1 (NT x.patch.changes k.1).length 1:: .tok k.2.2 (H7 x.patch.changes ns k.1).length 1:: .box b8 3 (XG x.patch.changes ns m k.1):: .box b7 104 (FM x.patch ns (NT x.patch.changes k.1) k.2.1 (H7 x.patch.changes ns k.1) k.2.2 [] .nil)::LF) (0,.nil,.nil) (by dsimp only;omega) ⟨rfl,rfl,rfl,rfl,rfl,rfl,rfl⟩ (by
  have:XG x.patch.changes ns m 0=List.replicate m (.raw (.int .i64 0)):=DY (by simp[XG]) fun i h1 h2=>by simp[XG,Kq]
  dsimp only
  rw[this];exact .refl _) ?_
 rintro⟨k,tf,ts⟩ hk
 dsimp only at hk ⊢
 refine wf ?_
 refine A6 (fun hc=>?_) (fun hc=>?_)
 ·have hlt:k < x.patch.changes.length:=by omega
  have cf:=VT v hx hlt
  have hkn:k < ns.length:=by omega
  have hnr:=hr _ (AJ hkn)
  obtain⟨c,hcx⟩:=yB hnr.1
  have hcm:c < m:=by omega
  have hng:ns.getD k 0=(c:Int):=by simp[List.getD,hkn,hcx]
  have hgk:x.patch.changes.getD k Chg.zero=x.patch.changes[k]:=by simp[List.getD,hlt]
  have hf1:=FS x.patch.changes (show k≤x.patch.changes.length by omega)
  have hf2:=FS x.patch.changes (show k+1≤x.patch.changes.length by omega)
  have hfs:=JK hlt
  have hck:=dI x.patch.changes ns k c hk
  have hfl:(NT x.patch.changes k).length=k:=by simp[NT]
  have hsl:(H7 x.patch.changes ns k).length=k:=by simp[H7]
  refine wf ?_
  refine Cp (σ:=Unit) (fun _=>True) (fun _=> [(1,.slice (ns.map eI) .ro),(3,.pt (Ba x.patch) 0),(7,.raw (.pointer (some ⟨b7,0,none⟩))),(8,.raw (.slice (some ⟨b8,0,none⟩) m m)),(19,.slice (x.patch.changes.map eChg) .ro),(20,.raw (.int .i64 x.patch.changes.length)),(21,.raw (.int .i64 k)),(9,.raw (.int .i64 k)),(10,.raw (.int .i64 (DT x.patch.changes k:Int))),(11,.raw (.int .i64 (DT x.patch.changes (k+1):Int)))]) (fun _=> .tok tf (NT x.patch.changes k).length 1:: .tok ts (H7 x.patch.changes ns k).length 1:: .box b8 3 (XG x.patch.changes ns m k):: .box b7 104 (FM x.patch ns (NT x.patch.changes k) tf (H7 x.patch.changes ns k) ts [] .nil)::LF) ?_ ?_
  ·refine A6 (fun h=>?_) (fun h=>?_)
   ·have cf2:C9 Tryz.prog 31 [.agg (Ba x.patch),.raw (.int .i64 ((k:Int)+1))] (.raw (.int .i64 (DT x.patch.changes (k+1):Int))):=VT v hx (n:=k+1) (by omega)
    refine wf ?_
    exact⟨(),trivial,⟨rfl,rfl,rfl,rfl,rfl,rfl,rfl,rfl,rfl,rfl⟩,.refl _⟩
   ·have e:(cntS s x.id:Int)=(DT x.patch.changes (k+1):Int):=by rw[hcn,show k+1=x.patch.changes.length by omega]
    rw[←e]
    refine wf ?_
    exact⟨(),trivial,⟨rfl,rfl,rfl,rfl,rfl,rfl,rfl,rfl,rfl,rfl⟩,.refl _⟩
  rintro - -
  refine wf ?_
  have iat:At (XG x.patch.changes ns m k) (0+c*1) (.raw (.int .i64 (Kq x.patch.changes ns k c:Int))):=ZT (f:=fun j=>PV.raw (.int .i64 (Kq x.patch.changes ns k j:Int))) hcm
  have iput:FB (XG x.patch.changes ns m k) (0+c*1) [.raw (.int .i64 (Kq x.patch.changes ns (k+1) c:Int))] (XG x.patch.changes ns m (k+1)):=R9 (f:=fun j=>PV.raw (.int .i64 (Kq x.patch.changes ns k j:Int))) (g:=fun j=>PV.raw (.int .i64 (Kq x.patch.changes ns (k+1) j:Int))) hcm fun d hd=>by
   by_cases e:d=c
   ·rw[if_pos e,e]
   ·rw[if_neg e,Re,hng,if_neg (by omega),Dr]
  refine Ij (f:=eI) (l:=NT x.patch.changes k) (m:= [(DT x.patch.changes k:Int)]) (by rfl) (by rfl) (by simp only[BA];omega) (by simp only[BA];omega) (fun t=> .here) fun t1=>?_
  rw[←fM]
  refine wf ?_
  refine GJ (ay:= .slice ((NT x.patch.changes (k+1)).map eI) t1) (FM x.patch ns (NT x.patch.changes (k+1)) t1 (H7 x.patch.changes ns k) ts [] .nil) rfl rfl E3.out rfl (by simp) ?_
  have hss:H7 x.patch.changes ns k++ [(Kq x.patch.changes ns k c:Int)]=H7 x.patch.changes ns (k+1):=by rw[dj,hng];rfl
  refine AD ?_
  refine Da ?_
  refine Cp (σ:=CN) (fun _=>True) (fun _=> [(1,.slice (ns.map eI) .ro),(3,.pt (Ba x.patch) 0),(7,.raw (.pointer (some ⟨b7,0,none⟩))),(8,.raw (.slice (some ⟨b8,0,none⟩) m m)),(19,.slice (x.patch.changes.map eChg) .ro),(20,.raw (.int .i64 x.patch.changes.length)),(21,.raw (.int .i64 k)),(9,.raw (.int .i64 k)),(10,.raw (.int .i64 (DT x.patch.changes k:Int))),(11,.raw (.int .i64 (DT x.patch.changes (k+1):Int)))]) (fun t2=> .tok t1 (NT x.patch.changes (k+1)).length 1:: .tok t2 (H7 x.patch.changes ns (k+1)).length 1:: .box b8 3 (XG x.patch.changes ns m k):: .box b7 104 (FM x.patch ns (NT x.patch.changes (k+1)) t1 (H7 x.patch.changes ns (k+1)) t2 [] .nil)::LF) ?_ ?_
  ·refine wn ?_
   refine GN [4,11,13,16] (by decide+kernel) ?_
   refine B6 0 ?_
   refine B6 1 ?_
   refine B6 2 ?_
   refine B6 3 ?_
   refine B6 5 ?_
   refine B6 6 ?_
   refine B6 7 ?_
   refine B6 8 ?_
   refine B6 9 ?_
   rw[hcx]
   refine B6 10 (hq:=fun _=>by refine Fe (k:=c) rfl rfl hcm ?_;refine AD ?_;exact⟨Cu _ _ _,rfl⟩) ?_
   refine Cw (fuel:=6) [4,11] (by decide+kernel) (by simp) fun i hi=>?_
   simp only[AH,Ah,or_false]at hi
   rcases hi with rfl|rfl
   ·refine⟨_,rfl,?_⟩
    refine wo ?_
    refine AD ?_
    refine Aa 5 11 ?_
    refine wo ?_
    refine AD ?_
    refine B6 12 ?_
    refine Aa 3 13 ?_
    refine Ij (f:=eI) (l:=H7 x.patch.changes ns k) (m:= [(Kq x.patch.changes ns k c:Int)]) (by rfl) (by rfl) (by simp only[BA];omega) (by simp only[BA];omega) (fun t=> .there .here) fun t2=>?_
    rw[hss]
    refine AD ?_
    refine B6 14 ?_
    refine B6 15 ?_
    refine Aa 0 16 ?_
    refine GJ (ay:= .slice ((H7 x.patch.changes ns (k+1)).map eI) t2) (FM x.patch ns (NT x.patch.changes (k+1)) t1 (H7 x.patch.changes ns (k+1)) t2 [] .nil) rfl rfl E3.out rfl (by simp) ?_
    refine AD ?_
    refine Cn (by decide+kernel) ?_
    exact⟨t2,trivial,⟨rfl,rfl,rfl,rfl,rfl,rfl,rfl,rfl,rfl,rfl⟩,.refl _⟩
   ·refine⟨_,rfl,?_⟩
    refine wo ?_
    refine AD ?_
    refine B6 12 ?_
    refine Aa 4 4 ?_
    refine wo ?_
    refine AD ?_
    refine Aa 3 13 ?_
    refine Ij (f:=eI) (l:=H7 x.patch.changes ns k) (m:= [(Kq x.patch.changes ns k c:Int)]) (by rfl) (by rfl) (by simp only[BA];omega) (by simp only[BA];omega) (fun t=> .there .here) fun t2=>?_
    rw[hss]
    refine AD ?_
    refine B6 14 ?_
    refine B6 15 ?_
    refine Aa 0 16 ?_
    refine GJ (ay:= .slice ((H7 x.patch.changes ns (k+1)).map eI) t2) (FM x.patch ns (NT x.patch.changes (k+1)) t1 (H7 x.patch.changes ns (k+1)) t2 [] .nil) rfl rfl E3.out rfl (by simp) ?_
    refine AD ?_
    refine Cn (by decide+kernel) ?_
    exact⟨t2,trivial,⟨rfl,rfl,rfl,rfl,rfl,rfl,rfl,rfl,rfl,rfl⟩,.refl _⟩
  rintro t2 -
  have ev:((Kq x.patch.changes ns (k+1) c:Nat):Int)=(Kq x.patch.changes ns k c:Int)+((DT x.patch.changes (k+1):Int) - (DT x.patch.changes k:Int)):=by rw[Re,hng,if_pos rfl,hgk,hfs];omega
  rw[ev]at iput
  refine wf ?_
  rw[hcx]
  refine Fe (k:=c) rfl rfl hcm ?_
  refine wf ?_
  refine Fe (k:=c) rfl rfl hcm ?_
  refine wf ?_
  exact⟨(k+1,t1,t2),by dsimp only;omega,by dsimp only;omega,⟨rfl,rfl,rfl,rfl,rfl,rfl,rfl⟩,.refl _⟩
 ·obtain rfl:k=x.patch.changes.length:=by omega
  refine wf ?_
  exact⟨trivial,_,[_],.cons (.tmp 6) .nil,.cons _ (.cons _ (.cons _ (.refl _))),_,_,_,rfl,rfl⟩
end Go.Proofs
