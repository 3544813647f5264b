/- Contracts of the reference: Squashed, Squash. -/
import Derived.Test.YtaibdmankdppkaaGreatDoorVat
set_option linter.unusedSimpArgs false
set_option linter.unusedVariables false
set_option maxHeartbeats 8000000
namespace Go.Proofs
open Go Go.Q
attribute [local irreducible] EY AU GP BH Fk
instance yK:Y2 Tryz.prog 77 108 67 88:=⟨by
 have h1:Tryz.prog.underlying 77=some (.slice 108):=by kernel_rfl
 have h2:(Tryz.prog.info? 108).map (fun i=>(i.size,i.bytes,i.zero.map (·.cells.size)))=some (67,88,some 67):=by kernel_rfl
 obtain⟨i,h3,h4⟩:=BU.1 h2
 simp only[Prod.mk.injEq]at h4
 obtain⟨h5,h6,h7⟩:=h4
 obtain⟨z,h8,h9⟩:=BU.1 h7
 exact⟨i,z,h1,h3,h5,h6,h8,h9,by decide,by decide⟩⟩
instance vy:Ck Tryz.prog 108 (eMvd Mvd.zero):=Ck.of (us:=(eMvd Mvd.zero).map zv) (by kernel_rfl) (by kernel_rfl)
theorem jb {α:Type} {vf:α→List Value} {E sz:Nat} {v:Value} (h:JQ vf E sz v ([]:List α) []):Fv E sz v [] []:=by
 unfold JQ at h
 generalize hn:([]:List α).length=n at h
 generalize hu:([]:List α).flatMap vf=us at h
 generalize hR:([]:List Res)=R at h
 cases h with
 |nil o ho=>exact .nil o ho
 |row=>cases hR
instance (m:Mta) (ds:List Dig) (cs:List Chg) (tg:CD):Jr (.agg (UK m ds cs tg)) (.agg (Ba ⟨m.author,m.message,m.time,ds,cs⟩)):=⟨qw m ds cs tg⟩
instance (m:Mta) (ds:List Dig) (cs:List Chg) (tg:CD):Cx (UK m ds cs tg) 5:=⟨rfl⟩
instance zZ (m:Mta) (ds:List Dig) (cs:List Chg) (tg:CD):At (UK m ds cs tg) 4 (.slice (cs.map eChg) tg):=⟨rfl⟩
theorem oo (m:Mta) (ds:List Dig) (cs:List Chg) (tg:CD):Jw (UK m ds cs tg):=Km (Km (FF rfl (JM (JM Gg))))
theorem rz:Ck Tryz.prog 40 [.str [],.str [],.raw (.int .i64 0),.slice [] .ro,.slice [] .nil]:=⟨by
 have h:((Tryz.prog.info? 40).bind (·.zero)).map (·.cells.toList)=some [.string ⟨#[]⟩,.string ⟨#[]⟩,.int .i64 0,.slice none 0 0,.slice none 0 0]:=by kernel_rfl
 obtain⟨v,h1,h2⟩:=BU.1 h
 obtain⟨i,h3,h4⟩:=DV.1 h1
 exact⟨i,v,_,h3,h4,by rw[←h2],fun g=> .cons (.str (by simp)) (.cons (.str (by simp)) (.cons (.raw _) (.cons .nilR (.cons (.nilN none (by simp)) (.nil g)))))⟩⟩
theorem OZ: ∀ (l:List Dig) (d:Dig),(Ep l d).length≤l.length+1
 | [],d=>by simp[Ep]
 |x::xs,d=>by
  have:=OZ xs d
  unfold Ep
  split
  ·rw[AN,AN];omega
  ·split<;>simp
end Go.Proofs
namespace Go.Q
open Go
def Jz (l:List Int):List PV:= [.slice (l.map eI) .ro]
@[simp] theorem oW (l:List Int):(Jz l).length=1:=rfl
instance :MZ Jz 1:=⟨oW⟩
theorem UY {n:Nat} {f:Nat→PV} {c:Nat} (h:c < n):At ((List.range n).map f) (0+c*1) (f c):=⟨by simp[h]⟩
theorem Oq {n:Nat} {f g:Nat→PV} {c:Nat} (h:c < n) (hg: ∀ d,d < n→g d=if d=c then g c else f d):Eg ((List.range n).map f) (0+c*1) [g c] ((List.range n).map g):=⟨by
 have hs:((List.range n).map f).set c (g c)=(List.range n).map g:=by
  refine Dc (by simp) fun i h1 h2=>?_
  simp only[AQ,Fy]at h2
  rw[SU,B5,B5,List.getElem_range,hg i h2]
  by_cases e:c=i
  ·rw[if_pos e,if_pos e.symm]
  ·rw[if_neg e,if_neg fun k=>e k.symm]
 refine⟨?_,by simp;omega⟩
 rw[BM,IE,←hs,Gm,if_pos (by simpa using h),AV,J2]
 rfl⟩
end Go.Q
namespace Go.Proofs
open Go Go.Q
attribute [local irreducible] EY AU GP BH Fk
theorem Qe (A:List (List Int)) (m:List Int) (c:Int):OE (A++ [m]) c=if c∈A.flatten then OE A c else if c∈m then(A.length:Int)else -1:=by
 unfold OE
 rw[List.findIdx?_append]
 cases h:A.findIdx? (fun l=>decide (c∈l))with
 |some k=>
  obtain⟨hk,h1,_⟩:=Gn.1 h
  rw[if_pos (Db.2 ⟨_,AH hk,BP h1⟩)]
  rfl
 |none=>
  have hn:c∉A.flatten:=fun hc=>by
   obtain⟨l,hl,hcl⟩:=Db.1 hc
   have:=Qx.1 h l hl
   simp[hcl]at this
  rw[if_neg hn]
  by_cases hm:c∈m
  ·rw[if_pos hm,List.findIdx?_cons]
   simp[hm]
  ·rw[if_neg hm,List.findIdx?_cons]
   simp[hm]
theorem Rl (A:List (List Int)) (c:Int): -1≤OE A c∧OE A c < A.length∧(0≤OE A c↔c∈A.flatten):=by
 unfold OE
 cases h:A.findIdx? (fun l=>decide (c∈l))with
 |some k=>
  obtain⟨hk,h1,_⟩:=Gn.1 h
  refine⟨by dsimp only;omega,by dsimp only;omega,fun _=>Db.2 ⟨_,AH hk,BP h1⟩,fun _=>by dsimp only;omega⟩
 |none=>
  refine⟨by decide,by dsimp only;omega,fun h=>absurd h (by decide),fun hc=>?_⟩
  obtain⟨l,hl,hcl⟩:=Db.1 hc
  have:=Qx.1 h l hl
  simp[hcl]at this
theorem Ti {n:Nat} {D l:List Int} {ps:List (List Int)}:Ed n D (l::ps)=(Th n D l&&decide (l≠ [])&&Ed n (D++l) ps):=rfl
theorem Vf {n:Nat} {D l:List Int} {i:Nat} (hi:i < l.length) (h:KK n D l i=true):Th n D l=false:=by
 unfold Th
 exact J5.2 ⟨i,BZ.2 hi,by simp[h]⟩
theorem Tf {n:Nat} {D l:List Int} (h: ∀ i,i < l.length→KK n D l i=false):Th n D l=true:=by
 unfold Th
 exact Bf.2 fun i hi=>by simp[h i (BZ.1 hi)]
def ZX (n:Nat) (A:List (List Int)):List PV:=(List.range n).map fun c=> .raw (.int .i64 (OE A (c:Nat)))
theorem ob (n:Nat) (A:List (List Int)):ZX n (A++ [[]])=ZX n A:=by
 unfold ZX
 refine DF fun c _=>?_
 rw[Qe]
 obtain⟨h1,h2,h3⟩:=Rl A c
 split
 ·rfl
 ·rename_i h
  rw[if_neg Aa]
  have: ¬0≤OE A c:=fun k=>h (h3.1 k)
  rw[show OE A c= -1 by omega]
theorem oa {n:Nat} {A:List (List Int)} {l:List Int} {i:Nat} (hi:i < l.length) {c:Nat} (hc:c < n) (hx:l[i]=(c:Int)) (hn:(c:Int)∉A.flatten++l.take i):Eg (ZX n (A++ [l.take i])) (0+c*1) [.raw (.int .i64 A.length)] (ZX n (A++ [l.take (i+1)])):=by
 have h1:(c:Int)∉A.flatten:=fun h=>hn (En _ h)
 have h2:(c:Int)∉l.take i:=fun h=>hn (Dm _ h)
 have e:l.take (i+1)=l.take i++ [(c:Int)]:=by rw[A7 hi,hx]
 have hg:OE (A++ [l.take (i+1)]) c=A.length:=by rw[Qe,if_neg h1,if_pos (by rw[e];simp)]
 have:=Oq (f:=fun d=>PV.raw (.int .i64 (OE (A++ [l.take i]) (d:Nat)))) (g:=fun d=>PV.raw (.int .i64 (OE (A++ [l.take (i+1)]) (d:Nat)))) hc fun d hd=>by
  by_cases hdc:d=c
  ·rw[if_pos hdc,hdc]
  ·rw[if_neg hdc,Qe,Qe]
   have:((d:Int)∈l.take (i+1))=((d:Int)∈l.take i):=by
    rw[e]
    simp only[Ah,Aj,eq_iff_iff]
    exact⟨fun h=>h.elim id fun h=>absurd (by omega) hdc,.inl⟩
   simp only[this]
 rw[hg]at this
 exact this
theorem pZ {n:Nat} {A:List (List Int)} {l:List Int} {i:Nat} (hi:i < l.length) {c:Nat} (hx:l[i]=(c:Int)):KK n A.flatten l i=(decide (n≤c)||decide (0≤OE (A++ [l.take i]) c)||(decide (0 < i)&&decide ((c:Int)≤l.getD (i - 1) 0))):=by
 unfold KK
 have e:l.getD i 0=(c:Int):=by simp[List.getD,hi,hx]
 have h3:=(Rl (A++ [l.take i]) c).2.2
 rw[C5,EN]at h3
 rw[e,CG (show ¬(c:Int) < 0 by omega),Fc]
 congr 1
 congr 1
 ·rw[decide_eq_decide];omega
 ·rw[decide_eq_decide];exact h3.symm
theorem X9 (n:Nat) (Q:List (List Int)) (t:CD) (hn:n≤1000000) (hQ:Q.length≤1000000) (hl: ∀ l∈Q,l.length≤1000000):BH Tryz.prog 63 [.raw (.int .i64 (n:Int)),.slice (Q.map Jz) t] []
  (fun r L'=>L'= []∧((r= .tuple [.slice [] .nil,.raw (.bool false)]∧Ed n [] Q=false)∨ ∃ b,r= .tuple [.slice (((List.range n).map fun c=>OE Q (c:Nat)).map eI) .ro,.raw (.bool b)]∧Ed n [] Q=b)):=by
 refine C8 Tryz.func63 rfl Tryz.ntmps63 (rs:= [.tmp 4,.tmp 5]) rfl rfl fun hb LF=>?_
 refine wf ?_
 refine j9 (z:= .raw (.int .i64 0)) rfl rfl (by omega) (by omega) fun b=>?_
 refine wf ?_
 refine IH rfl ?_
 refine wf ?_
 refine AZ (σ:=Nat) (fun k=>k≤n) (fun k=>n - k) (fun k=> [(0,.raw (.int .i64 (n:Int))),(1,.slice (Q.map Jz) t),(6,.raw (.slice (some ⟨b,0,none⟩) n n)),(16,.raw (.int .i64 (n:Int))),(17,.raw (.int .i64 k))]) (fun k=> .box b 3 ((List.range n).map fun c=>if c < k then .raw (.int .i64 (-1))else .raw (.int .i64 0))::LF) 0 (by omega) ⟨rfl,rfl,rfl,rfl,rfl⟩ (by
  have:((List.range n).map fun c=>if c < 0 then(PV.raw (.int .i64 (-1)))else .raw (.int .i64 0))=List.replicate n (.raw (.int .i64 0)):=Dc (by simp) fun i h1 h2=>by simp
  rw[this];exact .refl _) ?_
 rintro k hk
 refine wf ?_
 refine A6 (fun hc=>?_) (fun hc=>?_)
 ·have hlt:k < n:=by omega
  have ip:Eg ((List.range n).map fun c=>if c < k then(PV.raw (.int .i64 (-1)))else .raw (.int .i64 0)) (0+k*1) [.raw (.int .i64 (-1))] ((List.range n).map fun c=>if c < k+1 then .raw (.int .i64 (-1))else .raw (.int .i64 0)):=by
   have:=Oq (f:=fun c=>if c < k then(PV.raw (.int .i64 (-1)))else .raw (.int .i64 0)) (g:=fun c=>if c < k+1 then(PV.raw (.int .i64 (-1)))else .raw (.int .i64 0)) hlt fun d hd=>by
    by_cases e:d=k
    ·rw[if_pos e];simp[e]
    ·rw[if_neg e]
     by_cases h2:d < k
     ·rw[if_pos h2,if_pos (by omega)]
     ·rw[if_neg h2,if_neg (by omega)]
   simpa using this
  refine wf ?_
  refine DI (k:=k) rfl rfl hlt ?_
  refine wf ?_
  exact⟨k+1,by omega,by dsimp only;omega,⟨rfl,rfl,rfl,rfl,rfl⟩,.refl _⟩
 have h0:((List.range n).map fun c=>if c < k then(PV.raw (.int .i64 (-1)))else .raw (.int .i64 0))=ZX n []:=by
  unfold ZX
  refine DF fun c hcm=>?_
  have:=BZ.1 hcm
  rw[if_pos (by omega)]
  rfl
 rw[h0]
 clear h0
 refine wf ?_
 refine AZ (σ:=Nat) (fun k=>k≤Q.length∧Ed n [] Q=Ed n (Q.take k).flatten (Q.drop k)∧(Q.take k).flatten.length≤k*1000000) (fun k=>Q.length - k) (fun k=> [(0,.raw (.int .i64 (n:Int))),(1,.slice (Q.map Jz) t),(6,.raw (.slice (some ⟨b,0,none⟩) n n)),(8,.raw (.int .i64 ((Q.take k).flatten.length:Nat))),(24,.slice (Q.map Jz) t),(25,.raw (.int .i64 Q.length)),(26,.raw (.int .i64 k))]) (fun k=> .box b 3 (ZX n (Q.take k))::LF) 0 ⟨by simp,by simp,by simp⟩ ⟨rfl,rfl,rfl,rfl,rfl,rfl,rfl⟩ (.refl _) ?_
 rintro k ⟨hk,hok,hfl⟩
 refine wf ?_
 refine A6 (fun hc=>?_) (fun hc=>?_)
 ·have hlt:k < Q.length:=by omega
  have hll:=hl _ (AH hlt)
  rw[Br hlt,Ti]at hok
  obtain⟨l,hql⟩: ∃ l,l=Q[k]:=⟨_,rfl⟩
  rw[←hql]at hok hll
  have htk:Q.take (k+1)=Q.take k++ [l]:=by rw[A7 hlt,hql]
  generalize hD:(Q.take k).flatten=D at hok hfl
  refine wf ?_
  rw[←hql]
  refine A6 (fun he=>?_) (fun he=>?_)
  ·refine wf ?_
   have hl0:l= []:=BA (by omega)
   exact⟨trivial,_,[],.cons (.tmp 4) (.cons (.tmp 5) .nil),.cons _ (.refl _),rfl,.inl ⟨rfl,by rw[hok,hl0];simp⟩⟩
  obtain⟨A,hA⟩: ∃ A,A=Q.take k:=⟨_,rfl⟩
  have hAl:A.length=k:=by rw[hA];simp;omega
  rw[←hA]at hD htk ⊢
  refine wf ?_
  refine AZ (σ:=Nat) (fun i=>i≤l.length∧ ∀ j,j < i→KK n D l j=false) (fun i=>l.length - i) (fun i=> [(0,.raw (.int .i64 (n:Int))),(1,.slice (Q.map Jz) t),(6,.raw (.slice (some ⟨b,0,none⟩) n n)),(8,.raw (.int .i64 ((D.length+i:Nat)))),(9,.raw (.int .i64 k)),(10,.slice (l.map eI) .ro),(24,.slice (Q.map Jz) t),(25,.raw (.int .i64 Q.length)),(26,.raw (.int .i64 k)),(34,.slice (l.map eI) .ro),(35,.raw (.int .i64 l.length)),(36,.raw (.int .i64 i))]) (fun i=> .box b 3 (ZX n (A++ [l.take i]))::LF) 0 ⟨by simp,fun j hj=>absurd hj (DB _)⟩ ⟨rfl,rfl,rfl,by rw[←hD];rfl,rfl,rfl,rfl,rfl,rfl,rfl,rfl,rfl⟩ (by rw[Xv,ob];exact .refl _) ?_
  rintro i ⟨hi,hbad⟩
  refine wf ?_
  refine A6 (fun hc2=>?_) (fun hc2=>?_)
  ·have hil:i < l.length:=by omega
   have hret:KK n D l i=true→Ed n [] Q=false:=fun h=>by rw[hok,Vf hil h];rfl
   refine wf ?_
   by_cases hx0:l[i] < 0
   ·have hb1:KK n D l i=true:=by
     unfold KK
     rw[show l.getD i 0=l[i] by simp[List.getD,hil],BC hx0];rfl
    have hret:=hret hb1
    generalize l[i]=x at*
    refine BG [(67,.raw (.bool (KK n D l i))),(0,.raw (.int .i64 (n:Int))),(1,.slice (Q.map Jz) t),(6,.raw (.slice (some ⟨b,0,none⟩) n n)),(8,.raw (.int .i64 ((D.length+i:Nat)))),(9,.raw (.int .i64 k)),(10,.slice (l.map eI) .ro),(11,.raw (.int .i64 i)),(12,.raw (.int .i64 x)),(24,.slice (Q.map Jz) t),(25,.raw (.int .i64 Q.length)),(26,.raw (.int .i64 k)),(34,.slice (l.map eI) .ro),(35,.raw (.int .i64 l.length)),(36,.raw (.int .i64 i))] (.box b 3 (ZX n (A++ [l.take i]))::LF) ?_ ?_
    ·repeat' (first|(refine A6 (fun h=>?_) (fun h=>?_)<;>refine wf ?_)|(refine AR (fun h=>?_) (fun h=>?_)<;>refine wf ?_)|(refine AO (fun h=>?_) (fun h=>?_)<;>refine wf ?_)|(refine Ao (fun h=>?_) (fun h=>?_)<;>(have h2:=h;(try simp only[AA,A8,AF,AJ]at h2);refine wf ?_)))
     all_goals first|(refine⟨⟨Bh (by rfl) ?_,rfl,rfl,rfl,rfl,rfl,rfl,rfl,rfl,rfl,rfl,rfl,rfl,rfl,rfl⟩,.refl _⟩;first|(rw[hb1];done)|(rw[hb1];first|(simp_all;done)|(exfalso;simp_all;omega)))|(exfalso;simp_all;done)|(exfalso;simp_all;omega)|(trace_state;fail)
    refine wf ?_
    refine AO (fun hr=>?_) (fun hr=>?_)
    ·refine wf ?_
     exact⟨trivial,_,[],.cons (.tmp 4) (.cons (.tmp 5) .nil),.cons _ (.refl _),rfl,.inl ⟨rfl,hret⟩⟩
    ·rw[hb1]at hr
     simp at hr
   ·obtain⟨c,hcx⟩:=SX (show 0≤l[i] by omega)
    have hbe:=pZ (n:=n) (A:=A) hil hcx
    rw[hD]at hbe
    have iat: ∀ hcn:c < n,At (ZX n (A++ [l.take i])) (0+c*1) (.raw (.int .i64 (OE (A++ [l.take i]) (c:Nat)))):=fun hcn=>UY (f:=fun c=>PV.raw (.int .i64 (OE (A++ [l.take i]) (c:Nat)))) hcn
    rw[hcx]
    by_cases hcn:c < n
    ·have iat:=iat hcn
     refine BG [(67,.raw (.bool (KK n D l i))),(0,.raw (.int .i64 (n:Int))),(1,.slice (Q.map Jz) t),(6,.raw (.slice (some ⟨b,0,none⟩) n n)),(8,.raw (.int .i64 ((D.length+i:Nat)))),(9,.raw (.int .i64 k)),(10,.slice (l.map eI) .ro),(11,.raw (.int .i64 i)),(12,.raw (.int .i64 (c:Int))),(24,.slice (Q.map Jz) t),(25,.raw (.int .i64 Q.length)),(26,.raw (.int .i64 k)),(34,.slice (l.map eI) .ro),(35,.raw (.int .i64 l.length)),(36,.raw (.int .i64 i))] (.box b 3 (ZX n (A++ [l.take i]))::LF) ?_ ?_
     ·rcases Ks i with hi0|hi0
      ·rw[CG (show ¬0 < i by omega),Xy,yE]at hbe
       repeat' (first|(refine DI (k:=c) rfl rfl hcn ?_;refine wf ?_)|(refine A6 (fun h=>?_) (fun h=>?_)<;>refine wf ?_)|(refine AR (fun h=>?_) (fun h=>?_)<;>refine wf ?_)|(refine AO (fun h=>?_) (fun h=>?_)<;>refine wf ?_)|(refine Ao (fun h=>?_) (fun h=>?_)<;>(have h2:=h;(try simp only[AA,A8,AF,AJ]at h2);refine wf ?_)))
       all_goals first|(refine⟨⟨Bh (by rfl) ?_,rfl,rfl,rfl,rfl,rfl,rfl,rfl,rfl,rfl,rfl,rfl,rfl,rfl,rfl⟩,.refl _⟩;rw[hbe];first|(simp_all;done)|(simp_all;omega)|grind)|(exfalso;simp_all;done)|(exfalso;simp_all;omega)|(trace_state;fail)
      ·have hj:i - 1 < l.length:=by omega
       repeat' (first|(refine DI (k:=c) rfl rfl hcn ?_;refine wf ?_)|(refine A6 (fun h=>?_) (fun h=>?_)<;>refine wf ?_)|(refine AR (fun h=>?_) (fun h=>?_)<;>refine wf ?_)|(refine AO (fun h=>?_) (fun h=>?_)<;>refine wf ?_)|(refine Ao (fun h=>?_) (fun h=>?_)<;>(have h2:=h;(try simp only[AA,A8,AF,AJ]at h2);refine wf ?_)))
       all_goals first|(refine⟨⟨Bh (by rfl) ?_,rfl,rfl,rfl,rfl,rfl,rfl,rfl,rfl,rfl,rfl,rfl,rfl,rfl,rfl⟩,.refl _⟩;rw[hbe];first|(simp_all;done)|(simp_all;omega)|grind)|(exfalso;simp_all;done)|(exfalso;simp_all;omega)|(trace_state;fail)
     refine wf ?_
     refine AO (fun hr=>?_) (fun hr=>?_)
     ·refine wf ?_
      exact⟨trivial,_,[],.cons (.tmp 4) (.cons (.tmp 5) .nil),.cons _ (.refl _),rfl,.inl ⟨rfl,hret hr⟩⟩
     have hnm:(c:Int)∉A.flatten++l.take i:=fun hm=>by
      have:=hbe.symm.trans hr
      have h3:=(Rl (A++ [l.take i]) c).2.2
      rw[C5,EN]at h3
      rw[BC (h3.2 hm)]at this
      simp at this
     have iput:=oa hil hcn hcx hnm
     rw[hAl]at iput
     refine wf ?_
     refine DI (k:=c) rfl rfl hcn ?_
     refine wf ?_
     refine⟨i+1,⟨by omega,fun j hj=>?_⟩,by dsimp only;omega,⟨rfl,rfl,rfl,rfl,rfl,rfl,rfl,rfl,rfl,rfl,rfl,rfl⟩,.refl _⟩
     by_cases e:j=i
     ·rw[e];exact hr
     ·exact hbad j (by omega)
    ·have hb1:KK n D l i=true:=by rw[hbe,BC (show n≤c by omega)];rfl
     have hret:=hret hb1
     refine BG [(67,.raw (.bool (KK n D l i))),(0,.raw (.int .i64 (n:Int))),(1,.slice (Q.map Jz) t),(6,.raw (.slice (some ⟨b,0,none⟩) n n)),(8,.raw (.int .i64 ((D.length+i:Nat)))),(9,.raw (.int .i64 k)),(10,.slice (l.map eI) .ro),(11,.raw (.int .i64 i)),(12,.raw (.int .i64 (c:Int))),(24,.slice (Q.map Jz) t),(25,.raw (.int .i64 Q.length)),(26,.raw (.int .i64 k)),(34,.slice (l.map eI) .ro),(35,.raw (.int .i64 l.length)),(36,.raw (.int .i64 i))] (.box b 3 (ZX n (A++ [l.take i]))::LF) ?_ ?_
     ·repeat' (first|(refine A6 (fun h=>?_) (fun h=>?_)<;>refine wf ?_)|(refine AR (fun h=>?_) (fun h=>?_)<;>refine wf ?_)|(refine AO (fun h=>?_) (fun h=>?_)<;>refine wf ?_)|(refine Ao (fun h=>?_) (fun h=>?_)<;>(have h2:=h;(try simp only[AA,A8,AF,AJ]at h2);refine wf ?_)))
      all_goals first|(refine⟨⟨Bh (by rfl) ?_,rfl,rfl,rfl,rfl,rfl,rfl,rfl,rfl,rfl,rfl,rfl,rfl,rfl,rfl⟩,.refl _⟩;first|(rw[hb1];done)|(rw[hb1];first|(simp_all;done)|(exfalso;simp_all;omega)))|(exfalso;simp_all;done)|(exfalso;simp_all;omega)|(trace_state;fail)
     refine wf ?_
     refine AO (fun hr=>?_) (fun hr=>?_)
     ·refine wf ?_
      exact⟨trivial,_,[],.cons (.tmp 4) (.cons (.tmp 5) .nil),.cons _ (.refl _),rfl,.inl ⟨rfl,hret⟩⟩
     ·rw[hb1]at hr
      simp at hr
  ·obtain rfl:i=l.length:=by omega
   have hl0:l≠ []:=fun e=>he (by rw[e];rfl)
   rw[Tf (fun j hj=>hbad j (by omega)),BC hl0,EJ,EJ]at hok
   refine wf ?_
   refine⟨k+1,⟨by omega,?_,?_⟩,by dsimp only;omega,⟨rfl,rfl,rfl,?_,rfl,rfl,rfl⟩,?_⟩
   ·rw[hok,htk,C5,EN,hD]
   ·rw[htk,C5,EN,hD,AD];omega
   ·have e2:((Q.take (k+1)).flatten.length:Nat)=D.length+l.length:=by rw[htk,C5,EN,hD,AD]
    simp only[e2]
    rfl
   ·dsimp only
    rw[htk,DK];exact .refl _
 ·have hk2:k=Q.length:=by omega
  subst hk2
  rw[SV,DK]at hok
  rw[DK]at hfl ⊢
  have e1:(((List.range n).map fun c=>OE Q (c:Nat)).map eI).flatten=ZX n Q:=by
   unfold ZX
   rw[Cd]
   generalize List.range n=rs
   induction rs with
   |nil=>rfl
   |cons x xs ih=>rw[Aq,CX,ih];rfl
  have hv1:Fv 3 1 (.slice (some ⟨b,0,none⟩) n n) (((List.range n).map fun c=>OE Q (c:Nat)).map eI) [.box b 3 (ZX n Q)]:=by
   have:=Fv.row (E:=3) (sz:=1) (r:=b) (n:=n) (cap:=n) (xs:=((List.range n).map fun c=>OE Q (c:Nat)).map eI) (rest:= []) (by simp) (Al _) (by simp[eI]) (by rw[e1];simp[ZX])
   rw[e1,BJ]at this
   exact this
  refine IZ 6 hv1 ⟨by simp[maxN];omega,by simp[maxN];omega⟩ (.refl _) rfl ?_
  refine wf ?_
  refine⟨trivial,_,[],.cons (.tmp 4) (.cons (.tmp 5) .nil),.refl _,rfl,.inr ⟨_,rfl,?_⟩⟩
  rw[hok]
  show decide (Q.flatten.length=n)=decide ((Q.flatten.length:Int)=n)
  rw[decide_eq_decide];omega
def Tq (n:Nat) (D:List Int):List PV:=(List.range n).map fun c=> .raw (.bool (decide (((c:Nat):Int)∈D)))
theorem kJ {n:Nat} {D l:List Int} {i:Nat} (hi:i < l.length) {c:Nat} (hc:c < n) (hx:l[i]=(c:Int)):Eg (Tq n (D++l.take i)) (0+c*1) [.raw (.bool true)] (Tq n (D++l.take (i+1))):=by
 have e:l.take (i+1)=l.take i++ [(c:Int)]:=by rw[A7 hi,hx]
 have:=Oq (f:=fun d=>PV.raw (.bool (decide (((d:Nat):Int)∈D++l.take i)))) (g:=fun d=>PV.raw (.bool (decide (((d:Nat):Int)∈D++l.take (i+1))))) hc fun d hd=>by
  by_cases hdc:d=c
  ·rw[if_pos hdc,hdc]
  ·rw[if_neg hdc]
   congr 2
   rw[decide_eq_decide,e,←AV,Ah (s:=D++l.take i),Aj]
   exact⟨fun h=>h.elim id fun h=>absurd (by omega) hdc,.inl⟩
 have ht:decide ((c:Int)∈D++l.take (i+1))=true:=BC (by rw[e];simp)
 rw[ht]at this
 exact this
theorem lJ {n:Nat} {D l:List Int} {i:Nat} (hi:i < l.length) {c:Nat} (hx:l[i]=(c:Int)):KK n D l i=(decide ((n:Int)≤(c:Int))||decide ((c:Int)∈D++l.take i)||(decide (0 < i)&&decide ((c:Int)≤l.getD (i - 1) 0))):=by
 unfold KK
 rw[show l.getD i 0=(c:Int) by simp[List.getD,hi,hx],CG (show ¬(c:Int) < 0 by omega),Fc]
theorem gF (n:Nat) (Q:List (List Int)) (t:CD) (hn:n≤1000000) (hQ:Q.length≤1000000) (hl: ∀ l∈Q,l.length≤1000000):C9 Tryz.prog 67 [.slice (Q.map Jz) t,.raw (.int .i64 (n:Int))] (.raw (.bool (Ed n [] Q))):=⟨by
 refine Av Tryz.func67 Tryz.ntmps67 rfl (rs:= [.tmp 4]) rfl rfl fun hb LF=>?_
 refine wf ?_
 refine j9 (z:= .raw (.bool false)) rfl rfl (by omega) (by omega) fun b=>?_
 refine wf ?_
 refine AZ (σ:=Nat) (fun k=>k≤Q.length∧Ed n [] Q=Ed n (Q.take k).flatten (Q.drop k)∧(Q.take k).flatten.length≤k*1000000) (fun k=>Q.length - k) (fun k=> [(0,.slice (Q.map Jz) t),(1,.raw (.int .i64 (n:Int))),(5,.raw (.slice (some ⟨b,0,none⟩) n n)),(6,.raw (.int .i64 ((Q.take k).flatten.length:Nat))),(7,.raw (.int .i64 k))]) (fun k=> .box b 4 (Tq n (Q.take k).flatten)::LF) 0 ⟨by simp,by simp,by simp⟩ ⟨rfl,rfl,rfl,rfl,rfl⟩ (by
  have:Tq n []=List.replicate n (.raw (.bool false)):=Dc (by simp[Tq]) fun i h1 h2=>by simp[Tq]
  rw[Xv,NS,this];exact .refl _) ?_
 rintro k ⟨hk,hok,hfl⟩
 refine wf ?_
 refine A6 (fun hc=>?_) (fun hc=>?_)
 ·have hlt:k < Q.length:=by omega
  have hll:=hl _ (AH hlt)
  rw[Br hlt,Ti]at hok
  have htk:Q.take (k+1)=Q.take k++ [Q[k]]:=A7 hlt
  generalize hD:(Q.take k).flatten=D at hok hfl ⊢
  refine wf ?_
  refine AZ (σ:=Nat) (fun i=>i≤Q[k].length∧ ∀ j,j < i→KK n D Q[k] j=false) (fun i=>Q[k].length - i) (fun i=> [(0,.slice (Q.map Jz) t),(1,.raw (.int .i64 (n:Int))),(5,.raw (.slice (some ⟨b,0,none⟩) n n)),(6,.raw (.int .i64 ((D.length+i:Nat)))),(7,.raw (.int .i64 k)),(8,.raw (.int .i64 i))]) (fun i=> .box b 4 (Tq n (D++Q[k].take i))::LF) 0 ⟨by simp,fun j hj=>absurd hj (DB _)⟩ ⟨rfl,rfl,rfl,rfl,rfl,rfl⟩ (by rw[Xv,BJ];exact .refl _) ?_
  rintro i ⟨hi,hbad⟩
  refine wf ?_
  refine A6 (fun hc2=>?_) (fun hc2=>?_)
  ·have hil:i < Q[k].length:=by omega
   have hret:KK n D Q[k] i=true→Ed n [] Q=false:=fun h=>by rw[hok,Vf hil h];rfl
   refine wf ?_
   by_cases hx0:Q[k][i] < 0
   ·have hb1:KK n D Q[k] i=true:=by
     unfold KK
     rw[show Q[k].getD i 0=Q[k][i] by simp[List.getD,hil],BC hx0];rfl
    have hret:=hret hb1
    generalize Q[k][i]=x at*
    refine BG [(62,.raw (.bool (KK n D Q[k] i))),(0,.slice (Q.map Jz) t),(1,.raw (.int .i64 (n:Int))),(5,.raw (.slice (some ⟨b,0,none⟩) n n)),(6,.raw (.int .i64 ((D.length+i:Nat)))),(7,.raw (.int .i64 k)),(8,.raw (.int .i64 i)),(9,.raw (.int .i64 x))] (.box b 4 (Tq n (D++Q[k].take i))::LF) ?_ ?_
    ·repeat' (first|(refine A6 (fun h=>?_) (fun h=>?_)<;>refine wf ?_)|(refine AR (fun h=>?_) (fun h=>?_)<;>refine wf ?_)|(refine AO (fun h=>?_) (fun h=>?_)<;>refine wf ?_)|(refine Ao (fun h=>?_) (fun h=>?_)<;>(have h2:=h;(try simp only[AA,A8,AF,AJ]at h2);refine wf ?_)))
     all_goals first|(refine⟨⟨Bh (by rfl) ?_,rfl,rfl,rfl,rfl,rfl,rfl,rfl⟩,.refl _⟩;first|(rw[hb1];done)|(rw[hb1];first|(simp_all;done)|(exfalso;simp_all;omega)))|(exfalso;simp_all;done)|(exfalso;simp_all;omega)|(trace_state;fail)
    refine wf ?_
    refine AO (fun hr=>?_) (fun hr=>?_)
    ·refine wf ?_
     exact Aw (.of_eq (by rw[hret]))
    ·rw[hb1]at hr
     simp at hr
   ·obtain⟨c,hcx⟩:=SX (show 0≤Q[k][i] by omega)
    have hbe:=lJ (n:=n) (D:=D) hil hcx
    rw[hcx]
    by_cases hcn:c < n
    ·have iat:At (Tq n (D++Q[k].take i)) (0+c*1) (.raw (.bool (decide ((c:Int)∈D++Q[k].take i)))):=UY (f:=fun c=>PV.raw (.bool (decide (((c:Nat):Int)∈D++Q[k].take i)))) hcn
     refine BG [(62,.raw (.bool (KK n D Q[k] i))),(0,.slice (Q.map Jz) t),(1,.raw (.int .i64 (n:Int))),(5,.raw (.slice (some ⟨b,0,none⟩) n n)),(6,.raw (.int .i64 ((D.length+i:Nat)))),(7,.raw (.int .i64 k)),(8,.raw (.int .i64 i)),(9,.raw (.int .i64 (c:Int)))] (.box b 4 (Tq n (D++Q[k].take i))::LF) ?_ ?_
     ·rcases Ks i with hi0|hi0
      ·rw[CG (show ¬0 < i by omega),Xy,yE]at hbe
       repeat' (first|(refine DI (k:=c) rfl rfl hcn ?_;refine wf ?_)|(refine A6 (fun h=>?_) (fun h=>?_)<;>refine wf ?_)|(refine AR (fun h=>?_) (fun h=>?_)<;>refine wf ?_)|(refine AO (fun h=>?_) (fun h=>?_)<;>refine wf ?_)|(refine Ao (fun h=>?_) (fun h=>?_)<;>(have h2:=h;(try simp only[AA,A8,AF,AJ]at h2);refine wf ?_)))
       all_goals first|(refine⟨⟨Bh (by rfl) ?_,rfl,rfl,rfl,rfl,rfl,rfl,rfl⟩,.refl _⟩;rw[hbe];first|(simp_all;done)|(simp_all;omega)|grind)|(exfalso;simp_all;done)|(exfalso;simp_all;omega)|(trace_state;fail)
      ·have hj:i - 1 < Q[k].length:=by omega
       repeat' (first|(refine DI (k:=c) rfl rfl hcn ?_;refine wf ?_)|(refine A6 (fun h=>?_) (fun h=>?_)<;>refine wf ?_)|(refine AR (fun h=>?_) (fun h=>?_)<;>refine wf ?_)|(refine AO (fun h=>?_) (fun h=>?_)<;>refine wf ?_)|(refine Ao (fun h=>?_) (fun h=>?_)<;>(have h2:=h;(try simp only[AA,A8,AF,AJ]at h2);refine wf ?_)))
       all_goals first|(refine⟨⟨Bh (by rfl) ?_,rfl,rfl,rfl,rfl,rfl,rfl,rfl⟩,.refl _⟩;rw[hbe];first|(simp_all;done)|(simp_all;omega)|grind)|(exfalso;simp_all;done)|(exfalso;simp_all;omega)|(trace_state;fail)
     refine wf ?_
     refine AO (fun hr=>?_) (fun hr=>?_)
     ·refine wf ?_
      exact Aw (.of_eq (by rw[hret hr]))
     have iput:=kJ (D:=D) hil hcn hcx
     refine wf ?_
     refine DI (k:=c) rfl rfl hcn ?_
     refine wf ?_
     refine⟨i+1,⟨by omega,fun j hj=>?_⟩,by dsimp only;omega,⟨rfl,rfl,rfl,rfl,rfl,rfl⟩,.refl _⟩
     by_cases e:j=i
     ·rw[e];exact hr
     ·exact hbad j (by omega)
    ·have hb1:KK n D Q[k] i=true:=by rw[hbe,BC (show(n:Int)≤(c:Int) by omega)];rfl
     have hret:=hret hb1
     refine BG [(62,.raw (.bool (KK n D Q[k] i))),(0,.slice (Q.map Jz) t),(1,.raw (.int .i64 (n:Int))),(5,.raw (.slice (some ⟨b,0,none⟩) n n)),(6,.raw (.int .i64 ((D.length+i:Nat)))),(7,.raw (.int .i64 k)),(8,.raw (.int .i64 i)),(9,.raw (.int .i64 (c:Int)))] (.box b 4 (Tq n (D++Q[k].take i))::LF) ?_ ?_
     ·repeat' (first|(refine A6 (fun h=>?_) (fun h=>?_)<;>refine wf ?_)|(refine AR (fun h=>?_) (fun h=>?_)<;>refine wf ?_)|(refine AO (fun h=>?_) (fun h=>?_)<;>refine wf ?_)|(refine Ao (fun h=>?_) (fun h=>?_)<;>(have h2:=h;(try simp only[AA,A8,AF,AJ]at h2);refine wf ?_)))
      all_goals first|(refine⟨⟨Bh (by rfl) ?_,rfl,rfl,rfl,rfl,rfl,rfl,rfl⟩,.refl _⟩;first|(rw[hb1];done)|(rw[hb1];first|(simp_all;done)|(exfalso;simp_all;omega)))|(exfalso;simp_all;done)|(exfalso;simp_all;omega)|(trace_state;fail)
     refine wf ?_
     refine AO (fun hr=>?_) (fun hr=>?_)
     ·refine wf ?_
      exact Aw (.of_eq (by rw[hret]))
     ·rw[hb1]at hr
      simp at hr
  ·obtain rfl:i=Q[k].length:=by omega
   rw[Tf (fun j hj=>hbad j (by omega)),EJ]at hok
   refine wf ?_
   refine A6 (fun he=>?_) (fun he=>?_)
   ·refine wf ?_
    refine Aw (.of_eq ?_)
    have hl0:Q[k]= []:=BA (by omega)
    rw[hok,hl0];simp
   have hl0:Q[k]≠ []:=fun e=>he (by rw[e];rfl)
   rw[BC hl0,EJ]at hok
   have e2:(Q.take (k+1)).flatten=D++Q[k]:=by rw[htk,C5,EN,hD]
   refine wf ?_
   refine⟨k+1,⟨by omega,?_,?_⟩,by dsimp only;omega,⟨rfl,rfl,rfl,?_,rfl⟩,?_⟩
   ·rw[hok,e2]
   ·rw[e2,AD];omega
   ·simp only[e2,AD]
    rfl
   ·dsimp only
    rw[e2,DK];exact .refl _
 ·have hk2:k=Q.length:=by omega
  subst hk2
  rw[SV,DK]at hok
  rw[DK]at hfl ⊢
  refine wf ?_
  refine Aw (.of_eq ?_)
  rw[hok]
  show PV.raw (.bool (decide ((Q.flatten.length:Int)=n)))= .raw (.bool (decide (Q.flatten.length=n)))
  congr 2
  rw[decide_eq_decide];omega⟩
theorem tc {Q:List (List Int)} {c:Int} {k:Nat} (hk:k < Q.length) (h:c∉(Q.take k).flatten) (hc:c∈Q[k]):OE Q c=k:=by
 unfold OE
 have:Q.findIdx? (fun l=>decide (c∈l))=some k:=by
  refine Gn.2 ⟨hk,by simpa using hc,fun j hj=>?_⟩
  have:c∉Q[j]:=fun hm=>h (Db.2 ⟨_,DD.2 ⟨j,by omega,rfl⟩,hm⟩)
  simpa using this
 rw[this]
theorem kc {Q:List (List Int)} {c:Int} (h:c∉Q.flatten):OE Q c= -1:=by
 unfold OE
 have:Q.findIdx? (fun l=>decide (c∈l))=none:=Qx.2 fun l hl=>by
  have:c∉l:=fun hm=>h (Db.2 ⟨l,hl,hm⟩)
  simpa using this
 rw[this]
theorem Ve (Q:List (List Int)) (t:CD) (c:Int) (hQ:Q.length≤1000000) (hl: ∀ l∈Q,l.length≤1000000):C9 Tryz.prog 131 [.slice (Q.map Jz) t,.raw (.int .i64 c)] (.raw (.int .i64 (OE Q c))):=⟨by
 refine Av Tryz.func131 Tryz.ntmps131 rfl (rs:= [.tmp 4]) rfl rfl fun hb LF=>?_
 refine wf ?_
 refine AZ (σ:=Nat) (fun k=>k≤Q.length∧c∉(Q.take k).flatten) (fun k=>Q.length - k) (fun k=> [(0,.slice (Q.map Jz) t),(1,.raw (.int .i64 c)),(5,.raw (.int .i64 k))]) (fun _=>LF) 0 ⟨by simp,by simp⟩ ⟨rfl,rfl,rfl⟩ (.refl _) ?_
 rintro k ⟨hk,hn⟩
 refine wf ?_
 refine A6 (fun h1=>?_) (fun h1=>?_)
 ·have hlt:k < Q.length:=by omega
  have hll:=hl _ (AH hlt)
  refine wf ?_
  refine AZ (σ:=Nat) (fun i=>i≤Q[k].length∧c∉Q[k].take i) (fun i=>Q[k].length - i) (fun i=> [(0,.slice (Q.map Jz) t),(1,.raw (.int .i64 c)),(5,.raw (.int .i64 k)),(6,.raw (.int .i64 i))]) (fun _=>LF) 0 ⟨by simp,by simp⟩ ⟨rfl,rfl,rfl,rfl⟩ (.refl _) ?_
  rintro i ⟨hi,hni⟩
  refine wf ?_
  refine A6 (fun h2=>?_) (fun h2=>?_)
  ·have hil:i < Q[k].length:=by omega
   refine wf ?_
   refine A6 (fun h3=>?_) (fun h3=>?_)
   ·refine wf ?_
    refine Aw (.of_eq ?_)
    rw[tc hlt hn (h3 ▸ AH hil)]
   ·refine wf ?_
    refine⟨i+1,⟨by omega,?_⟩,by dsimp only;omega,⟨rfl,rfl,rfl,rfl⟩,.refl _⟩
    rw[A7 hil,Ah,Aj]
    exact fun h=>h.elim hni fun h=>h3 h.symm
  ·rw[AB (by omega)]at hni
   refine wf ?_
   refine⟨k+1,⟨by omega,?_⟩,by dsimp only;omega,⟨rfl,rfl,rfl⟩,.refl _⟩
   rw[A7 hlt,C5,EN,Ah]
   exact fun h=>h.elim hn hni
 ·rw[AB (by omega)]at hn
  refine wf ?_
  refine Aw (.of_eq ?_)
  rw[kc hn]⟩
theorem UF {s:List Sto} (v:Bx s) {x:Sto} (hx:x∈s) {n:Nat} (hn:n < x.patch.changes.length):C9 Tryz.prog 70 [.agg (Ba x.patch),.raw (.int .i64 (n:Int))] (.raw (.int .i64 (Cg x.patch.changes n:Int))):=⟨by
 have hb0:=v.close.1.2 x hx
 have i1:Ay (E4 x.patch=false):=⟨hb0⟩
 obtain⟨_,_,g1,g2,gch⟩:=EF hb0
 have hp:=HC (JG (v.id x hx).1).1
 have ck: ∀ t:Unit,C9 Tryz.prog 19 [.agg (Ba x.patch)] (.raw (.int .i64 0)):=fun _=>by
  have:=gl x.patch
  rw[show(CU x.patch).2=0 by
   have:=(v.id x hx).1
   rw[Ew]at this
   split at this
   ·rename_i h;exact absurd this h
   ·rename_i h;simpa using h]at this
  exact this
 have ck:=ck ()
 have hc16:Cg x.patch.changes x.patch.changes.length≤16200:=by
  have h1:cntS s x.id=Cg x.patch.changes x.patch.changes.length:=by rw[v.cntS hx,hp.cnt]
  have h2:cntS s x.id≤16200:=by rw[v.cntS hx];exact(EG hb0).1
  omega
 refine Av Tryz.func70 Tryz.ntmps70 rfl (rs:= [.tmp 4]) rfl rfl fun hb LF=>?_
 refine wf ?_
 refine BG [(20,.raw (.bool (false))),(1,.raw (.int .i64 (n:Int))),(2,.pt (Ba x.patch) 0)] (LF) ?_ ?_
 ·repeat' (first|(refine A6 (fun h=>?_) (fun h=>?_)<;>refine wf ?_)|(refine AR (fun h=>?_) (fun h=>?_)<;>refine wf ?_)|(refine AO (fun h=>?_) (fun h=>?_)<;>refine wf ?_)|(refine Ao (fun h=>?_) (fun h=>?_)<;>(have h2:=h;(try simp only[AA,A8,AF,AJ]at h2);refine wf ?_)))
  all_goals (refine⟨⟨Bh (by rfl) ?_,rfl,rfl⟩,.refl _⟩;first|(simp_all;done)|(exfalso;simp_all;omega)|(trace_state;fail))
 refine wf ?_
 refine AZ (σ:=Nat) (fun k=>k≤n) (fun k=>n - k) (fun k=> [(1,.raw (.int .i64 (n:Int))),(2,.pt (Ba x.patch) 0),(5,.raw (.int .i64 (Cg x.patch.changes k))),(6,.raw (.int .i64 k))]) (fun _=>LF) 0 (by omega) ⟨rfl,rfl,by rw[MO];rfl,rfl⟩ (.refl _) ?_
 rintro k hk
 have hm:=EU x.patch.changes (show k≤x.patch.changes.length by omega)
 refine wf ?_
 refine A6 (fun hc=>?_) (fun hc=>?_)
 ·have hlt:k < x.patch.changes.length:=by omega
  have hch:=AH hlt
  have i2:Ay (x.patch.changes[k].lines.length≤1000000):=⟨by have:=(gch _ hch).lines;omega⟩
  have hck:NK x.patch.changes[k]=Jo x.patch.changes[k]:=(l8 (v.kinds hx _ hch).1 (v.kinds hx _ hch).2).symm
  have hs:=HS hlt
  have hm2:=EU x.patch.changes (show k+1≤x.patch.changes.length by omega)
  have e:(Cg x.patch.changes k:Int)+(NK x.patch.changes[k]:Int)=Cg x.patch.changes (k+1):=by rw[hck,hs];omega
  refine wf ?_
  refine⟨k+1,by omega,by dsimp only;omega,⟨rfl,rfl,?_,rfl⟩,.refl _⟩
  show PV.raw (.int .i64 ((Cg x.patch.changes k:Int)+(NK x.patch.changes[k]:Int)))=_
  rw[e]
 ·obtain rfl:k=n:=by omega
  refine wf ?_
  exact Aw (.of_eq rfl)⟩
theorem XD {cs:List Chg} {n:Int} {k:Nat} (hk:k < cs.length) (h1:(Cg cs k:Int)≤n) (h2: ∀ i,k < i→i < cs.length→ ¬(Cg cs i:Int)≤n):Dz cs n=k:=by
 unfold Dz
 rw[OI (f:=Cg cs) (fun i j h=>EU cs h) hk h1 h2]
 rfl
theorem bQ {s:List Sto} (v:Bx s) {x:Sto} (hx:x∈s) (y:Ident):C9 Tryz.prog 130 [.agg (Ba x.patch),.agg (eIdent y)] (.raw (.int .i64 (La x.patch.changes y))):=⟨by
 obtain⟨_,_,g1,g2,gch⟩:=EF (v.close.1.2 x hx)
 refine Av Tryz.func130 Tryz.ntmps130 rfl (rs:= [.tmp 4]) rfl rfl fun hb LF=>?_
 refine wf ?_
 refine BG [(14,.raw (.bool (!EO y))),(2,.pt (Ba x.patch) 0),(3,.pt (eIdent y) 0)] (LF) ?_ ?_
 ·repeat' (first|(refine A6 (fun h=>?_) (fun h=>?_)<;>refine wf ?_)|(refine AR (fun h=>?_) (fun h=>?_)<;>refine wf ?_)|(refine AO (fun h=>?_) (fun h=>?_)<;>refine wf ?_)|(refine Ao (fun h=>?_) (fun h=>?_)<;>(have h2:=h;(try simp only[AA,A8,AF,AJ]at h2);refine wf ?_)))
  all_goals (refine⟨⟨Bh (by rfl) ?_,rfl,rfl⟩,.refl _⟩;unfold EO;first|(simp_all;done)|(exfalso;simp_all;omega)|grind|(trace_state;fail))
 refine wf ?_
 refine AO (fun h=>?_) (fun h=>?_)
 ·refine wf ?_
  refine Aw (.of_eq ?_)
  unfold La
  rw[if_neg (fun k=>by rw[k.1]at h;exact absurd h (by decide))]
 have ho:EO y=true:=by simpa using h
 have h0:0≤y.n:=by unfold EO at ho;simp at ho;exact ho.2
 refine wf ?_
 refine AZ (σ:=Nat) (fun k=>k≤x.patch.changes.length∧ ∀ i,k≤i→i < x.patch.changes.length→ ¬(Cg x.patch.changes i:Int)≤y.n) (fun k=>k) (fun k=> [(2,.pt (Ba x.patch) 0),(3,.pt (eIdent y) 0),(5,.raw (.int .i64 ((k:Int) - 1)))]) (fun _=>LF) x.patch.changes.length ⟨Al _,fun i h1 h2=>absurd h2 (Nat.not_lt.2 h1)⟩ ⟨rfl,rfl,rfl⟩ (.refl _) ?_
 rintro k ⟨hk,hno⟩
 refine wf ?_
 refine A6 (fun h=>?_) (fun h=>?_)
 ·obtain⟨j,rfl⟩: ∃ j,k=j+1:=⟨k - 1,by omega⟩
  have e:((j+1:Nat):Int) - 1=(j:Int):=by omega
  have hj:j < x.patch.changes.length:=by omega
  have cf:=UF v hx hj
  rw[e]
  refine wn ?_
  refine BX 6 ?_ ?_
  ·decide+kernel
  refine wf ?_
  refine A6 (fun h3=>?_) (fun h3=>?_)
  ·refine wf ?_
   refine Aw (.of_eq ?_)
   unfold La
   rw[if_pos ⟨ho,List.ne_nil_of_length_pos (by omega)⟩,XD hj h3 fun i h1 h2=>hno i (by omega) h2]
  ·refine wf ?_
   refine⟨j,⟨by omega,fun i h1 h2=>?_⟩,by dsimp only;omega,⟨rfl,rfl,rfl⟩,.refl _⟩
   by_cases e:i=j
   ·rw[e];exact h3
   ·exact hno i (by omega) h2
 ·obtain rfl:k=0:=by omega
  refine wf ?_
  refine Aw (.of_eq ?_)
  unfold La
  rw[if_neg fun k=>hno 0 (Al _) (Hb.2 k.2) (by rw[MO];exact h0)]⟩
def NU (c:Chg):List Ident:=c.over++(if 2≤c.kind∧c.kind≤6 then [c.file]else [])
def L0 (c:Chg):List Ident:=NU c++(if c.kind=2 then [c.parent]else [])
theorem WT (c:Chg):IV c=L0 c++(if c.kind=5∨c.kind=6 then [c.after,c.before]else []):=rfl
theorem VC (c:Chg):(NU c).length≤c.over.length+1:=by unfold NU;split<;>simp
theorem VB (c:Chg):(L0 c).length≤c.over.length+2:=by have:=VC c;unfold L0;split<;>simp<;>omega
theorem eL (c:Chg):(IV c).length≤c.over.length+4:=by have:=VB c;rw[WT];split<;>simp<;>omega
def ZQ (Q:List (List Int)) (cs:List Chg) (i:Nat) (y:Ident):Bool:=decide (0≤La cs y)&&decide (OE Q i < OE Q (La cs y))
theorem UX {s:List Sto} (v:Bx s) {x:Sto} (hx:x∈s) (Q:List (List Int)) (t:CD) (hQ:Q.length≤1000000) (hl: ∀ l∈Q,l.length≤1000000):C9 Tryz.prog 68 [.agg (Ba x.patch),.slice (Q.map Jz) t] (.raw (.bool (!Jy Q x.patch.changes))):=⟨by
 obtain⟨_,_,g1,g2,gch⟩:=EF (v.close.1.2 x hx)
 refine Av Tryz.func68 Tryz.ntmps68 rfl (rs:= [.tmp 4]) rfl rfl fun hb LF=>?_
 refine wf ?_
 refine AZ (σ:=Nat) (fun k=>k≤x.patch.changes.length∧ ∀ i,i < k→(IV (x.patch.changes.getD i Chg.zero)).any (ZQ Q x.patch.changes i)=false) (fun k=>x.patch.changes.length - k) (fun k=> [(1,.slice (Q.map Jz) t),(2,.pt (Ba x.patch) 0),(5,.raw (.int .i64 k))]) (fun _=>LF) 0 ⟨by omega,fun i h=>absurd h (DB _)⟩ ⟨rfl,rfl,rfl⟩ (.refl _) ?_
 rintro k ⟨hk,hno⟩
 refine wf ?_
 refine A6 (fun hc=>?_) (fun hc=>?_)
 ·have hlt:k < x.patch.changes.length:=by omega
  have gk:=gch _ (AH hlt)
  have hgk:x.patch.changes.getD k Chg.zero=x.patch.changes[k]:=by simp[List.getD,hlt]
  have hov:=gk.over
  have hr:=eL x.patch.changes[k]
  obtain⟨c,hcx⟩: ∃ c,c=x.patch.changes[k]:=⟨_,rfl⟩
  refine wz fun b6=>?_
  rw[←hcx]at hov hr hgk ⊢
  refine B2 6 ?_
  refine wf ?_
  refine RJ (by rfl) (by rfl) (by omega) (by omega) fun t7=>?_
  refine wf ?_
  refine BG [(33,.raw (.bool (decide (2≤c.kind∧c.kind≤6)))),(1,.slice (Q.map Jz) t),(2,.pt (Ba x.patch) 0),(5,.raw (.int .i64 k)),(6,.pt (eChg c) 0),(7,.slice (c.over.map eIdent) t7)] (.tok t7 c.over.length 33::LF) ?_ ?_
  ·repeat' (first|(refine A6 (fun h=>?_) (fun h=>?_)<;>refine wf ?_)|(refine AR (fun h=>?_) (fun h=>?_)<;>refine wf ?_)|(refine AO (fun h=>?_) (fun h=>?_)<;>refine wf ?_)|(refine Ao (fun h=>?_) (fun h=>?_)<;>(have h2:=h;(try simp only[AA,A8,AF,AJ]at h2);refine wf ?_)))
   all_goals (refine⟨⟨Bh (by rfl) ?_,rfl,rfl,rfl,rfl,rfl⟩,.refl _⟩;first|(simp_all;done)|(simp_all;omega)|grind)
  refine wf ?_
  refine Ca (σ:=CD) (fun _=>True) (fun tg=> [(1,.slice (Q.map Jz) t),(2,.pt (Ba x.patch) 0),(5,.raw (.int .i64 k)),(6,.pt (eChg c) 0),(7,.slice ((NU c).map eIdent) tg)]) (fun tg=> .tok tg (NU c).length 33::LF) ?_ ?_
  ·refine A6 (fun h=>?_) (fun h=>?_)
   ·have e:NU c=c.over++ [c.file]:=by unfold NU;rw[if_pos h]
    rw[e]
    refine wf ?_
    refine Gb (f:=eIdent) (l:=c.over) (m:= [c.file]) (by rfl) (by rfl) (by simp only[Ax];omega) (by simp only[Ax];omega) (fun t=> .here) fun t8=>?_
    refine wf ?_
    exact⟨t8,trivial,⟨rfl,rfl,rfl,rfl,rfl⟩,.refl _⟩
   ·have e:NU c=c.over:=by unfold NU;rw[if_neg h,BJ]
    rw[e]
    refine wf ?_
    exact⟨t7,trivial,⟨rfl,rfl,rfl,rfl,rfl⟩,.refl _⟩
  rintro t8 -
  have hA:=VC c
  have hB:=VB c
  refine wf ?_
  refine Ca (σ:=CD) (fun _=>True) (fun tg=> [(1,.slice (Q.map Jz) t),(2,.pt (Ba x.patch) 0),(5,.raw (.int .i64 k)),(6,.pt (eChg c) 0),(7,.slice ((L0 c).map eIdent) tg)]) (fun tg=> .tok tg (L0 c).length 33::LF) ?_ ?_
  ·refine A6 (fun h=>?_) (fun h=>?_)
   ·have e:L0 c=NU c++ [c.parent]:=by unfold L0;rw[if_pos h]
    rw[e]
    refine wf ?_
    refine Gb (f:=eIdent) (l:=NU c) (m:= [c.parent]) (by rfl) (by rfl) (by simp only[Ax];omega) (by simp only[Ax];omega) (fun t=> .here) fun t8=>?_
    refine wf ?_
    exact⟨t8,trivial,⟨rfl,rfl,rfl,rfl,rfl⟩,.refl _⟩
   ·have e:L0 c=NU c:=by unfold L0;rw[if_neg h,BJ]
    rw[e]
    refine wf ?_
    exact⟨t8,trivial,⟨rfl,rfl,rfl,rfl,rfl⟩,.refl _⟩
  rintro t9 -
  refine wf ?_
  refine BG [(54,.raw (.bool (decide (c.kind=5∨c.kind=6)))),(1,.slice (Q.map Jz) t),(2,.pt (Ba x.patch) 0),(5,.raw (.int .i64 k)),(6,.pt (eChg c) 0),(7,.slice ((L0 c).map eIdent) t9)] (.tok t9 (L0 c).length 33::LF) ?_ ?_
  ·repeat' (first|(refine A6 (fun h=>?_) (fun h=>?_)<;>refine wf ?_)|(refine AR (fun h=>?_) (fun h=>?_)<;>refine wf ?_)|(refine AO (fun h=>?_) (fun h=>?_)<;>refine wf ?_)|(refine Ao (fun h=>?_) (fun h=>?_)<;>(have h2:=h;(try simp only[AA,A8,AF,AJ]at h2);refine wf ?_)))
   all_goals (refine⟨⟨Bh (by rfl) ?_,rfl,rfl,rfl,rfl,rfl⟩,.refl _⟩;first|(simp_all;done)|(simp_all;omega)|grind)
  refine wf ?_
  refine Ca (σ:=CD) (fun _=>True) (fun tg=> [(1,.slice (Q.map Jz) t),(2,.pt (Ba x.patch) 0),(5,.raw (.int .i64 k)),(6,.pt (eChg c) 0),(7,.slice ((IV c).map eIdent) tg)]) (fun tg=>LF) ?_ ?_
  ·refine A6 (fun h=>?_) (fun h=>?_)
   ·have e:IV c=L0 c++ [c.after,c.before]:=by rw[WT,if_pos h]
    rw[e]
    refine wf ?_
    refine Gb (f:=eIdent) (l:=L0 c) (m:= [c.after,c.before]) (by rfl) (by rfl) (by simp only[AN,Ae];omega) (by simp only[AN,Ae];omega) (fun t=> .here) fun t8=>?_
    refine wf ?_
    exact⟨t8,trivial,⟨rfl,rfl,rfl,rfl,rfl⟩,.cons _ (.refl _)⟩
   ·have e:IV c=L0 c:=by rw[WT,if_neg h,BJ]
    rw[e]
    refine wf ?_
    exact⟨t9,trivial,⟨rfl,rfl,rfl,rfl,rfl⟩,.cons _ (.refl _)⟩
  rintro tR -
  have hbad:(IV c).any (ZQ Q x.patch.changes k)=true→(!Jy Q x.patch.changes)=false:=fun h=>by
   have:Jy Q x.patch.changes=true:=by
    unfold Jy
    exact Bn.2 ⟨k,BZ.2 hlt,by rw[hgk];exact h⟩
   rw[this];rfl
  refine wf ?_
  refine AZ (σ:=Nat) (fun j=>j≤(IV c).length∧ ∀ i (h:i < (IV c).length),i < j→ZQ Q x.patch.changes k (IV c)[i]=false) (fun j=>(IV c).length - j) (fun j=> [(1,.slice (Q.map Jz) t),(2,.pt (Ba x.patch) 0),(5,.raw (.int .i64 k)),(7,.slice ((IV c).map eIdent) tR),(8,.raw (.int .i64 j))]) (fun _=>LF) 0 ⟨by omega,fun i _ h=>absurd h (DB _)⟩ ⟨rfl,rfl,rfl,rfl,rfl⟩ (.refl _) ?_
  rintro j ⟨hj,hnj⟩
  refine wf ?_
  refine A6 (fun hc2=>?_) (fun hc2=>?_)
  ·have hjl:j < (IV c).length:=by omega
   have cm:=bQ v hx (IV c)[j]
   refine wn ?_
   refine BX 6 ?_ ?_
   ·decide+kernel
   refine wf ?_
   have cp:=Ve Q t (La x.patch.changes (IV c)[j]) hQ hl
   have cq:=Ve Q t (k:Nat) hQ hl
   generalize hy:(IV c)[j]=y at*
   refine BG [(84,.raw (.bool (ZQ Q x.patch.changes k y))),(1,.slice (Q.map Jz) t),(2,.pt (Ba x.patch) 0),(5,.raw (.int .i64 k)),(7,.slice ((IV c).map eIdent) tR),(8,.raw (.int .i64 j))] (LF) ?_ ?_
   ·repeat' (first|(refine A6 (fun h=>?_) (fun h=>?_)<;>refine wf ?_)|(refine AR (fun h=>?_) (fun h=>?_)<;>refine wf ?_)|(refine AO (fun h=>?_) (fun h=>?_)<;>refine wf ?_)|(refine Ao (fun h=>?_) (fun h=>?_)<;>(have h2:=h;(try simp only[AA,A8,AF,AJ]at h2);refine wf ?_)))
    all_goals (refine⟨⟨Bh (by rfl) ?_,rfl,rfl,rfl,rfl,rfl⟩,.refl _⟩;unfold ZQ;first|(simp_all;done)|(simp_all;omega)|grind|(trace_state;fail))
   refine wf ?_
   refine AO (fun h=>?_) (fun h=>?_)
   ·refine wf ?_
    refine Aw (.of_eq ?_)
    rw[hbad (Bn.2 ⟨_,AH hjl,by rw[hy];exact h⟩)]
   ·refine wf ?_
    refine⟨j+1,⟨by omega,fun i hi hij=>?_⟩,by dsimp only;omega,⟨rfl,rfl,rfl,rfl,rfl⟩,.refl _⟩
    by_cases e:i=j
    ·subst e;rw[hy];exact h
    ·exact hnj i hi (by omega)
  ·refine wf ?_
   refine⟨k+1,⟨by omega,fun i hi=>?_⟩,by dsimp only;omega,⟨rfl,rfl,rfl⟩,.refl _⟩
   by_cases e:i=k
   ·subst e
    rw[hgk]
    exact Bc.2 fun y hy=>by
     obtain⟨i,hi,rfl⟩:=Ag.1 hy
     rw[hnj i hi (by omega)];decide
   ·exact hno i (by omega)
 ·obtain rfl:k=x.patch.changes.length:=by omega
  refine wf ?_
  refine Aw (.of_eq ?_)
  have:Jy Q x.patch.changes=false:=by
   unfold Jy
   exact Bc.2 fun i hi=>by rw[Hh];exact hno i (BZ.1 hi)
  rw[this];rfl⟩
def lF (b:Nat) (k:Nat) (LF:List Res):List Res:= .box b 3 [.raw (.int .i64 (k:Int))]::LF
theorem Vw {s:List Sto} (v:Bx s) {x:Sto} (hx:x∈s) {n:Nat} (hn:n < x.patch.changes.length):C9 Tryz.prog 31 [.agg (Ba x.patch),.raw (.int .i64 (n:Int))] (.raw (.int .i64 (Cg x.patch.changes n:Int))):=⟨by
 have hb0:=v.close.1.2 x hx
 have i1:Ay (E4 x.patch=false):=⟨hb0⟩
 obtain⟨_,_,g1,g2,gch⟩:=EF hb0
 have hp:=HC (JG (v.id x hx).1).1
 have hc16:Cg x.patch.changes x.patch.changes.length≤16200:=by
  have h1:cntS s x.id=Cg x.patch.changes x.patch.changes.length:=by rw[v.cntS hx,hp.cnt]
  have h2:cntS s x.id≤16200:=by rw[v.cntS hx];exact(EG hb0).1
  omega
 refine Av Tryz.func31 Tryz.ntmps31 rfl (rs:= [.tmp 4]) rfl rfl fun hb LF=>?_
 have he:(CU x.patch).2=0:=by
  have:=(v.id x hx).1
  rw[Ew]at this
  split at this
  ·rename_i h;exact absurd this h
  ·rename_i h;simpa using h
 refine wf ?_
 refine BG [(21,.raw (.bool (false))),(1,.raw (.int .i64 (n:Int))),(2,.pt (Ba x.patch) 0)] (LF) ?_ ?_
 ·repeat' (first|(refine A6 (fun h=>?_) (fun h=>?_)<;>refine wf ?_)|(refine AR (fun h=>?_) (fun h=>?_)<;>refine wf ?_)|(refine AO (fun h=>?_) (fun h=>?_)<;>refine wf ?_)|(refine Ao (fun h=>?_) (fun h=>?_)<;>(have h2:=h;(try simp only[AA,A8,AF,AJ]at h2);refine wf ?_)))
  all_goals (refine⟨⟨Bh (by rfl) ?_,rfl,rfl⟩,.refl _⟩;first|(simp_all;done)|(exfalso;simp_all;omega)|grind|(trace_state;fail))
 refine wf ?_
 refine Y0 fun b5=>?_
 obtain⟨L,hL⟩: ∃ L,L=x.patch.changes.take n:=⟨_,rfl⟩
 have hfl:Cg L L.length=Cg x.patch.changes n:=by
  unfold Cg
  rw[DK,hL]
 have hLl:L.length=n:=by rw[hL,Ab];omega
 have hLm: ∀ c∈L,c∈x.patch.changes:=fun c hc=>El (hL ▸ hc)
 have hnn:=EU x.patch.changes (show n≤x.patch.changes.length by omega)
 rw[←hL]
 clear hL
 refine AZ (σ:=Nat) (fun k=>k≤L.length) (fun k=>L.length - k) (fun k=> [(5,.raw (.pointer (some ⟨b5,0,none⟩))),(25,.slice (L.map eChg) .ro),(26,.raw (.int .i64 L.length)),(27,.raw (.int .i64 k))]) (fun k=>lF b5 (Cg L k) LF) 0 (by omega) ⟨rfl,rfl,rfl,rfl⟩ (by rw[MO];exact .refl _) ?_
 rintro k hk
 have hmk:=EU L (show k≤L.length by omega)
 unfold lF
 refine wf ?_
 refine A6 (fun hc=>?_) (fun hc=>?_)
 ·have hlt:k < L.length:=by omega
  have hm:=hLm _ (AH hlt)
  have hkk:=v.kinds hx _ hm
  have hll:=(gch _ hm).lines
  have hs:=HS hlt
  have hm2:=EU L (show k+1≤L.length by omega)
  refine wz fun b7=>?_
  refine B2 7 ?_
  refine wf ?_
  refine JX (Rh L[k] (Cg L k:Nat) hkk ⟨by omega,by omega,by omega⟩) [34] (σ:=Nat) (fun pre s=>s=Cg L k+pre.length) (fun _ _=>False) (fun s LF'=>lF b5 s LF') (Cg L k) LF (.refl _) rfl (fun _=>rfl) (by simp) (fun _ _=>rfl) (.refl _) (by simp) ?_ ?_ (fun _ _ h=>h.elim)
  ·rintro pre y q LF' hpre hI
   have hpl:=hpre.length_le
   rw[Oj,AD,Ax]at hpl
   unfold lF
   refine wf ?_
   refine⟨q+1,by dsimp only at hI ⊢;rw[AD,Ax];omega,?_⟩
   exact .refl _
  ·rintro q hI
   rw[Oj,←hs]at hI
   unfold lF
   refine wf ?_
   refine⟨k+1,by omega,by dsimp only;omega,⟨rfl,rfl,rfl,rfl⟩,?_⟩
   rw[hI];exact .refl _
 ·obtain rfl:k=L.length:=by omega
  refine wf ?_
  refine Aw (.of_eq ?_)
  rw[hfl]⟩
instance xQ (a b:Int):C9 Tryz.prog 229 [.raw (.int .i64 a),.raw (.int .i64 b)] (.raw (.bool (decide (a < b)))):=⟨by
 refine Av Tryz.func229 Tryz.ntmps229 rfl (rs:= [.tmp 4]) rfl rfl fun hb LF=>?_
 refine wf ?_
 refine Aw (.of_eq rfl)⟩
instance vO (a:Int):C9 Tryz.prog 230 [.raw (.int .i64 a)] (.raw (.bool false)):=⟨by
 refine Av Tryz.func230 Tryz.ntmps230 rfl (rs:= [.tmp 2]) rfl rfl fun hb LF=>?_
 refine wf ?_
 refine Aw (.of_eq ?_)
 simp⟩
def Pk (l:List Int) (n:Int):Nat:=l.findIdx fun x=>decide (n≤x)
theorem nw {l:List Int} {n:Int} {i:Nat} (hi:i≤l.length) (h1: ∀ k (h:k < l.length),k < i→l[k] < n) (h2: ∀ k (h:k < l.length),i≤k→n≤l[k]):Pk l n=i:=by
 unfold Pk
 by_cases h:i < l.length
 ·refine qD h |>.2 ⟨BC (h2 i h (Al _)),fun j hj=>?_⟩
  have:=h1 j (by omega) hj
  simp;omega
 ·obtain rfl:i=l.length:=by omega
  refine zo.2 fun y hy=>?_
  obtain⟨k,hk,rfl⟩:=Ag.1 hy
  have:=h1 k hk hk
  simp;omega
theorem pX (l:List Int) (t:CD) (n:Int) (ha:l.Pairwise (·< ·)) (hl:l.length≤1000000):C9 Tryz.prog 181 [.slice (l.map eI) t,.raw (.int .i64 n)] (.tuple [.raw (.int .i64 (Pk l n)),.raw (.bool (decide (l[Pk l n]? =some n)))]):=⟨by
 refine Av Tryz.func181 Tryz.ntmps181 rfl (rs:= [.tmp 4,.tmp 5]) rfl rfl fun hb LF=>?_
 refine wf ?_
 refine AZ (σ:=Nat × Nat) (fun k=>k.1≤k.2∧k.2≤l.length∧(∀ i (h:i < l.length),i < k.1→l[i] < n)∧(∀ i (h:i < l.length),k.2≤i→n≤l[i])) (fun k=>k.2 - k.1) (fun k=> [(0,.slice (l.map eI) t),(1,.raw (.int .i64 n)),(6,.raw (.int .i64 l.length)),(7,.raw (.int .i64 k.1)),(8,.raw (.int .i64 k.2))]) (fun _=>LF) (0,l.length) ⟨Xt _,Al _,fun i _ h=>absurd h (DB _),fun i h h2=>absurd h (Nat.not_lt.2 h2)⟩ ⟨rfl,rfl,rfl,rfl,rfl⟩ (.refl _) ?_
 rintro⟨i,j⟩ ⟨hij,hjn,h1,h2⟩
 dsimp only at hij hjn h1 h2 ⊢
 have mono: ∀ a b (ha':a < l.length) (hb':b < l.length),a < b→l[a] < l[b]:=fun a b x y h=>B6.1 ha a b x y h
 refine wf ?_
 refine A6 (fun hc=>?_) (fun hc=>?_)
 ·have hlt:i < j:=by omega
  obtain⟨m,hm⟩: ∃ m,m=(i+j) / 2 ^ (min 1 64):=⟨_,rfl⟩
  have hm2:m=(i+j) / 2:=hm
  have hmn:m < l.length:=by omega
  refine wf ?_
  refine Wm (n:=(((i+j) / 2 ^ (min 1 64):Nat):Int)) rfl (IntWalk.i64_in _ ⟨by omega,by omega⟩) ?_
  rw[←hm]
  refine wf ?_
  refine A6 (fun h=>?_) (fun h=>?_)
  ·refine wf ?_
   refine⟨(m+1,j),⟨by dsimp only;omega,hjn,fun k hk hkm=>?_,h2⟩,by dsimp only;omega,⟨rfl,rfl,rfl,rfl,rfl⟩,.refl _⟩
   dsimp only at hkm
   by_cases e:k=m
   ·subst e;exact h
   ·have:=mono k m hk hmn (by omega);omega
  ·refine wf ?_
   refine⟨(i,m),⟨by dsimp only;omega,by dsimp only;omega,h1,fun k hk hkm=>?_⟩,by dsimp only;omega,⟨rfl,rfl,rfl,rfl,rfl⟩,.refl _⟩
   dsimp only at hkm
   by_cases e:k=m
   ·subst e;omega
   ·have:=mono m k hmn hk (by omega);omega
 ·have e:i=j:=by omega
  subst e
  rw[nw hjn h1 h2]
  by_cases hin:i < l.length
  ·have g:decide ((i:Int) < (l.length:Int))=true:=BC (by omega)
   refine wf ?_
   refine BG [(5,.raw (.bool (decide (l[i]? =some n)))),(4,.raw (.int .i64 i))] (LF) ?_ ?_
   ·repeat' (first|(refine A6 (fun h=>?_) (fun h=>?_)<;>refine wf ?_)|(refine AR (fun h=>?_) (fun h=>?_)<;>refine wf ?_)|(refine AO (fun h=>?_) (fun h=>?_)<;>refine wf ?_)|(refine Ao (fun h=>?_) (fun h=>?_)<;>(have h2:=h;(try simp only[AA,A8,AF,AJ]at h2);refine wf ?_)))
    all_goals (refine⟨⟨Bh (by rfl) ?_,rfl⟩,.refl _⟩;rw[AW hin];first|(simp_all;done)|(simp_all;omega)|(trace_state;fail))
   refine wf ?_
   refine HD (.of_eq rfl)
  ·have g:decide ((i:Int) < (l.length:Int))=false:=CG (by omega)
   refine wf ?_
   refine HD (.of_eq ?_)
   rw[FO (by omega)]
   rfl⟩
def Ee (cs:List Chg):List Int:=(List.range cs.length).map fun i=>(Cg cs i:Int)
theorem Jl (cs:List Chg):(Ee cs).length=cs.length:=by simp[Ee]
theorem NH {cs:List Chg} {i:Nat} (h:i < (Ee cs).length):(Ee cs)[i]=(Cg cs i:Int):=by simp[Ee]
theorem l7 {c:Chg} (h1:1≤c.kind) (h7:c.kind≤7):1≤Jo c:=by
 rw[l8 h1 h7];unfold NK;split<;>omega
theorem dh {cs:List Chg} (hk: ∀ c∈cs,1≤c.kind∧c.kind≤7) {i j:Nat} (h:i < j) (hj:j < cs.length):Cg cs i < Cg cs j:=by
 have h1:=EU cs (show i+1≤j by omega)
 have hi:i < cs.length:=by omega
 have h2:=HS hi
 have h3:=hk _ (AH hi)
 have:=l7 h3.1 h3.2
 omega
theorem Zp {cs:List Chg} (hk: ∀ c∈cs,1≤c.kind∧c.kind≤7):(Ee cs).Pairwise (·< ·):=by
 refine B6.2 fun i j hi hj hij=>?_
 rw[NH,NH]
 have:=dh hk hij (by rw[Jl]at hj;exact hj)
 omega
theorem TZ (l:List Int) (n:Int):Pk l n≤l.length∧(∀ k (h:k < l.length),k < Pk l n→l[k] < n)∧ ∀ h:Pk l n < l.length,n≤l[Pk l n]:=by
 refine⟨zn,fun k h hk=>?_,fun h=>?_⟩
 ·have:=zl hk
  simp at this;omega
 ·have:=List.findIdx_getElem (w:=h)
  exact BP this
theorem js {cs:List Chg} (hk: ∀ c∈cs,1≤c.kind∧c.kind≤7) (hne:cs≠ []) {n:Int} (h0:0≤n):
  ((Ee cs)[Pk (Ee cs) n]? =some n→Pk (Ee cs) n=Dz cs n)∧(¬(Ee cs)[Pk (Ee cs) n]? =some n→Pk (Ee cs) n=Dz cs n+1):=by
 obtain⟨h1,h2,h3⟩:=TZ (Ee cs) n
 have hasc:=Zp hk
 generalize Pk (Ee cs) n=p at*
 rw[Jl]at h1
 have up: ∀ i,p < i→i < cs.length→ ∀ hp:p < cs.length,(Cg cs p:Int) < Cg cs i:=fun i a b hp=>by have:=dh hk a b;omega
 constructor
 ·intro h
  obtain⟨hp,he⟩:=Bj.1 h
  rw[NH]at he
  rw[Jl]at hp
  rw[XD hp (by omega) fun i a b=>by have:=up i a b hp;omega]
 ·intro h
  have hlt: ∀ hp:p < cs.length,n < Cg cs p:=fun hp=>by
   have hp':p < (Ee cs).length:=by rw[Jl];exact hp
   have h4:=h3 hp'
   rw[AW hp',NH]at h
   rw[NH]at h4
   have: ¬(Cg cs p:Int)=n:=fun e=>h (by rw[e])
   omega
  have hp0:p≠0:=fun e=>by
   have:=hlt (by rw[e];exact Hb.2 hne)
   rw[e,MO]at this;omega
  obtain⟨q,rfl⟩: ∃ q,p=q+1:=⟨p - 1,by omega⟩
  have hq:q < (Ee cs).length:=by rw[Jl];omega
  have h5:=h2 q hq (by omega)
  rw[NH]at h5
  rw[XD (k:=q) (by omega) (by omega) fun i a b=>by
   have:=hlt (by omega)
   have:=EU cs (show q+1≤i by omega)
   omega]
theorem Vj {cs:List Chg} (hk: ∀ c∈cs,1≤c.kind∧c.kind≤7) (hne:cs≠ []) (hl:cs.length≤1000000) (b:Nat) (us:List PV) (tg:CD) [At us 6 (.slice ((Ee cs).map eI) tg)] (y:Ident) (h0:0≤y.n):BH Tryz.prog 128 [.raw (.pointer (some ⟨b,0,none⟩)),.agg (eIdent y)] [.box b 104 us]
  (fun r L'=>r= .raw (.int .i64 (Dz cs y.n:Int))∧L'= [.box b 104 us]):=by
 have cb:=pX (Ee cs) tg y.n (Zp hk) (by rw[Jl];exact hl)
 obtain⟨m1,m2⟩:=js hk hne h0
 have hpl:=(TZ (Ee cs) y.n).1
 rw[Jl]at hpl
 refine C8 Tryz.func128 rfl Tryz.ntmps128 (rs:= [.tmp 4]) rfl rfl fun hb LF=>?_
 refine wn ?_
 refine BX 12 ?_ ?_
 ·decide+kernel
 refine wf ?_
 refine AR (fun h=>?_) (fun h=>?_)
 ·refine wf ?_
  exact⟨trivial,_,_,.cons (.tmp 4) .nil,.refl _,by show PV.raw (.int .i64 ((Pk (Ee cs) y.n:Int) - 1))=_;rw[m2 h];congr 2;omega,rfl⟩
 ·refine wf ?_
  exact⟨trivial,_,_,.cons (.tmp 4) .nil,.refl _,by show PV.raw (.int .i64 ((Pk (Ee cs) y.n:Nat):Int))=_;rw[m1 h],rfl⟩
def gE (cs:List Chg) (ns:List Int) (i:Nat) (st:Bool) (y:Ident):Bool:=st||(EO y&&decide (ns.getD i 0 < ns.getD (Dz cs y.n) 0))
theorem gJ {cs:List Chg} (hk: ∀ c∈cs,1≤c.kind∧c.kind≤7) (hl:cs.length≤1000000) (ns:List Int) (hns:ns.length=cs.length) (b3 bx i:Nat) (hi:i < cs.length) (us:List PV) (tg:CD) [At us 5 (.slice (ns.map eI) .ro)] [At us 6 (.slice ((Ee cs).map eI) tg)] (st:Bool) (y:Ident):
  BH Tryz.prog 127 [.agg (eIdent y),.raw (.pointer (some ⟨b3,0,none⟩)),.pt [.raw (.pointer (some ⟨bx,0,none⟩))] 0,.pt [.raw (.int .i64 (i:Int))] 0] [.box b3 4 [.raw (.bool st)],.box bx 104 us]
  (fun r L'=>r= .agg (eIdent y)∧L'= [.box b3 4 [.raw (.bool (gE cs ns i st y))],.box bx 104 us]):=by
 have hne:cs≠ []:=fun e=>by rw[e]at hi;exact absurd hi (DB _)
 have hm:=Ox (n:=y.n) hne
 refine C8 Tryz.func127 rfl Tryz.ntmps127 (rs:= [.cell 5 65]) rfl rfl fun hb LF=>?_
 rw[B3,B3,BB]
 refine wf ?_
 refine CA fun b5=>?_
 refine wn ?_
 refine BX 24 ?_ ?_
 ·decide+kernel
 refine wf ?_
 refine Ao (fun h=>?_) (fun h=>?_)
 ·have e:gE cs ns i st y=true:=by unfold gE;rw[h];rfl
  rw[e]
  refine wf ?_
  exact⟨trivial,_,_,.cons (.cell 5 65 rfl AI Ea.out (by simp)) .nil,.cons _ (.refl _),rfl,rfl⟩
 ·refine wf ?_
  refine Ao (fun ho=>?_) (fun ho=>?_)
  ·have h0:0≤y.n:=by unfold EO at ho;simp at ho;exact ho.2
   have hm':Dz cs y.n < ns.length:=by omega
   have hi':i < ns.length:=by omega
   have e:gE cs ns i st y=decide (ns[i] < ns[Dz cs y.n]):=by
    unfold gE
    rw[h,ho,Fc,EJ]
    simp[List.getD,hm',hi']
   rw[e]
   refine wf ?_
   refine L6 (xs:= [.tmp 15,.tmp 16]) [.box bx 104 us] (.box b5 65 (eIdent Ident.zero):: .box b3 4 [.raw (.bool st)]::LF) (.raw (.int .i64 (Dz cs y.n:Int))) (f:=128) (cs:= []) (C4 _) rfl rfl Ou (Vj hk hne hl bx us tg y h0) ?_
   refine wf ?_
   exact⟨trivial,_,_,.cons (.cell 5 65 rfl AI Ea.out (by simp)) .nil,.cons _ (.refl _),rfl,rfl⟩
  ·have e:gE cs ns i st y=false:=by unfold gE;rw[h,ho];rfl
   rw[e]
   refine wf ?_
   exact⟨trivial,_,_,.cons (.cell 5 65 rfl AI Ea.out (by simp)) .nil,.cons _ (.refl _),rfl,rfl⟩
theorem Zg {cs:List Chg} {ns:List Int} {i:Nat}: ∀ (l:List Ident) (st:Bool),l.foldl (gE cs ns i) st=(st||l.any fun y=>EO y&&decide (ns.getD i 0 < ns.getD (Dz cs y.n) 0))
 | [],st=>by simp
 |y::l,st=>by rw[Bz,Zg l,gE,yC,Bool.or_assoc]
theorem kv {cs:List Chg} (hk: ∀ c∈cs,1≤c.kind∧c.kind≤7) (hl:cs.length≤1000000) (ho: ∀ c∈cs,c.over.length≤1000) (ns:List Int) (hns:ns.length=cs.length) (bx:Nat) (us:List PV) (tg:CD) [At us 4 (.slice (cs.map eChg) .ro)] [At us 5 (.slice (ns.map eI) .ro)] [At us 6 (.slice ((Ee cs).map eI) tg)]:
  BH Tryz.prog 65 [.raw (.pointer (some ⟨bx,0,none⟩))] [.box bx 104 us]
  (fun r L'=>r= .raw (.bool ((List.range cs.length).any fun i=>(Cu (cs.getD i Chg.zero)).any fun y=>EO y&&decide (ns.getD i 0 < ns.getD (Dz cs y.n) 0)))∧L'= [.box bx 104 us]):=by
 refine C8 Tryz.func65 rfl Tryz.ntmps65 (rs:= [.tmp 2]) rfl rfl fun hb LF=>?_
 rw[B3,BB]
 refine wf ?_
 refine Y0 fun b3=>?_
 let E:Nat→Bool:=fun i=>(Cu (cs.getD i Chg.zero)).any fun y=>EO y&&decide (ns.getD i 0 < ns.getD (Dz cs y.n) 0)
 have hE: ∀ i,E i=(Cu (cs.getD i Chg.zero)).any fun y=>EO y&&decide (ns.getD i 0 < ns.getD (Dz cs y.n) 0):=fun _=>rfl
 refine AZ (σ:=Nat) (fun k=>k≤cs.length) (fun k=>cs.length - k) (fun k=> [(1,.pt [.raw (.pointer (some ⟨bx,0,none⟩))] 0),(3,.raw (.pointer (some ⟨b3,0,none⟩))),(10,.slice (cs.map eChg) .ro),(11,.raw (.int .i64 cs.length)),(12,.raw (.int .i64 k))]) (fun k=> .box b3 4 [.raw (.bool ((List.range k).any E))]:: .box bx 104 us::LF) 0 (by omega) ⟨rfl,rfl,rfl,rfl,rfl⟩ (.refl _) ?_
 rintro k hk'
 refine wf ?_
 refine A6 (fun hc=>?_) (fun hc=>?_)
 ·have hlt:k < cs.length:=by omega
  have hm:=AH hlt
  have hov:=ho _ hm
  have e:(Cu cs[k]).foldl (gE cs ns k) ((List.range k).any E)=(List.range (k+1)).any E:=by
   rw[Zg,EI,Ef,yC,List.any_nil,yE,hE k]
   simp[List.getD,hlt]
  refine wf ?_
  refine CA fun b4=>?_
  refine wz fun b5=>?_
  refine B2 5 ?_
  refine B2 4 ?_
  refine wf ?_
  refine Bw (xs:= [.tmp 17,.tmp 18]) [.box b3 4 [.raw (.bool ((List.range k).any E))],.box bx 104 us] LF (fun R'=>R'++LF) (f:=102) (cs:= []) (C4 _) rfl rfl (.refl _) _ (Re 127 _ (fun st:Bool=> [.box b3 4 [.raw (.bool st)],.box bx 104 us]) (fun y=>y) (gE cs ns k) cs[k] (fun st y _=>gJ hk hl ns hns b3 bx k hlt us tg st y) hov ((List.range k).any E)) (fun _=> .refl _) fun r L' ⟨hr,hL'⟩=>?_
  rw[e]at hL'
  subst hL'
  rw[B3,B3,BB]
  refine wf ?_
  exact⟨k+1,by omega,by dsimp only;omega,⟨rfl,rfl,rfl,rfl,rfl⟩,.refl _⟩
 ·obtain rfl:k=cs.length:=by omega
  refine wf ?_
  exact⟨trivial,_,_,.cons (.tmp 2) .nil,.cons _ (.refl _),rfl,rfl⟩
end Go.Proofs
namespace Go.Q
open Go
def FJ (p:Pat) (ns fs:List Int) (tf:CD) (ss:List Int) (ts:CD) (is:List Dig) (ti:CD):List PV:=Ba p++ [.slice (ns.map eI) .ro,.slice (fs.map eI) tf,.slice (ss.map eI) ts,.slice (is.map eDig) ti]
section
variable (p:Pat) (ns fs:List Int) (tf:CD) (ss:List Int) (ts:CD) (is:List Dig) (ti:CD)
@[simp] theorem xR:(FJ p ns fs tf ss ts is ti).length=9:=rfl
instance yr:At (FJ p ns fs tf ss ts is ti) 4 (.slice (p.changes.map eChg) .ro):=⟨rfl⟩
instance yq:At (FJ p ns fs tf ss ts is ti) 5 (.slice (ns.map eI) .ro):=⟨rfl⟩
instance yp:At (FJ p ns fs tf ss ts is ti) 6 (.slice (fs.map eI) tf):=⟨rfl⟩
instance yo:At (FJ p ns fs tf ss ts is ti) 7 (.slice (ss.map eI) ts):=⟨rfl⟩
instance yn:At (FJ p ns fs tf ss ts is ti) 8 (.slice (is.map eDig) ti):=⟨rfl⟩
instance wt (q:Pat):Eg (FJ p ns fs tf ss ts is ti) 0 (Ba q) (FJ q ns fs tf ss ts is ti):=⟨rfl,GZ rfl⟩
instance wm (l:List Int):Eg (FJ p ns fs tf ss ts is ti) 5 [.slice (l.map eI) .ro] (FJ p l fs tf ss ts is ti):=⟨rfl,GZ rfl⟩
end
end Go.Q
namespace Go.Proofs
open Go Go.Q
instance vw:Ck Tryz.prog 104 (FJ Pat.zero [] [] .nil [] .nil [] .nil):=⟨by
 have h:((Tryz.prog.info? 104).bind (·.zero)).map (·.cells.toList)=some [.string ⟨#[]⟩,.string ⟨#[]⟩,.int .i64 0,.slice none 0 0,.slice none 0 0,.slice none 0 0,.slice none 0 0,.slice none 0 0,.slice none 0 0]:=by kernel_rfl
 obtain⟨v,h1,h2⟩:=BU.1 h
 obtain⟨i,h3,h4⟩:=DV.1 h1
 have hv: ∀ g,E7 g [.string ⟨#[]⟩,.string ⟨#[]⟩,.int .i64 0,.slice none 0 0,.slice none 0 0,.slice none 0 0,.slice none 0 0,.slice none 0 0,.slice none 0 0] [.str [],.str [],.raw (.int .i64 0),.slice [] .ro,.slice [] .ro,.slice [] .ro,.slice [] .nil,.slice [] .nil,.slice [] .nil]:=fun g=> .cons (.str (by simp)) (.cons (.str (by simp)) (.cons (.raw _) (.cons .nilR (.cons .nilR (.cons .nilR (.cons (.nilN none (by simp)) (.cons (.nilN none (by simp)) (.cons (.nilN none (by simp)) (.nil g)))))))))
 exact⟨i,v,_,h3,h4,by rw[←h2],hv⟩⟩
attribute [local irreducible] EY AU GP BH Fk
def Kz (cs:List Chg) (ns:List Int) (k:Nat) (j:Nat):Nat:=(((List.range k).filter fun d=>decide (ns.getD d 0=(j:Int))).map fun d=>Jo (cs.getD d Chg.zero)).sum
theorem Ru (cs:List Chg) (ns:List Int) (k j:Nat):Kz cs ns (k+1) j=Kz cs ns k j+if ns.getD k 0=(j:Int)then Jo (cs.getD k Chg.zero)else 0:=by
 unfold Kz
 rw[EI,Ej,Au,FH]
 by_cases h:ns.getD k 0=(j:Int)
 ·rw[if_pos h,GA (by simpa using h)];simp
 ·rw[if_neg h,GB (by simpa using h)];simp
theorem dw (cs:List Chg) (ns:List Int) (k j:Nat) (hk:k≤cs.length):Kz cs ns k j≤Cg cs k:=by
 induction k with
 |zero=>simp[Kz]
 |succ k ih=>
  have:=ih (by omega)
  have hs:=HS (cs:=cs) (i:=k) (by omega)
  have hg:cs.getD k Chg.zero=cs[k]'(by omega):=by simp[List.getD,show k < cs.length by omega]
  rw[Ru,hs,hg]
  split<;>omega
def Nj (cs:List Chg) (k:Nat):List Int:=(List.range k).map fun i=>(Cg cs i:Int)
def H6 (cs:List Chg) (ns:List Int) (k:Nat):List Int:=(List.range k).map fun c=>(Kz cs ns c (ns.getD c 0).toNat:Int)
theorem gD (cs:List Chg) (k:Nat):Nj cs (k+1)=Nj cs k++ [(Cg cs k:Int)]:=by simp[Nj,EI]
theorem eU (cs:List Chg) (ns:List Int) (k:Nat):H6 cs ns (k+1)=H6 cs ns k++ [(Kz cs ns k (ns.getD k 0).toNat:Int)]:=by simp[H6,EI]
def Xj (cs:List Chg) (ns:List Int) (m k:Nat):List PV:=(List.range m).map fun j=> .raw (.int .i64 (Kz cs ns k j:Int))
theorem Tl {s:List Sto} (v:Bx s) {x:Sto} (hx:x∈s) (ns:List Int) (hns:ns.length=x.patch.changes.length) (m:Nat) (hm:m≤1000000) (hr: ∀ e∈ns,0≤e∧e < m):BH Tryz.prog 64 [.agg (Ba x.patch),.slice (ns.map eI) .ro,.raw (.int .i64 (m:Int))] []
  (fun r L'=> ∃ b tf ts,r= .raw (.pointer (some ⟨b,0,none⟩))∧L'= [.box b 104 (FJ x.patch ns (Nj x.patch.changes x.patch.changes.length) tf (H6 x.patch.changes ns x.patch.changes.length) ts [] .nil)]):=by
 have hb0:=v.close.1.2 x hx
 have i1:Ay (E4 x.patch=false):=⟨hb0⟩
 obtain⟨_,_,g1,g2,gch⟩:=EF hb0
 have hp:=HC (JG (v.id x hx).1).1
 have hcn:cntS s x.id=Cg x.patch.changes x.patch.changes.length:=by rw[v.cntS hx,hp.cnt]
 have hc16:cntS s x.id≤16200:=by rw[v.cntS hx];exact(EG hb0).1
 have cc:=W2 v hx
 refine C8 Tryz.func64 rfl Tryz.ntmps64 (rs:= [.tmp 6]) rfl rfl fun hb LF=>?_
 refine s7 fun b3=>?_
 refine s7 fun b7=>?_
 refine j9 (z:= .raw (.int .i64 0)) rfl rfl (by omega) (by omega) fun b8=>?_
 refine wf ?_
 refine EH Ou ?_
 refine B2 3 ?_
 refine EC 1 ?_
 refine EC 1 ?_
 refine AZ (σ:=Nat × CD × CD) (fun k=>k.1≤x.patch.changes.length) (fun k=>x.patch.changes.length - k.1) (fun k=> [(1,.slice (ns.map eI) .ro),(3,.pt (Ba x.patch) 0),(7,.raw (.pointer (some ⟨b7,0,none⟩))),(8,.raw (.slice (some ⟨b8,0,none⟩) m m)),(19,.slice (x.patch.changes.map eChg) .ro),(20,.raw (.int .i64 x.patch.changes.length)),(21,.raw (.int .i64 k.1))]) (fun k=> .tok k.2.1 (Nj x.patch.changes k.1).length 1:: .tok k.2.2 (H6 x.patch.changes ns k.1).length 1:: .box b8 3 (Xj x.patch.changes ns m k.1):: .box b7 104 (FJ x.patch ns (Nj x.patch.changes k.1) k.2.1 (H6 x.patch.changes ns k.1) k.2.2 [] .nil)::LF) (0,.nil,.nil) (by dsimp only;omega) ⟨rfl,rfl,rfl,rfl,rfl,rfl,rfl⟩ (by
  have:Xj x.patch.changes ns m 0=List.replicate m (.raw (.int .i64 0)):=Dc (by simp[Xj]) fun i h1 h2=>by simp[Xj,Kz]
  dsimp only
  rw[this];exact .refl _) ?_
 rintro⟨k,tf,ts⟩ hk
 dsimp only at hk ⊢
 refine wf ?_
 refine A6 (fun hc=>?_) (fun hc=>?_)
 ·have hlt:k < x.patch.changes.length:=by omega
  have cf:=Vw v hx hlt
  have hkn:k < ns.length:=by omega
  have hnr:=hr _ (AH hkn)
  obtain⟨c,hcx⟩:=SX hnr.1
  have hcm:c < m:=by omega
  have hng:ns.getD k 0=(c:Int):=by simp[List.getD,hkn,hcx]
  have hgk:x.patch.changes.getD k Chg.zero=x.patch.changes[k]:=by simp[List.getD,hlt]
  have hf1:=EU x.patch.changes (show k≤x.patch.changes.length by omega)
  have hf2:=EU x.patch.changes (show k+1≤x.patch.changes.length by omega)
  have hfs:=HS hlt
  have hck:=dw x.patch.changes ns k c hk
  have hfl:(Nj x.patch.changes k).length=k:=by simp[Nj]
  have hsl:(H6 x.patch.changes ns k).length=k:=by simp[H6]
  refine wf ?_
  refine Ca (σ:=Unit) (fun _=>True) (fun _=> [(1,.slice (ns.map eI) .ro),(3,.pt (Ba x.patch) 0),(7,.raw (.pointer (some ⟨b7,0,none⟩))),(8,.raw (.slice (some ⟨b8,0,none⟩) m m)),(19,.slice (x.patch.changes.map eChg) .ro),(20,.raw (.int .i64 x.patch.changes.length)),(21,.raw (.int .i64 k)),(9,.raw (.int .i64 k)),(10,.raw (.int .i64 (Cg x.patch.changes k:Int))),(11,.raw (.int .i64 (Cg x.patch.changes (k+1):Int)))]) (fun _=> .tok tf (Nj x.patch.changes k).length 1:: .tok ts (H6 x.patch.changes ns k).length 1:: .box b8 3 (Xj x.patch.changes ns m k):: .box b7 104 (FJ x.patch ns (Nj x.patch.changes k) tf (H6 x.patch.changes ns k) ts [] .nil)::LF) ?_ ?_
  ·refine A6 (fun h=>?_) (fun h=>?_)
   ·have cf2:C9 Tryz.prog 31 [.agg (Ba x.patch),.raw (.int .i64 ((k:Int)+1))] (.raw (.int .i64 (Cg x.patch.changes (k+1):Int))):=Vw v hx (n:=k+1) (by omega)
    refine wf ?_
    exact⟨(),trivial,⟨rfl,rfl,rfl,rfl,rfl,rfl,rfl,rfl,rfl,rfl⟩,.refl _⟩
   ·have e:(cntS s x.id:Int)=(Cg x.patch.changes (k+1):Int):=by rw[hcn,show k+1=x.patch.changes.length by omega]
    rw[←e]
    refine wf ?_
    exact⟨(),trivial,⟨rfl,rfl,rfl,rfl,rfl,rfl,rfl,rfl,rfl,rfl⟩,.refl _⟩
  rintro - -
  refine wf ?_
  have iat:At (Xj x.patch.changes ns m k) (0+c*1) (.raw (.int .i64 (Kz x.patch.changes ns k c:Int))):=UY (f:=fun j=>PV.raw (.int .i64 (Kz x.patch.changes ns k j:Int))) hcm
  have iput:Eg (Xj x.patch.changes ns m k) (0+c*1) [.raw (.int .i64 (Kz x.patch.changes ns (k+1) c:Int))] (Xj x.patch.changes ns m (k+1)):=Oq (f:=fun j=>PV.raw (.int .i64 (Kz x.patch.changes ns k j:Int))) (g:=fun j=>PV.raw (.int .i64 (Kz x.patch.changes ns (k+1) j:Int))) hcm fun d hd=>by
   by_cases e:d=c
   ·rw[if_pos e,e]
   ·rw[if_neg e,Ru,hng,if_neg (by omega),Du]
  refine Gb (f:=eI) (l:=Nj x.patch.changes k) (m:= [(Cg x.patch.changes k:Int)]) (by rfl) (by rfl) (by simp only[Ax];omega) (by simp only[Ax];omega) (fun t=> .here) fun t1=>?_
  rw[←gD]
  refine wf ?_
  refine Fp (ay:= .slice ((Nj x.patch.changes (k+1)).map eI) t1) (FJ x.patch ns (Nj x.patch.changes (k+1)) t1 (H6 x.patch.changes ns k) ts [] .nil) rfl rfl Di.out rfl (by simp) ?_
  have hss:H6 x.patch.changes ns k++ [(Kz x.patch.changes ns k c:Int)]=H6 x.patch.changes ns (k+1):=by rw[eU,hng];rfl
  refine AE ?_
  refine DT ?_
  refine Ca (σ:=CD) (fun _=>True) (fun _=> [(1,.slice (ns.map eI) .ro),(3,.pt (Ba x.patch) 0),(7,.raw (.pointer (some ⟨b7,0,none⟩))),(8,.raw (.slice (some ⟨b8,0,none⟩) m m)),(19,.slice (x.patch.changes.map eChg) .ro),(20,.raw (.int .i64 x.patch.changes.length)),(21,.raw (.int .i64 k)),(9,.raw (.int .i64 k)),(10,.raw (.int .i64 (Cg x.patch.changes k:Int))),(11,.raw (.int .i64 (Cg x.patch.changes (k+1):Int)))]) (fun t2=> .tok t1 (Nj x.patch.changes (k+1)).length 1:: .tok t2 (H6 x.patch.changes ns (k+1)).length 1:: .box b8 3 (Xj x.patch.changes ns m k):: .box b7 104 (FJ x.patch ns (Nj x.patch.changes (k+1)) t1 (H6 x.patch.changes ns (k+1)) t2 [] .nil)::LF) ?_ ?_
  ·refine wn ?_
   refine FM [4,11,13,16] (by decide+kernel) ?_
   refine Ar 0 ?_
   refine Ar 1 ?_
   refine Ar 2 ?_
   refine Ar 3 ?_
   refine Ar 5 ?_
   refine Ar 6 ?_
   refine Ar 7 ?_
   refine Ar 8 ?_
   refine Ar 9 ?_
   rw[hcx]
   refine Ar 10 (hq:=fun _=>by refine DI (k:=c) rfl rfl hcm ?_;refine AE ?_;exact⟨Ch _ _ _,rfl⟩) ?_
   refine C3 (fuel:=6) [4,11] (by decide+kernel) (by simp) fun i hi=>?_
   simp only[AG,Aa,or_false]at hi
   rcases hi with rfl|rfl
   ·refine⟨_,rfl,?_⟩
    refine wo ?_
    refine AE ?_
    refine Ad 5 11 ?_
    refine wo ?_
    refine AE ?_
    refine Ar 12 ?_
    refine Ad 3 13 ?_
    refine Gb (f:=eI) (l:=H6 x.patch.changes ns k) (m:= [(Kz x.patch.changes ns k c:Int)]) (by rfl) (by rfl) (by simp only[Ax];omega) (by simp only[Ax];omega) (fun t=> .there .here) fun t2=>?_
    rw[hss]
    refine AE ?_
    refine Ar 14 ?_
    refine Ar 15 ?_
    refine Ad 0 16 ?_
    refine Fp (ay:= .slice ((H6 x.patch.changes ns (k+1)).map eI) t2) (FJ x.patch ns (Nj x.patch.changes (k+1)) t1 (H6 x.patch.changes ns (k+1)) t2 [] .nil) rfl rfl Di.out rfl (by simp) ?_
    refine AE ?_
    refine CN (by decide+kernel) ?_
    exact⟨t2,trivial,⟨rfl,rfl,rfl,rfl,rfl,rfl,rfl,rfl,rfl,rfl⟩,.refl _⟩
   ·refine⟨_,rfl,?_⟩
    refine wo ?_
    refine AE ?_
    refine Ar 12 ?_
    refine Ad 4 4 ?_
    refine wo ?_
    refine AE ?_
    refine Ad 3 13 ?_
    refine Gb (f:=eI) (l:=H6 x.patch.changes ns k) (m:= [(Kz x.patch.changes ns k c:Int)]) (by rfl) (by rfl) (by simp only[Ax];omega) (by simp only[Ax];omega) (fun t=> .there .here) fun t2=>?_
    rw[hss]
    refine AE ?_
    refine Ar 14 ?_
    refine Ar 15 ?_
    refine Ad 0 16 ?_
    refine Fp (ay:= .slice ((H6 x.patch.changes ns (k+1)).map eI) t2) (FJ x.patch ns (Nj x.patch.changes (k+1)) t1 (H6 x.patch.changes ns (k+1)) t2 [] .nil) rfl rfl Di.out rfl (by simp) ?_
    refine AE ?_
    refine CN (by decide+kernel) ?_
    exact⟨t2,trivial,⟨rfl,rfl,rfl,rfl,rfl,rfl,rfl,rfl,rfl,rfl⟩,.refl _⟩
  rintro t2 -
  have ev:((Kz x.patch.changes ns (k+1) c:Nat):Int)=(Kz x.patch.changes ns k c:Int)+((Cg x.patch.changes (k+1):Int) - (Cg x.patch.changes k:Int)):=by rw[Ru,hng,if_pos rfl,hgk,hfs];omega
  rw[ev]at iput
  refine wf ?_
  rw[hcx]
  refine DI (k:=c) rfl rfl hcm ?_
  refine wf ?_
  refine DI (k:=c) rfl rfl hcm ?_
  refine wf ?_
  exact⟨(k+1,t1,t2),by dsimp only;omega,by dsimp only;omega,⟨rfl,rfl,rfl,rfl,rfl,rfl,rfl⟩,.refl _⟩
 ·obtain rfl:k=x.patch.changes.length:=by omega
  refine wf ?_
  exact⟨trivial,_,[_],.cons (.tmp 6) .nil,.cons _ (.cons _ (.cons _ (.refl _))),_,_,_,rfl,rfl⟩
end Go.Proofs
