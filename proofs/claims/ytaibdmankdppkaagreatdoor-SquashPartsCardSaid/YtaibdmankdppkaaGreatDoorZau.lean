/- Contracts: which atoms are superseded. -/
import Derived.Test.YtaibdmankdppkaaGreatDoorZag
import Derived.Test.YtaibdmankdppkaaGreatDoorZat
import Derived.Test.YtaibdmankdppkaaGreatDoorZam
import Derived.Test.YtaibdmankdppkaaGreatDoorZas
import Derived.Test.YtaibdmankdppkaaGreatDoorZao
import Derived.Test.YtaibdmankdppkaaGreatDoorZal
set_option linter.unusedSimpArgs false
set_option linter.unusedVariables false
set_option maxHeartbeats 8000000
namespace Go.Proofs
open Go Go.Q
attribute [local irreducible] ER AU H8 BA Fk Km
instance zh:NP Tryz.prog 229 65 4:=⟨by kernel_rfl⟩
instance zg:NP Tryz.prog 179 65 71:=⟨by kernel_rfl⟩
instance zZ:ZV Tryz.prog 71 (Sk eIdent) ([],.nil):=YC (v:= .slice none 0 0) (by kernel_rfl) fun _=> .nilN none (by simp)
instance :Ck Tryz.prog 229 [.raw (.map none)]:=Lh (v:= .map none) (by kernel_rfl) rfl fun _=> .raw _
instance :Ck Tryz.prog 179 [.raw (.map none)]:=Lh (v:= .map none) (by kernel_rfl) rfl fun _=> .raw _
def So (z:Ident) (m:List (Ident × List Ident)) (w:Ident):List (Ident × List Ident):=DD w ((CB w m).getD []++ [z]) m
def pb (q:(List Ident × List Ident) × List (Ident × List Ident)) (a:Atm):(List Ident × List Ident) × List (Ident × List Ident):=(PH q.1 a,if a.id∈q.1.1 then q.2 else a.over.foldl (So a.id) q.2)
def Nl (l:List Atm):List (Ident × List Ident):=(l.foldl pb (([],[]),[])).2
theorem Za: ∀ (l:List Atm) (q:(List Ident × List Ident) × List (Ident × List Ident)),(l.foldl pb q).1=l.foldl PH q.1
 | [],_=>rfl
 |a::l,q=>by rw[Bp,Bp,Za l];rfl
theorem S5 (l:List Atm) (a:Atm):Nl (l++ [a])=if a.id∈(GY l).1 then Nl l else a.over.foldl (So a.id) (Nl l):=by
 unfold Nl
 rw[BX,Bp,La]
 unfold pb
 dsimp only
 have:=Za l (([],[]),[])
 rw[show GY l=(l.foldl pb (([],[]),[])).1 from this.symm]
 rfl
theorem lH (z y w:Ident) (m:List (Ident × List Ident)):((CB y (So z m w)).getD []= [])↔((CB y m).getD []= []∧y≠w):=by
 unfold So
 rw[GA]
 by_cases e:y=w
 ·rw[if_pos e];simp[e]
 ·rw[if_neg e];simp[e]
theorem Zb (z y:Ident): ∀ (l:List Ident) (m:List (Ident × List Ident)),((CB y (l.foldl (So z) m)).getD []= [])↔((CB y m).getD []= []∧y∉l)
 | [],m=>by simp
 |w::l,m=>by
  rw[Bp,Zb z y l,lH]
  simp[and_assoc]
theorem gU (y:Ident) (l:List Atm):((CB y (Nl l)).getD []= [])↔y∉(GY l).2:=by
 have key: ∀ k,k≤l.length→(((CB y (Nl (l.take k))).getD []= [])↔y∉(GY (l.take k)).2):=by
  intro k
  induction k with
  |zero=>intro _;simp[Nl,GY,CB]
  |succ k ih=>
   intro hk
   have hs:GY (l.take (k+1))=PH (GY (l.take k)) l[k]:=by
    rw[A7 (by omega)]
    unfold GY;rw[BX];rfl
   rw[hs,A7 (show k < l.length by omega),S5]
   unfold PH
   by_cases h:l[k].id∈(GY (l.take k)).1
   ·rw[if_pos h,if_pos h];exact ih (by omega)
   ·rw[if_neg h,if_neg h,Zb,ih (by omega)]
    simp
 have:=key l.length (Ak _)
 rwa [EA]at this
def NW (om:List (Ident × (List Ident × CC))):List (Ident × List Ident):=om.map fun e=>(e.1,e.2.1)
theorem VT (y:Ident): ∀ om:List (Ident × (List Ident × CC)),(CB y (NW om)).getD []=((CB y om).getD ([],CC.nil)).1
 | []=>rfl
 |(a,v)::om=>by
  unfold NW
  simp only[Ar,CB]
  split
  ·rfl
  ·exact VT y om
theorem VS (w:Ident) (v:List Ident × CC): ∀ om:List (Ident × (List Ident × CC)),NW (DD w v om)=DD w v.1 (NW om)
 | []=>rfl
 |(a,u)::om=>by
  unfold NW
  simp only[Ar,DD]
  split
  ·rfl
  ·rw[Ar]
   congr 1
   exact VS w v om
theorem lF (m:List (Ident × (List Ident × CC))):Le (.fmap (BO kIdent (Sk eIdent) m)) (.fmap (BO kIdent (JJ eIdent) (NW m))):=fun g v h=>by
 generalize hk:BO kIdent (Sk eIdent) m=kvs at h
 cases h with
 |fmap hM hl hk2 hv=>
  subst hk
  refine .fmap hM (by simpa [BO,NW]using hl) (fun i h1 h2=>?_) (fun i h1 h2=>?_)
  ·have:=hk2 i h1 (by simpa [BO,NW]using h2)
   simpa [BO,NW]using this
  ·have:=hv i h1 (by simpa [BO,NW]using h2)
   simp only[BO,NW,BK]at this ⊢
   exact this.ro
 |nilM=>
  have:m= []:=by simpa [BO]using hk
  subst this
  exact .nilM
structure Ob (r:List Ident) (M:List (Ident × List Ident)) (rm:List (Ident × Bool)) (om:List (Ident × (List Ident × CC))) (K:Nat):Prop where
 ret: ∀ y,(CB y rm).getD false=decide (y∈r)
 map:NW om=M
 len: ∀ y,((CB y om).getD ([],CC.nil)).1.length≤K
theorem Ob.edge {r:List Ident} {M:List (Ident × List Ident)} {rm:List (Ident × Bool)} {om:List (Ident × (List Ident × CC))} {K:Nat} (h:Ob r M rm om K) (w z:Ident) (t:CC):Ob r (So z M w) rm (DD w (((CB w om).getD ([],CC.nil)).1++ [z],t) om) (K+1):=by
 refine⟨h.ret,?_,fun y=>?_⟩
 ·rw[VS,←h.map]
  unfold So
  rw[VT]
 ·rw[GA]
  by_cases e:y=w
  ·rw[if_pos e]
   have:=h.len w
   simp;omega
  ·rw[if_neg e]
   have:=h.len y
   omega
theorem Ob.mark {r:List Ident} {M:List (Ident × List Ident)} {rm:List (Ident × Bool)} {om:List (Ident × (List Ident × CC))} {K:Nat} (h:Ob r M rm om K) (w:Ident):Ob (r++ [w]) M (DD w true rm) om K:=by
 refine⟨fun y=>?_,h.map,h.len⟩
 rw[GA]
 by_cases e:y=w
 ·rw[if_pos e];simp[e]
 ·rw[if_neg e,h.ret y];simp[e]
theorem Ob.le {r:List Ident} {M:List (Ident × List Ident)} {rm:List (Ident × Bool)} {om:List (Ident × (List Ident × CC))} {K K':Nat} (h:Ob r M rm om K) (hk:K≤K'):Ob r M rm om K':=⟨h.ret,h.map,fun y=>by have:=h.len y;omega⟩
theorem Wx (l:List Ident):(sortI l).length=l.length:=by unfold sortI;rw[DA]
theorem BP.seq_over {s:List Sto} (v:BP s) {a:Atm} (ha:a∈Lp s):a.over.length≤2000:=by
 obtain⟨x,hx,i,hi,k,hk,rfl⟩:=v.mem_seq.1 ha
 obtain⟨b,hb,e,_⟩:=SI hi hk
 obtain⟨_,_,_,_,gch⟩:=EW (v.close.1.2 x hx)
 have h8:=(R8 x.id b).2.2.2.2.2.2.2
 rw[e,h8,Wx,AR,P2 hb]
 have:=(gch _ (AB hi)).over
 unfold fv
 split
 ·omega
 ·simp
theorem BP.seq_len {s:List Sto} (v:BP s):(Lp s).length≤4000000:=by
 have ho:=Da s
 have hol:(CT s).length≤200:=by
  have:=El ho.nodup (u:=ids s) ho.sub
  have:=v.close.1.1
  unfold ids at*
  simp only[AR]at*
  omega
 unfold Lp
 rw[List.length_reverse,List.length_flatMap]
 have: ∀ d∈CT s,(Go.Proofs.atmS s d).length≤16200:=fun d hd=>by
  obtain⟨y,hys,hyd⟩:=AQ.1 (ho.sub _ hd)
  rw[←hyd,v.at_len hys]
  have:=(Dc (v.close.1.2 y hys)).1
  unfold Hl
  omega
 have:=FF this
 omega
theorem cC {s:List Sto} (v:BP s) (t:CC):C8 Tryz.prog 148 [.slice (s.map eSto) t] (.fmap (BO kIdent (JJ eIdent) (Nl (Lp s)))):=⟨by
 have hsl:=v.seq_len
 refine Av Tryz.func148 Tryz.ntmps148 rfl (rs:= [.tmp 2]) rfl rfl fun hb LF=>?_
 refine wf ?_
 refine KN fun m1=>?_
 refine Bx fun b3=>?_
 refine wo ?_
 refine AE ?_
 refine Al 3 ?_
 refine wf ?_
 refine KN fun m2=>?_
 refine Bx fun b4=>?_
 refine wo ?_
 refine AE ?_
 refine Al 4 ?_
 refine wf ?_
 refine GK (ZU v) [12] (σ:=List (Ident × Bool) × List (Ident × (List Ident × CC))) (fun pre q=>Ob (GY pre).1 (Nl pre) q.1 q.2 (pre.length*2000)) (fun _ _=>False) (fun q LF'=> .map m2 (BO kIdent (Sk eIdent) q.2):: .map m1 (BO kIdent vBool q.1)::(PX 33 q.2++LF')) ([],[]) LF ?_ rfl (fun _=>rfl) (by simp) (fun q LF'=>by simp) (.refl _) ⟨fun y=>by simp[GY,CB],rfl,fun y=>by simp[CB]⟩ ?_ ?_ (fun _ _ h=>h.elim)
 ·exact .refl _
 ·rintro pre x ⟨rm,om⟩ LF' hpx hI
  dsimp only at hI ⊢
  have hxm:x∈Lp s:=hpx.subset (by simp)
  have hov:=v.seq_over hxm
  have hpl:pre.length+1≤4000000:=by
   have:=hpx.length_le
   rw[AA,Au]at this
   omega
  have hret:=hI.ret x.id
  unfold lq
  refine wz fun b5=>?_
  refine Al 5 ?_
  refine wf ?_
  refine X3 (ek:=kIdent) (ev:=vBool) (k0:=x.id) (l:=rm) (ay:= .agg (eIdent x.id)) rfl (AJ _ AG) rfl ?_
  rw[hret]
  refine wf ?_
  have hkl:GY (pre++ [x])=PH (GY pre) x:=by unfold GY;rw[BX];rfl
  refine A6 (fun hc=>?_) (fun hc=>?_)
  ·have e:GY (pre++ [x])=GY pre:=by rw[hkl,PH,if_pos hc]
   have e2:Nl (pre++ [x])=Nl pre:=by rw[S5,if_pos hc]
   refine wf ?_
   refine⟨(rm,om),?_,.refl _⟩
   dsimp only
   rw[e,e2]
   exact hI.le (by simp;omega)
  have e:(GY (pre++ [x])).1=if x.kind=7 then(GY pre).1++x.over else(GY pre).1:=by rw[hkl,PH,if_neg hc]
  have e2:Nl (pre++ [x])=x.over.foldl (So x.id) (Nl pre):=by rw[S5,if_neg hc]
  refine wf ?_
  refine Ab (σ:=Nat × List (Ident × Bool) × List (Ident × (List Ident × CC))) (fun k=>k.1≤x.over.length∧Ob (if x.kind=7 then(GY pre).1++x.over.take k.1 else(GY pre).1) ((x.over.take k.1).foldl (So x.id) (Nl pre)) k.2.1 k.2.2 (pre.length*2000+k.1)) (fun k=>x.over.length - k.1) (fun k=> [(3,.pt [.raw (.map (some m1))] 0),(4,.pt [.raw (.map (some m2))] 0),(5,.pt (eAtm x) 0),(18,.slice (x.over.map eIdent) .ro),(19,.raw (.int .i64 x.over.length)),(20,.raw (.int .i64 k.1))]) (fun k=> .map m2 (BO kIdent (Sk eIdent) k.2.2):: .map m1 (BO kIdent vBool k.2.1)::(PX 33 k.2.2++LF')) (0,rm,om) ⟨by simp,by simpa using hI⟩ ⟨rfl,rfl,rfl,rfl,rfl,rfl⟩ (.refl _) ?_
  clear hI hret
  rintro⟨j,rm2,om2⟩ ⟨hj,hI⟩
  dsimp only at hj hI ⊢
  refine wf ?_
  refine A6 (fun hc2=>?_) (fun hc2=>?_)
  ·have hjl:j < x.over.length:=by omega
   have htk:x.over.take (j+1)=x.over.take j++ [x.over[j]]:=A7 hjl
   refine wz fun b7=>?_
   generalize x.over[j]=w at*
   refine Al 7 ?_
   obtain⟨S,hS1,hS2⟩:=SR 33 w om2
   have hst:=fun t=>hI.edge w x.id t
   have hl0:=hI.len w
   refine fk 33 (A:= [.map m2 (BO kIdent (Sk eIdent) om2),.map m1 (BO kIdent vBool rm2)]) hS1 ?_
   generalize hv0:(CB w om2).getD ([],CC.nil)=v0 at hst hl0 ⊢
   obtain⟨l0,t0⟩:=v0
   dsimp only at hst hl0
   refine wf ?_
   refine Pq (ek:=kIdent) (ev:=Sk eIdent) (k0:=w) (l:=om2) (L':= .map m1 (BO kIdent vBool rm2):: .tok t0 l0.length 33::(S++LF')) rfl (.refl _) (.refl _) fun es cl ix n hO=>?_
   rw[hv0]at hO ⊢
   refine wf ?_
   refine Iw (f:=eIdent) (l:=l0) (m:= [x.id]) (t:=t0) (L':=fun t'=> .raw m2 (.map es cl)::Jb es (BO kIdent (Sk eIdent) (DD w (l0,t0) om2)):: .map m1 (BO kIdent vBool rm2):: .tok t' (l0++ [x.id]).length 33::(S++LF')) rfl rfl (by simp only[AL,Af];omega) (by simp only[AL,Af];omega) (fun t'=> .there (.there (.there .here))) fun t'=>?_
   refine wf ?_
   refine Mq (ek:=kIdent) (ev:=Sk eIdent) (x0:=(l0++ [x.id],t')) (L':= .map m1 (BO kIdent vBool rm2):: .tok t' (l0++ [x.id]).length 33::(S++LF')) hO rfl rfl (.refl _) (.refl _) ?_
   rw[P3]
   refine AE ?_
   have hT1:=hst t'
   have hp1:=hS2 (l0++ [x.id],t')
   generalize DD w (l0++ [x.id],t') om2=om3 at hT1 hp1 ⊢
   refine E3 (L':= .map m2 (BO kIdent (Sk eIdent) om3):: .map m1 (BO kIdent vBool rm2)::(PX 33 om3++LF')) (.cons _ (.cons _ ((hp1.append_right LF').symm))) ?_
   have hfl:So x.id ((x.over.take j).foldl (So x.id) (Nl pre)) w=(x.over.take (j+1)).foldl (So x.id) (Nl pre):=by rw[htk,BX];rfl
   rw[hfl]at hT1
   refine wf ?_
   refine A6 (fun h7=>?_) (fun h7=>?_)
   ·rw[if_pos h7]at hT1
    have hT2:=hT1.mark w
    rw[AV,←htk]at hT2
    refine wf ?_
    refine QY (κ:=Ident) (ek:=kIdent) (ev:=vBool) (k0:=w) (x0:=true) (L':= .map m2 (BO kIdent (Sk eIdent) om3)::(PX 33 om3++LF')) rfl (.swap _ _ _) (.refl _) (.refl _) ?_
    refine AE ?_
    refine E3 (.swap _ _ _) ?_
    refine wf ?_
    refine⟨(j+1,DD w true rm2,om3),⟨by dsimp only;omega,?_⟩,by dsimp only;omega,⟨rfl,rfl,rfl,rfl,rfl,rfl⟩,.refl _⟩
    dsimp only
    rw[if_pos h7]
    exact hT2.le (by omega)
   ·rw[if_neg h7]at hT1
    refine wf ?_
    refine⟨(j+1,rm2,om3),⟨by dsimp only;omega,?_⟩,by dsimp only;omega,⟨rfl,rfl,rfl,rfl,rfl,rfl⟩,.refl _⟩
    dsimp only
    rw[if_neg h7]
    exact hT1.le (by omega)
  ·rw[AF (by omega)]at hI
   refine wf ?_
   refine⟨(rm2,om2),?_,.refl _⟩
   dsimp only
   rw[e,e2]
   exact hI.le (by simp;omega)
 ·rintro⟨rm,om⟩ hI
  dsimp only at hI ⊢
  repeat(refine DZ ?_)
  refine CK (by kernel_rfl) ?_
  refine wo ?_
  refine AE ?_
  refine L8 [(2,.fmap (BO kIdent (Sk eIdent) om))] (.inr ⟨rfl,rfl⟩) (.refl _) ?_
  refine wf ?_
  have hle:=lF om
  rw[hI.map]at hle
  exact B1 hle (hs:= .cons _ (DH _ _))⟩
end Go.Proofs
namespace Go.Proofs
open Go Go.Q
attribute [local irreducible] ER AU H8 BA Fk
theorem gb (F:Nat) (cs:List PV) (p:Atm→Bool) [hF:B2 Tryz.prog F] [hp: ∀ d,C8 Tryz.prog F (.agg (eAtm d)::cs) (.raw (.bool (p d)))] (l:List Atm) (t:CC):
  C8 Tryz.prog 146 [.slice (l.map eAtm) t,.clo F cs] (.raw (.int .i64 (FG p l))):=⟨by
 refine Av Tryz.func146 Tryz.ntmps146 rfl (rs:= [.tmp 4]) rfl rfl fun hb LF=>?_
 have hlen:l.length≤140737488355328:=(hb (.slice (l.map eAtm) t) (by simp)).slice_map
 refine wf ?_
 refine Ab (σ:=Nat) (fun k=>k≤l.length∧(l.take k).any p=false) (fun k=>l.length - k) (fun k=> [(0,.slice (l.map eAtm) t),(1,.clo F cs),(7,.raw (.int .i64 l.length)),(8,.raw (.int .i64 k))]) (fun _=>LF) 0 ⟨by simp,by simp⟩ ⟨rfl,rfl,rfl,rfl⟩ (.refl _) ?_
 rintro k ⟨hk,hn⟩
 refine wf ?_
 refine A6 (fun hc=>?_) (fun hc=>?_)
 ·have hlt:k < l.length:=by omega
  refine wf ?_
  refine AW (fun h=>?_) (fun h=>?_)
  ·refine wf ?_
   refine B1 (.of_eq ?_)
   have e:l.any p=true:=Bw.2 ⟨l[k],AB hlt,h⟩
   rw[FG,if_pos e,IM hlt hn h]
  ·refine wf ?_
   refine⟨k+1,⟨by omega,?_⟩,by dsimp only;omega,⟨rfl,rfl,rfl,rfl⟩,.refl _⟩
   rw[A7 hlt,Ei,hn]
   simp[h]
 ·refine wf ?_
  refine B1 (.of_eq ?_)
  rw[AF (by omega)]at hn
  rw[FG,if_neg (by simp[hn])]⟩
instance y8 (a:Atm) (y:Ident):C8 Tryz.prog 147 [.agg (eAtm a),.pt (eIdent y) 0] (.raw (.bool (decide (a.id=y)))):=⟨by
 refine Av Tryz.func147 Tryz.ntmps147 rfl (rs:= [.tmp 3]) rfl rfl fun hb LF=>?_
 refine wf ?_
 exact B1 (.refl _)⟩
theorem iB {l:List Atm} {y:Ident} (h:(l.any fun a=>decide (a.id=y))=false):l.find? (fun a=>decide (a.id=y))=none:=by
 rw[List.find?_eq_none]
 intro a ha
 have:=Br.1 h a ha
 simpa using this
theorem iA {l:List Atm} {y:Ident} (h:(l.any fun a=>decide (a.id=y))=true): ∃ (k:Nat) (hk:k < l.length),FG (fun a=>decide (a.id=y)) l=(k:Int)∧l.find? (fun a=>decide (a.id=y))=some l[k]:=by
 have hk:l.findIdx (fun a=>decide (a.id=y)) < l.length:=by
  rw[Ic]
  exact Bw.1 h
 refine⟨_,hk,by rw[FG,if_pos h],?_⟩
 rw[mr]
 refine⟨Y7 (w:=hk),_,hk,rfl,fun j hj=>?_⟩
 have:=Uw hj
 simpa using this
theorem Ub (s:List Sto) (t:CC) (y:Ident) (hg:Gw s):C8 Tryz.prog 82 [.slice (s.map eSto) t,.agg (eIdent y)] (.tuple [.agg (eAtm ((LB s y).getD Atm.zero)),.raw (.bool (LB s y).isSome)]):=⟨by
 cases hp:getS s y.patch with
 |none=>
  have cg: ∀ t,C8 Tryz.prog 17 [.slice (s.map eSto) t,.agg (eDig y.patch)] (.tuple [.agg (Bn Pat.zero),.raw (.bool false)]):=fun t=>by
   have:=KM s t y.patch
   rw[hp]at this
   exact this
  have e:LB s y=none:=by unfold LB;rw[hp]
  rw[e]
  refine Av Tryz.func82 Tryz.ntmps82 rfl (rs:= [.cell 4 125,.tmp 5]) rfl rfl fun hb LF=>?_
  refine wf ?_
  refine Bx fun b4=>?_
  refine wz fun b6=>?_
  refine Al 6 ?_
  refine wf ?_
  exact Jq (y:= .raw (.bool false)) rfl (.refl _)
 |some p=>
  have hb0:E7 p=false:=hg.2 _ (MQ hp)
  have i1:B0 (E7 p=false):=⟨hb0⟩
  have cg: ∀ t,C8 Tryz.prog 17 [.slice (s.map eSto) t,.agg (eDig y.patch)] (.tuple [.agg (Bn p),.raw (.bool true)]):=fun t=>by
   have:=KM s t y.patch
   rw[hp]at this
   exact this
  have ci:=fun t=>gb 147 [.pt (eIdent y) 0] (fun a=>decide (a.id=y)) (En p).1 t
  have e:LB s y=(En p).1.find? fun a=>decide (a.id=y):=by unfold LB;rw[hp]
  rw[e]
  cases hany:(En p).1.any fun a=>decide (a.id=y)with
  |false=>
   have ci2: ∀ t,C8 Tryz.prog 146 [.slice ((En p).1.map eAtm) t,.clo 147 [.pt (eIdent y) 0]] (.raw (.int .i64 (-1))):=fun t=>by
    have:=ci t
    rw[FG,if_neg (by rw[hany];decide)]at this
    exact this
   rw[iB hany]
   refine Av Tryz.func82 Tryz.ntmps82 rfl (rs:= [.cell 4 125,.tmp 5]) rfl rfl fun hb LF=>?_
   refine wf ?_
   refine Bx fun b4=>?_
   refine wz fun b6=>?_
   refine Al 6 ?_
   refine wf ?_
   exact Jq (y:= .raw (.bool false)) rfl (.refl _)
  |true=>
   obtain⟨k,hk,e1,e2⟩:=iA hany
   have ci2: ∀ t,C8 Tryz.prog 146 [.slice ((En p).1.map eAtm) t,.clo 147 [.pt (eIdent y) 0]] (.raw (.int .i64 (k:Int))):=fun t=>by
    have:=ci t
    rw[e1]at this
    exact this
   rw[e2]
   refine Av Tryz.func82 Tryz.ntmps82 rfl (rs:= [.cell 4 125,.tmp 5]) rfl rfl fun hb LF=>?_
   refine wf ?_
   refine Bx fun b4=>?_
   refine wz fun b6=>?_
   refine Al 6 ?_
   refine wf ?_
   exact Jq (y:= .raw (.bool true)) rfl (.refl _)⟩
instance yc:ZV Tryz.prog 71 (JJ eIdent) []:=YC (v:= .slice none 0 0) (by kernel_rfl) fun _=> .nilR
theorem aZ {s:List Sto} (v:BP s) (t:CC) (y:Ident):C8 Tryz.prog 83 [.slice (s.map eSto) t,.agg (eIdent y)] (.raw (.bool (OW s y))):=⟨by
 have cf:=fun t=>Ub s t y v.close.1
 cases hs:(LB s y).isSome with
 |false=>
  rw[hs]at cf
  have e:OW s y=false:=by unfold OW;rw[hs];rfl
  rw[e]
  refine Av Tryz.func83 Tryz.ntmps83 rfl (rs:= [.tmp 4]) rfl rfl fun hb LF=>?_
  refine wz fun b5=>?_
  refine Al 5 ?_
  refine wn ?_
  refine BZ 9 ?_ ?_
  ·decide+kernel
  refine wf ?_
  exact B1 (.refl _)
 |true=>
  rw[hs]at cf
  have ck:=fun t=>cC v t
  have e:OW s y=decide (y∉(GY (Lp s)).2):=by unfold OW;rw[hs];rfl
  rw[e]
  refine Av Tryz.func83 Tryz.ntmps83 rfl (rs:= [.tmp 4]) rfl rfl fun hb LF=>?_
  refine wz fun b5=>?_
  refine Al 5 ?_
  refine wn ?_
  refine BZ 9 ?_ ?_
  ·decide+kernel
  refine wf ?_
  refine X4 (ek:=kIdent) (ev:=JJ eIdent) (l:=Nl (Lp s)) (k0:=y) (ay:= .agg (eIdent y)) rfl rfl ?_
  unfold JJ
  refine wf ?_
  refine B1 (.of_eq ?_)
  have hd:=gU y (Lp s)
  generalize (CB y (Nl (Lp s))).getD []=q at hd ⊢
  congr 2
  rw[decide_eq_decide,←hd,List.eq_nil_iff_length_eq_zero]
  omega⟩
theorem bH (s:List Sto) (t:CC) (l:List Dig) (u:CC) (m:Mta) (hv:BP s) (hl:l.length≤400) (hs:s.length≤190) (hg:E7 (Qv s l m)=false):
  C8 Tryz.prog 12 [.slice (s.map eSto) t,.slice (l.map eDig) u,.agg (GF m)] (.tuple [.slice ((fO s l m).1.map eSto) .ro,.agg (eDig (fO s l m).2.1),.raw (.int .i64 (fO s l m).2.2)]):=⟨by
 have i1:B0 (BP s):=⟨hv⟩
 have i2:B0 (l.length≤400):=⟨hl⟩
 have i3:B0 (Gw s):=⟨hv.close.1⟩
 have i4:B0 (s.length≤1000):=⟨by omega⟩
 have i5:B0 (E7 (Qv s l m)=false):=⟨hg⟩
 have cj:=fun t u=>gY s t l u m hv
 refine Av Tryz.func12 Tryz.ntmps12 rfl (rs:= [.tmp 6,.cell 7 31,.tmp 8]) rfl rfl fun hb LF=>?_
 refine wf ?_
 refine Bx fun b7=>?_
 refine wf ?_
 refine AW (fun h1=>?_) (fun h1=>?_)
 ·have e:fO s l m=([],Dig.zero,7):=by unfold fO;rw[if_pos (by simpa using h1)]
  rw[e]
  refine wf ?_
  refine OI rfl ?_
  exact .tuple3 (.ro _ _) (.refl _) (.refl _)
 have h1:DI (ids s) l=true:=by simpa using h1
 refine wf ?_
 refine BT [(15,.raw (.bool (decide (l.length=0∨vz s l=false)))),(0,.slice (s.map eSto) t),(1,.slice (l.map eDig) u),(5,.pt (GF m) 0),(7,.raw (.pointer (some ⟨b7,0,none⟩)))] (.box b7 31 (eDig Dig.zero)::LF) ?_ ?_
 ·repeat' (first|(refine A6 (fun h=>?_) (fun h=>?_)<;>refine wf ?_)|(refine AX (fun h=>?_) (fun h=>?_)<;>refine wf ?_)|(refine AW (fun h=>?_) (fun h=>?_)<;>refine wf ?_)|(refine Ay (fun h=>?_) (fun h=>?_)<;>(have h2:=h;(try simp only[AD,A8,AI,AN]at h2);refine wf ?_)))
  all_goals (refine⟨⟨C9 (by rfl) ?_,rfl,rfl,rfl,rfl⟩,.refl _⟩;first|(simp_all;done)|(simp_all;omega)|grind)
 refine wf ?_
 refine A6 (fun h2=>?_) (fun h2=>?_)
 ·have e:fO s l m=([],Dig.zero,1):=by unfold fO;rw[if_neg (by simp[h1]),if_pos h2]
  rw[e]
  refine wf ?_
  refine OI rfl ?_
  exact .tuple3 (.ro _ _) (.refl _) (.refl _)
 refine wf ?_
 refine AW (fun h3=>?_) (fun h3=>?_)
 ·have e:fO s l m=([],Dig.zero,19):=by unfold fO;rw[if_neg (by simp[h1]),if_neg h2,if_pos h3]
  rw[e]
  refine wf ?_
  refine OI rfl ?_
  exact .tuple3 (.ro _ _) (.refl _) (.refl _)
 have e:fO s l m=FB (Ir s l) (Qv s l m):=by unfold fO;rw[if_neg (by simp[h1]),if_neg h2,if_neg (by simp[h3])]
 rw[e]
 have i6:B0 (BP (Ir s l)):=⟨hv.out h3⟩
 refine wn ?_
 refine Qk [false,false,false,false,false,false,false,false,false,false,false,false,true,false] ?_ ?_
 ·decide+kernel
 refine wf ?_
 refine OI rfl ?_
 exact .refl _⟩
end Go.Proofs
namespace Go.Proofs
open Go Go.Q Go.Sort
theorem gN {s:List Sto} (v:BP s) {x:Sto} (hx:x∈s) {i:Nat} (hi:i < x.patch.changes.length):x.patch.changes[i]=FU (fun y=>y) x.patch.changes[i]:=by
 have hp:=EH (Fc (v.id x hx).1).1
 exact(gL ⟨fun _ _=>rfl,fun _ _=>rfl,fun _=>rfl,fun _=>rfl,fun _ _=>rfl⟩ rfl (Tx (hp.fields i hi))).symm
def MG (x:Sto) (P:List (List Nat)) (ms:List Mta) (is:List Dig) (k:Nat):Sto:=⟨is.getD k Dig.zero,Ez x P (is.take k) (P.getD k []) (ms.getD k Mta.zero)⟩
structure Eg (s:List Sto) (x:Sto) (P:List (List Nat)) (ms:List Mta) (t:List Sto) (is:List Dig):Prop where
 st:Je s x t is
 len:is.length≤P.length
 parts: ∀ k,k < is.length→MG x P ms is k∈t
 only: ∀ z∈t,z∈Ir s [x.id]∨ ∃ k,k < is.length∧z=MG x P ms is k
 keep: ∀ z∈Ir s [x.id],z∈t
 nodup:is.Nodup
 fresh: ∀ d∈is,d∉ids (Ir s [x.id])
 nz: ∀ j,j+1 < is.length→is.getD j Dig.zero≠Dig.zero
 cnt:t.length=(Ir s [x.id]).length+is.length
theorem Z7 {x:Sto} {P:List (List Nat)} {ms:List Mta} {is:List Dig} {d:Dig} {k:Nat} (h:k < is.length):MG x P ms (is++ [d]) k=MG x P ms is k:=by
 unfold MG
 rw[Fx (by omega)]
 congr 1
 rw[BG,CF h,←BG]
theorem gl (is:List Dig) (d:Dig):(is++ [d]).getD is.length Dig.zero=d:=by simp[List.getD]
theorem Z6 {x:Sto} {P:List (List Nat)} {ms:List Mta} {is:List Dig} {d:Dig}:MG x P ms (is++ [d]) is.length=⟨d,Ez x P is (P.getD is.length []) (ms.getD is.length Mta.zero)⟩:=by
 unfold MG
 rw[gl,vQ]
theorem Eg.step {s:List Sto} {x:Sto} {P:List (List Nat)} {ms:List Mta} {t:List Sto} {is:List Dig} (r:Eg s x P ms t is) (hk:is.length < P.length) (hb:E7 (Ez x P is (P.getD is.length []) (ms.getD is.length Mta.zero))=false) (hl:t.length < 200)
  (h:(FB t (Ez x P is (P.getD is.length []) (ms.getD is.length Mta.zero))).2.2=0):Eg s x P ms (FB t (Ez x P is (P.getD is.length []) (ms.getD is.length Mta.zero))).1 (is++ [(FB t (Ez x P is (P.getD is.length []) (ms.getD is.length Mta.zero))).2.1]):=by
 have hz:Dig.zero∉is:=fun hz=>by
  have:Dig.zero∈KX (sortD (B7 x.patch++is)):=(H4 _).2 _ |>.2 (DW _ hz)
  exact(Vu (t:=t) (cs':= []) this).2 h
 obtain⟨s1,s2,s3⟩:=r.st.step hb hl h
 generalize (FB t (Ez x P is (P.getD is.length []) (ms.getD is.length Mta.zero))).2.1=d at s1 s2 s3 ⊢
 have hn:d∉ids t:=s2.new
 rw[s3]at s1 ⊢
 refine⟨s1,by rw[AA,Au];omega,fun k hk=>?_,fun z hz=>?_,fun z hz=>IK.2 (.inr (r.keep z hz)),?_,fun e he hm=>?_,fun j hj=>?_,?_⟩
 ·rw[AA,Au]at hk
  by_cases hk':k < is.length
  ·rw[Z7 hk']
   exact IK.2 (.inr (r.parts k hk'))
  ·have:k=is.length:=by omega
   subst this
   rw[Z6]
   exact IK.2 (.inl rfl)
 ·rcases IK.1 hz with rfl|hz
  ·exact .inr ⟨is.length,by simp,Z6.symm⟩
  ·rcases r.only z hz with h|⟨k,hk,e⟩
   ·exact .inl h
   ·exact .inr ⟨k,by rw[AA,Au];omega,by rw[Z7 hk];exact e⟩
 ·refine EG.2 ⟨r.nodup,by simp,fun e he e' he' k=>?_⟩
  rw[Ah.1 he']at k
  exact hn (k ▸ r.st.new e he)
 ·rcases Aj.1 he with he|he
  ·exact r.fresh e he hm
  ·rw[Ah.1 he]at hm
   obtain⟨z,hz,e2⟩:=AQ.1 hm
   exact hn (e2 ▸ AQ.2 ⟨z,r.keep z hz,rfl⟩)
 ·rw[AA,Au]at hj
  have hj:j < is.length:=by omega
  rw[BG,CF hj,←BG,Ff hj]
  exact fun e=>hz (e ▸ AB hj)
 ·rw[Tt,r.cnt,AA,Au];omega
theorem Eg.loop {s:List Sto} {x:Sto} {P:List (List Nat)} {ms:List Mta} (ok:Fj s x P) (z:MX s x P (P.zip ms)) (hms:ms.length=P.length): ∀ (o:List (List Nat × Mta)) (is:List Dig) (t:List Sto),Eg s x P ms t is→(P.zip ms).drop is.length=o→(PF x P o t is).2.2=0→ ∃ t' is',PF x P o t is=(t',is',0)∧Eg s x P ms t' is'∧is'.length=P.length
 | [],is,t,r,ho,_=>by
   refine⟨t,is,rfl,r,?_⟩
   have:=congrArg List.length ho
   rw[B4,Uy,Af]at this
   have:=r.len
   omega
 |e::o,is,t,r,ho,h=>by
  have hlen:=congrArg List.length ho
  rw[B4,Uy,AL]at hlen
  have hk:is.length < P.length:=by omega
  have hk2:is.length < ms.length:=by omega
  have hkz:is.length < (P.zip ms).length:=by rw[Uy];omega
  rw[C6 hkz]at ho
  obtain⟨he,hrest⟩:=yY ho
  rw[mn]at he
  have e1:P.getD is.length []=e.1:=by rw[←he];simp[List.getD,hk]
  have e2:ms.getD is.length Mta.zero=e.2:=by rw[←he];simp[List.getD,hk2]
  have hmem:e∈P.zip ms:=by
   rw[←he,←mn (h:=hkz)]
   exact AB hkz
  have hb:=z.big ok hk hmem (by rw[←he])
  rw[←e1,←e2]at hb
  unfold PF at h ⊢
  rw[←e1,←e2]at h ⊢
  by_cases hz:(FB t (Ez x P is (P.getD is.length []) (ms.getD is.length Mta.zero))).2.2=0
  ·rw[if_neg fun k=>k hz]at h ⊢
   have:=r.st.len
   have:=z.set
   have:=z.parts
   have r2:=r.step hk hb (by omega) hz
   exact Eg.loop ok z hms o _ _ r2 (by rw[AA,Au];exact hrest) h
  ·rw[if_pos hz]at h
   exact absurd h hz
theorem fR {s:List Sto} (v:BP s) (hg:GQ s=false) {id:Dig} {Q:List (List Int)} {ms:List Mta} (z:PA Q ms) (h:(H7 s id Q ms).2.2=0): ∃ p t is,(⟨id,p⟩:Sto)∈s∧H7 s id Q ms=(t,is,0)∧MH s [id]=false∧FL p.changes.length [] Q=true∧ms.length=Q.length∧Fj s ⟨id,p⟩ (E4 Q)∧Eg s ⟨id,p⟩ (E4 Q) ms t is∧is.length=Q.length:=by
 unfold H7 at h ⊢
 cases hp:getS s id with
 |none=>rw[hp]at h;exact absurd (show(7:Int)=0 from h) (by decide)
 |some p=>
  rw[hp]at h
  dsimp only at h ⊢
  have hx:(⟨id,p⟩:Sto)∈s:=MQ hp
  by_cases h1:MH s [id]=true
  ·rw[if_pos h1]at h;exact absurd h (by decide)
  rw[if_neg h1]at h ⊢
  by_cases h2:FL p.changes.length [] Q=false∨ms.length≠Q.length
  ·rw[if_pos h2]at h;exact absurd h (by decide)
  rw[if_neg h2]at h ⊢
  by_cases h3:K1 (E4 Q) p.changes=true
  ·rw[if_pos h3]at h;exact absurd h (by decide)
  rw[if_neg h3]at h ⊢
  have hQ:FL p.changes.length [] Q=true:=by
   cases hq:FL p.changes.length [] Q with
   |true=>rfl
   |false=>exact absurd (.inl hq) h2
  have hl:ms.length=Q.length:=Cd fun k=>h2 (.inr k)
  have h1:MH s [id]=false:=by simpa using h1
  have ok:Fj s ⟨id,p⟩ (E4 Q):=Wv v hx hQ (by simpa using h3)
  have r0:Eg s ⟨id,p⟩ (E4 Q) ms (Ir s [id]) []:=⟨TR v hx h1,RQ _,fun k hk=>absurd hk (DF _),fun z hz=> .inl hz,fun z hz=>hz,.nil,fun d hd=>absurd hd Ai,fun j hj=>absurd hj (DF _),rfl⟩
  obtain⟨t,is,e,r,hlen⟩:=Eg.loop ok (Re hg hx z) (by rw[IJ];exact hl) _ [] _ r0 rfl h
  exact⟨p,t,is,hx,e,h1,hQ,hl,ok,r,by rw[hlen,IJ]⟩
theorem YO {x:Sto} {P:List (List Nat)}: ∀ (o:List (List Nat × Mta)) (t:List Sto) (is:List Dig),(PF x P o t is).2.2≠0→(PF x P o t is).1= []∧(PF x P o t is).2.1= []
 | [],_,_,h=>absurd rfl h
 |e::o,t,is,h=>by
  unfold PF at h ⊢
  split
  ·exact⟨rfl,rfl⟩
  ·rename_i hz
   rw[if_neg hz]at h
   exact YO o _ _ h
theorem bK {s:List Sto} {id:Dig} {Q:List (List Int)} {ms:List Mta} (h:(H7 s id Q ms).2.2≠0):(H7 s id Q ms).1= []∧(H7 s id Q ms).2.1= []:=by
 unfold H7 at h ⊢
 split
 ·exact⟨rfl,rfl⟩
 ·split
  ·exact⟨rfl,rfl⟩
  split
  ·exact⟨rfl,rfl⟩
  split
  ·exact⟨rfl,rfl⟩
  rename_i e h1 h2 h3
  rw[e]at h
  dsimp only at h
  rw[if_neg h1,if_neg h2,if_neg h3]at h
  exact YO _ _ _ h
def PG (x:Sto) (P:List (List Nat)) (is:List Dig) (y:Ident):Ident:=
 if y.patch=x.id then⟨is.getD (JE P (DT x.patch.changes y.n)) Dig.zero,y.n - CD x.patch.changes (DT x.patch.changes y.n)+Nj P x.patch.changes (DT x.patch.changes y.n)⟩else y
theorem ft {x:Sto} {P:List (List Nat)} {is:List Dig} {l:List Nat} {m:Mta} {j k:Nat} (hk:is.length=k) (h:j < l.length):(Ez x P is l m).changes[j]'(by unfold Ez;rw[AR];exact h)=FU (fS P x.patch.changes is k) (x.patch.changes.getD l[j] Chg.zero):=by
 subst hk
 unfold Ez
 exact BK _
theorem ZE {x:Sto} {P:List (List Nat)} (hP:J8 P x.patch.changes.length) {is:List Dig} {m:Mta} {k:Nat} (hk:k < P.length) {j:Nat} (hj:j < (P[k]).length):CD (Ez x P is P[k] m).changes j=Nj P x.patch.changes (P[k])[j]:=by
 have e:P[k]=(P[k]).take j++(P[k])[j]::(P[k]).drop (j+1):=by rw[←C6 hj,Bf]
 rw[Og hP hk e]
 unfold CD Ez
 dsimp only
 rw[←ao,CR]
 congr 1
 exact Ca fun c _=>aN _ _
theorem Eg.part {s:List Sto} {x:Sto} {P:List (List Nat)} {ms:List Mta} {t:List Sto} {is:List Dig} (ok:Fj s x P) (r:Eg s x P ms t is) (hlen:is.length=P.length) {k:Nat} (hk:k < P.length) {j:Nat} (hj:j < (P[k]).length):
  NU (PG x P is) x (MG x P ms is k) (P[k])[j] j:=by
 have hi:(P[k])[j] < x.patch.changes.length:=ok.parts.lt _ (AB hk) _ (AB hj)
 have hin:JE P (P[k])[j]=k:=LU ok.parts.apart hk (AB hj)
 have hgk:P.getD k []=P[k]:=by simp[List.getD,hk]
 have htl:(is.take k).length=k:=by rw[Aa];omega
 have hid:(MG x P ms is k).id=is.getD k Dig.zero:=rfl
 have hpt:(MG x P ms is k).patch=Ez x P (is.take k) P[k] (ms.getD k Mta.zero):=by unfold MG;rw[hgk]
 have hjl:j < (MG x P ms is k).patch.changes.length:=by
  rw[hpt];unfold Ez;rw[AR];exact hj
 refine⟨hi,hjl,fS P x.patch.changes (is.take k) k,?_,fun y hy=>?_,fun q hq=>?_⟩
 ·have:=ft (x:=x) (P:=P) (is:=is.take k) (m:=ms.getD k Mta.zero) htl hj
  rw[MR hi]at this
  simp only[hpt]
  exact this
 ·have hu:=(ok.uses hi).over y hy
  rw[hid]
  rcases ok.val.over_at ok.mem hi hy with ⟨y1,y2,y3,y4⟩|⟨y1,y2,y3,y4,_⟩
  ·have ho:Ed y=true:=GX.2 ⟨y1,y2⟩
   obtain⟨_,h2⟩:=hu.2.1 ho
   rw[hin]at h2
   obtain⟨c1,c2,_⟩:=MI (cs:=x.patch.changes) (m:=(P[k])[j]) (by omega) y2 y3
   rw[y4]
   unfold PG fS
   rw[if_pos rfl,if_pos ho]
   dsimp only
   by_cases he:JE P (DT x.patch.changes y.n)=k
   ·rw[if_pos he,he]
    unfold Cq
    rw[if_pos ⟨rfl,by dsimp only;omega⟩]
   ·rw[if_neg he]
    have hlt:JE P (DT x.patch.changes y.n) < k:=by omega
    have hg:(is.take k).getD (JE P (DT x.patch.changes y.n)) Dig.zero=is.getD (JE P (DT x.patch.changes y.n)) Dig.zero:=by
     rw[BG,Fh,if_pos hlt,←BG]
    rw[hg]
    unfold Cq
    rw[if_neg fun h=>r.nz _ (by omega) h.1]
  ·have ho: ¬Ed y=true:=fun h=>y1 (GX.1 h).1
   rw[y2]
   unfold PG fS
   rw[if_neg y4,if_neg ho]
   unfold Cq
   rw[if_neg fun h=>y1 h.1]
 ·have hm:DT x.patch.changes ((CD x.patch.changes (P[k])[j]+q:Nat):Int)=(P[k])[j]:=TE hi (by omega) (by rw[FV hi];omega)
  rw[hid,hpt,ZE ok.parts hk hj]
  unfold PG
  dsimp only
  rw[if_pos rfl,hm,hin]
  congr 1
  omega
theorem Eg.renamed {s:List Sto} {x:Sto} {P:List (List Nat)} {ms:List Mta} {t:List Sto} {is:List Dig} (ok:Fj s x P) (hn:MH s [x.id]=false) (r:Eg s x P ms t is) (hlen:is.length=P.length):RK s t (PG x P is):=by
 have v:=ok.val
 have stay: ∀ z∈s,z.id≠x.id→ ∀ i (hi:i < z.patch.changes.length),NU (PG x P is) z z i i:=fun z hz hl i hi=>by
  have same: ∀ y:Ident,y.patch≠x.id→PG x P is y=y:=fun y h=>by unfold PG;rw[if_neg h]
  refine⟨hi,hi,fun y=>y,gN v hz hi,fun y hy=>?_,fun k hk=>same _ hl⟩
  dsimp only
  refine(same _ ?_).symm
  rcases v.over_at hz hi hy with ⟨_,_,_,e⟩|⟨_,e,n,_,_⟩
  ·rw[e];exact hl
  ·rw[e]
   have:=Br.1 hn z hz
   simp only[Ah,hl,decide_false,Bool.not_false,EK,Bw,AD,not_exists,not_and]at this
   exact this _ n
 have hp:=EH (Fc (v.id x ok.mem).1).1
 have cn: ∀ {d:Nat} (hd:d < x.patch.changes.length),CD x.patch.changes (d+1)=CD x.patch.changes d+FH (x.patch.changes.getD d Chg.zero):=fun {d} hd=>by rw[FV hd,MR hd]
 have HZ: ∀ z∈s,z.id=x.id→z=x:=fun z hz e=>Pn v.asc hz ok.mem e
 have out: ∀ z∈s,z.id≠x.id→z∈Ir s [x.id]:=fun z hz e=>Tz.2 ⟨hz,by simpa using e⟩
 refine⟨fun y hy n hn' z hz m hm e=>?_,fun y hy i hi=>?_,fun z hz j hj=>?_⟩
 ·have own: ∀ n:Nat,n < Hl x.patch→DT x.patch.changes n < x.patch.changes.length∧(CD x.patch.changes (DT x.patch.changes n):Int)≤n∧n < (CD x.patch.changes (DT x.patch.changes n):Int)+FH (x.patch.changes.getD (DT x.patch.changes n) Chg.zero)∧JE P (DT x.patch.changes n) < is.length:=fun n hn'=>by
   rw[hp.cnt]at hn'
   obtain⟨a,b,c⟩:=MI (cs:=x.patch.changes) (Ak _) (show(0:Int)≤n by omega) (by omega)
   rw[cn a]at c
   obtain⟨hk,_⟩:=ok.parts.mem a
   exact⟨a,b,by omega,by omega⟩
  by_cases hyx:y.id=x.id
  ·obtain rfl:=HZ y hy hyx
   obtain⟨a1,a2,a3,a4⟩:=own n hn'
   by_cases hzx:z.id=y.id
   ·obtain rfl:=HZ z hz hzx
    obtain⟨b1,b2,b3,b4⟩:=own m hm
    unfold PG at e
    dsimp only at e
    rw[if_pos rfl,if_pos rfl]at e
    have ep:=congrArg Ident.patch e
    have en:=congrArg Ident.n e
    dsimp only at ep en
    rw[Ff a4,Ff b4]at ep
    have same:=(Sy r.nodup).1 ep
    refine⟨rfl,?_⟩
    rcases LY (DT z.patch.changes n) (DT z.patch.changes m)with hl|hl|hl
    ·have:=Oe ok.parts (cs:=z.patch.changes) hl b1 same
     omega
    ·rw[hl]at en;omega
    ·have:=Oe ok.parts (cs:=z.patch.changes) hl a1 same.symm
     omega
   ·unfold PG at e
    dsimp only at e
    rw[if_pos rfl,if_neg hzx]at e
    have ep:=congrArg Ident.patch e
    dsimp only at ep
    rw[Ff a4]at ep
    exact absurd (AQ.2 ⟨z,out z hz hzx,ep.symm⟩) (r.fresh _ (AB a4))
  ·by_cases hzx:z.id=x.id
   ·obtain rfl:=HZ z hz hzx
    obtain⟨b1,b2,b3,b4⟩:=own m hm
    unfold PG at e
    dsimp only at e
    rw[if_pos rfl,if_neg hyx]at e
    have ep:=congrArg Ident.patch e
    dsimp only at ep
    rw[Ff b4]at ep
    exact absurd (AQ.2 ⟨y,out y hy hyx,ep⟩) (r.fresh _ (AB b4))
   ·unfold PG at e
    dsimp only at e
    rw[if_neg hyx,if_neg hzx]at e
    have en:=congrArg Ident.n e
    dsimp only at en
    exact⟨congrArg Ident.patch e,by omega⟩
 ·by_cases hyx:y.id=x.id
  ·obtain rfl:=HZ y hy hyx
   obtain⟨hk,hm⟩:=ok.parts.mem hi
   obtain⟨j,hj,e⟩:=AY.1 hm
   have:=r.part ok hlen hk hj
   rw[e]at this
   exact⟨_,r.parts _ (by omega),j,this⟩
  ·exact⟨y,r.keep y (out y hy hyx),i,stay y hy hyx i hi⟩
 ·rcases r.only z hz with h|⟨k,hk,rfl⟩
  ·obtain⟨h1,h2⟩:=Tz.1 h
   exact⟨z,h1,j,stay z h1 (by simpa using h2) j hj⟩
  ·have hk':k < P.length:=by omega
   have hgk:P.getD k []=P[k]:=by simp[List.getD,hk']
   have hj':j < (P[k]).length:=by
    unfold MG Ez at hj
    rw[hgk]at hj
    simpa using hj
   exact⟨x,ok.mem,_,r.part ok hlen hk' hj'⟩
theorem pC {s:List Sto} (v:BP s) {x:Sto} (hx:x∈s):(Ir s [x.id]).length+1=s.length:=by
 obtain⟨a,b,rfl⟩:=dP hx
 have hn:=v.asc.nodup
 unfold ids at hn
 rw[Aq,Ar]at hn
 obtain⟨_,h2,h3⟩:=EG.1 hn
 obtain⟨h4,_⟩:=Bo.1 h2
 unfold Ir
 have ha:a.filter (fun y=>decide (¬y.id∈ [x.id]))=a:=by
  rw[K4]
  intro y hy
  refine BF fun k=>?_
  exact h3 _ (AQ.2 ⟨y,hy,rfl⟩) _ AG (Ah.1 k)
 have hb:b.filter (fun y=>decide (¬y.id∈ [x.id]))=b:=by
  rw[K4]
  intro y hy
  refine BF fun k=>?_
  exact h4 (Ah.1 k ▸ AQ.2 ⟨y,hy,rfl⟩)
 rw[Eo,ha,Eu (by simp),hb]
 simp only[AA,AL]
 omega
theorem BP.knows_need {t:List Sto} (w:BP t) {z:Sto} (hz:z∈t) {d:Dig} (hd:d∈B7 z.patch):Kb t z.id d=true:=by
 have hi:z.id∈ids t:=AQ.2 ⟨z,hz,rfl⟩
 rw[OD w hi,AD,w.mem_clo hi]
 exact .step (show Q.Reach (Go.Proofs.ndS t) [z.id] z.id from .base (by simp)) (by rw[w.ndS hz];exact hd)
theorem BP.deps_need {t:List Sto} (w:BP t) {z:Sto} (hz:z∈t) {d:Dig} (hd:d∈z.patch.deps):d∈B7 z.patch:=by
 have he: ¬(CV z.patch).2≠0:=fun h=>by have:=(w.id z hz).1;rw[Ej,if_pos h]at this;exact h this
 rw[B7,if_neg he,Oz]
 exact .inl ((QS _ [] .nil).2 d |>.2 (.inr hd))
theorem Eg.knows {s:List Sto} {x:Sto} {P:List (List Nat)} {ms:List Mta} {t:List Sto} {is:List Dig} (r:Eg s x P ms t is) {k:Nat} (hk:k < is.length):(∀ d∈is.take k,Kb t is[k] d=true)∧ ∀ d∈B7 x.patch,Kb t is[k] d=true:=by
 have hz:=r.parts k hk
 have hid:(MG x P ms is k).id=is[k]:=Ff hk
 have hd: ∀ d,d∈(MG x P ms is k).patch.deps↔d∈B7 x.patch++is.take k:=fun d=>(H4 _).2 d
 rw[←hid]
 exact⟨fun d h=>r.st.val.knows_need hz (r.st.val.deps_need hz ((hd d).2 (DW _ h))),fun d h=>r.st.val.knows_need hz (r.st.val.deps_need hz ((hd d).2 (E1 _ h)))⟩
theorem Eg.get {s:List Sto} {x:Sto} {P:List (List Nat)} {ms:List Mta} {t:List Sto} {is:List Dig} (r:Eg s x P ms t is) {k:Nat} (hk:k < is.length):getS t is[k]=some (MG x P ms is k).patch:=by
 have hid:(MG x P ms is k).id=is[k]:=Ff hk
 rw[←hid]
 exact r.st.val.getS (r.parts k hk)
end Go.Proofs
namespace Go.Proofs
open Go Go.Q
attribute [local irreducible] ER AU H8 BA Fk
def ct (c:Chg):Nat:=if c.kind=5 then 2*c.lines.length+1 else 1
theorem uq {c:Chg} (h1:1≤c.kind) (h7:c.kind≤7):FH c=ct c:=by
 unfold FH ct CW
 by_cases k1:c.kind=1
 ·simp[k1]
 by_cases k2:c.kind=2
 ·simp[k2]
 by_cases k3:c.kind=3
 ·simp[k3]
 by_cases k4:c.kind=4
 ·simp[k4]
 by_cases k6:c.kind=6
 ·simp[k6]
 by_cases k7:c.kind=7
 ·simp[k7]
 have k5:c.kind=5:=by omega
 simp[k5]
 omega
theorem BP.kinds {s:List Sto} (v:BP s) {x:Sto} (hx:x∈s): ∀ c∈x.patch.changes,1≤c.kind∧c.kind≤7:=fun c hc=>by
 have hp:=EH (Fc (v.id x hx).1).1
 obtain⟨i,hi,rfl⟩:=AY.1 hc
 have:=hp.fields i hi
 unfold C3 at this
 split at this
 ·omega
 ·rename_i h
  omega
instance (m:Mta) (ds:List Dig) (cs:List Chg) (tg:CC):Js (.agg (jB m ds cs tg)) (.agg (Bn ⟨m.author,m.message,m.time,ds,cs⟩)):=⟨rp m ds cs tg⟩
instance (m:Mta) (ds:List Dig) (cs:List Chg) (tg:CC):Cy (jB m ds cs tg) 5:=⟨rfl⟩
instance A04 (m:Mta) (ds:List Dig) (cs:List Chg) (tg:CC):At (jB m ds cs tg) 4 (.slice (cs.map eChg) tg):=⟨rfl⟩
end Go.Proofs
