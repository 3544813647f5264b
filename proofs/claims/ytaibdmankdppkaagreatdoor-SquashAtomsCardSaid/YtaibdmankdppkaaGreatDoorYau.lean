/- Contracts: which atoms are superseded. -/
import Derived.Test.YtaibdmankdppkaaGreatDoorYag
import Derived.Test.YtaibdmankdppkaaGreatDoorYat
import Derived.Test.YtaibdmankdppkaaGreatDoorYam
import Derived.Test.YtaibdmankdppkaaGreatDoorYas
import Derived.Test.YtaibdmankdppkaaGreatDoorYao
import Derived.Test.YtaibdmankdppkaaGreatDoorYal
set_option linter.unusedSimpArgs false
set_option linter.unusedVariables false
set_option maxHeartbeats 8000000
namespace Go.Proofs
open Go Go.Q
attribute [local irreducible] ER AV Gw BA Fc Km
instance zX:NG Tryz.prog 229 65 4:=⟨by kernel_rfl⟩
instance zW:NG Tryz.prog 179 65 71:=⟨by kernel_rfl⟩
instance zQ:ZV Tryz.prog 71 (SZ eIdent) ([],.nil):=Y8 (v:= .slice none 0 0) (by kernel_rfl) fun _=> .nilN none (by simp)
instance :Cp Tryz.prog 229 [.raw (.map none)]:=LZ (v:= .map none) (by kernel_rfl) rfl fun _=> .raw _
instance :Cp Tryz.prog 179 [.raw (.map none)]:=LZ (v:= .map none) (by kernel_rfl) rfl fun _=> .raw _
def Sc (z:Ident) (m:List (Ident × List Ident)) (w:Ident):List (Ident × List Ident):=Cn w ((C4 w m).getD []++ [z]) m
def pJ (q:(List Ident × List Ident) × List (Ident × List Ident)) (a:Atm):(List Ident × List Ident) × List (Ident × List Ident):=(P3 q.1 a,if a.id∈q.1.1 then q.2 else a.over.foldl (Sc a.id) q.2)
def Nb (l:List Atm):List (Ident × List Ident):=(l.foldl pJ (([],[]),[])).2
theorem ZQ: ∀ (l:List Atm) (q:(List Ident × List Ident) × List (Ident × List Ident)),(l.foldl pJ q).1=l.foldl P3 q.1
 | [],_=>rfl
 |a::l,q=>by rw[BM,BM,ZQ l];rfl
theorem Rq (l:List Atm) (a:Atm):Nb (l++ [a])=if a.id∈(GM l).1 then Nb l else a.over.foldl (Sc a.id) (Nb l):=by
 unfold Nb
 rw[BO,BM,Ho]
 unfold pJ
 dsimp only
 have:=ZQ l (([],[]),[])
 rw[show GM l=(l.foldl pJ (([],[]),[])).1 from this.symm]
 rfl
theorem kv (z y w:Ident) (m:List (Ident × List Ident)):((C4 y (Sc z m w)).getD []= [])↔((C4 y m).getD []= []∧y≠w):=by
 unfold Sc
 rw[Ei]
 by_cases e:y=w
 ·rw[if_pos e];simp[e]
 ·rw[if_neg e];simp[e]
theorem ZR (z y:Ident): ∀ (l:List Ident) (m:List (Ident × List Ident)),((C4 y (l.foldl (Sc z) m)).getD []= [])↔((C4 y m).getD []= []∧y∉l)
 | [],m=>by simp
 |w::l,m=>by
  rw[BM,ZR z y l,kv]
  simp[and_assoc]
theorem gA (y:Ident) (l:List Atm):((C4 y (Nb l)).getD []= [])↔y∉(GM l).2:=by
 have key: ∀ k,k≤l.length→(((C4 y (Nb (l.take k))).getD []= [])↔y∉(GM (l.take k)).2):=by
  intro k
  induction k with
  |zero=>intro _;simp[Nb,GM,C4]
  |succ k ih=>
   intro hk
   have hs:GM (l.take (k+1))=P3 (GM (l.take k)) l[k]:=by
    rw[A7 (by omega)]
    unfold GM;rw[BO];rfl
   rw[hs,A7 (show k < l.length by omega),Rq]
   unfold P3
   by_cases h:l[k].id∈(GM (l.take k)).1
   ·rw[if_pos h,if_pos h];exact ih (by omega)
   ·rw[if_neg h,if_neg h,ZR,ih (by omega)]
    simp
 have:=key l.length (Ah _)
 rwa [E8]at this
def NM (om:List (Ident × (List Ident × CF))):List (Ident × List Ident):=om.map fun e=>(e.1,e.2.1)
theorem VH (y:Ident): ∀ om:List (Ident × (List Ident × CF)),(C4 y (NM om)).getD []=((C4 y om).getD ([],CF.nil)).1
 | []=>rfl
 |(a,v)::om=>by
  unfold NM
  simp only[Ar,C4]
  split
  ·rfl
  ·exact VH y om
theorem VG (w:Ident) (v:List Ident × CF): ∀ om:List (Ident × (List Ident × CF)),NM (Cn w v om)=Cn w v.1 (NM om)
 | []=>rfl
 |(a,u)::om=>by
  unfold NM
  simp only[Ar,Cn]
  split
  ·rfl
  ·rw[Ar]
   congr 1
   exact VG w v om
theorem ks (m:List (Ident × (List Ident × CF))):Le (.fmap (BQ kIdent (SZ eIdent) m)) (.fmap (BQ kIdent (Jr eIdent) (NM m))):=fun g v h=>by
 generalize hk:BQ kIdent (SZ eIdent) m=kvs at h
 cases h with
 |fmap hM hl hk2 hv=>
  subst hk
  refine .fmap hM (by simpa [BQ,NM]using hl) (fun i h1 h2=>?_) (fun i h1 h2=>?_)
  ·have:=hk2 i h1 (by simpa [BQ,NM]using h2)
   simpa [BQ,NM]using this
  ·have:=hv i h1 (by simpa [BQ,NM]using h2)
   simp only[BQ,NM,BN]at this ⊢
   exact this.ro
 |nilM=>
  have:m= []:=by simpa [BQ]using hk
  subst this
  exact .nilM
structure OO (r:List Ident) (M:List (Ident × List Ident)) (rm:List (Ident × Bool)) (om:List (Ident × (List Ident × CF))) (K:Nat):Prop where
 ret: ∀ y,(C4 y rm).getD false=decide (y∈r)
 map:NM om=M
 len: ∀ y,((C4 y om).getD ([],CF.nil)).1.length≤K
theorem OO.edge {r:List Ident} {M:List (Ident × List Ident)} {rm:List (Ident × Bool)} {om:List (Ident × (List Ident × CF))} {K:Nat} (h:OO r M rm om K) (w z:Ident) (t:CF):OO r (Sc z M w) rm (Cn w (((C4 w om).getD ([],CF.nil)).1++ [z],t) om) (K+1):=by
 refine⟨h.ret,?_,fun y=>?_⟩
 ·rw[VG,←h.map]
  unfold Sc
  rw[VH]
 ·rw[Ei]
  by_cases e:y=w
  ·rw[if_pos e]
   have:=h.len w
   simp;omega
  ·rw[if_neg e]
   have:=h.len y
   omega
theorem OO.mark {r:List Ident} {M:List (Ident × List Ident)} {rm:List (Ident × Bool)} {om:List (Ident × (List Ident × CF))} {K:Nat} (h:OO r M rm om K) (w:Ident):OO (r++ [w]) M (Cn w true rm) om K:=by
 refine⟨fun y=>?_,h.map,h.len⟩
 rw[Ei]
 by_cases e:y=w
 ·rw[if_pos e];simp[e]
 ·rw[if_neg e,h.ret y];simp[e]
theorem OO.le {r:List Ident} {M:List (Ident × List Ident)} {rm:List (Ident × Bool)} {om:List (Ident × (List Ident × CF))} {K K':Nat} (h:OO r M rm om K) (hk:K≤K'):OO r M rm om K':=⟨h.ret,h.map,fun y=>by have:=h.len y;omega⟩
theorem Wi (l:List Ident):(sortI l).length=l.length:=by unfold sortI;rw[Cg]
theorem BH.seq_over {s:List Sto} (v:BH s) {a:Atm} (ha:a∈Lj s):a.over.length≤2000:=by
 obtain⟨x,hx,i,hi,k,hk,rfl⟩:=v.mem_seq.1 ha
 obtain⟨b,hb,e,_⟩:=S8 hi hk
 obtain⟨_,_,_,_,gch⟩:=Ek (v.close.1.2 x hx)
 have h8:=(Qs x.id b).2.2.2.2.2.2.2
 rw[e,h8,Wi,AR,Oj hb]
 have:=(gch _ (AF hi)).over
 unfold fc
 split
 ·omega
 ·simp
theorem BH.seq_len {s:List Sto} (v:BH s):(Lj s).length≤4000000:=by
 have ho:=C8 s
 have hol:(BK s).length≤200:=by
  have:=Eg ho.nodup (u:=ids s) ho.sub
  have:=v.close.1.1
  unfold ids at*
  simp only[AR]at*
  omega
 unfold Lj
 rw[List.length_reverse,List.length_flatMap]
 have: ∀ d∈BK s,(Go.Proofs.atmS s d).length≤16200:=fun d hd=>by
  obtain⟨y,hys,hyd⟩:=AQ.1 (ho.sub _ hd)
  rw[←hyd,v.at_len hys]
  have:=(E1 (v.close.1.2 y hys)).1
  unfold Hg
  omega
 have:=Ee this
 omega
theorem bp {s:List Sto} (v:BH s) (t:CF):CB Tryz.prog 148 [.slice (s.map eSto) t] (.fmap (BQ kIdent (Jr eIdent) (Nb (Lj s)))):=⟨by
 have hsl:=v.seq_len
 refine Au Tryz.func148 Tryz.ntmps148 rfl (rs:= [.tmp 2]) rfl rfl fun hb LF=>?_
 refine wf ?_
 refine KK fun m1=>?_
 refine C6 fun b3=>?_
 refine wo ?_
 refine AD ?_
 refine Ao 3 ?_
 refine wf ?_
 refine KK fun m2=>?_
 refine C6 fun b4=>?_
 refine wo ?_
 refine AD ?_
 refine Ao 4 ?_
 refine wf ?_
 refine GD (ZM v) [12] (σ:=List (Ident × Bool) × List (Ident × (List Ident × CF))) (fun pre q=>OO (GM pre).1 (Nb pre) q.1 q.2 (pre.length*2000)) (fun _ _=>False) (fun q LF'=> .map m2 (BQ kIdent (SZ eIdent) q.2):: .map m1 (BQ kIdent vBool q.1)::(PB 33 q.2++LF')) ([],[]) LF ?_ rfl (fun _=>rfl) (by simp) (fun q LF'=>by simp) (.refl _) ⟨fun y=>by simp[GM,C4],rfl,fun y=>by simp[C4]⟩ ?_ ?_ (fun _ _ h=>h.elim)
 ·exact .refl _
 ·rintro pre x ⟨rm,om⟩ LF' hpx hI
  dsimp only at hI ⊢
  have hxm:x∈Lj s:=hpx.subset (by simp)
  have hov:=v.seq_over hxm
  have hpl:pre.length+1≤4000000:=by
   have:=hpx.length_le
   rw[AA,B6]at this
   omega
  have hret:=hI.ret x.id
  unfold lY
  refine wz fun b5=>?_
  refine Ao 5 ?_
  refine wf ?_
  refine Wv (ek:=kIdent) (ev:=vBool) (k0:=x.id) (l:=rm) (ay:= .agg (eIdent x.id)) rfl (AH _ AG) rfl ?_
  rw[hret]
  refine wf ?_
  have hkl:GM (pre++ [x])=P3 (GM pre) x:=by unfold GM;rw[BO];rfl
  refine A6 (fun hc=>?_) (fun hc=>?_)
  ·have e:GM (pre++ [x])=GM pre:=by rw[hkl,P3,if_pos hc]
   have e2:Nb (pre++ [x])=Nb pre:=by rw[Rq,if_pos hc]
   refine wf ?_
   refine⟨(rm,om),?_,.refl _⟩
   dsimp only
   rw[e,e2]
   exact hI.le (by simp;omega)
  have e:(GM (pre++ [x])).1=if x.kind=7 then(GM pre).1++x.over else(GM pre).1:=by rw[hkl,P3,if_neg hc]
  have e2:Nb (pre++ [x])=x.over.foldl (Sc x.id) (Nb pre):=by rw[Rq,if_neg hc]
  refine wf ?_
  refine Ad (σ:=Nat × List (Ident × Bool) × List (Ident × (List Ident × CF))) (fun k=>k.1≤x.over.length∧OO (if x.kind=7 then(GM pre).1++x.over.take k.1 else(GM pre).1) ((x.over.take k.1).foldl (Sc x.id) (Nb pre)) k.2.1 k.2.2 (pre.length*2000+k.1)) (fun k=>x.over.length - k.1) (fun k=> [(3,.pt [.raw (.map (some m1))] 0),(4,.pt [.raw (.map (some m2))] 0),(5,.pt (eAtm x) 0),(18,.slice (x.over.map eIdent) .ro),(19,.raw (.int .i64 x.over.length)),(20,.raw (.int .i64 k.1))]) (fun k=> .map m2 (BQ kIdent (SZ eIdent) k.2.2):: .map m1 (BQ kIdent vBool k.2.1)::(PB 33 k.2.2++LF')) (0,rm,om) ⟨by simp,by simpa using hI⟩ ⟨rfl,rfl,rfl,rfl,rfl,rfl⟩ (.refl _) ?_
  clear hI hret
  rintro⟨j,rm2,om2⟩ ⟨hj,hI⟩
  dsimp only at hj hI ⊢
  refine wf ?_
  refine A6 (fun hc2=>?_) (fun hc2=>?_)
  ·have hjl:j < x.over.length:=by omega
   have htk:x.over.take (j+1)=x.over.take j++ [x.over[j]]:=A7 hjl
   refine wz fun b7=>?_
   generalize x.over[j]=w at*
   refine Ao 7 ?_
   obtain⟨S,hS1,hS2⟩:=SF 33 w om2
   have hst:=fun t=>hI.edge w x.id t
   have hl0:=hI.len w
   refine fW 33 (A:= [.map m2 (BQ kIdent (SZ eIdent) om2),.map m1 (BQ kIdent vBool rm2)]) hS1 ?_
   generalize hv0:(C4 w om2).getD ([],CF.nil)=v0 at hst hl0 ⊢
   obtain⟨l0,t0⟩:=v0
   dsimp only at hst hl0
   refine wf ?_
   refine PW (ek:=kIdent) (ev:=SZ eIdent) (k0:=w) (l:=om2) (L':= .map m1 (BQ kIdent vBool rm2):: .tok t0 l0.length 33::(S++LF')) rfl (.refl _) (.refl _) fun es cl ix n hO=>?_
   rw[hv0]at hO ⊢
   refine wf ?_
   refine Il (f:=eIdent) (l:=l0) (m:= [x.id]) (t:=t0) (L':=fun t'=> .raw m2 (.map es cl)::JV es (BQ kIdent (SZ eIdent) (Cn w (l0,t0) om2)):: .map m1 (BQ kIdent vBool rm2):: .tok t' (l0++ [x.id]).length 33::(S++LF')) rfl rfl (by simp only[AN,Af];omega) (by simp only[AN,Af];omega) (fun t'=> .there (.there (.there .here))) fun t'=>?_
   refine wf ?_
   refine Mh (ek:=kIdent) (ev:=SZ eIdent) (x0:=(l0++ [x.id],t')) (L':= .map m1 (BQ kIdent vBool rm2):: .tok t' (l0++ [x.id]).length 33::(S++LF')) hO rfl rfl (.refl _) (.refl _) ?_
   rw[Om]
   refine AD ?_
   have hT1:=hst t'
   have hp1:=hS2 (l0++ [x.id],t')
   generalize Cn w (l0++ [x.id],t') om2=om3 at hT1 hp1 ⊢
   refine E0 (L':= .map m2 (BQ kIdent (SZ eIdent) om3):: .map m1 (BQ kIdent vBool rm2)::(PB 33 om3++LF')) (.cons _ (.cons _ ((hp1.append_right LF').symm))) ?_
   have hfl:Sc x.id ((x.over.take j).foldl (Sc x.id) (Nb pre)) w=(x.over.take (j+1)).foldl (Sc x.id) (Nb pre):=by rw[htk,BO];rfl
   rw[hfl]at hT1
   refine wf ?_
   refine A6 (fun h7=>?_) (fun h7=>?_)
   ·rw[if_pos h7]at hT1
    have hT2:=hT1.mark w
    rw[AU,←htk]at hT2
    refine wf ?_
    refine QG (κ:=Ident) (ek:=kIdent) (ev:=vBool) (k0:=w) (x0:=true) (L':= .map m2 (BQ kIdent (SZ eIdent) om3)::(PB 33 om3++LF')) rfl (.swap _ _ _) (.refl _) (.refl _) ?_
    refine AD ?_
    refine E0 (.swap _ _ _) ?_
    refine wf ?_
    refine⟨(j+1,Cn w true rm2,om3),⟨by dsimp only;omega,?_⟩,by dsimp only;omega,⟨rfl,rfl,rfl,rfl,rfl,rfl⟩,.refl _⟩
    dsimp only
    rw[if_pos h7]
    exact hT2.le (by omega)
   ·rw[if_neg h7]at hT1
    refine wf ?_
    refine⟨(j+1,rm2,om3),⟨by dsimp only;omega,?_⟩,by dsimp only;omega,⟨rfl,rfl,rfl,rfl,rfl,rfl⟩,.refl _⟩
    dsimp only
    rw[if_neg h7]
    exact hT1.le (by omega)
  ·rw[AE (by omega)]at hI
   refine wf ?_
   refine⟨(rm2,om2),?_,.refl _⟩
   dsimp only
   rw[e,e2]
   exact hI.le (by simp;omega)
 ·rintro⟨rm,om⟩ hI
  dsimp only at hI ⊢
  repeat(refine DX ?_)
  refine CQ (by kernel_rfl) ?_
  refine wo ?_
  refine AD ?_
  refine L7 [(2,.fmap (BQ kIdent (SZ eIdent) om))] (.inr ⟨rfl,rfl⟩) (.refl _) ?_
  refine wf ?_
  have hle:=ks om
  rw[hI.map]at hle
  exact B2 hle (hs:= .cons _ (DD _ _))⟩
end Go.Proofs
namespace Go.Proofs
open Go Go.Q
attribute [local irreducible] ER AV Gw BA Fc
theorem gI (F:Nat) (cs:List PV) (p:Atm→Bool) [hF:Az Tryz.prog F] [hp: ∀ d,CB Tryz.prog F (.agg (eAtm d)::cs) (.raw (.bool (p d)))] (l:List Atm) (t:CF):
  CB Tryz.prog 146 [.slice (l.map eAtm) t,.clo F cs] (.raw (.int .i64 (FE p l))):=⟨by
 refine Au Tryz.func146 Tryz.ntmps146 rfl (rs:= [.tmp 4]) rfl rfl fun hb LF=>?_
 have hlen:l.length≤140737488355328:=(hb (.slice (l.map eAtm) t) (by simp)).slice_map
 refine wf ?_
 refine Ad (σ:=Nat) (fun k=>k≤l.length∧(l.take k).any p=false) (fun k=>l.length - k) (fun k=> [(0,.slice (l.map eAtm) t),(1,.clo F cs),(7,.raw (.int .i64 l.length)),(8,.raw (.int .i64 k))]) (fun _=>LF) 0 ⟨by simp,by simp⟩ ⟨rfl,rfl,rfl,rfl⟩ (.refl _) ?_
 rintro k ⟨hk,hn⟩
 refine wf ?_
 refine A6 (fun hc=>?_) (fun hc=>?_)
 ·have hlt:k < l.length:=by omega
  refine wf ?_
  refine AW (fun h=>?_) (fun h=>?_)
  ·refine wf ?_
   refine B2 (.of_eq ?_)
   have e:l.any p=true:=Bu.2 ⟨l[k],AF hlt,h⟩
   rw[FE,if_pos e,IA hlt hn h]
  ·refine wf ?_
   refine⟨k+1,⟨by omega,?_⟩,by dsimp only;omega,⟨rfl,rfl,rfl,rfl⟩,.refl _⟩
   rw[A7 hlt,GG,hn]
   simp[h]
 ·refine wf ?_
  refine B2 (.of_eq ?_)
  rw[AE (by omega)]at hn
  rw[FE,if_neg (by simp[hn])]⟩
instance xv (a:Atm) (y:Ident):CB Tryz.prog 147 [.agg (eAtm a),.pt (eIdent y) 0] (.raw (.bool (decide (a.id=y)))):=⟨by
 refine Au Tryz.func147 Tryz.ntmps147 rfl (rs:= [.tmp 3]) rfl rfl fun hb LF=>?_
 refine wf ?_
 exact B2 (.refl _)⟩
theorem gb {l:List Atm} {y:Ident} (h:(l.any fun a=>decide (a.id=y))=false):l.find? (fun a=>decide (a.id=y))=none:=by
 rw[List.find?_eq_none]
 intro a ha
 have:=Bl.1 h a ha
 simpa using this
theorem ga {l:List Atm} {y:Ident} (h:(l.any fun a=>decide (a.id=y))=true): ∃ (k:Nat) (hk:k < l.length),FE (fun a=>decide (a.id=y)) l=(k:Int)∧l.find? (fun a=>decide (a.id=y))=some l[k]:=by
 have hk:l.findIdx (fun a=>decide (a.id=y)) < l.length:=by
  rw[IR]
  exact Bu.1 h
 refine⟨_,hk,by rw[FE,if_pos h],?_⟩
 rw[mc]
 refine⟨Y3 (w:=hk),_,hk,rfl,fun j hj=>?_⟩
 have:=Uf hj
 simpa using this
theorem UK (s:List Sto) (t:CF) (y:Ident) (hg:HF s):CB Tryz.prog 82 [.slice (s.map eSto) t,.agg (eIdent y)] (.tuple [.agg (eAtm ((LA s y).getD Atm.zero)),.raw (.bool (LA s y).isSome)]):=⟨by
 cases hp:getS s y.patch with
 |none=>
  have cg: ∀ t,CB Tryz.prog 17 [.slice (s.map eSto) t,.agg (eDig y.patch)] (.tuple [.agg (Bz Pat.zero),.raw (.bool false)]):=fun t=>by
   have:=KJ s t y.patch
   rw[hp]at this
   exact this
  have e:LA s y=none:=by unfold LA;rw[hp]
  rw[e]
  refine Au Tryz.func82 Tryz.ntmps82 rfl (rs:= [.cell 4 125,.tmp 5]) rfl rfl fun hb LF=>?_
  refine wf ?_
  refine C6 fun b4=>?_
  refine wz fun b6=>?_
  refine Ao 6 ?_
  refine wf ?_
  exact Jk (y:= .raw (.bool false)) rfl (.refl _)
 |some p=>
  have hb0:ED p=false:=hg.2 _ (Rv hp)
  have i1:B1 (ED p=false):=⟨hb0⟩
  have cg: ∀ t,CB Tryz.prog 17 [.slice (s.map eSto) t,.agg (eDig y.patch)] (.tuple [.agg (Bz p),.raw (.bool true)]):=fun t=>by
   have:=KJ s t y.patch
   rw[hp]at this
   exact this
  have ci:=fun t=>gI 147 [.pt (eIdent y) 0] (fun a=>decide (a.id=y)) (El p).1 t
  have e:LA s y=(El p).1.find? fun a=>decide (a.id=y):=by unfold LA;rw[hp]
  rw[e]
  cases hany:(El p).1.any fun a=>decide (a.id=y)with
  |false=>
   have ci2: ∀ t,CB Tryz.prog 146 [.slice ((El p).1.map eAtm) t,.clo 147 [.pt (eIdent y) 0]] (.raw (.int .i64 (-1))):=fun t=>by
    have:=ci t
    rw[FE,if_neg (by rw[hany];decide)]at this
    exact this
   rw[gb hany]
   refine Au Tryz.func82 Tryz.ntmps82 rfl (rs:= [.cell 4 125,.tmp 5]) rfl rfl fun hb LF=>?_
   refine wf ?_
   refine C6 fun b4=>?_
   refine wz fun b6=>?_
   refine Ao 6 ?_
   refine wf ?_
   exact Jk (y:= .raw (.bool false)) rfl (.refl _)
  |true=>
   obtain⟨k,hk,e1,e2⟩:=ga hany
   have ci2: ∀ t,CB Tryz.prog 146 [.slice ((El p).1.map eAtm) t,.clo 147 [.pt (eIdent y) 0]] (.raw (.int .i64 (k:Int))):=fun t=>by
    have:=ci t
    rw[e1]at this
    exact this
   rw[e2]
   refine Au Tryz.func82 Tryz.ntmps82 rfl (rs:= [.cell 4 125,.tmp 5]) rfl rfl fun hb LF=>?_
   refine wf ?_
   refine C6 fun b4=>?_
   refine wz fun b6=>?_
   refine Ao 6 ?_
   refine wf ?_
   exact Jk (y:= .raw (.bool true)) rfl (.refl _)⟩
instance yT:ZV Tryz.prog 71 (Jr eIdent) []:=Y8 (v:= .slice none 0 0) (by kernel_rfl) fun _=> .nilR
theorem aL {s:List Sto} (v:BH s) (t:CF) (y:Ident):CB Tryz.prog 83 [.slice (s.map eSto) t,.agg (eIdent y)] (.raw (.bool (OG s y))):=⟨by
 have cf:=fun t=>UK s t y v.close.1
 cases hs:(LA s y).isSome with
 |false=>
  rw[hs]at cf
  have e:OG s y=false:=by unfold OG;rw[hs];rfl
  rw[e]
  refine Au Tryz.func83 Tryz.ntmps83 rfl (rs:= [.tmp 4]) rfl rfl fun hb LF=>?_
  refine wz fun b5=>?_
  refine Ao 5 ?_
  refine wn ?_
  refine Bj 9 ?_ ?_
  ·decide+kernel
  refine wf ?_
  exact B2 (.refl _)
 |true=>
  rw[hs]at cf
  have ck:=fun t=>bp v t
  have e:OG s y=decide (y∉(GM (Lj s)).2):=by unfold OG;rw[hs];rfl
  rw[e]
  refine Au Tryz.func83 Tryz.ntmps83 rfl (rs:= [.tmp 4]) rfl rfl fun hb LF=>?_
  refine wz fun b5=>?_
  refine Ao 5 ?_
  refine wn ?_
  refine Bj 9 ?_ ?_
  ·decide+kernel
  refine wf ?_
  refine Wx (ek:=kIdent) (ev:=Jr eIdent) (l:=Nb (Lj s)) (k0:=y) (ay:= .agg (eIdent y)) rfl rfl ?_
  unfold Jr
  refine wf ?_
  refine B2 (.of_eq ?_)
  have hd:=gA y (Lj s)
  generalize (C4 y (Nb (Lj s))).getD []=q at hd ⊢
  congr 2
  rw[decide_eq_decide,←hd,List.eq_nil_iff_length_eq_zero]
  omega⟩
theorem TE (s:List Sto) (t:CF) (l:List Dig) (u:CF) (m:Mta) (hv:BH s) (hl:l.length≤400) (hs:s.length≤190) (hg:ED (HD s l m)=false):
  CB Tryz.prog 12 [.slice (s.map eSto) t,.slice (l.map eDig) u,.agg (FY m)] (.tuple [.slice ((Uh s l m).1.map eSto) .ro,.agg (eDig (Uh s l m).2.1),.raw (.int .i64 (Uh s l m).2.2)]):=⟨by
 have i1:B1 (BH s):=⟨hv⟩
 have i2:B1 (l.length≤400):=⟨hl⟩
 have i3:B1 (HF s):=⟨hv.close.1⟩
 have i4:B1 (s.length≤1000):=⟨by omega⟩
 have i5:B1 (ED (HD s l m)=false):=⟨hg⟩
 have cj:=fun t u=>gF s t l u m hv
 refine Au Tryz.func12 Tryz.ntmps12 rfl (rs:= [.tmp 6,.cell 7 31,.tmp 8]) rfl rfl fun hb LF=>?_
 refine wf ?_
 refine C6 fun b7=>?_
 refine wf ?_
 refine AW (fun h1=>?_) (fun h1=>?_)
 ·have e:Uh s l m=([],Dig.zero,7):=by unfold Uh;rw[if_pos (by simpa using h1)]
  rw[e]
  refine wf ?_
  refine O7 rfl ?_
  exact .tuple3 (.ro _ _) (.refl _) (.refl _)
 have h1:DW (ids s) l=true:=by simpa using h1
 refine wf ?_
 refine BZ [(15,.raw (.bool (decide (l.length=0∨pz s l=false)))),(0,.slice (s.map eSto) t),(1,.slice (l.map eDig) u),(5,.pt (FY m) 0),(7,.raw (.pointer (some ⟨b7,0,none⟩)))] (.box b7 31 (eDig Dig.zero)::LF) ?_ ?_
 ·repeat' (first|(refine A6 (fun h=>?_) (fun h=>?_)<;>refine wf ?_)|(refine AY (fun h=>?_) (fun h=>?_)<;>refine wf ?_)|(refine AW (fun h=>?_) (fun h=>?_)<;>refine wf ?_)|(refine Av (fun h=>?_) (fun h=>?_)<;>(have h2:=h;(try simp only[AB,A8,AJ,AL]at h2);refine wf ?_)))
  all_goals (refine⟨⟨CD (by rfl) ?_,rfl,rfl,rfl,rfl⟩,.refl _⟩;first|(simp_all;done)|(simp_all;omega)|grind)
 refine wf ?_
 refine A6 (fun h2=>?_) (fun h2=>?_)
 ·have e:Uh s l m=([],Dig.zero,1):=by unfold Uh;rw[if_neg (by simp[h1]),if_pos h2]
  rw[e]
  refine wf ?_
  refine O7 rfl ?_
  exact .tuple3 (.ro _ _) (.refl _) (.refl _)
 refine wf ?_
 refine AW (fun h3=>?_) (fun h3=>?_)
 ·have e:Uh s l m=([],Dig.zero,19):=by unfold Uh;rw[if_neg (by simp[h1]),if_neg h2,if_pos h3]
  rw[e]
  refine wf ?_
  refine O7 rfl ?_
  exact .tuple3 (.ro _ _) (.refl _) (.refl _)
 have e:Uh s l m=FC (Ju s l) (HD s l m):=by unfold Uh;rw[if_neg (by simp[h1]),if_neg h2,if_neg (by simp[h3])]
 rw[e]
 have i6:B1 (BH (Ju s l)):=⟨hv.out h3⟩
 refine wn ?_
 refine QU [false,false,false,false,false,false,false,false,false,false,false,false,true,false] ?_ ?_
 ·decide+kernel
 refine wf ?_
 refine O7 rfl ?_
 exact .refl _⟩
end Go.Proofs
namespace Go.Proofs
open Go Go.Q Go.Sort
theorem kz (s:List Sto) (l:List Dig): ∀ (b:List Dig) (q:List (Dig × Int) × Int × List Chg × List Dig),∃ post,(b.foldl (jP s l) q).2.2.1=q.2.2.1++post
 | [],q=>⟨[],by simp⟩
 |d::b,q=>by
  obtain⟨post,e⟩:=kz s l b (jP s l q d)
  rw[BM,e]
  unfold jP
  split
  ·exact⟨_,AU _ _ _⟩
  ·exact⟨post,rfl⟩
theorem br (s:List Sto) (l:List Dig) {k:Dig}: ∀ (b:List Dig) (q:List (Dig × Int) × Int × List Chg × List Dig),k∉b→C4 k (b.foldl (jP s l) q).1=C4 k q.1
 | [],q,_=>rfl
 |d::b,q,h=>by
  rw[BM,br s l b _ fun hb=>h (AH _ hb)]
  unfold jP
  split
  ·dsimp only
   rw[Ei,if_neg fun e=>h (by rw[e];exact AG)]
  ·rfl
theorem BH.cnt_sum {s:List Sto} (v:BH s) {x:Sto} (hx:x∈s):Go.Proofs.cntS s x.id=(x.patch.changes.map cntC).sum:=by
 have hp:=EN (Fj (v.id x hx).1).1
 rw[v.cntS hx,hp.cnt]
 unfold CP
 rw[AE (Ah _)]
theorem bt {s:List Sto} (v:BH s) (l:List Dig): ∀ (b:List Dig) (q:List (Dig × Int) × Int × List Chg × List Dig),(∀ d∈b,d∈ids s)→q.2.1=((q.2.2.1.map cntC).sum:Nat)→(b.foldl (jP s l) q).2.1=(((b.foldl (jP s l) q).2.2.1.map cntC).sum:Nat)
 | [],q,_,h=>h
 |d::b,q,hb,h=>by
  rw[BM]
  refine bt v l b _ (fun e he=>hb e (AH _ he)) ?_
  unfold jP
  split
  ·obtain⟨x,hx,rfl⟩:=AQ.1 (hb d AG)
   dsimp only
   have e1:((x.patch.changes.map (Eo (fJ (Cn x.id q.2.1 q.1) x.id))).map cntC)=x.patch.changes.map cntC:=by
    rw[CG]
    exact CC fun c _=>UV _ c
   rw[v.getS hx,BU,Ak,DC,e1,v.cnt_sum hx,h]
   omega
  ·exact h
theorem rh (s:List Sto) (l:List Dig): ∀ (o:List Dig) (q:List (Dig × Int) × Int × List Chg × List Dig) (j:Nat),j < (o.foldl (jP s l) q).2.2.1.length→j < q.2.2.1.length∨ ∃ a d b,o=a++d::b∧d∈l∧ ∃ i,i < ((getS s d).getD Pat.zero).changes.length∧j=(a.foldl (jP s l) q).2.2.1.length+i
 | [],q,j,h=> .inl h
 |d::o,q,j,h=>by
  rcases rh s l o (jP s l q d) j h with h|⟨a,d',b,rfl,hd,i,hi,e⟩
  ·unfold jP at h
   split at h
   ·rename_i hl
    dsimp only at h
    rw[AA,AR]at h
    by_cases hj:j < q.2.2.1.length
    ·exact .inl hj
    ·exact .inr ⟨[],d,o,rfl,hl,j - q.2.2.1.length,by omega,by simp only[Ho];omega⟩
   ·exact .inl h
  ·exact .inr ⟨d::a,d',b,rfl,hd,i,hi,e⟩
def QW (s:List Sto) (l:List Dig) (id:Dig) (y:Ident):Ident:=match C4 y.patch ((BK s).foldl (jP s l) ([],0,[],[])).1 with
 |some k=>⟨id,k+y.n⟩
 |none=>y
theorem lH (a b:List Chg) (i:Nat):CP (a++b) (a.length+i)=(a.map cntC).sum+CP b i:=by
 unfold CP
 rw[J4,Ak,DC]
theorem gQ {a b:List Chg} {i:Nat} (h:i≤a.length):CP (a++b) i=CP a i:=by
 unfold CP
 rw[Fq h]
theorem lG (f:Ident→Ident) (a:List Chg) (i:Nat):CP (a.map (Eo f)) i=CP a i:=by
 unfold CP
 rw[←aa,CG]
 congr 1
 exact CC fun c _=>UV f c
theorem fw {s:List Sto} (v:BH s) {x:Sto} (hx:x∈s) {i:Nat} (hi:i < x.patch.changes.length):x.patch.changes[i]=Eo (fun y=>y) x.patch.changes[i]:=by
 have hp:=EN (Fj (v.id x hx).1).1
 exact(fv ⟨fun _ _=>rfl,fun _ _=>rfl,fun _=>rfl,fun _=>rfl,fun _ _=>rfl⟩ rfl (Tl (hp.fields i hi))).symm
theorem JN {κ α:Type} [DecidableEq κ] {k:κ} {l:List (κ × α)} (h:k∉l.map (·.1)):C4 k l=none:=by
 cases hg:C4 k l with
 |none=>rfl
 |some x=>exact absurd (AQ.2 ⟨_,Jg hg,rfl⟩) h
theorem IB.in_ {s:List Sto} (v:BH s) {l:List Dig} {m:Mta} {id:Dig} {x:Sto} (hx:x∈s) (hl:x.id∈l) {a b:List Dig} (e:BK s=a++x.id::b) {i:Nat} (hi:i < x.patch.changes.length):
  NK (QW s l id) x ⟨id,HD s l m⟩ i ((a.foldl (jP s l) ([],0,[],[])).2.2.1.length+i):=by
 have hsame:=(Oo v l).laid
 have hnd:=(C8 s).nodup
 have hsub:=(C8 s).sub
 rw[e]at hnd hsub
 obtain⟨hna,hnb,hab⟩:=EH.1 hnd
 obtain⟨hxb,_⟩:=Bf.1 hnb
 have hcnt:=bt v l a ([],0,[],[]) (fun d hd=>hsub d (Dc _ hd)) rfl
 obtain⟨q,hq⟩: ∃ q,q=a.foldl (jP s l) ([],0,[],[]):=⟨_,rfl⟩
 have hr:(BK s).foldl (jP s l) ([],0,[],[])=b.foldl (jP s l) (jP s l q x.id):=by
  rw[e,BO,BM,hq]
 have hj:jP s l q x.id=(Cn x.id q.2.1 q.1,q.2.1+Go.Proofs.cntS s x.id,q.2.2.1++x.patch.changes.map (Eo (fJ (Cn x.id q.2.1 q.1) x.id)),q.2.2.2++x.patch.deps.filter fun e=>decide (¬e∈l)):=by
  unfold jP
  rw[if_pos hl,v.getS hx];rfl
 obtain⟨post,hpost⟩:=kz s l b (jP s l q x.id)
 have hch:(HD s l m).changes=q.2.2.1++(x.patch.changes.map (Eo (fJ (Cn x.id q.2.1 q.1) x.id))++post):=by
  unfold HD
  dsimp only
  rw[hr,hpost,hj,AU]
 have hfin: ∀ k,k∉b→C4 k ((BK s).foldl (jP s l) ([],0,[],[])).1=C4 k (Cn x.id q.2.1 q.1):=fun k hk=>by
  rw[hr,br s l b _ hk,hj]
 have hpos: ∀ k n,C4 k ((BK s).foldl (jP s l) ([],0,[],[])).1=Option.some n→0≤n:=fun k n h=>(hsame.le _ (Jg h)).1
 have hxg:C4 x.id (Cn x.id q.2.1 q.1)=Option.some q.2.1:=by rw[Ei,if_pos rfl]
 rw[←hq]at hcnt ⊢
 have hjl:q.2.2.1.length+i < (HD s l m).changes.length:=by
  rw[hch,AA,AA,AR];omega
 refine⟨hi,hjl,fJ (Cn x.id q.2.1 q.1) x.id,?_,fun y hy=>?_,fun k hk=>?_⟩
 ·dsimp only
  simp only[hch]
  rw[Bk (by omega),BC (by rw[AR];omega),BN]
  simp only[zM]
 ·dsimp only
  rcases v.over_at hx hi hy with ⟨y1,y2,_,y4⟩|⟨y1,y2,y3,_,_⟩
  ·have ho:Ea y=true:=GL.2 ⟨y1,y2⟩
   have hf:=hfin x.id hxb
   rw[hxg]at hf
   have h0:=hpos _ _ hf
   rw[y4]
   unfold QW fJ
   rw[if_pos ho,hxg]
   dsimp only
   rw[hf,if_pos y2]
   unfold Cr
   rw[if_pos ⟨rfl,by dsimp only;omega⟩]
  ·have ho:Ea y=false:=by
    cases h:Ea y with
    |false=>rfl
    |true=>exact absurd (GL.1 h).1 y1
   have hb:y.patch∉b:=fun hb=>by
    have r:=v.rank hx y3
    unfold PF at r
    have hxa:x.id∉a:=fun h=>hab _ h _ AG rfl
    have hya:y.patch∉a:=fun h=>hab _ h _ (AH _ hb) rfl
    rw[e,List.idxOf_append,List.idxOf_append,if_neg hxa,if_neg hya,List.idxOf_cons_self]at r
    omega
   have hf:=hfin _ hb
   rw[y2]
   unfold QW fJ
   rw[if_neg (by simp[ho]),hf]
   cases hg:C4 y.patch (Cn x.id q.2.1 q.1)with
   |none=>
    dsimp only
    unfold Cr
    rw[if_neg fun k=>y1 k.1]
   |some n=>
    rw[hg]at hf
    have h0:=hpos _ _ hf
    have hn:0≤y.n:=by
     rcases v.over_at hx hi hy with ⟨z1,_⟩|⟨_,_,_,_,_,_,_,h,_⟩
     ·exact absurd z1 y1
     ·exact h
    dsimp only
    rw[if_pos hn]
    unfold Cr
    rw[if_pos ⟨rfl,by dsimp only;omega⟩]
 ·dsimp only
  have hf:=hfin x.id hxb
  rw[hxg]at hf
  unfold QW
  dsimp only
  rw[hf,hch,lH,gQ (by rw[AR];omega),lG]
  dsimp only
  congr 1
  omega
theorem MB {s:List Sto} (v:BH s) {l:List Dig} {id:Dig} {y:Ident} (h:y.patch∉l):QW s l id y=y:=by
 unfold QW
 rw[JN fun k=>h (((Oo v l).keys _).1 k).2]
theorem IB.renamed {s:List Sto} (v:BH s) {l:List Dig} {m:Mta} {t:List Sto} {id:Dig} (h:IB s l m t id):R6 s t (QW s l id):=by
 have hsame:=Oo v l
 have hin: ∀ x∈s,x.id∈l→ ∃ k,C4 x.id ((BK s).foldl (jP s l) ([],0,[],[])).1=Option.some k:=fun x hx hl=>Qf ((hsame.keys _).2 ⟨v.mem_order (AQ.2 ⟨x,hx,rfl⟩),hl⟩)
 have hnew:(⟨id,HD s l m⟩:Sto)∈t:=by rw[h.is];exact HC.2 (.inl rfl)
 have hout: ∀ z∈s,z.id∉l→z∈t∧z.id≠id:=fun z hz hl=>⟨by rw[h.is];exact HC.2 (.inr (Qb.2 ⟨hz,hl⟩)),fun e=>h.fresh.new (e ▸ AQ.2 ⟨z,Qb.2 ⟨hz,hl⟩,rfl⟩)⟩
 have stay: ∀ z∈s,z.id∉l→ ∀ i (hi:i < z.patch.changes.length),NK (QW s l id) z z i i:=fun z hz hl i hi=>by
  refine⟨hi,hi,fun y=>y,fw v hz hi,fun y hy=>?_,fun k hk=>MB v hl⟩
  dsimp only
  refine(MB v ?_).symm
  rcases v.over_at hz hi hy with ⟨_,_,_,e⟩|⟨_,e,n,_,_⟩
  ·rw[e];exact hl
  ·rw[e]
   have:=Bl.1 h.need z hz
   simp only[hl,decide_false,Bool.not_false,EK,Bu,AB,not_exists,not_and]at this
   exact this _ n
 refine⟨fun x hx n hn y hy k hk e=>?_,fun x hx i hi=>?_,fun z hz j hj=>?_⟩
 ·by_cases hl:x.id∈l
  ·obtain⟨a,ha⟩:=hin x hx hl
   by_cases hl2:y.id∈l
   ·obtain⟨b,hb⟩:=hin y hy hl2
    unfold QW at e
    dsimp only at e
    rw[ha,hb]at e
    have e:a+(n:Int)=b+k:=congrArg Ident.n e
    by_cases hxy:x.id=y.id
    ·rw[hxy,hb]at ha
     cases ha
     exact⟨hxy,by omega⟩
    ·have:=hsame.laid.apart _ (Jg ha) _ (Jg hb) hxy
     dsimp only at this
     rw[v.cntS hx,v.cntS hy]at this
     omega
   ·rw[MB v (y:=⟨y.id,k⟩) hl2]at e
    unfold QW at e
    dsimp only at e
    rw[ha]at e
    exact absurd (congrArg Ident.patch e).symm (hout y hy hl2).2
  ·rw[MB v (y:=⟨x.id,n⟩) hl]at e
   by_cases hl2:y.id∈l
   ·obtain⟨b,hb⟩:=hin y hy hl2
    unfold QW at e
    dsimp only at e
    rw[hb]at e
    exact absurd (congrArg Ident.patch e) (hout x hx hl).2
   ·rw[MB v (y:=⟨y.id,k⟩) hl2]at e
    have:=congrArg Ident.n e
    dsimp only at this
    exact⟨congrArg Ident.patch e,by omega⟩
 ·by_cases hl:x.id∈l
  ·obtain⟨a,b,e⟩:=cz (v.mem_order (AQ.2 ⟨x,hx,rfl⟩))
   exact⟨_,hnew,_,IB.in_ v hx hl e hi⟩
  ·exact⟨x,(hout x hx hl).1,i,stay x hx hl i hi⟩
 ·rw[h.is]at hz
  rcases HC.1 hz with rfl|hz
  ·dsimp only at hj
   have hj':j < ((BK s).foldl (jP s l) ([],0,[],[])).2.2.1.length:=hj
   rcases rh s l (BK s) ([],0,[],[]) j hj' with h'|⟨a,d,b,e,hd,i,hi,rfl⟩
   ·exact absurd h' (DK _)
   ·obtain⟨x,hx,rfl⟩:=AQ.1 ((C8 s).sub d (by rw[e];simp))
    rw[v.getS hx,BU]at hi
    exact⟨x,hx,i,IB.in_ v hx hd e hi⟩
  ·obtain⟨h1,h2⟩:=Qb.1 hz
   exact⟨z,h1,j,stay z h1 h2 j hj⟩
theorem oZ {s:List Sto} (v:BH s) {l:List Dig} {id:Dig} {a b:List Dig} {d:Dig} (e:BK s=a++d::b) (hl:d∈l) (n:Int):QW s l id ⟨d,n⟩=⟨id,(a.foldl (jP s l) ([],0,[],[])).2.1+n⟩:=by
 have hnd:=(C8 s).nodup
 rw[e]at hnd
 obtain⟨_,hnb,_⟩:=EH.1 hnd
 obtain⟨hdb,_⟩:=Bf.1 hnb
 have hr:(BK s).foldl (jP s l) ([],0,[],[])=b.foldl (jP s l) (jP s l (a.foldl (jP s l) ([],0,[],[])) d):=by
  rw[e,BO,BM]
 have hg:C4 d ((BK s).foldl (jP s l) ([],0,[],[])).1=some (a.foldl (jP s l) ([],0,[],[])).2.1:=by
  rw[hr,br s l b _ hdb]
  generalize a.foldl (jP s l) ([],0,[],[])=q
  unfold jP
  rw[if_pos hl]
  dsimp only
  rw[Ei,if_pos rfl]
 unfold QW
 dsimp only
 rw[hg]
theorem pK {s:List Sto} {l:List Dig} {q:List (Dig × Int) × Int × List Chg × List Dig} {d:Dig}:(jP s l q d).2.1=if d∈l then q.2.1+cntS s d else q.2.1:=by
 unfold jP
 split
 ·rfl
 ·rfl
theorem IB.cnt {s:List Sto} (v:BH s) {l:List Dig} {m:Mta} {t:List Sto} {id:Dig} (h:IB s l m t id):((BK s).foldl (jP s l) ([],0,[],[])).2.1=Hg (HD s l m):=by
 have hp:=EN (Fj h.fresh.id.1).1
 dsimp only at hp
 rw[bt v l (BK s) _ (C8 s).sub rfl,hp.cnt]
 unfold CP
 rw[AE (Ah _)]
 rfl
theorem IB.get {s:List Sto} {l:List Dig} {m:Mta} {t:List Sto} {id:Dig} (h:IB s l m t id):getS t id=Option.some (HD s l m):=by
 have hv:=h.val
 rw[h.is]at hv ⊢
 exact XT hv
end Go.Proofs
namespace Go.Proofs
open Go Go.Q
attribute [local irreducible] ER AV Gw BA Fc
def cQ (c:Chg):Nat:=if c.kind=5 then 2*c.lines.length+1 else 1
theorem ug {c:Chg} (h1:1≤c.kind) (h7:c.kind≤7):cntC c=cQ c:=by
 unfold cntC cQ Ca
 by_cases k1:c.kind=1
 ·simp[k1]
 by_cases k2:c.kind=2
 ·simp[k2]
 by_cases k3:c.kind=3
 ·simp[k3]
 by_cases k4:c.kind=4
 ·simp[k4]
 by_cases k6:c.kind=6
 ·simp[k6]
 by_cases k7:c.kind=7
 ·simp[k7]
 have k5:c.kind=5:=by omega
 simp[k5]
 omega
theorem BH.kinds {s:List Sto} (v:BH s) {x:Sto} (hx:x∈s): ∀ c∈x.patch.changes,1≤c.kind∧c.kind≤7:=fun c hc=>by
 have hp:=EN (Fj (v.id x hx).1).1
 obtain⟨i,hi,rfl⟩:=AZ.1 hc
 have:=hp.fields i hi
 unfold C3 at this
 split at this
 ·omega
 ·rename_i h
  omega
instance (m:Mta) (ds:List Dig) (cs:List Chg) (tg:CF):Jm (.agg (ia m ds cs tg)) (.agg (Bz ⟨m.author,m.message,m.time,ds,cs⟩)):=⟨rf m ds cs tg⟩
instance (m:Mta) (ds:List Dig) (cs:List Chg) (tg:CF):Cx (ia m ds cs tg) 5:=⟨rfl⟩
instance zu (m:Mta) (ds:List Dig) (cs:List Chg) (tg:CF):At (ia m ds cs tg) 4 (.slice (cs.map eChg) tg):=⟨rfl⟩
end Go.Proofs
