/- Contracts of the program: a branch or a tag put into its list. Printed by a program. -/
import Derived.Test.YtpebdiofdfpooaaGreatDoorWas
import Derived.Test.YtpebdiofdfpooaaGreatDoorWar
import Derived.Test.YtpebdiofdfpooaaGreatDoorWan
import Derived.Test.YtpebdiofdfpooaaGreatDoorWag
import Derived.Test.YtpebdiofdfpooaaGreatDoorWao
import Derived.Test.YtpebdiofdfpooaaGreatDoorWam
import Derived.Test.YtpebdiofdfpooaaGreatDoorWap
import Derived.Test.YtpebdiofdfpooaaGreatDoorWaq
set_option linter.unusedSimpArgs false
set_option linter.unusedVariables false
set_option maxHeartbeats 8000000
namespace Go.Proofs
open Go Go.Q
attribute [local irreducible] EB AW GJ B2 FW
instance qn (x y:Brn):Bj Tryz.prog 143 [.agg (eBrn y),.pt [rB] 0,.pt (eBrn x) 0] (.raw (.bool (Gq x.name y.name))):=⟨by
 refine Aj Tryz.func143 Tryz.ntmps143 rfl (rs:= [.tmp 4]) rfl rfl fun hb LF=>?_
 refine wf ?_
 refine oV (ax:= .str y.name) (ay:= .str x.name) rfl rfl ?_
 refine wf ?_
 exact Al (.refl _)⟩
theorem dj (l:List Brn) (t:CZ) (x:Brn) (ha:O8 Brn.name l) (hn: ∀ y∈l,y.name≠x.name) (hl:l.length≤200):Bj Tryz.prog 88 [.slice (l.map eBrn) t,rB,.agg (eBrn x)] (.slice ((Jg Brn.name l x).map eBrn) .ro):=⟨by
 have c1:=fun t=>RF 143 [.pt [rB] 0,.pt (eBrn x) 0] (fun y:Brn=>Gq x.name y.name) l t
 rw[Y2 ha hn]at c1
 have hp:=Nq Brn.name l x.name
 rw[QK Brn.name hn]
 generalize IK Brn.name l x.name=p at c1 hp ⊢
 refine Aj Tryz.func88 Tryz.ntmps88 rfl (rs:= [.tmp 6]) rfl rfl fun hb LF=>?_
 refine wf ?_
 refine DD (σ:=Unit) (fun _=>True) (fun _=> [(0,.slice (l.map eBrn) t),(5,.pt (eBrn x) 0),(7,.raw (.int .i64 (p:Int)))]) (fun _=>LF) ?_ ?_
 ·by_cases h:p=l.length
  ·rw[if_pos h]
   refine wf ?_
   exact⟨(),trivial,⟨rfl,rfl,by subst h;rfl⟩,.refl _⟩
  ·rw[if_neg h]
   refine A1 (fun h2=>?_) (fun h2=>?_)
   ·omega
   refine wf ?_
   exact⟨(),trivial,⟨rfl,rfl,rfl⟩,.refl _⟩
 intro _ _
 refine wn ?_
 refine Db [1,4,5] (by decide+kernel) ?_
 refine Ai 0 ?_
 refine Ai 2 ?_
 refine Ai 3 ?_
 have hxl:((l.take p++x::l.drop p).map eBrn).length≤201:=by
  simp only[AF,A7,AG,AH,Ab];omega
 refine C3 (fuel:=3) [1,4] (by decide+kernel) (by simp) fun i hi=>?_
 simp only[AI,Ar,or_false]at hi
 rcases hi with rfl|rfl
 ·refine⟨_,rfl,?_⟩
  refine Bn (xs:= [.tmp 15]) [] LF (f:=94) (cs:= []) (Bu _) rfl rfl (.refl _) _ (Kk l t (by omega)) fun r R0 ⟨v0,e1,hv0⟩=>?_
  subst e1
  refine AE ?_
  refine Af 2 4 ?_
  refine Jz (cs:=eBrn x) (.agg _) (by simp) (by decide) fun b=>?_
  refine AE ?_
  refine Af 1 5 ?_
  refine Bn (xs:= [.tmp 16,.tmp 17,.tmp 19]) (R0++ [Res.box b 78 (eBrn x)]) LF (f:=144) (cs:= []) (Bu _) rfl rfl (by rw[AL];exact BA.symm) _ (Pr v0 l R0 hv0 p hp (by omega) b x) fun r L' ⟨v2,R2,e1,hv2,e2⟩=>?_
  subst e1;rw[e2]
  refine AE ?_
  refine Af 0 6 ?_
  refine wo ?_
  refine AE ?_
  refine C5 (by decide+kernel) ?_
  refine Gz 6 hv2 ⟨by unfold maxN;omega,by unfold maxN;omega⟩ (by rw[AL]) rfl ?_
  refine wf ?_
  exact Al (.refl _)
 ·refine⟨_,rfl,?_⟩
  refine Jz (cs:=eBrn x) (.agg _) (by simp) (by decide) fun b=>?_
  refine AE ?_
  refine Af 2 1 ?_
  refine Bn (xs:= [.tmp 15]) [] (.box b 78 (eBrn x)::LF) (f:=94) (cs:= []) (Bu _) rfl rfl (.refl _) _ (Kk l t (by omega)) fun r R0 ⟨v0,e1,hv0⟩=>?_
  subst e1
  refine AE ?_
  refine Af 1 5 ?_
  refine Bn (xs:= [.tmp 16,.tmp 17,.tmp 19]) (R0++ [Res.box b 78 (eBrn x)]) LF (f:=144) (cs:= []) (Bu _) rfl rfl (by rw[AL];exact .refl _) _ (Pr v0 l R0 hv0 p hp (by omega) b x) fun r L' ⟨v2,R2,e1,hv2,e2⟩=>?_
  subst e1;rw[e2]
  refine AE ?_
  refine Af 0 6 ?_
  refine wo ?_
  refine AE ?_
  refine C5 (by decide+kernel) ?_
  refine Gz 6 hv2 ⟨by unfold maxN;omega,by unfold maxN;omega⟩ (by rw[AL]) rfl ?_
  refine wf ?_
  exact Al (.refl _)⟩
instance qm (x y:Tgg):Bj Tryz.prog 147 [.agg (eTgg y),.pt [rA] 0,.pt (eTgg x) 0] (.raw (.bool (Gq x.name y.name))):=⟨by
 refine Aj Tryz.func147 Tryz.ntmps147 rfl (rs:= [.tmp 4]) rfl rfl fun hb LF=>?_
 refine wf ?_
 refine oV (ax:= .str y.name) (ay:= .str x.name) rfl rfl ?_
 refine wf ?_
 exact Al (.refl _)⟩
theorem di (l:List Tgg) (t:CZ) (x:Tgg) (ha:O8 Tgg.name l) (hn: ∀ y∈l,y.name≠x.name) (hl:l.length≤200):Bj Tryz.prog 95 [.slice (l.map eTgg) t,rA,.agg (eTgg x)] (.slice ((Jg Tgg.name l x).map eTgg) .ro):=⟨by
 have c1:=fun t=>RE 147 [.pt [rA] 0,.pt (eTgg x) 0] (fun y:Tgg=>Gq x.name y.name) l t
 rw[Y2 ha hn]at c1
 have hp:=Nq Tgg.name l x.name
 rw[QK Tgg.name hn]
 generalize IK Tgg.name l x.name=p at c1 hp ⊢
 refine Aj Tryz.func95 Tryz.ntmps95 rfl (rs:= [.tmp 6]) rfl rfl fun hb LF=>?_
 refine wf ?_
 refine DD (σ:=Unit) (fun _=>True) (fun _=> [(0,.slice (l.map eTgg) t),(5,.pt (eTgg x) 0),(7,.raw (.int .i64 (p:Int)))]) (fun _=>LF) ?_ ?_
 ·by_cases h:p=l.length
  ·rw[if_pos h]
   refine wf ?_
   exact⟨(),trivial,⟨rfl,rfl,by subst h;rfl⟩,.refl _⟩
  ·rw[if_neg h]
   refine A1 (fun h2=>?_) (fun h2=>?_)
   ·omega
   refine wf ?_
   exact⟨(),trivial,⟨rfl,rfl,rfl⟩,.refl _⟩
 intro _ _
 refine wn ?_
 refine Db [1,4,5] (by decide+kernel) ?_
 refine Ai 0 ?_
 refine Ai 2 ?_
 refine Ai 3 ?_
 have hxl:((l.take p++x::l.drop p).map eTgg).length≤201:=by
  simp only[AF,A7,AG,AH,Ab];omega
 refine C3 (fuel:=3) [1,4] (by decide+kernel) (by simp) fun i hi=>?_
 simp only[AI,Ar,or_false]at hi
 rcases hi with rfl|rfl
 ·refine⟨_,rfl,?_⟩
  refine Bn (xs:= [.tmp 15]) [] LF (f:=92) (cs:= []) (Bu _) rfl rfl (.refl _) _ (NS l t (by omega)) fun r R0 ⟨v0,e1,hv0⟩=>?_
  subst e1
  refine AE ?_
  refine Af 2 4 ?_
  refine Jz (cs:=eTgg x) (.agg _) (by simp) (by decide) fun b=>?_
  refine AE ?_
  refine Af 1 5 ?_
  refine Bn (xs:= [.tmp 16,.tmp 17,.tmp 19]) (R0++ [Res.box b 80 (eTgg x)]) LF (f:=148) (cs:= []) (Bu _) rfl rfl (by rw[AL];exact BA.symm) _ (Pq v0 l R0 hv0 p hp (by omega) b x) fun r L' ⟨v2,R2,e1,hv2,e2⟩=>?_
  subst e1;rw[e2]
  refine AE ?_
  refine Af 0 6 ?_
  refine wo ?_
  refine AE ?_
  refine C5 (by decide+kernel) ?_
  refine Gz 6 hv2 ⟨by unfold maxN;omega,by unfold maxN;omega⟩ (by rw[AL]) rfl ?_
  refine wf ?_
  exact Al (.refl _)
 ·refine⟨_,rfl,?_⟩
  refine Jz (cs:=eTgg x) (.agg _) (by simp) (by decide) fun b=>?_
  refine AE ?_
  refine Af 2 1 ?_
  refine Bn (xs:= [.tmp 15]) [] (.box b 80 (eTgg x)::LF) (f:=92) (cs:= []) (Bu _) rfl rfl (.refl _) _ (NS l t (by omega)) fun r R0 ⟨v0,e1,hv0⟩=>?_
  subst e1
  refine AE ?_
  refine Af 1 5 ?_
  refine Bn (xs:= [.tmp 16,.tmp 17,.tmp 19]) (R0++ [Res.box b 80 (eTgg x)]) LF (f:=148) (cs:= []) (Bu _) rfl rfl (by rw[AL];exact .refl _) _ (Pq v0 l R0 hv0 p hp (by omega) b x) fun r L' ⟨v2,R2,e1,hv2,e2⟩=>?_
  subst e1;rw[e2]
  refine AE ?_
  refine Af 0 6 ?_
  refine wo ?_
  refine AE ?_
  refine C5 (by decide+kernel) ?_
  refine Gz 6 hv2 ⟨by unfold maxN;omega,by unfold maxN;omega⟩ (by rw[AL]) rfl ?_
  refine wf ?_
  exact Al (.refl _)⟩
end Go.Proofs
namespace Go.Q
open Go
theorem iJ {P:Program} {N E sz:Nat} {c:Code} {Q:PPost} {ρ:Env} {L:List Res} (i:Nat) (hi:ρ i= .slice [] .nil) (k: ∀ v,E7 E sz v [] []→EB P N c Q (CT ρ i (.raw v)) L):EB P N c Q ρ L:=fun ro base a w g hs=>by
 have hj:=hs.agr.slot i
 rw[hi]at hj
 obtain⟨o,ho,e⟩: ∃ o:Option Addr,(∀ a,o=some a→a.spot=none)∧a.tmps.getD i undef= .slice o 0 0:=by
  generalize a.tmps.getD i undef=v at hj
  cases hj with
  |nilN o ho=>exact⟨o,ho,rfl⟩
  |slice sz f hl hc hm hs hH hv ht hn=>exact absurd rfl hn
 refine k _ (.nil o ho) ro base a w g ⟨hs.ro,hs.low,⟨hs.agr.size,hs.agr.defers,fun j=>?_⟩,hs.inv⟩
 by_cases ej:j=i
 ·subst ej
  rw[C4,e];exact .raw _
 ·rw[GM _ _ ej];exact hs.agr.slot j
section
variable {P:Program} {N:Nat} {all:Array Oper} {K:Env→List Res→Prop} {fl:List Bool} {os:List Oper} {ρ:Env} {L:List Res} {d:Nat} {ty:TypeId} {pos:String} {af:Array Edge}
theorem Xf {T E sz by_:Nat} [hT:VK P T E sz by_] (hz: ∀ i z,P.info? E=some i→i.zero=some z→ ∀ x∈z.cells,x.oneCell'=true) {x:Operand} {r off n c:Nat} {cs:List PV} {L':List Res} (F:Res→List Res) (hx:ρ.ev x= .raw (.slice (some ⟨r,off,none⟩) n c)) (hn:0 < n) (hle:off+n*sz≤cs.length)
  (hp:L.Perm (.box r E cs::L')) (hq: ∀ c,(c::L').Perm (F c))
  (k: ∀ zs:List PV,zs.length=n*sz→AW P N all K fl.tail os ρ (F (.box r E (cs.take off++zs++cs.drop (off+n*sz))))) (hfl:fl.headD true=true:=by rfl):
  AW P N all K fl (⟨none,.call { callee:= .builtin .clear,args:= #[x],argTypes:= #[T] },ty,pos,af,none⟩::os) ρ L:=
 Dp rfl (fun _ e=>by cases e) hfl (FW.perm hp fun a w g ha hi0=>by
  have h1:=CW ha (x:=x) (by simp[Op.operands,Call.operands]) hx
  obtain⟨i,z,t1,t2,t3,t4,t5,t6,t7,t8⟩:=hT.out
  obtain⟨us,hus,hi⟩:=hi0.boxRaw
  have hul:=hus.len
  obtain⟨k1,k2,k3,k4,k5⟩:=hi.rawHead
  have hzl:(Builtin.zeroCells z.cells n).toList.length=n*sz:=by rw[C8,size_zeroCells,t6]
  have hz1: ∀ x∈(Builtin.zeroCells z.cells n).toList,x.oneCell'=true:=fun x hx=>by
   simp only[Builtin.zeroCells,Array.toList_map,AX]at hx
   obtain⟨j,_,rfl⟩:=hx
   have hj:j % z.cells.size < z.cells.size:=bB _ (by rw[t6];omega)
   rw[getElem!_pos z.cells _ hj]
   exact hz i z t2 t5 _ (Array.getElem_mem hj)
  obtain⟨w',hrun,hb',hos,htp,hout,hsz,hk⟩:=Eg (P:=P) (Builtin.zeroCells z.cells n).toList w us off 0 k1 (by rw[hzl];omega) hz1
  have he:execOp a.eval ⟨none,.call { callee:= .builtin .clear,args:= #[x],argTypes:= #[T] },ty,pos,af,none⟩=(do pure (.value (←Builtin.clear_ #[T] ty (#[x].map a.eval)))):=rfl
  have hr:(execOp a.eval ⟨none,.call { callee:= .builtin .clear,args:= #[x],argTypes:= #[T] },ty,pos,af,none⟩).run P w= .ok (.value (.tuple #[])) w':=by
   rw[he]
   obtain⟨m,rfl⟩: ∃ m,n=m+1:=⟨n - 1,by omega⟩
   simp[Builtin.clear_,h1,run_underlying t1,zeroValue,typeInfo,t2,t5,hrun]
  rw[DR,hzl]at hb'
  have hi2:=hi.turnRaw hb' hk
  have hbox:=DM.rawBox (cs:=cs.take off++(Builtin.zeroCells z.cells n).toList.map .raw++cs.drop (off+n*sz)) hi2 (by
   simpa using ((hus.take off).append (E5.raws g (Builtin.zeroCells z.cells n).toList)).append (hus.drop (off+n*sz)))
  refine Oper.wq_of_run hr ?_
  exact⟨_,.raw _,g,_,rfl,.raw _,hbox.perm (hq _),⟨hos,htp,hout,Dd hsz.symm,fun b _ hn=>hk b (fun e=>hn (by simp[Ao,Res.block,e])),.refl g,fun _ _ _=>⟨fun _=>rfl,rfl⟩⟩,
   fun b hb _=>by
    have:=(DC (hq _)).symm.subset hb
    simpa [Ao,Res.block]using this,k _ (by rw[AF,hzl])⟩)
end
end Go.Q
namespace Go.Proofs
open Go Go.Q
attribute [local irreducible] EB AW B2 FW
theorem l8: ∀ i z,Tryz.prog.info? 47=some i→i.zero=some z→ ∀ x∈z.cells,x.oneCell'=true:=by
 have h:(Tryz.prog.info? 47).map (fun i=>(i.zero.getD undef).cells.all (·.oneCell'))=some true:=by kernel_rfl
 intro i z hi hz x hx
 rw[hi]at h
 simp only[FB,hz,BO,Fh,E8]at h
 exact h x hx
theorem ah (F:Nat) (cs:List PV) (p:Dig→Bool) [hF:Av Tryz.prog F] [hp: ∀ d,Bj Tryz.prog F (.agg (eDig d)::cs) (.raw (.bool (p d)))] (l:List Dig) (v:Value) (R:List Res) (hv:E7 45 32 v (l.map eDig) R) (hl:l.length≤1000000):
  B2 Tryz.prog 72 [.raw v,.clo F cs] R (fun r L'=> ∃ v',r= .raw v'∧E7 45 32 v' ((l.filter fun d=>!p d).map eDig) L'):=by
 refine Bt Tryz.func72 rfl Tryz.ntmps72 (rs:= [.tmp 4]) rfl rfl fun hb LF=>?_
 have hsz: ∀ (m:List Dig),∀ e∈m.map eDig,e.length=32:=fun m e he=>by obtain⟨a,_,rfl⟩:=AX.1 he;simp
 have hmx:(l.map eDig).length≤maxN∧(l.map eDig).length*32≤maxN:=by
  have:maxN=140737488355328:=rfl
  rw[AF];omega
 refine wf ?_
 refine Bn (xs:= [.tmp 8,.tmp 9]) R LF (f:=135) (cs:= []) (Bu _) rfl rfl (.refl _) _ (E7.lend hv [] [.clo F cs] hmx (Uk F cs p l .ro).out) fun r L' ⟨e1,e2⟩=>?_
 subst e1 e2
 refine wf ?_
 refine A1 (fun h1=>?_) (fun h1=>?_)
 ·have hn:l.any p=false:=by
   cases h:l.any p with
   |false=>rfl
   |true=>have:=(ML p l).2.2 h;omega
  have e:(l.filter fun d=>!p d)=l:=by
   rw[O3]
   intro x hx
   have:=Ew.1 hn x hx
   simpa using this
  refine wf ?_
  exact⟨trivial,_,_,.cons (.tmp 4) .nil,.refl _,v,rfl,by rw[e];exact hv⟩
 have ha:l.any p=true:=by
  cases h:l.any p with
  |true=>rfl
  |false=>exact absurd (by rw[EK,if_neg (by simp[h])]) h1
 have hi0:l.findIdx p < l.length:=Hn.2 (Bg.1 ha)
 have hix:EK p l=(l.findIdx p:Nat):=by rw[EK,if_pos ha]
 have hf0:(l.take (l.findIdx p))=(l.take (l.findIdx p+1)).filter fun d=>!p d:=by
  have hlast:p l[l.findIdx p]=true:=List.findIdx_getElem
  rw[A6 hi0,DI,HP (by simp[hlast]),K6,B1,O3.2]
  intro x hx
  obtain⟨k,hk,rfl⟩:=EI.1 hx
  have:=xo (p:=p) (xs:=l) (i:=k) (by omega)
  simpa using this
 rw[hix]
 generalize hg:l.findIdx p=i0 at hi0 hf0
 obtain⟨⟨o,c,rfl⟩,_⟩:=hv.slice
 obtain⟨r,rest,rfl,rfl,_,hlc,_,hcl⟩:=hv.inv (by rw[AF];omega)
 rw[AF]at hlc ⊢
 refine wf ?_
 refine AV (σ:=Nat × Nat × List Dig) (fun k=>k.2.1 < k.1∧k.1≤l.length∧k.2.2.length=l.length∧k.2.2.take k.2.1=(l.take k.1).filter (fun d=>!p d)∧ ∀ t,k.1≤t→k.2.2[t]? =l[t]?) (fun k=>l.length - k.1) (fun k=> [(0,.raw (.slice (some ⟨r,0,none⟩) l.length c)),(1,.clo F cs),(5,.raw (.int .i64 k.2.1)),(6,.raw (.int .i64 k.1))]) (fun k=> .box r 45 ((k.2.2.map eDig).flatten++rest)::LF) (i0+1,i0,l) ⟨by dsimp only;omega,by dsimp only;omega,rfl,hf0,fun _ _=>rfl⟩ ⟨rfl,rfl,rfl,rfl⟩ (.refl _) ?_
 rintro⟨j,i,l1⟩ ⟨hij,hj,hl1,ht,hr⟩
 dsimp only at hij hj hl1 ht hr ⊢
 refine wf ?_
 refine FO rfl ?_
 refine wf ?_
 refine A1 (fun hc=>?_) (fun hc=>?_)
 ·have hlt:j < l.length:=by omega
  have ej:l1[j]'(by omega)=l[j]:=by
   have:=hr j (B4 _)
   rw[AZ (by omega),AZ hlt]at this
   exact CF this
  have isub:VL ((l1.map eDig).flatten++rest) (0+j*32) 32 (eDig l[j]):=by
   have:=Pz (rest:=rest) (hsz l1) (i:=j) (by rw[AF];omega)
   rwa [BT,ej]at this
  refine wf ?_
  refine Gn (k:=j) rfl rfl hlt ?_
  refine S5 rfl AK (hs:=isub) ?_
  refine wf ?_
  refine BN fun b7=>?_
  refine wo ?_
  refine AE ?_
  refine Ag 7 ?_
  refine wf ?_
  refine AU (fun h=>?_) (fun h=>?_)
  ·have hpj:p l[j]=false:=by simpa using h
   have iput:Ek ((l1.map eDig).flatten++rest) (0+i*32) (eDig l[j]) (((l1.set i l[j]).map eDig).flatten++rest):=by
    have:=Q1 (rest:=rest) (new:=eDig l[j]) (hsz l1) (i:=i) (by rw[AF];omega) (by simp)
    rwa [←Tf]at this
   refine wf ?_
   refine Gn (k:=i) rfl rfl (by omega) ?_
   refine wf ?_
   refine⟨(j+1,i+1,l1.set i l[j]),⟨by dsimp only;omega,by dsimp only;omega,by dsimp only;rw[CG];exact hl1,?_,fun t h2=>?_⟩,by dsimp only;omega,⟨rfl,rfl,rfl,rfl⟩,.refl _⟩
   ·dsimp only
    rw[A6 hlt,DI,KU (by simp[hpj]),K6,←ht,A6 (by rw[CG];omega),ZE (B4 _),xy]
   ·dsimp only at h2 ⊢
    rw[Mr (by omega)]
    exact hr t (by omega)
  ·have hpj:p l[j]=true:=by simpa using h
   refine wf ?_
   refine⟨(j+1,i,l1),⟨by dsimp only;omega,by dsimp only;omega,hl1,?_,fun t h2=>hr t (by dsimp only at h2;omega)⟩,by dsimp only;omega,⟨rfl,rfl,rfl,rfl⟩,.refl _⟩
   dsimp only
   rw[A6 hlt,DI,HP (by simp[hpj]),K6,B1]
   exact ht
 have hjl:j=l.length:=by omega
 subst hjl
 rw[Cy]at ht
 have hfl:(l1.map eDig).flatten.length=l.length*32:=by rw[Cp (hsz l1),AF,hl1]
 have hfl0:(l.map eDig).flatten.length=l.length*32:=by rw[Cp (hsz l),AF]
 refine wf ?_
 refine K8 i l.length rfl (by omega) (B4 _) (by omega) hlc (fun o e=>by cases e;exact⟨_,rfl⟩) (by simp) (by simp) (fun _=>rfl) ?_
 refine Xf (E:=45) (sz:=32) (L':=LF) fW (fun x=> [x]++LF) rfl (by omega) (by rw[A7,hfl];omega) (.refl _) (fun _=> .refl _) fun zs hzs=>?_
 refine AE ?_
 refine wf ?_
 refine K8 0 i rfl (by omega) (by omega) (by omega) hlc (by simp) (fun _=>rfl) (fun o e=>by cases e;exact⟨_,rfl⟩) (by simp) ?_
 refine wf ?_
 have e0:=(MN (hsz l1) (i:=i) (by rw[AF];omega))
 have etk:((l1.map eDig).flatten++rest).take (0+i*32)=((l1.take i).map eDig).flatten:=by
  rw[B3,FX (by rw[hfl];omega),ZL]
  have h2:=e0.2
  conv=>lhs;rw[e0.1]
  exact Dy h2
 have hlt:(l1.take i).length=i:=by rw[AG];omega
 have hti:((l1.take i).map eDig).flatten.length=i*32:=by rw[Cp (hsz _),AF,hlt]
 refine⟨trivial,_,_,.cons (.tmp 4) .nil,.refl _,.slice (some ⟨r,0,none⟩) i c,?_,?_⟩
 ·show PV.raw (Value.slice (some ⟨r,0+0*32,none⟩) (i - 0) (c - 0))=_
  simp
 ·rw[←ht,etk,AL]
  refine .row (by rw[AF,hlt]) (by omega) (hsz _) ?_
  rw[A7,Ab,A7,hzs,hfl,hti]
  rw[hfl0]at hcl
  omega
theorem TN (F:Nat) (cs:List PV) (p:Sto→Bool) [hF:Av Tryz.prog F] [hp: ∀ d,Bj Tryz.prog F (.agg (eSto d)::cs) (.raw (.bool (p d)))] (l:List Sto) (v:Value) (R:List Res) (hv:E7 47 37 v (l.map eSto) R) (hl:l.length≤1000000):
  B2 Tryz.prog 54 [.raw v,.clo F cs] R (fun r L'=> ∃ v',r= .raw v'∧E7 47 37 v' ((l.filter fun d=>!p d).map eSto) L'):=by
 refine Bt Tryz.func54 rfl Tryz.ntmps54 (rs:= [.tmp 4]) rfl rfl fun hb LF=>?_
 have hsz: ∀ (m:List Sto),∀ e∈m.map eSto,e.length=37:=fun m e he=>by obtain⟨a,_,rfl⟩:=AX.1 he;simp
 have hmx:(l.map eSto).length≤maxN∧(l.map eSto).length*37≤maxN:=by
  have:maxN=140737488355328:=rfl
  rw[AF];omega
 refine wf ?_
 refine Bn (xs:= [.tmp 8,.tmp 9]) R LF (f:=111) (cs:= []) (Bu _) rfl rfl (.refl _) _ (E7.lend hv [] [.clo F cs] hmx (Uj F cs p l .ro).out) fun r L' ⟨e1,e2⟩=>?_
 subst e1 e2
 refine wf ?_
 refine A1 (fun h1=>?_) (fun h1=>?_)
 ·have hn:l.any p=false:=by
   cases h:l.any p with
   |false=>rfl
   |true=>have:=(ML p l).2.2 h;omega
  have e:(l.filter fun d=>!p d)=l:=by
   rw[O3]
   intro x hx
   have:=Ew.1 hn x hx
   simpa using this
  refine wf ?_
  exact⟨trivial,_,_,.cons (.tmp 4) .nil,.refl _,v,rfl,by rw[e];exact hv⟩
 have ha:l.any p=true:=by
  cases h:l.any p with
  |true=>rfl
  |false=>exact absurd (by rw[EK,if_neg (by simp[h])]) h1
 have hi0:l.findIdx p < l.length:=Hn.2 (Bg.1 ha)
 have hix:EK p l=(l.findIdx p:Nat):=by rw[EK,if_pos ha]
 have hf0:(l.take (l.findIdx p))=(l.take (l.findIdx p+1)).filter fun d=>!p d:=by
  have hlast:p l[l.findIdx p]=true:=List.findIdx_getElem
  rw[A6 hi0,DI,HP (by simp[hlast]),K6,B1,O3.2]
  intro x hx
  obtain⟨k,hk,rfl⟩:=EI.1 hx
  have:=xo (p:=p) (xs:=l) (i:=k) (by omega)
  simpa using this
 rw[hix]
 generalize hg:l.findIdx p=i0 at hi0 hf0
 obtain⟨⟨o,c,rfl⟩,_⟩:=hv.slice
 obtain⟨r,rest,rfl,rfl,_,hlc,_,hcl⟩:=hv.inv (by rw[AF];omega)
 rw[AF]at hlc ⊢
 refine wf ?_
 refine AV (σ:=Nat × Nat × List Sto) (fun k=>k.2.1 < k.1∧k.1≤l.length∧k.2.2.length=l.length∧k.2.2.take k.2.1=(l.take k.1).filter (fun d=>!p d)∧ ∀ t,k.1≤t→k.2.2[t]? =l[t]?) (fun k=>l.length - k.1) (fun k=> [(0,.raw (.slice (some ⟨r,0,none⟩) l.length c)),(1,.clo F cs),(5,.raw (.int .i64 k.2.1)),(6,.raw (.int .i64 k.1))]) (fun k=> .box r 47 ((k.2.2.map eSto).flatten++rest)::LF) (i0+1,i0,l) ⟨by dsimp only;omega,by dsimp only;omega,rfl,hf0,fun _ _=>rfl⟩ ⟨rfl,rfl,rfl,rfl⟩ (.refl _) ?_
 rintro⟨j,i,l1⟩ ⟨hij,hj,hl1,ht,hr⟩
 dsimp only at hij hj hl1 ht hr ⊢
 refine wf ?_
 refine FO rfl ?_
 refine wf ?_
 refine A1 (fun hc=>?_) (fun hc=>?_)
 ·have hlt:j < l.length:=by omega
  have ej:l1[j]'(by omega)=l[j]:=by
   have:=hr j (B4 _)
   rw[AZ (by omega),AZ hlt]at this
   exact CF this
  have isub:VL ((l1.map eSto).flatten++rest) (0+j*37) 37 (eSto l[j]):=by
   have:=Pz (rest:=rest) (hsz l1) (i:=j) (by rw[AF];omega)
   rwa [BT,ej]at this
  refine wf ?_
  refine Gn (k:=j) rfl rfl hlt ?_
  refine S5 rfl AK (hs:=isub) ?_
  refine wf ?_
  refine BN fun b7=>?_
  refine wo ?_
  refine AE ?_
  refine Ag 7 ?_
  refine wf ?_
  refine AU (fun h=>?_) (fun h=>?_)
  ·have hpj:p l[j]=false:=by simpa using h
   have iput:Ek ((l1.map eSto).flatten++rest) (0+i*37) (eSto l[j]) (((l1.set i l[j]).map eSto).flatten++rest):=by
    have:=Q1 (rest:=rest) (new:=eSto l[j]) (hsz l1) (i:=i) (by rw[AF];omega) (by simp)
    rwa [←Tf]at this
   refine wf ?_
   refine Gn (k:=i) rfl rfl (by omega) ?_
   refine wf ?_
   refine⟨(j+1,i+1,l1.set i l[j]),⟨by dsimp only;omega,by dsimp only;omega,by dsimp only;rw[CG];exact hl1,?_,fun t h2=>?_⟩,by dsimp only;omega,⟨rfl,rfl,rfl,rfl⟩,.refl _⟩
   ·dsimp only
    rw[A6 hlt,DI,KU (by simp[hpj]),K6,←ht,A6 (by rw[CG];omega),ZE (B4 _),xy]
   ·dsimp only at h2 ⊢
    rw[Mr (by omega)]
    exact hr t (by omega)
  ·have hpj:p l[j]=true:=by simpa using h
   refine wf ?_
   refine⟨(j+1,i,l1),⟨by dsimp only;omega,by dsimp only;omega,hl1,?_,fun t h2=>hr t (by dsimp only at h2;omega)⟩,by dsimp only;omega,⟨rfl,rfl,rfl,rfl⟩,.refl _⟩
   dsimp only
   rw[A6 hlt,DI,HP (by simp[hpj]),K6,B1]
   exact ht
 have hjl:j=l.length:=by omega
 subst hjl
 rw[Cy]at ht
 have hfl:(l1.map eSto).flatten.length=l.length*37:=by rw[Cp (hsz l1),AF,hl1]
 have hfl0:(l.map eSto).flatten.length=l.length*37:=by rw[Cp (hsz l),AF]
 refine wf ?_
 refine K8 i l.length rfl (by omega) (B4 _) (by omega) hlc (fun o e=>by cases e;exact⟨_,rfl⟩) (by simp) (by simp) (fun _=>rfl) ?_
 refine Xf (E:=47) (sz:=37) (L':=LF) l8 (fun x=> [x]++LF) rfl (by omega) (by rw[A7,hfl];omega) (.refl _) (fun _=> .refl _) fun zs hzs=>?_
 refine AE ?_
 refine wf ?_
 refine K8 0 i rfl (by omega) (by omega) (by omega) hlc (by simp) (fun _=>rfl) (fun o e=>by cases e;exact⟨_,rfl⟩) (by simp) ?_
 refine wf ?_
 have e0:=(MN (hsz l1) (i:=i) (by rw[AF];omega))
 have etk:((l1.map eSto).flatten++rest).take (0+i*37)=((l1.take i).map eSto).flatten:=by
  rw[B3,FX (by rw[hfl];omega),ZL]
  have h2:=e0.2
  conv=>lhs;rw[e0.1]
  exact Dy h2
 have hlt:(l1.take i).length=i:=by rw[AG];omega
 have hti:((l1.take i).map eSto).flatten.length=i*37:=by rw[Cp (hsz _),AF,hlt]
 refine⟨trivial,_,_,.cons (.tmp 4) .nil,.refl _,.slice (some ⟨r,0,none⟩) i c,?_,?_⟩
 ·show PV.raw (Value.slice (some ⟨r,0+0*37,none⟩) (i - 0) (c - 0))=_
  simp
 ·rw[←ht,etk,AL]
  refine .row (by rw[AF,hlt]) (by omega) (hsz _) ?_
  rw[A7,Ab,A7,hzs,hfl,hti]
  rw[hfl0]at hcl
  omega
attribute [local irreducible] GJ
theorem aW {cs r:List PV} {off n:Nat} (h:VL cs off n r) (hn:r.length=n):Ib cs off r:=⟨by obtain⟨h1,h2⟩:=h.out;subst hn;exact⟨h1,h2⟩⟩
theorem NU (r:Repo) (i:Nat) (s:List Sto) (t:CZ) (hi:i < r.branches.length) (hl:r.branches.length≤1000):
  Bj Tryz.prog 70 [.agg (Ax r),.raw (.int .i64 (i:Int)),.slice (s.map eSto) t] (.agg (Ax { r with branches:=r.branches.set i { r.branches[i]with ids:=ids s } })):=⟨by
 refine Aj Tryz.func70 Tryz.ntmps70 rfl (rs:= [.cell 6 27]) rfl rfl fun hb LF=>?_
 refine X8 fun b3=>?_
 refine BN fun b6=>?_
 refine wf ?_
 refine Bn (xs:= [.tmp 8]) [] (.box b6 27 (Ax Repo.zero):: .box b3 27 (Ax r)::LF) (f:=94) (cs:= []) (Bu _) rfl rfl (.refl _) _ (Kk r.branches .ro (by omega)) fun x R0 ⟨v0,e1,hv0⟩=>?_
 subst e1
 have hsz: ∀ e∈r.branches.map eBrn,e.length=2:=fun e he=>by obtain⟨a,_,rfl⟩:=AX.1 he;simp
 obtain⟨⟨o,c,rfl⟩,_⟩:=hv0.slice
 obtain⟨r0,rest,rfl,rfl,_,hlc,_,hcl⟩:=hv0.inv (by rw[AF];omega)
 rw[AF]at hlc ⊢
 obtain⟨v,hv⟩: ∃ v:Value,v= .slice (some ⟨r0,0,none⟩) r.branches.length c:=⟨_,rfl⟩
 obtain⟨ex,hex⟩: ∃ ex:List PV,ex= [.slice (r.pool.map eSto) .ro,.raw v,.slice (r.tags.map eTgg) .ro,.str r.current]:=⟨_,rfl⟩
 have iat:At ex 1 (.raw v):=⟨by rw[hex];rfl⟩
 have eput:(Ax r).take 1++ [.raw v]++(Ax r).drop (1+1)=ex:=by rw[hex];rfl
 rw[←hv]
 refine Qi (L':= .box b3 27 (Ax r):: .box b6 27 (Ax Repo.zero):: .box r0 78 ((r.branches.map eBrn).flatten++rest)::LF) ?_ rfl ?_ (fun h=>h)
 ·exact(List.Perm.cons _ (List.Perm.swap _ _ _)).trans (BA (l₁:= [_,_]) |>.symm)
 refine wo ?_
 refine K7 ex rfl rfl (by rw[hv];rfl) eput (by simp) ?_
 refine AE ?_
 refine wn ?_
 refine BR 7 ?_ ?_
 ·decide+kernel
 refine wo ?_
 refine Gn (k:=i) (r:=r0) (off:=0) (n:=r.branches.length) (c:=c) (by rw[←hv];rfl) rfl hi ?_
 refine wo ?_
 have hfs:=Pz (rest:=rest) hsz (i:=i) (by rw[AF];exact hi)
 rw[BT]at hfs
 have hfp:=Q1 (rest:=rest) (new:=eBrn { r.branches[i]with ids:=ids s }) hsz (i:=i) (by rw[AF];exact hi) (by simp)
 rw[←Tf]at hfp
 have hpt:=iM (aW hfs (by simp)) (Y0 r.branches[i] (ids s)) hfp
 refine LG (ay:= .slice ((ids s).map eDig) .ro) (((r.branches.set i { r.branches[i]with ids:=ids s }).map eBrn).flatten++rest) rfl rfl (EH.out) hpt.out.1 hpt.out.2 ?_
 refine AE ?_
 have hv1:E7 78 2 v ((r.branches.set i { r.branches[i]with ids:=ids s }).map eBrn) [.box r0 78 (((r.branches.set i { r.branches[i]with ids:=ids s }).map eBrn).flatten++rest)]:=by
  have hs2: ∀ e∈(r.branches.set i { r.branches[i]with ids:=ids s }).map eBrn,e.length=2:=fun e he=>by obtain⟨a,_,rfl⟩:=AX.1 he;simp
  rw[hv]
  refine .row (by rw[AF,CG]) hlc hs2 ?_
  rw[←hcl,Cp hs2,Cp hsz,AF,AF,CG]
 have hll:((r.branches.set i { r.branches[i]with ids:=ids s }).map eBrn).length≤1000:=by rw[AF,CG];exact hl
 refine Xy (b:=b3) (B:=27) (xs:=ex) (zs:=Ax { r with branches:=r.branches.set i { r.branches[i]with ids:=ids s } }) (L':= .box b6 27 (Ax Repo.zero)::LF) hv1 ⟨by unfold maxN;omega,by unfold maxN;omega⟩ ?_ (fun g us h1 h2=>?_) ?_
 ·exact BA (l₁:= [_,_]) |>.trans (List.Perm.cons _ (.refl _))
 ·rw[hex]at h2
  exact fc (A:= [.slice (r.pool.map eSto) .ro]) (B:= [.slice (r.tags.map eTgg) .ro,.str r.current]) h1 h2
 refine wf ?_
 exact FK rfl (.refl _)⟩
theorem mv (s:List Sto) (t:CZ):B2 Tryz.prog 73 [.slice (s.map eSto) t] [] (fun r L'=> ∃ v,r= .raw v∧E7 45 32 v ((ids s).map eDig) L'):=by
 refine Bt Tryz.func73 rfl Tryz.ntmps73 (rs:= [.tmp 2]) rfl rfl fun hb LF=>?_
 rw[BL]
 have hll:s.length*37≤140737488355328:=(hb (.slice (s.map eSto) t) (by simp)).slice_cells (sz:=37)
 have hsu:=fun k (hk:k < s.length)=>show ids (s.take (k+1))=ids (s.take k)++ [s[k].id] from by
  unfold ids;rw[A6 hk,Az];rfl
 have hsl:=fun k=>show(ids (s.take k)).length≤s.length from by rw[E6,AG];omega
 refine wf ?_
 refine iJ (E:=45) (sz:=32) 3 rfl fun v0 hv0=>?_
 refine AV (σ:=Nat × Value × List Res) (fun z=>z.1≤s.length∧E7 45 32 z.2.1 ((ids (s.take z.1)).map eDig) z.2.2) (fun z=>s.length - z.1) (fun z=> [(3,.raw z.2.1),(6,.slice (s.map eSto) t),(7,.raw (.int .i64 s.length)),(8,.raw (.int .i64 z.1))]) (fun z=>z.2.2++LF) (0,v0,[]) ⟨by simp,hv0⟩ ⟨rfl,rfl,rfl,rfl⟩ (.refl _) ?_
 rintro⟨k,v,R⟩ ⟨hk,hv⟩
 dsimp only at hk hv ⊢
 refine wf ?_
 refine A1 (fun hc=>?_) (fun hc=>?_)
 ·have hlt:k < s.length:=by omega
  have e1:=hsu k hlt
  have e2:=hsl k
  refine wz fun b5=>?_
  refine Ag 5 ?_
  generalize s[k]=x at e1 ⊢
  refine wf ?_
  refine QU (f:=eDig) (m:= [x.id]) (R:=R) (LF:=LF) (fun R'=>R'++LF) rfl rfl hv (.refl _) (fun R'=> .refl _) (by simp only[AF,AH,Aa];omega) (by simp only[AF,AH,Aa];omega) fun v2 R2 hv2=>?_
  rw[←Az,←e1]at hv2
  refine wf ?_
  refine wf ?_
  exact⟨(k+1,v2,R2),⟨by dsimp only;omega,hv2⟩,by dsimp only;omega,⟨rfl,rfl,rfl,rfl⟩,.refl _⟩
 ·have hkk:k=s.length:=by omega
  rw[hkk,Cy]at hv
  refine wf ?_
  exact⟨trivial,_,R,.cons (.tmp 2) .nil,.refl _,v,rfl,hv⟩
instance sY (x d:Dig):Bj Tryz.prog 134 [.agg (eDig x),.pt (eDig d) 0] (.raw (.bool (decide (x=d)))):=⟨by
 refine Aj Tryz.func134 Tryz.ntmps134 rfl (rs:= [.tmp 3]) rfl rfl fun hb LF=>?_
 refine wf ?_
 exact Al (.refl _)⟩
instance kc (x:Sto) (d:Dig):Bj Tryz.prog 179 [.agg (eSto x),.pt [.clo 134 [.pt (eDig d) 0]] 0] (.raw (.bool (decide (x.id=d)))):=⟨by
 refine Aj Tryz.func179 Tryz.ntmps179 rfl (rs:= [.tmp 3]) rfl rfl fun hb LF=>?_
 refine wf ?_
 exact Al (.refl _)⟩
theorem VZ (s:List Sto) (t:CZ) (d:Dig) (hl:s.length≤1000000):Bj Tryz.prog 133 [.slice (s.map eSto) t,.clo 134 [.pt (eDig d) 0]] (.slice ((s.filter fun x=>!decide (x.id=d)).map eSto) .ro):=⟨B2.frozenR (Uo eSto 37 (by decide) _ (by
 have:=CR (fun x:Sto=>!decide (x.id=d)) s
 omega)) (by
 refine Bt Tryz.func133 rfl Tryz.ntmps133 (rs:= [.tmp 4]) rfl rfl fun hb LF=>?_
 rw[BL]
 refine wf ?_
 refine Bn (xs:= [.tmp 5]) [] LF (f:=55) (cs:= []) (Bu _) rfl rfl (.refl _) _ (O0 s t hl) fun x R0 ⟨v0,e1,hv0⟩=>?_
 subst e1
 refine wf ?_
 refine Bn (xs:= [.tmp 6,.tmp 7]) R0 LF (f:=54) (cs:= []) (Bu _) rfl rfl (.refl _) _ (TN 179 [.pt [.clo 134 [.pt (eDig d) 0]] 0] (fun x=>decide (x.id=d)) s v0 R0 hv0 hl) fun x R1 ⟨v1,e1,hv1⟩=>?_
 subst e1
 refine wf ?_
 refine wf ?_
 exact⟨trivial,_,R1,.cons (.tmp 4) .nil,.refl _,v1,rfl,hv1⟩)⟩
theorem aE (x:Sto) (d:Dig) (hg:EA x.patch=false):Bj Tryz.prog 178 [.agg (eSto x),.pt (eDig d) 0] (.raw (.bool (!decide (x.id=d)&&decide (d∈BX x.patch)))):=⟨by
 have ig:B0 (EA x.patch=false):=⟨hg⟩
 refine Aj Tryz.func178 Tryz.ntmps178 rfl (rs:= [.tmp 3]) rfl rfl fun hb LF=>?_
 refine wf ?_
 refine Aw (fun hp=>?_) (fun hp=>?_)
 ·refine wf ?_
  refine Al (.of_eq ?_)
  rw[hp,vY]
 ·refine wf ?_
  refine Al (.of_eq ?_)
  rw[hp,Bool.false_and]⟩
theorem eC (s:List Sto) (t:CZ) (d:Dig) (hg:DX s):Bj Tryz.prog 132 [.slice (s.map eSto) t,.agg (eDig d)] (.raw (.bool (s.any fun x=>!decide (x.id=d)&&decide (d∈BX x.patch)))):=⟨by
 have c1:=fun t=>Tx 178 [.pt (eDig d) 0] (fun x:Sto=>!decide (x.id=d)&&decide (d∈BX x.patch)) s t fun x hx=>aE x d (hg.2 x hx)
 refine Aj Tryz.func132 Tryz.ntmps132 rfl (rs:= [.tmp 4]) rfl rfl fun hb LF=>?_
 refine wf ?_
 exact Al (.refl _)⟩
theorem ar {s:List Sto} (v:Cg s) (d:Dig):(s.any fun x=>!decide (x.id=d)&&decide (d∈BX x.patch))=s.any fun x=>decide (d∈BX x.patch):=by
 rw[IA,Bg,Bg]
 constructor
 ·rintro⟨x,hx,h⟩
  exact⟨x,hx,(Bool.and_eq_true_iff.1 h).2⟩
 ·rintro⟨x,hx,h⟩
  have h':=An h
  have hne: ¬x.id=d:=fun e=>by
   subst e
   have:=v.rank hx h'
   omega
  exact⟨x,hx,by simp[hne,h']⟩
theorem XE (s:List Sto) (t:CZ) (d:Dig) (v:Cg s):Bj Tryz.prog 71 [.slice (s.map eSto) t,.agg (eDig d)] (.tuple [.slice ((Om s d).1.map eSto) .ro,.raw (.int .i64 (Om s d).2)]):=⟨by
 have h200:=v.close.1.1
 have c1:=fun t=>eC s t d v.close.1
 rw[ar v]at c1
 have c2:=fun t=>VZ s t d (by omega)
 have hsome:=JT v.asc d
 refine Aj Tryz.func71 Tryz.ntmps71 rfl (rs:= [.tmp 4,.tmp 5]) rfl rfl fun hb LF=>?_
 unfold Om
 refine wz fun b6=>?_
 refine Ag 6 ?_
 refine wf ?_
 rw[hsome]
 refine AN (fun h=>?_) (fun h=>?_)
 ·rw[if_pos h]
  refine wf ?_
  refine Ei ?_;exact .tuple2 (.ro _ _) (.refl _)
 rw[if_neg (fun h2=>h2 h)]
 refine wf ?_
 refine AU (fun h=>?_) (fun h=>?_)
 ·rw[if_pos h]
  refine wf ?_
  refine Ei ?_;exact .tuple2 (.ro _ _) (.refl _)
 rw[if_neg (by simp[h])]
 refine wf ?_
 exact Ei (.refl _)⟩
theorem UD (a0 b0:List Sto) (t0 u0:CZ) (va:Cg a0) (vb:Cg b0) (hl:a0.length+b0.length≤400):Bj Tryz.prog 35 [.slice (a0.map eSto) t0,.slice (b0.map eSto) u0] (.tuple [.slice ((DN a0 b0).1.map eSto) .ro,.raw (.int .i64 (DN a0 b0).2)]):=⟨by
 refine Aj Tryz.func35 Tryz.ntmps35 rfl (rs:= [.tmp 4,.tmp 5]) rfl rfl fun hb LF=>?_
 have hmu:=ml va.asc vb.asc
 refine wf ?_
 refine Dw 37 ?_
 refine AV (σ:=(List Sto × CZ) × (List Sto × CZ) × (List Sto × CZ)) (fun k=>Hx a0 b0=(Hx k.1.1 k.2.1.1).map (k.2.2.1++ ·)∧k.1.1.length+k.2.1.1.length+k.2.2.1.length≤a0.length+b0.length∧(∀ x∈k.1.1,x∈a0)∧(∀ x∈k.2.1.1,x∈b0)) (fun k=>k.1.1.length+k.2.1.1.length) (fun k=> [(0,.slice (k.1.1.map eSto) k.1.2),(1,.slice (k.2.1.1.map eSto) k.2.1.2),(6,.slice (k.2.2.1.map eSto) k.2.2.2)]) (fun k=> .tok k.2.2.2 k.2.2.1.length 37::LF) ((a0,t0),(b0,u0),([],.nil)) ⟨by cases Hx a0 b0<;>simp,by simp,fun _ h=>h,fun _ h=>h⟩ ⟨rfl,rfl,rfl⟩ (.refl _) ?_
 rintro⟨⟨a,t⟩,⟨b,u⟩,⟨out,v⟩⟩ ⟨hm,hlen,hsa,hsb⟩
 dsimp only at hm hlen hsa hsb ⊢
 have hl0:out.length≤400:=by omega
 rcases a with _|⟨x,a⟩
 ·rcases b with _|⟨y,b⟩
  ·have e:DN a0 b0=(out,0):=by
    rw[hmu,Hx]at hm
    rw[DN,hm]
    simp only[FB,B1]
    rw[if_neg (by omega)]
   rw[e]
   refine wf ?_
   refine A1 (fun h=>?_) (fun h=>?_)
   ·omega
   refine wf ?_
   exact Ei (.tuple2 (.ro _ _) (.refl _))
  ·have g1:decide (0 < ((y::b).length:Int))=true:=Bh (by simp)
   have g2:decide (((y::b).length:Int)=0)=false:=Ca (by simp;omega)
   refine wn ?_
   refine A1 (fun _=>?_) (fun h=>absurd (An g1) h)
   refine wn ?_
   refine Da (by decide+kernel) ?_
   refine BB [(25,.raw (.bool (false))),(0,.slice (([]:List Sto).map eSto) t),(1,.slice ((y::b).map eSto) u),(6,.slice (out.map eSto) v)] (.tok v out.length 37::LF) ?_ ?_
   ·refine wf ?_
    refine⟨⟨BW (by rfl) ?_,rfl,rfl,rfl⟩,.refl _⟩
    first|rfl|(simp_all;done)|grind
   refine wn ?_
   refine Da (by decide+kernel) ?_
   refine BB [(54,.raw (.bool (true))),(0,.slice (([]:List Sto).map eSto) t),(1,.slice ((y::b).map eSto) u),(6,.slice (out.map eSto) v)] (.tok v out.length 37::LF) ?_ ?_
   ·refine wf ?_
    refine⟨⟨BW (by rfl) ?_,rfl,rfl,rfl⟩,.refl _⟩
    first|rfl|(simp_all;done)|grind
   refine wn ?_
   refine Db [4,5] (by decide+kernel) ?_
   refine Ai 0 ?_
   refine Ai 1 ?_
   refine Ai 2 ?_
   refine Ai 3 ?_
   refine Ai 6 ?_
   refine Ai 7 (hq:=fun _=>by refine Hh (i:=1) rfl rfl (by simp) ?_;refine AE ?_;exact⟨C4 _ _ _,rfl⟩) ?_
   refine Af 3 4 ?_
   refine wo ?_
   refine AE ?_
   refine Af 2 5 ?_
   refine FZ (l:=out) (m:= [y]) rfl rfl (by simp only[AH,Aa];omega) (by simp only[AH,Aa];omega) (fun t=> .here) fun v2=>?_
   refine AE ?_
   refine Af 1 8 ?_
   refine wo ?_
   refine AE ?_
   refine Af 0 9 ?_
   refine wo ?_
   refine AE ?_
   refine C5 (by decide+kernel) ?_
   refine wf ?_
   refine⟨(([],t),(b,.ro),(out++ [y],v2)),⟨?_,?_,?_,?_⟩,?_,⟨rfl,rfl,rfl⟩,.refl _⟩
   all_goals dsimp only
   ·rw[hm]
    cases b<;>simp[Hx]
   ·simp only[A7,AH,Aa]at hlen ⊢;omega
   ·exact fun z hz=>hsa z (by first|exact hz|exact AD _ hz)
   ·exact fun z hz=>hsb z (by first|exact hz|exact AD _ hz)
   ·simp only[AH,Aa];omega
 ·have g1:decide (0 < ((x::a).length:Int))=true:=Bh (by simp)
  have p1:0 < (x::a).length:=by simp
  rcases b with _|⟨y,b⟩
  ·refine wn ?_
   refine wn ?_
   refine Da (by decide+kernel) ?_
   refine BB [(25,.raw (.bool (true))),(0,.slice ((x::a).map eSto) t),(1,.slice (([]:List Sto).map eSto) u),(6,.slice (out.map eSto) v)] (.tok v out.length 37::LF) ?_ ?_
   ·refine wf ?_
    refine⟨⟨BW (by rfl) ?_,rfl,rfl,rfl⟩,.refl _⟩
    first|rfl|(simp_all;done)|grind
   refine wn ?_
   refine Db [4,5] (by decide+kernel) ?_
   refine Ai 0 ?_
   refine Ai 1 ?_
   refine Ai 2 ?_
   refine Ai 3 ?_
   refine Ai 6 ?_
   refine Ai 7 (hq:=fun _=>by refine Hh (i:=1) rfl rfl (by simp) ?_;refine AE ?_;exact⟨C4 _ _ _,rfl⟩) ?_
   refine Af 3 4 ?_
   refine wo ?_
   refine AE ?_
   refine Af 2 5 ?_
   refine FZ (l:=out) (m:= [x]) rfl rfl (by simp only[AH,Aa];omega) (by simp only[AH,Aa];omega) (fun t=> .here) fun v2=>?_
   refine AE ?_
   refine Af 1 8 ?_
   refine wo ?_
   refine AE ?_
   refine Af 0 9 ?_
   refine wo ?_
   refine AE ?_
   refine C5 (by decide+kernel) ?_
   refine wf ?_
   refine⟨((a,.ro),([],u),(out++ [x],v2)),⟨?_,?_,?_,?_⟩,?_,⟨rfl,rfl,rfl⟩,.refl _⟩
   all_goals dsimp only
   ·rw[hm]
    cases a<;>simp[Hx]
   ·simp only[A7,AH,Aa]at hlen ⊢;omega
   ·exact fun z hz=>hsa z (by first|exact hz|exact AD _ hz)
   ·exact fun z hz=>hsb z (by first|exact hz|exact AD _ hz)
   ·simp only[AH,Aa];omega
  ·have g2:decide (((y::b).length:Int)=0)=false:=Ca (by simp;omega)
   have p2:0 < (y::b).length:=by simp
   have g3:decide (((x::a).length:Int)=0)=false:=Ca (by simp;omega)
   have i1:B0 (EA x.patch=false):=⟨va.close.1.2 x (hsa x AK)⟩
   have i2:B0 (EA y.patch=false):=⟨vb.close.1.2 y (hsb y AK)⟩
   have q1:=ec x.patch y.patch
   rw[V7 i2.out i1.out (vb.id y (hsb y AK)).1 (va.id x (hsa x AK)).1]at q1
   have q2:Bj Tryz.prog 85 [.agg (Cc (x::a)[0].patch),.agg (Cc (y::b)[0].patch)] (.raw (.bool (decide (y.patch=x.patch)))):=q1
   by_cases h1:DY x.id y.id < 0
   ·have hm1:Hx (x::a) (y::b)=(Hx a (y::b)).map (x:: ·):=by rw[Hx,if_pos h1]
    refine wn ?_
    refine Da (by decide+kernel) ?_
    refine BB [(25,.raw (.bool (true))),(0,.slice ((x::a).map eSto) t),(1,.slice ((y::b).map eSto) u),(6,.slice (out.map eSto) v)] (.tok v out.length 37::LF) ?_ ?_
    ·refine wf ?_
     refine⟨⟨BW (by rfl) ?_,rfl,rfl,rfl⟩,.refl _⟩
     first|rfl|(simp_all;done)|grind
    refine wn ?_
    refine Db [4,5] (by decide+kernel) ?_
    refine Ai 0 ?_
    refine Ai 1 ?_
    refine Ai 2 ?_
    refine Ai 3 ?_
    refine Ai 6 ?_
    refine Ai 7 (hq:=fun _=>by refine Hh (i:=1) rfl rfl (by simp) ?_;refine AE ?_;exact⟨C4 _ _ _,rfl⟩) ?_
    refine Af 3 4 ?_
    refine wo ?_
    refine AE ?_
    refine Af 2 5 ?_
    refine FZ (l:=out) (m:= [x]) rfl rfl (by simp only[AH,Aa];omega) (by simp only[AH,Aa];omega) (fun t=> .here) fun v2=>?_
    refine AE ?_
    refine Af 1 8 ?_
    refine wo ?_
    refine AE ?_
    refine Af 0 9 ?_
    refine wo ?_
    refine AE ?_
    refine C5 (by decide+kernel) ?_
    refine wf ?_
    refine⟨((a,.ro),(y::b,u),(out++ [x],v2)),⟨?_,?_,?_,?_⟩,?_,⟨rfl,rfl,rfl⟩,.refl _⟩
    all_goals dsimp only
    ·rw[hm,hm1]
     cases Hx a (y::b)<;>simp
    ·simp only[A7,AH,Aa]at hlen ⊢;omega
    ·exact fun z hz=>hsa z (by first|exact hz|exact AD _ hz)
    ·exact fun z hz=>hsb z (by first|exact hz|exact AD _ hz)
    ·simp only[AH,Aa];omega
   by_cases h2:DY y.id x.id < 0
   ·have hm1:Hx (x::a) (y::b)=(Hx (x::a) b).map (y:: ·):=by rw[Hx,if_neg h1,if_pos h2]
    refine wn ?_
    refine Da (by decide+kernel) ?_
    refine BB [(25,.raw (.bool (false))),(0,.slice ((x::a).map eSto) t),(1,.slice ((y::b).map eSto) u),(6,.slice (out.map eSto) v)] (.tok v out.length 37::LF) ?_ ?_
    ·refine wf ?_
     refine⟨⟨BW (by rfl) ?_,rfl,rfl,rfl⟩,.refl _⟩
     first|rfl|(simp_all;done)|grind
    refine wn ?_
    refine Da (by decide+kernel) ?_
    refine BB [(54,.raw (.bool (true))),(0,.slice ((x::a).map eSto) t),(1,.slice ((y::b).map eSto) u),(6,.slice (out.map eSto) v)] (.tok v out.length 37::LF) ?_ ?_
    ·refine wf ?_
     refine⟨⟨BW (by rfl) ?_,rfl,rfl,rfl⟩,.refl _⟩
     first|rfl|(simp_all;done)|grind
    refine wn ?_
    refine Db [4,5] (by decide+kernel) ?_
    refine Ai 0 ?_
    refine Ai 1 ?_
    refine Ai 2 ?_
    refine Ai 3 ?_
    refine Ai 6 ?_
    refine Ai 7 (hq:=fun _=>by refine Hh (i:=1) rfl rfl (by simp) ?_;refine AE ?_;exact⟨C4 _ _ _,rfl⟩) ?_
    refine Af 3 4 ?_
    refine wo ?_
    refine AE ?_
    refine Af 2 5 ?_
    refine FZ (l:=out) (m:= [y]) rfl rfl (by simp only[AH,Aa];omega) (by simp only[AH,Aa];omega) (fun t=> .here) fun v2=>?_
    refine AE ?_
    refine Af 1 8 ?_
    refine wo ?_
    refine AE ?_
    refine Af 0 9 ?_
    refine wo ?_
    refine AE ?_
    refine C5 (by decide+kernel) ?_
    refine wf ?_
    refine⟨((x::a,t),(b,.ro),(out++ [y],v2)),⟨?_,?_,?_,?_⟩,?_,⟨rfl,rfl,rfl⟩,.refl _⟩
    all_goals dsimp only
    ·rw[hm,hm1]
     cases Hx (x::a) b<;>simp
    ·simp only[A7,AH,Aa]at hlen ⊢;omega
    ·exact fun z hz=>hsa z (by first|exact hz|exact AD _ hz)
    ·exact fun z hz=>hsb z (by first|exact hz|exact AD _ hz)
    ·simp only[AH,Aa];omega
   refine wn ?_
   refine Da (by decide+kernel) ?_
   refine BB [(25,.raw (.bool (false))),(0,.slice ((x::a).map eSto) t),(1,.slice ((y::b).map eSto) u),(6,.slice (out.map eSto) v)] (.tok v out.length 37::LF) ?_ ?_
   ·refine wf ?_
    refine⟨⟨BW (by rfl) ?_,rfl,rfl,rfl⟩,.refl _⟩
    first|rfl|(simp_all;done)|grind
   refine wn ?_
   refine Da (by decide+kernel) ?_
   refine BB [(54,.raw (.bool (false))),(0,.slice ((x::a).map eSto) t),(1,.slice ((y::b).map eSto) u),(6,.slice (out.map eSto) v)] (.tok v out.length 37::LF) ?_ ?_
   ·refine wf ?_
    refine⟨⟨BW (by rfl) ?_,rfl,rfl,rfl⟩,.refl _⟩
    first|rfl|(simp_all;done)|grind
   by_cases h3:y.patch=x.patch
   ·have hm1:Hx (x::a) (y::b)=(Hx a b).map (x:: ·):=by rw[Hx,if_neg h1,if_neg h2,if_pos h3.symm]
    refine wn ?_
    refine Da (by decide+kernel) ?_
    refine BB [(78,.raw (.bool (false))),(0,.slice ((x::a).map eSto) t),(1,.slice ((y::b).map eSto) u),(6,.slice (out.map eSto) v)] (.tok v out.length 37::LF) ?_ ?_
    ·refine wf ?_
     refine⟨⟨BW (by rfl) ?_,rfl,rfl,rfl⟩,.refl _⟩
     first|rfl|(simp_all;done)|grind
    refine wn ?_
    refine Db [4,5] (by decide+kernel) ?_
    refine Ai 0 ?_
    refine Ai 1 ?_
    refine Ai 2 ?_
    refine Ai 3 ?_
    refine Ai 6 ?_
    refine Ai 7 (hq:=fun _=>by refine Hh (i:=1) rfl rfl (by simp) ?_;refine AE ?_;exact⟨C4 _ _ _,rfl⟩) ?_
    refine Ai 8 ?_
    refine Ai 9 (hq:=fun _=>by refine Hh (i:=1) rfl rfl (by simp) ?_;refine AE ?_;exact⟨C4 _ _ _,rfl⟩) ?_
    refine Af 4 4 ?_
    refine wo ?_
    refine AE ?_
    refine Af 3 5 ?_
    refine FZ (l:=out) (m:= [x]) rfl rfl (by simp only[AH,Aa];omega) (by simp only[AH,Aa];omega) (fun t=> .here) fun v2=>?_
    refine AE ?_
    refine Af 2 10 ?_
    refine wo ?_
    refine AE ?_
    refine Af 1 11 ?_
    refine wo ?_
    refine AE ?_
    refine Af 0 12 ?_
    refine wo ?_
    refine AE ?_
    refine C5 (by decide+kernel) ?_
    refine wf ?_
    refine⟨((a,.ro),(b,.ro),(out++ [x],v2)),⟨?_,?_,?_,?_⟩,?_,⟨rfl,rfl,rfl⟩,.refl _⟩
    all_goals dsimp only
    ·rw[hm,hm1]
     cases Hx a b<;>simp
    ·simp only[A7,AH,Aa]at hlen ⊢;omega
    ·exact fun z hz=>hsa z (by first|exact hz|exact AD _ hz)
    ·exact fun z hz=>hsb z (by first|exact hz|exact AD _ hz)
    ·simp only[AH,Aa];omega
   ·have hm1:Hx (x::a) (y::b)=none:=by rw[Hx,if_neg h1,if_neg h2,if_neg fun h=>h3 h.symm]
    have e:DN a0 b0=([],14):=by
     rw[hmu,hm1]at hm
     rw[DN,hm];rfl
    rw[show(DN a0 b0).1= [] by rw[e],show(DN a0 b0).2=14 by rw[e],CX]
    refine wn ?_
    refine Da (by decide+kernel) ?_
    refine BB [(78,.raw (.bool (true))),(0,.slice ((x::a).map eSto) t),(1,.slice ((y::b).map eSto) u),(6,.slice (out.map eSto) v)] (.tok v out.length 37::LF) ?_ ?_
    ·refine wf ?_
     refine⟨⟨BW (by rfl) ?_,rfl,rfl,rfl⟩,.refl _⟩
     first|rfl|(simp_all;done)|grind
    refine wf ?_
    exact Ei (.tuple2 (.ro _ _) (.refl _))⟩
end Go.Proofs
namespace Go.Q
open Go
class y5 (P:Program) (T:Nat):Prop where
 out: ∃ td,P.underlying T=some td∧ ∀ ms,td≠ .interface ms
def iu (P:Program) (T:Nat) (m:String):Option (Bool × Option (Nat × Bool)):=(P.info? T).bind fun i=>(i.methods.find? (·.name==m)).map fun r=>(r.path.isEmpty,r.func)
class xu (P:Program) (T:Nat) (m:String) (f:outParam Nat):Prop where
 row:iu P T m=some (true,some (f,true))
 ptr: ∃ E,P.underlying T=some (.pointer E)
class xt (P:Program) (T:Nat) (m:String) (E f:outParam Nat):Prop where
 row:iu P T m=some (true,some (f,false))
 ptr:P.underlying T=some (.pointer E)
section
variable {P:Program} {N:Nat} {all:Array Oper} {K:Env→List Res→Prop} {fl:List Bool} {os:List Oper} {ρ:Env} {L:List Res} {d:Nat} {ty:TypeId} {pos:String} {af:Array Edge}
end
section
variable {κ α:Type} [DecidableEq κ] (f:α→List PV) (by_:Nat)
end
section
variable {P:Program} {N:Nat} {all:Array Oper} {K:Env→List Res→Prop} {fl:List Bool} {os:List Oper} {ρ:Env} {L:List Res} {d:Nat} {ty:TypeId} {pos:String} {af:Array Edge}
end
end Go.Q
namespace Go.Proofs
open Go Go.Q
attribute [local irreducible] EB AW GJ B2 FW
abbrev y6 (v:Value) (q:List Sto) (R:List Res):Prop:=E7 47 37 v (q.map eSto) R
end Go.Proofs
namespace Go.Q
open Go
section
variable {P:Program} {N:Nat} {all:Array Oper} {K:Env→List Res→Prop} {fl:List Bool} {os:List Oper} {ρ:Env} {L:List Res} {d:Nat} {ty:TypeId} {pos:String} {af:Array Edge}
variable {κ α:Type} [DecidableEq κ] {ek:κ→PV} {ev:α→PV} {T KT ET:Nat}
end
end Go.Q
namespace Go.Proofs
open Go Go.Q
theorem Yl {s:List Sto} {k:Nat} (hk:k < s.length) (P:Sto→Bool):(s.take (k+1)).filter P=(s.take k).filter P++if P s[k]=true then [s[k]]else []:=by
 rw[A6 hk,DI]
 congr 1
 by_cases h:P s[k]=true
 ·simp[h]
 ·simp[h]
attribute [local irreducible] EB AW GJ B2 FW
def Sf (s:List Sto):List Dig:=s.flatMap fun y=>BX y.patch
theorem aG {s:List Sto} {k:Nat} (hk:k < s.length):Sf (s.take (k+1))=Sf (s.take k)++BX s[k].patch:=by
 unfold Sf
 rw[A6 hk,Ez,List.flatMap_singleton]
theorem YJ (f:Sto→List Dig) (d:Dig): ∀ s:List Sto,decide (d∈s.flatMap f)=!(s.all fun y=>decide (d∉f y))
 | []=>by simp
 |y::s=>by
  have ih:=YJ f d s
  rw[Cn,vX,Bool.not_and,←ih]
  by_cases h1:d∈f y<;>simp[h1]
theorem lN {s:List Sto} {T:List (Dig × Bool)} (h:KR T (Sf s)) (x:Sto):(Dr x.id T).getD false=!ZT s x:=(h x.id).trans (YJ _ _ s)
def kd (s:List Sto) (k:Nat):List Dig:=((s.take k).filter (ZT s)).map (·.id)
theorem lK (s:List Sto) (k:Nat):(kd s k).length≤k:=by
 unfold kd
 rw[AF]
 refine Cd (CR _ _) ?_
 rw[AG];omega
theorem fh {s:List Sto} {k:Nat} (hk:k < s.length):kd s (k+1)=kd s k++if ZT s s[k]=true then [s[k].id]else []:=by
 unfold kd
 rw[Yl hk,Az]
 congr 1
 split<;>rfl
theorem lL (s:List Sto):kd s s.length=OM s:=by unfold kd OM;rw[Cy]
theorem fi (s:List Sto) (t:CZ) (v:Cg s) (hl:s.length≤400):Bj Tryz.prog 96 [.slice (s.map eSto) t] (.slice ((OM s).map eDig) .ro):=⟨by
 refine Aj Tryz.func96 Tryz.ntmps96 rfl (rs:= [.tmp 2]) rfl rfl fun hb LF=>?_
 refine tj fun m=>?_
 refine AV (σ:=Nat × List (Dig × Bool)) (fun z=>z.1≤s.length∧KR z.2 (Sf (s.take z.1))) (fun z=>s.length - z.1) (fun z=> [(0,.slice (s.map eSto) t),(3,.raw (.map (some m))),(12,.slice (s.map eSto) t),(13,.raw (.int .i64 s.length)),(14,.raw (.int .i64 z.1))]) (fun z=> .map m (Cq kDig vBool z.2)::LF) (0,[]) ⟨by simp,fun d=>by simp[Dr,Sf]⟩ ⟨rfl,rfl,rfl,rfl,rfl⟩ (.refl _) ?_
 rintro⟨k,T⟩ ⟨hk,hT⟩
 dsimp only at hk hT ⊢
 refine wf ?_
 refine A1 (fun hc=>?_) (fun hc=>?_)
 ·have hlt:k < s.length:=by omega
  have hxm:=AO hlt
  have i1:B0 (EA s[k].patch=false):=⟨v.close.1.2 _ hxm⟩
  have hnl:=Uf v hxm
  have hns:=aG hlt
  refine wz fun b5=>?_
  refine Ag 5 ?_
  generalize s[k]=x at hxm i1 hnl hns ⊢
  refine wf ?_
  generalize Sf (s.take k)=A at hT hns
  generalize BX x.patch=nd at hnl hns ⊢
  refine AV (σ:=Nat × List (Dig × Bool)) (fun z=>z.1≤nd.length∧KR z.2 (A++nd.take z.1)) (fun z=>nd.length - z.1) (fun z=> [(0,.slice (s.map eSto) t),(3,.raw (.map (some m))),(12,.slice (s.map eSto) t),(13,.raw (.int .i64 s.length)),(14,.raw (.int .i64 k)),(20,.slice (nd.map eDig) .ro),(21,.raw (.int .i64 nd.length)),(22,.raw (.int .i64 z.1))]) (fun z=> .map m (Cq kDig vBool z.2)::LF) (0,T) ⟨by simp,by simpa using hT⟩ ⟨rfl,rfl,rfl,rfl,rfl,rfl,rfl,rfl⟩ (.refl _) ?_
  rintro⟨j,T2⟩ ⟨hj,hT2⟩
  dsimp only at hj hT2 ⊢
  refine wf ?_
  refine A1 (fun hc=>?_) (fun hc=>?_)
  ·have hjl:j < nd.length:=by omega
   have hT3:=hT2.add nd[j]
   rw[AL,←A6 hjl]at hT3
   refine wz fun b7=>?_
   refine Ag 7 ?_
   refine wf ?_
   exact⟨(j+1,HJ nd[j] true T2),⟨by dsimp only;omega,hT3⟩,by dsimp only;omega,⟨rfl,rfl,rfl,rfl,rfl,rfl,rfl,rfl⟩,.refl _⟩
  ·rw[AA (by omega),←hns]at hT2
   refine wf ?_
   exact⟨(k+1,T2),⟨by dsimp only;omega,hT2⟩,by dsimp only;omega,⟨rfl,rfl,rfl,rfl,rfl⟩,.refl _⟩
 have hkk:k=s.length:=by omega
 subst hkk
 rw[Cy]at hT
 have htm:=lN hT
 refine wf ?_
 refine Dw 32 ?_
 refine Fy (.swap _ _ _) ?_
 refine AV (σ:=Nat × CZ) (fun z=>z.1≤s.length) (fun z=>s.length - z.1) (fun z=> [(3,.raw (.map (some m))),(8,.slice ((kd s z.1).map eDig) z.2),(30,.slice (s.map eSto) t),(31,.raw (.int .i64 s.length)),(32,.raw (.int .i64 z.1))]) (fun z=> .map m (Cq kDig vBool T):: .tok z.2 (kd s z.1).length 32::LF) (0,.nil) (by simp) ⟨rfl,rfl,rfl,rfl,rfl⟩ (.refl _) ?_
 rintro⟨k,u⟩ hk
 dsimp only at hk ⊢
 refine wf ?_
 refine A1 (fun hc=>?_) (fun hc=>?_)
 ·have hlt:k < s.length:=by omega
  have hsk:=fh hlt
  have hkl:=lK s k
  have hx:=htm s[k]
  refine wz fun b10=>?_
  refine Ag 10 ?_
  generalize s[k]=x at hsk hx ⊢
  generalize ZT s x=p at hsk hx
  refine wf ?_
  rw[hx]
  refine AU (fun h=>?_) (fun h=>?_)
  ·have hp:p=true:=by simpa using h
   rw[if_pos hp]at hsk
   generalize kd s k=A at hsk hkl ⊢
   refine QL fun u'=>?_
   refine⟨(k+1,u'),by dsimp only;omega,by dsimp only;omega,⟨rfl,?_,rfl,rfl,rfl⟩,?_⟩
   ·dsimp only;rw[hsk];rfl
   ·dsimp only;rw[hsk];exact .refl _
  ·have hp:p=false:=by simpa using h
   rw[if_neg (by simp[hp]),B1]at hsk
   refine wf ?_
   refine⟨(k+1,u),by dsimp only;omega,by dsimp only;omega,⟨rfl,?_,rfl,rfl,rfl⟩,?_⟩
   ·dsimp only;rw[hsk];rfl
   ·dsimp only;rw[hsk];exact .refl _
 ·have hkk:k=s.length:=by omega
  rw[hkk,lL]
  refine wf ?_
  exact Al (.ro _ _)⟩
theorem Ry (r:Repo) (n:Str) (hg:DX r.pool):Bj Tryz.prog 14 [.agg (Ax r),.str n] (.tuple [.slice ((PH r n).1.map eSto) .ro,.raw (.int .i64 (PH r n).2)]):=⟨by
 have c1:=Gj r hg
 refine Aj Tryz.func14 Tryz.ntmps14 rfl (rs:= [.tmp 4,.tmp 5]) rfl rfl fun hb LF=>?_
 unfold PH
 by_cases h1:EF r≠0
 ·rw[if_pos h1]
  generalize EF r=e at c1 h1 ⊢
  refine wf ?_
  refine AN (fun _=>?_) (fun h=>absurd h h1)
  refine wf ?_
  refine Ei ?_;exact .tuple2 (.ro _ _) (.refl _)
 rw[if_neg h1]
 have h1:=Ae.1 h1
 rw[h1]at c1
 have c2:=Rr r n ((FA hg).1 h1)
 cases hv:EC r n with
 |none=>
  rw[hv]at c2
  simp only[BO,De,Ea,BZ]at c2
  refine wf ?_
  refine Ei ?_;exact .tuple2 (.ro _ _) (.refl _)
 |some s=>
  rw[hv]at c2
  simp only[BO,De,Ea,BZ]at c2
  refine wf ?_
  refine Ei ?_;exact .refl _⟩
theorem ZX (r:Repo) (n:Str) (hg:DX r.pool):Bj Tryz.prog 39 [.agg (Ax r),.str n] (.tuple [.agg (Ax (Lj r n).1),.raw (.int .i64 (Lj r n).2)]):=⟨by
 have c1:=Gj r hg
 refine Aj Tryz.func39 Tryz.ntmps39 rfl (rs:= [.cell 4 27,.tmp 5]) rfl rfl fun hb LF=>?_
 unfold Lj
 refine X8 fun b2=>?_
 refine BN fun b4=>?_
 by_cases h1:EF r≠0
 ·rw[if_pos h1]
  generalize EF r=e at c1 h1 ⊢
  refine wf ?_
  refine AN (fun _=>?_) (fun h=>absurd h h1)
  refine wf ?_
  exact CJ rfl (.of_eq rfl)
 rw[if_neg h1]
 have h1:=Ae.1 h1
 rw[h1]at c1
 refine wf ?_
 refine A1 (fun h=>?_) (fun h=>?_)
 ·rw[if_pos h]
  refine wf ?_
  exact CJ rfl (.of_eq rfl)
 ·rw[if_neg h]
  refine wf ?_
  exact CJ rfl (.of_eq rfl)⟩
theorem TX (r:Repo) (n m:Str) (hg:DX r.pool):Bj Tryz.prog 37 [.agg (Ax r),.str n,.str m] (.tuple [.agg (Ax (Kl r n m).1),.raw (.int .i64 (Kl r n m).2)]):=⟨by
 have c1:=Gj r hg
 refine Aj Tryz.func37 Tryz.ntmps37 rfl (rs:= [.cell 6 27,.tmp 7]) rfl rfl fun hb LF=>?_
 unfold Kl
 refine X8 fun b3=>?_
 refine BN fun b6=>?_
 by_cases h1:EF r≠0
 ·rw[if_pos h1]
  generalize EF r=e at c1 h1 ⊢
  refine wf ?_
  refine AN (fun _=>?_) (fun h=>absurd h h1)
  refine wf ?_
  exact CJ rfl (.of_eq rfl)
 rw[if_neg h1]
 have h1:=Ae.1 h1
 rw[h1]at c1
 have v:=(FA hg).1 h1
 have c2:=Rr r m v
 refine wf ?_
 refine AU (fun h=>?_) (fun h=>?_)
 ·rw[if_pos (by simpa using h)]
  refine wf ?_
  exact CJ rfl (.of_eq rfl)
 rw[if_neg (by simpa using h)]
 have c3:=YY r n
 by_cases h2:Iq r n≠0
 ·rw[if_pos h2]
  generalize Iq r n=e at c3 h2 ⊢
  refine wf ?_
  refine AN (fun _=>?_) (fun h=>absurd h h2)
  refine wf ?_
  exact CJ rfl (.of_eq rfl)
 rw[if_neg h2]
 obtain⟨f1,f2⟩:=Oz h2
 rw[Ae.1 h2]at c3
 cases hv:EC r m with
 |none=>
  rw[hv]at c2
  simp only[BO,De,Ea,BZ]at c2
  refine wf ?_
  exact CJ rfl (.of_eq rfl)
 |some s=>
  rw[hv]at c2
  simp only[BO,De,Ea,BZ]at c2
  dsimp only
  have hl:=v.lenB
  have c4:=fun t=>Nx (dj r.branches t ⟨n,ids s⟩ v.ascB f1 (by omega))
  refine wf ?_
  refine A1 (fun h=>?_) (fun h=>?_)
  ·rw[if_pos h]
   refine wf ?_
   exact CJ rfl (.of_eq rfl)
  ·rw[if_neg h]
   refine wn ?_
   refine BR 8 ?_ ?_
   ·decide+kernel
   refine wf ?_
   exact CJ rfl (.of_eq rfl)⟩
theorem jg (r:Repo) (n:Str) (hg:DX r.pool):Bj Tryz.prog 38 [.agg (Ax r),.str n] (.tuple [.agg (Ax (TL r n).1),.raw (.int .i64 (TL r n).2)]):=⟨by
 have c1:=Gj r hg
 refine Aj Tryz.func38 Tryz.ntmps38 rfl (rs:= [.cell 4 27,.tmp 5]) rfl rfl fun hb LF=>?_
 unfold TL
 refine X8 fun b2=>?_
 refine BN fun b4=>?_
 by_cases h1:EF r≠0
 ·rw[if_pos h1]
  generalize EF r=e at c1 h1 ⊢
  refine wf ?_
  refine AN (fun _=>?_) (fun h=>absurd h h1)
  refine wf ?_
  exact CJ rfl (.of_eq rfl)
 rw[if_neg h1]
 have h1:=Ae.1 h1
 rw[h1]at c1
 have v:=(FA hg).1 h1
 have hlb:=v.lenB
 have hlt:=v.lenT
 have c2:=fun t=>eZ r.tags t n
 have c3:=fun t=>Ny r.branches t n
 by_cases hT:Bw Tgg.name r.tags n < 0
 ·refine wf ?_
  refine A1 (fun h=>?_) (fun h=>?_)
  ·omega
  clear h c2
  refine wf ?_
  by_cases hB:Bw Brn.name r.branches n < 0
  ·rw[if_pos ⟨hB,hT⟩]
   refine A1 (fun h=>?_) (fun h=>absurd hB h)
   refine wf ?_
   exact CJ rfl (.of_eq rfl)
  rw[if_neg (fun h=>hB h.1)]
  refine A1 (fun h=>absurd h hB) (fun _=>?_)
  refine wf ?_
  refine A1 (fun h=>?_) (fun h=>?_)
  ·rw[if_pos h]
   refine wf ?_
   exact CJ rfl (.of_eq rfl)
  rw[if_neg h,if_pos (by omega)]
  obtain⟨k,hk⟩: ∃ k:Nat,Bw Brn.name r.branches n=k:=⟨(Bw Brn.name r.branches n).toNat,by omega⟩
  obtain⟨hk1,_,_⟩:=Fp _ hk
  rw[hk,Br]
  refine wf ?_
  refine Bn (xs:= [.tmp 45]) [] (.box b4 27 (Ax Repo.zero):: .box b2 27 (Ax r)::LF) (f:=94) (cs:= []) (Bu _) rfl rfl (.refl _) _ (Kk r.branches .ro (by omega)) fun x R0 ⟨v0,e1,hv0⟩=>?_
  subst e1
  refine wf ?_
  refine Bn (xs:= [.tmp 46,.tmp 47,.tmp 49]) R0 (.box b4 27 (Ax Repo.zero):: .box b2 27 (Ax r)::LF) (f:=93) (cs:= []) (Bu _) rfl rfl (.refl _) _ (ai v0 r.branches R0 hv0 k hk1 (by omega)) fun x R1 ⟨e1,e2⟩=>?_
  subst e1 e2
  rw[BL]
  refine wf ?_
  exact CJ rfl (.of_eq rfl)
 ·obtain⟨k,hk⟩: ∃ k:Nat,Bw Tgg.name r.tags n=k:=⟨(Bw Tgg.name r.tags n).toNat,by omega⟩
  obtain⟨hk1,hkn,_⟩:=Fp _ hk
  have hB:Bw Brn.name r.branches n < 0:=(EZ _).2 fun b hb e=>(v.okT _ (AO hk1)).new b hb (e.trans hkn.symm)
  have hcur:n≠r.current:=by
   rintro rfl
   obtain⟨b,hb,e⟩:=v.cur
   exact(EZ _).1 hB b hb e
  rw[if_neg (fun h=>hT h.2),if_neg hcur,if_neg (by omega),hk,Br]
  rw[hk]at c2
  refine wf ?_
  refine Bn (xs:= [.tmp 22]) [] (.box b4 27 (Ax Repo.zero):: .box b2 27 (Ax r)::LF) (f:=92) (cs:= []) (Bu _) rfl rfl (.refl _) _ (NS r.tags .ro (by omega)) fun x R0 ⟨v0,e1,hv0⟩=>?_
  subst e1
  refine wf ?_
  refine Bn (xs:= [.tmp 23,.tmp 24,.tmp 26]) R0 (.box b4 27 (Ax Repo.zero):: .box b2 27 (Ax r)::LF) (f:=91) (cs:= []) (Bu _) rfl rfl (.refl _) _ (ag v0 r.tags R0 hv0 k hk1 (by omega)) fun x R1 ⟨e1,e2⟩=>?_
  subst e1 e2
  rw[BL]
  refine wf ?_
  exact CJ rfl (.of_eq rfl)⟩
theorem Rb {r:Repo} (v:ZI r) {n:Str} {k:Nat} (hk:Bw Brn.name r.branches n=k): ∃ h:k < r.branches.length,KV r n=CU r.pool r.branches[k].ids∧(∀ l,Jg Brn.name r.branches ⟨n,l⟩=r.branches.set k { r.branches[k]with ids:=l })∧r.branches.getD (Bw Brn.name r.branches n).toNat Brn.zero=r.branches[k]:=by
 obtain⟨h,e,_⟩:=Fp _ hk
 refine⟨h,?_,fun l=>?_,?_⟩
 ·unfold KV
  rw[hk,Br,ER h]
 ·rw[XB _ v.ascB h e]
  congr 1
  rw[←e]
 ·rw[hk,Br,ER h]
theorem SE (r:Repo) (n:Str) (d:Dig) (hg:DX r.pool):Bj Tryz.prog 27 [.agg (Ax r),.str n,.agg (eDig d)] (.tuple [.agg (Ax (Kc r n d).1),.raw (.int .i64 (Kc r n d).2)]):=⟨by
 have c1:=Gj r hg
 have h200:=hg.1
 have kl:B0 (r.pool.length≤1000000):=⟨by omega⟩
 refine Aj Tryz.func27 Tryz.ntmps27 rfl (rs:= [.cell 6 27,.tmp 7]) rfl rfl fun hb LF=>?_
 unfold Kc
 refine wf ?_
 refine BN fun b6=>?_
 by_cases h1:EF r≠0
 ·rw[if_pos h1]
  generalize EF r=e at c1 h1 ⊢
  refine wf ?_
  refine AN (fun _=>?_) (fun h=>absurd h h1)
  refine wf ?_
  exact CJ rfl (.of_eq rfl)
 rw[if_neg h1]
 have h1:=Ae.1 h1
 rw[h1]at c1
 have v:=(FA hg).1 h1
 have hlb:=v.lenB
 have c2:=fun t=>Ny r.branches t n
 by_cases hB:Bw Brn.name r.branches n < 0
 ·rw[if_pos hB]
  refine wf ?_
  refine A1 (fun h=>?_) (fun h=>absurd hB h)
  refine wf ?_
  exact CJ rfl (.of_eq rfl)
 rw[if_neg hB]
 obtain⟨k,hk⟩: ∃ k:Nat,Bw Brn.name r.branches n=k:=⟨(Bw Brn.name r.branches n).toNat,by omega⟩
 obtain⟨hk1,e2,e3,_⟩:=Rb v hk
 have vs:Cg (KV r n):=(v.set_view hB).2.1.vp
 rw[hk]at c2
 rw[e2]at vs ⊢
 rw[e3]
 have c3:=fun t=>XE (CU r.pool r.branches[k].ids) t d vs
 by_cases h2:(Om (CU r.pool r.branches[k].ids) d).2≠0
 ·rw[if_pos h2]
  generalize Om (CU r.pool r.branches[k].ids) d=z at c3 h2 ⊢
  refine wf ?_
  refine AN (fun _=>?_) (fun h=>absurd h h2)
  refine wf ?_
  exact CJ rfl (.of_eq rfl)
 rw[if_neg h2]
 generalize Om (CU r.pool r.branches[k].ids) d=z at c3 h2 ⊢
 obtain⟨z1,z2⟩:=z
 have h2:z2=0:=Ae.1 h2
 subst h2
 have c4:=fun t=>NU r k z1 t hk1 (by omega)
 refine wf ?_
 exact CJ rfl (.of_eq rfl)⟩
end Go.Proofs
