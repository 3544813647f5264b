/- Contracts of the program: a branch or a tag put into its list. Printed by a program. -/
import Derived.Test.YtpebdiofdfpooaaGreatDoorUas
import Derived.Test.YtpebdiofdfpooaaGreatDoorUar
import Derived.Test.YtpebdiofdfpooaaGreatDoorUan
import Derived.Test.YtpebdiofdfpooaaGreatDoorUag
import Derived.Test.YtpebdiofdfpooaaGreatDoorUao
import Derived.Test.YtpebdiofdfpooaaGreatDoorUam
import Derived.Test.YtpebdiofdfpooaaGreatDoorUap
import Derived.Test.YtpebdiofdfpooaaGreatDoorUaq
set_option linter.unusedSimpArgs false
set_option linter.unusedVariables false
set_option maxHeartbeats 8000000
namespace Go.Proofs
open Go Go.Q
attribute [local irreducible] EG AY H2 B2 FZ
instance sX (x y:Brn):Bl Tryz.prog 143 [.agg (eBrn y),.pt [sr] 0,.pt (eBrn x) 0] (.raw (.bool (Hz x.name y.name))):=⟨by
 refine Ak Tryz.func143 Tryz.ntmps143 rfl (rs:= [.tmp 4]) rfl rfl fun hb LF=>?_
 refine wf ?_
 refine qU (ax:= .str y.name) (ay:= .str x.name) rfl rfl ?_
 refine wf ?_
 exact Ah (.refl _)⟩
theorem fH (l:List Brn) (t:CW) (x:Brn) (ha:Ju Brn.name l) (hn: ∀ y∈l,y.name≠x.name) (hl:l.length≤200):Bl Tryz.prog 88 [.slice (l.map eBrn) t,sr,.agg (eBrn x)] (.slice ((Dw Brn.name l x).map eBrn) .ro):=⟨by
 have c1:=fun t=>Rr 143 [.pt [sr] 0,.pt (eBrn x) 0] (fun y:Brn=>Hz x.name y.name) l t
 rw[Yh ha hn]at c1
 have hp:=Mg Brn.name l x.name
 rw[O9 Brn.name hn]
 generalize Ik Brn.name l x.name=p at c1 hp ⊢
 refine Ak Tryz.func88 Tryz.ntmps88 rfl (rs:= [.tmp 6]) rfl rfl fun hb LF=>?_
 refine wf ?_
 refine Cz (σ:=Unit) (fun _=>True) (fun _=> [(0,.slice (l.map eBrn) t),(5,.pt (eBrn x) 0),(7,.raw (.int .i64 (p:Int)))]) (fun _=>LF) ?_ ?_
 ·by_cases h:p=l.length
  ·rw[if_pos h]
   refine wf ?_
   exact⟨(),trivial,⟨rfl,rfl,by subst h;rfl⟩,.refl _⟩
  ·rw[if_neg h]
   refine A1 (fun h2=>?_) (fun h2=>?_)
   ·omega
   refine wf ?_
   exact⟨(),trivial,⟨rfl,rfl,rfl⟩,.refl _⟩
 intro _ _
 refine wn ?_
 refine EB [1,4,5] (by decide+kernel) ?_
 refine Aw 0 ?_
 refine Aw 2 ?_
 refine Aw 3 ?_
 have hxl:((l.take p++x::l.drop p).map eBrn).length≤201:=by
  simp only[AR,A8,AV,AH,Ao];omega
 refine De (fuel:=3) [1,4] (by decide+kernel) (by simp) fun i hi=>?_
 simp only[AQ,BF,or_false]at hi
 rcases hi with rfl|rfl
 ·refine⟨_,rfl,?_⟩
  refine Bo (xs:= [.tmp 15]) [] LF (f:=94) (cs:= []) (Bx _) rfl rfl (.refl _) _ (LH l t (by omega)) fun r R0 ⟨v0,e1,hv0⟩=>?_
  subst e1
  refine AN ?_
  refine Av 2 4 ?_
  refine KL (cs:=eBrn x) (.agg _) (by simp) (by decide) fun b=>?_
  refine AN ?_
  refine Av 1 5 ?_
  refine Bo (xs:= [.tmp 16,.tmp 17,.tmp 19]) (R0++ [Res.box b 78 (eBrn x)]) LF (f:=144) (cs:= []) (Bx _) rfl rfl (by rw[AJ];exact B8.symm) _ (QT v0 l R0 hv0 p hp (by omega) b x) fun r L' ⟨v2,R2,e1,hv2,e2⟩=>?_
  subst e1;rw[e2]
  refine AN ?_
  refine Av 0 6 ?_
  refine wo ?_
  refine AN ?_
  refine Ct (by decide+kernel) ?_
  refine HC 6 hv2 ⟨by unfold maxN;omega,by unfold maxN;omega⟩ (by rw[AJ]) rfl ?_
  refine wf ?_
  exact Ah (.refl _)
 ·refine⟨_,rfl,?_⟩
  refine KL (cs:=eBrn x) (.agg _) (by simp) (by decide) fun b=>?_
  refine AN ?_
  refine Av 2 1 ?_
  refine Bo (xs:= [.tmp 15]) [] (.box b 78 (eBrn x)::LF) (f:=94) (cs:= []) (Bx _) rfl rfl (.refl _) _ (LH l t (by omega)) fun r R0 ⟨v0,e1,hv0⟩=>?_
  subst e1
  refine AN ?_
  refine Av 1 5 ?_
  refine Bo (xs:= [.tmp 16,.tmp 17,.tmp 19]) (R0++ [Res.box b 78 (eBrn x)]) LF (f:=144) (cs:= []) (Bx _) rfl rfl (by rw[AJ];exact .refl _) _ (QT v0 l R0 hv0 p hp (by omega) b x) fun r L' ⟨v2,R2,e1,hv2,e2⟩=>?_
  subst e1;rw[e2]
  refine AN ?_
  refine Av 0 6 ?_
  refine wo ?_
  refine AN ?_
  refine Ct (by decide+kernel) ?_
  refine HC 6 hv2 ⟨by unfold maxN;omega,by unfold maxN;omega⟩ (by rw[AJ]) rfl ?_
  refine wf ?_
  exact Ah (.refl _)⟩
instance sW (x y:Tgg):Bl Tryz.prog 147 [.agg (eTgg y),.pt [sq] 0,.pt (eTgg x) 0] (.raw (.bool (Hz x.name y.name))):=⟨by
 refine Ak Tryz.func147 Tryz.ntmps147 rfl (rs:= [.tmp 4]) rfl rfl fun hb LF=>?_
 refine wf ?_
 refine qU (ax:= .str y.name) (ay:= .str x.name) rfl rfl ?_
 refine wf ?_
 exact Ah (.refl _)⟩
theorem fG (l:List Tgg) (t:CW) (x:Tgg) (ha:Ju Tgg.name l) (hn: ∀ y∈l,y.name≠x.name) (hl:l.length≤200):Bl Tryz.prog 95 [.slice (l.map eTgg) t,sq,.agg (eTgg x)] (.slice ((Dw Tgg.name l x).map eTgg) .ro):=⟨by
 have c1:=fun t=>Rq 147 [.pt [sq] 0,.pt (eTgg x) 0] (fun y:Tgg=>Hz x.name y.name) l t
 rw[Yh ha hn]at c1
 have hp:=Mg Tgg.name l x.name
 rw[O9 Tgg.name hn]
 generalize Ik Tgg.name l x.name=p at c1 hp ⊢
 refine Ak Tryz.func95 Tryz.ntmps95 rfl (rs:= [.tmp 6]) rfl rfl fun hb LF=>?_
 refine wf ?_
 refine Cz (σ:=Unit) (fun _=>True) (fun _=> [(0,.slice (l.map eTgg) t),(5,.pt (eTgg x) 0),(7,.raw (.int .i64 (p:Int)))]) (fun _=>LF) ?_ ?_
 ·by_cases h:p=l.length
  ·rw[if_pos h]
   refine wf ?_
   exact⟨(),trivial,⟨rfl,rfl,by subst h;rfl⟩,.refl _⟩
  ·rw[if_neg h]
   refine A1 (fun h2=>?_) (fun h2=>?_)
   ·omega
   refine wf ?_
   exact⟨(),trivial,⟨rfl,rfl,rfl⟩,.refl _⟩
 intro _ _
 refine wn ?_
 refine EB [1,4,5] (by decide+kernel) ?_
 refine Aw 0 ?_
 refine Aw 2 ?_
 refine Aw 3 ?_
 have hxl:((l.take p++x::l.drop p).map eTgg).length≤201:=by
  simp only[AR,A8,AV,AH,Ao];omega
 refine De (fuel:=3) [1,4] (by decide+kernel) (by simp) fun i hi=>?_
 simp only[AQ,BF,or_false]at hi
 rcases hi with rfl|rfl
 ·refine⟨_,rfl,?_⟩
  refine Bo (xs:= [.tmp 15]) [] LF (f:=92) (cs:= []) (Bx _) rfl rfl (.refl _) _ (Ny l t (by omega)) fun r R0 ⟨v0,e1,hv0⟩=>?_
  subst e1
  refine AN ?_
  refine Av 2 4 ?_
  refine KL (cs:=eTgg x) (.agg _) (by simp) (by decide) fun b=>?_
  refine AN ?_
  refine Av 1 5 ?_
  refine Bo (xs:= [.tmp 16,.tmp 17,.tmp 19]) (R0++ [Res.box b 80 (eTgg x)]) LF (f:=148) (cs:= []) (Bx _) rfl rfl (by rw[AJ];exact B8.symm) _ (QS v0 l R0 hv0 p hp (by omega) b x) fun r L' ⟨v2,R2,e1,hv2,e2⟩=>?_
  subst e1;rw[e2]
  refine AN ?_
  refine Av 0 6 ?_
  refine wo ?_
  refine AN ?_
  refine Ct (by decide+kernel) ?_
  refine HC 6 hv2 ⟨by unfold maxN;omega,by unfold maxN;omega⟩ (by rw[AJ]) rfl ?_
  refine wf ?_
  exact Ah (.refl _)
 ·refine⟨_,rfl,?_⟩
  refine KL (cs:=eTgg x) (.agg _) (by simp) (by decide) fun b=>?_
  refine AN ?_
  refine Av 2 1 ?_
  refine Bo (xs:= [.tmp 15]) [] (.box b 80 (eTgg x)::LF) (f:=92) (cs:= []) (Bx _) rfl rfl (.refl _) _ (Ny l t (by omega)) fun r R0 ⟨v0,e1,hv0⟩=>?_
  subst e1
  refine AN ?_
  refine Av 1 5 ?_
  refine Bo (xs:= [.tmp 16,.tmp 17,.tmp 19]) (R0++ [Res.box b 80 (eTgg x)]) LF (f:=148) (cs:= []) (Bx _) rfl rfl (by rw[AJ];exact .refl _) _ (QS v0 l R0 hv0 p hp (by omega) b x) fun r L' ⟨v2,R2,e1,hv2,e2⟩=>?_
  subst e1;rw[e2]
  refine AN ?_
  refine Av 0 6 ?_
  refine wo ?_
  refine AN ?_
  refine Ct (by decide+kernel) ?_
  refine HC 6 hv2 ⟨by unfold maxN;omega,by unfold maxN;omega⟩ (by rw[AJ]) rfl ?_
  refine wf ?_
  exact Ah (.refl _)⟩
end Go.Proofs
namespace Go.Q
open Go
theorem jg {P:Program} {N E sz:Nat} {c:Code} {Q:PPost} {ρ:Env} {L:List Res} (i:Nat) (hi:ρ i= .slice [] .nil) (k: ∀ v,E9 E sz v [] []→EG P N c Q (CN ρ i (.raw v)) L):EG P N c Q ρ L:=fun ro base a w g hs=>by
 have hj:=hs.agr.slot i
 rw[hi]at hj
 obtain⟨o,ho,e⟩: ∃ o:Option Addr,(∀ a,o=some a→a.spot=none)∧a.tmps.getD i undef= .slice o 0 0:=by
  generalize a.tmps.getD i undef=v at hj
  cases hj with
  |nilN o ho=>exact⟨o,ho,rfl⟩
  |slice sz f hl hc hm hs hH hv ht hn=>exact absurd rfl hn
 refine k _ (.nil o ho) ro base a w g ⟨hs.ro,hs.low,⟨hs.agr.size,hs.agr.defers,fun j=>?_⟩,hs.inv⟩
 by_cases ej:j=i
 ·subst ej
  rw[CK,e];exact .raw _
 ·rw[Gb _ _ ej];exact hs.agr.slot j
section
variable {P:Program} {N:Nat} {all:Array Oper} {K:Env→List Res→Prop} {fl:List Bool} {os:List Oper} {ρ:Env} {L:List Res} {d:Nat} {ty:TypeId} {pos:String} {af:Array Edge}
theorem YL {T E sz by_:Nat} [hT:WE P T E sz by_] (hz: ∀ i z,P.info? E=some i→i.zero=some z→ ∀ x∈z.cells,x.oneCell'=true) {x:Operand} {r off n c:Nat} {cs:List PV} {L':List Res} (F:Res→List Res) (hx:ρ.ev x= .raw (.slice (some ⟨r,off,none⟩) n c)) (hn:0 < n) (hle:off+n*sz≤cs.length)
  (hp:L.Perm (.box r E cs::L')) (hq: ∀ c,(c::L').Perm (F c))
  (k: ∀ zs:List PV,zs.length=n*sz→AY P N all K fl.tail os ρ (F (.box r E (cs.take off++zs++cs.drop (off+n*sz))))) (hfl:fl.headD true=true:=by rfl):
  AY P N all K fl (⟨none,.call { callee:= .builtin .clear,args:= #[x],argTypes:= #[T] },ty,pos,af,none⟩::os) ρ L:=
 Dr rfl (fun _ e=>by cases e) hfl (FZ.perm hp fun a w g ha hi0=>by
  have h1:=CR ha (x:=x) (by simp[Op.operands,Call.operands]) hx
  obtain⟨i,z,t1,t2,t3,t4,t5,t6,t7,t8⟩:=hT.out
  obtain⟨us,hus,hi⟩:=hi0.boxRaw
  have hul:=hus.len
  obtain⟨k1,k2,k3,k4,k5⟩:=hi.rawHead
  have hzl:(Builtin.zeroCells z.cells n).toList.length=n*sz:=by rw[C9,size_zeroCells,t6]
  have hz1: ∀ x∈(Builtin.zeroCells z.cells n).toList,x.oneCell'=true:=fun x hx=>by
   simp only[Builtin.zeroCells,Array.toList_map,AU]at hx
   obtain⟨j,_,rfl⟩:=hx
   have hj:j % z.cells.size < z.cells.size:=cC _ (by rw[t6];omega)
   rw[getElem!_pos z.cells _ hj]
   exact hz i z t2 t5 _ (Array.getElem_mem hj)
  obtain⟨w',hrun,hb',hos,htp,hout,hsz,hk⟩:=Eo (P:=P) (Builtin.zeroCells z.cells n).toList w us off 0 k1 (by rw[hzl];omega) hz1
  have he:execOp a.eval ⟨none,.call { callee:= .builtin .clear,args:= #[x],argTypes:= #[T] },ty,pos,af,none⟩=(do pure (.value (←Builtin.clear_ #[T] ty (#[x].map a.eval)))):=rfl
  have hr:(execOp a.eval ⟨none,.call { callee:= .builtin .clear,args:= #[x],argTypes:= #[T] },ty,pos,af,none⟩).run P w= .ok (.value (.tuple #[])) w':=by
   rw[he]
   obtain⟨m,rfl⟩: ∃ m,n=m+1:=⟨n - 1,by omega⟩
   simp[Builtin.clear_,h1,run_underlying t1,zeroValue,typeInfo,t2,t5,hrun]
  rw[DP,hzl]at hb'
  have hi2:=hi.turnRaw hb' hk
  have hbox:=DJ.rawBox (cs:=cs.take off++(Builtin.zeroCells z.cells n).toList.map .raw++cs.drop (off+n*sz)) hi2 (by
   simpa using ((hus.take off).append (E8.raws g (Builtin.zeroCells z.cells n).toList)).append (hus.drop (off+n*sz)))
  refine Oper.wq_of_run hr ?_
  exact⟨_,.raw _,g,_,rfl,.raw _,hbox.perm (hq _),⟨hos,htp,hout,Db hsz.symm,fun b _ hn=>hk b (fun e=>hn (by simp[Al,Res.block,e])),.refl g,fun _ _ _=>⟨fun _=>rfl,rfl⟩⟩,
   fun b hb _=>by
    have:=(DA (hq _)).symm.subset hb
    simpa [Al,Res.block]using this,k _ (by rw[AR,hzl])⟩)
end
end Go.Q
namespace Go.Proofs
open Go Go.Q
attribute [local irreducible] EG AY B2 FZ
theorem mq: ∀ i z,Tryz.prog.info? 47=some i→i.zero=some z→ ∀ x∈z.cells,x.oneCell'=true:=by
 have h:(Tryz.prog.info? 47).map (fun i=>(i.zero.getD undef).cells.all (·.oneCell'))=some true:=by kernel_rfl
 intro i z hi hz x hx
 rw[hi]at h
 simp only[FG,hz,Option.getD_some,Fo,EA]at h
 exact h x hx
theorem bf (F:Nat) (cs:List PV) (p:Dig→Bool) [hF:Ax Tryz.prog F] [hp: ∀ d,Bl Tryz.prog F (.agg (eDig d)::cs) (.raw (.bool (p d)))] (l:List Dig) (v:Value) (R:List Res) (hv:E9 45 32 v (l.map eDig) R) (hl:l.length≤1000000):
  B2 Tryz.prog 72 [.raw v,.clo F cs] R (fun r L'=> ∃ v',r= .raw v'∧E9 45 32 v' ((l.filter fun d=>!p d).map eDig) L'):=by
 refine Bw Tryz.func72 rfl Tryz.ntmps72 (rs:= [.tmp 4]) rfl rfl fun hb LF=>?_
 have hsz: ∀ (m:List Dig),∀ e∈m.map eDig,e.length=32:=fun m e he=>by obtain⟨a,_,rfl⟩:=AU.1 he;simp
 have hmx:(l.map eDig).length≤maxN∧(l.map eDig).length*32≤maxN:=by
  have:maxN=140737488355328:=rfl
  rw[AR];omega
 refine wf ?_
 refine Bo (xs:= [.tmp 8,.tmp 9]) R LF (f:=135) (cs:= []) (Bx _) rfl rfl (.refl _) _ (E9.lend hv [] [.clo F cs] hmx (Vo F cs p l .ro).out) fun r L' ⟨e1,e2⟩=>?_
 subst e1 e2
 refine wf ?_
 refine A1 (fun h1=>?_) (fun h1=>?_)
 ·have hn:l.any p=false:=by
   cases h:l.any p with
   |false=>rfl
   |true=>have:=(Mq p l).2.2 h;omega
  have e:(l.filter fun d=>!p d)=l:=by
   rw[GB]
   intro x hx
   have:=FE.1 hn x hx
   simpa using this
  refine wf ?_
  exact⟨trivial,_,_,.cons (.tmp 4) .nil,.refl _,v,rfl,by rw[e];exact hv⟩
 have ha:l.any p=true:=by
  cases h:l.any p with
  |true=>rfl
  |false=>exact absurd (by rw[Ea,if_neg (by simp[h])]) h1
 have hi0:l.findIdx p < l.length:=IE.2 (BW.1 ha)
 have hix:Ea p l=(l.findIdx p:Nat):=by rw[Ea,if_pos ha]
 have hf0:(l.take (l.findIdx p))=(l.take (l.findIdx p+1)).filter fun d=>!p d:=by
  have hlast:p l[l.findIdx p]=true:=List.findIdx_getElem
  rw[A6 hi0,Du,Fq (by simp[hlast]),KU,B6,GB.2]
  intro x hx
  obtain⟨k,hk,rfl⟩:=Dm.1 hx
  have:=zC (p:=p) (xs:=l) (i:=k) (by omega)
  simpa using this
 rw[hix]
 generalize hg:l.findIdx p=i0 at hi0 hf0
 obtain⟨⟨o,c,rfl⟩,_⟩:=hv.slice
 obtain⟨r,rest,rfl,rfl,_,hlc,_,hcl⟩:=hv.inv (by rw[AR];omega)
 rw[AR]at hlc ⊢
 refine wf ?_
 refine AW (σ:=Nat × Nat × List Dig) (fun k=>k.2.1 < k.1∧k.1≤l.length∧k.2.2.length=l.length∧k.2.2.take k.2.1=(l.take k.1).filter (fun d=>!p d)∧ ∀ t,k.1≤t→k.2.2[t]? =l[t]?) (fun k=>l.length - k.1) (fun k=> [(0,.raw (.slice (some ⟨r,0,none⟩) l.length c)),(1,.clo F cs),(5,.raw (.int .i64 k.2.1)),(6,.raw (.int .i64 k.1))]) (fun k=> .box r 45 ((k.2.2.map eDig).flatten++rest)::LF) (i0+1,i0,l) ⟨by dsimp only;omega,by dsimp only;omega,rfl,hf0,fun _ _=>rfl⟩ ⟨rfl,rfl,rfl,rfl⟩ (.refl _) ?_
 rintro⟨j,i,l1⟩ ⟨hij,hj,hl1,ht,hr⟩
 dsimp only at hij hj hl1 ht hr ⊢
 refine wf ?_
 refine FS rfl ?_
 refine wf ?_
 refine A1 (fun hc=>?_) (fun hc=>?_)
 ·have hlt:j < l.length:=by omega
  have ej:l1[j]'(by omega)=l[j]:=by
   have:=hr j (B5 _)
   rw[AZ (by omega),AZ hlt]at this
   exact BX this
  have isub:Xl ((l1.map eDig).flatten++rest) (0+j*32) 32 (eDig l[j]):=by
   have:=QY (rest:=rest) (hsz l1) (i:=j) (by rw[AR];omega)
   rwa [BT,ej]at this
  refine wf ?_
  refine H5 (k:=j) rfl rfl hlt ?_
  refine Sl rfl AI (hs:=isub) ?_
  refine wf ?_
  refine BR fun b7=>?_
  refine wo ?_
  refine AN ?_
  refine Ag 7 ?_
  refine wf ?_
  refine AO (fun h=>?_) (fun h=>?_)
  ·have hpj:p l[j]=false:=by simpa using h
   have iput:Et ((l1.map eDig).flatten++rest) (0+i*32) (eDig l[j]) (((l1.set i l[j]).map eDig).flatten++rest):=by
    have:=QZ (rest:=rest) (new:=eDig l[j]) (hsz l1) (i:=i) (by rw[AR];omega) (by simp)
    rwa [←UJ]at this
   refine wf ?_
   refine H5 (k:=i) rfl rfl (by omega) ?_
   refine wf ?_
   refine⟨(j+1,i+1,l1.set i l[j]),⟨by dsimp only;omega,by dsimp only;omega,by dsimp only;rw[Bm];exact hl1,?_,fun t h2=>?_⟩,by dsimp only;omega,⟨rfl,rfl,rfl,rfl⟩,.refl _⟩
   ·dsimp only
    rw[A6 hlt,Du,Kv (by simp[hpj]),KU,←ht,A6 (by rw[Bm];omega),Zt (B5 _),Uz]
   ·dsimp only at h2 ⊢
    rw[NQ (by omega)]
    exact hr t (by omega)
  ·have hpj:p l[j]=true:=by simpa using h
   refine wf ?_
   refine⟨(j+1,i,l1),⟨by dsimp only;omega,by dsimp only;omega,hl1,?_,fun t h2=>hr t (by dsimp only at h2;omega)⟩,by dsimp only;omega,⟨rfl,rfl,rfl,rfl⟩,.refl _⟩
   dsimp only
   rw[A6 hlt,Du,Fq (by simp[hpj]),KU,B6]
   exact ht
 have hjl:j=l.length:=by omega
 subst hjl
 rw[Cu]at ht
 have hfl:(l1.map eDig).flatten.length=l.length*32:=by rw[Cg (hsz l1),AR,hl1]
 have hfl0:(l.map eDig).flatten.length=l.length*32:=by rw[Cg (hsz l),AR]
 refine wf ?_
 refine KZ i l.length rfl (by omega) (B5 _) (by omega) hlc (fun o e=>by cases e;exact⟨_,rfl⟩) (by simp) (by simp) (fun _=>rfl) ?_
 refine YL (E:=45) (sz:=32) (L':=LF) gv (fun x=> [x]++LF) rfl (by omega) (by rw[A8,hfl];omega) (.refl _) (fun _=> .refl _) fun zs hzs=>?_
 refine AN ?_
 refine wf ?_
 refine KZ 0 i rfl (by omega) (by omega) (by omega) hlc (by simp) (fun _=>rfl) (fun o e=>by cases e;exact⟨_,rfl⟩) (by simp) ?_
 refine wf ?_
 have e0:=(Mu (hsz l1) (i:=i) (by rw[AR];omega))
 have etk:((l1.map eDig).flatten++rest).take (0+i*32)=((l1.take i).map eDig).flatten:=by
  rw[B4,Fc (by rw[hfl];omega),aA]
  have h2:=e0.2
  conv=>lhs;rw[e0.1]
  exact E1 h2
 have hlt:(l1.take i).length=i:=by rw[AV];omega
 have hti:((l1.take i).map eDig).flatten.length=i*32:=by rw[Cg (hsz _),AR,hlt]
 refine⟨trivial,_,_,.cons (.tmp 4) .nil,.refl _,.slice (some ⟨r,0,none⟩) i c,?_,?_⟩
 ·show PV.raw (Value.slice (some ⟨r,0+0*32,none⟩) (i - 0) (c - 0))=_
  simp
 ·rw[←ht,etk,AJ]
  refine .row (by rw[AR,hlt]) (by omega) (hsz _) ?_
  rw[A8,Ao,A8,hzs,hfl,hti]
  rw[hfl0]at hcl
  omega
theorem U2 (F:Nat) (cs:List PV) (p:Sto→Bool) [hF:Ax Tryz.prog F] [hp: ∀ d,Bl Tryz.prog F (.agg (eSto d)::cs) (.raw (.bool (p d)))] (l:List Sto) (v:Value) (R:List Res) (hv:E9 47 37 v (l.map eSto) R) (hl:l.length≤1000000):
  B2 Tryz.prog 54 [.raw v,.clo F cs] R (fun r L'=> ∃ v',r= .raw v'∧E9 47 37 v' ((l.filter fun d=>!p d).map eSto) L'):=by
 refine Bw Tryz.func54 rfl Tryz.ntmps54 (rs:= [.tmp 4]) rfl rfl fun hb LF=>?_
 have hsz: ∀ (m:List Sto),∀ e∈m.map eSto,e.length=37:=fun m e he=>by obtain⟨a,_,rfl⟩:=AU.1 he;simp
 have hmx:(l.map eSto).length≤maxN∧(l.map eSto).length*37≤maxN:=by
  have:maxN=140737488355328:=rfl
  rw[AR];omega
 refine wf ?_
 refine Bo (xs:= [.tmp 8,.tmp 9]) R LF (f:=111) (cs:= []) (Bx _) rfl rfl (.refl _) _ (E9.lend hv [] [.clo F cs] hmx (Vn F cs p l .ro).out) fun r L' ⟨e1,e2⟩=>?_
 subst e1 e2
 refine wf ?_
 refine A1 (fun h1=>?_) (fun h1=>?_)
 ·have hn:l.any p=false:=by
   cases h:l.any p with
   |false=>rfl
   |true=>have:=(Mq p l).2.2 h;omega
  have e:(l.filter fun d=>!p d)=l:=by
   rw[GB]
   intro x hx
   have:=FE.1 hn x hx
   simpa using this
  refine wf ?_
  exact⟨trivial,_,_,.cons (.tmp 4) .nil,.refl _,v,rfl,by rw[e];exact hv⟩
 have ha:l.any p=true:=by
  cases h:l.any p with
  |true=>rfl
  |false=>exact absurd (by rw[Ea,if_neg (by simp[h])]) h1
 have hi0:l.findIdx p < l.length:=IE.2 (BW.1 ha)
 have hix:Ea p l=(l.findIdx p:Nat):=by rw[Ea,if_pos ha]
 have hf0:(l.take (l.findIdx p))=(l.take (l.findIdx p+1)).filter fun d=>!p d:=by
  have hlast:p l[l.findIdx p]=true:=List.findIdx_getElem
  rw[A6 hi0,Du,Fq (by simp[hlast]),KU,B6,GB.2]
  intro x hx
  obtain⟨k,hk,rfl⟩:=Dm.1 hx
  have:=zC (p:=p) (xs:=l) (i:=k) (by omega)
  simpa using this
 rw[hix]
 generalize hg:l.findIdx p=i0 at hi0 hf0
 obtain⟨⟨o,c,rfl⟩,_⟩:=hv.slice
 obtain⟨r,rest,rfl,rfl,_,hlc,_,hcl⟩:=hv.inv (by rw[AR];omega)
 rw[AR]at hlc ⊢
 refine wf ?_
 refine AW (σ:=Nat × Nat × List Sto) (fun k=>k.2.1 < k.1∧k.1≤l.length∧k.2.2.length=l.length∧k.2.2.take k.2.1=(l.take k.1).filter (fun d=>!p d)∧ ∀ t,k.1≤t→k.2.2[t]? =l[t]?) (fun k=>l.length - k.1) (fun k=> [(0,.raw (.slice (some ⟨r,0,none⟩) l.length c)),(1,.clo F cs),(5,.raw (.int .i64 k.2.1)),(6,.raw (.int .i64 k.1))]) (fun k=> .box r 47 ((k.2.2.map eSto).flatten++rest)::LF) (i0+1,i0,l) ⟨by dsimp only;omega,by dsimp only;omega,rfl,hf0,fun _ _=>rfl⟩ ⟨rfl,rfl,rfl,rfl⟩ (.refl _) ?_
 rintro⟨j,i,l1⟩ ⟨hij,hj,hl1,ht,hr⟩
 dsimp only at hij hj hl1 ht hr ⊢
 refine wf ?_
 refine FS rfl ?_
 refine wf ?_
 refine A1 (fun hc=>?_) (fun hc=>?_)
 ·have hlt:j < l.length:=by omega
  have ej:l1[j]'(by omega)=l[j]:=by
   have:=hr j (B5 _)
   rw[AZ (by omega),AZ hlt]at this
   exact BX this
  have isub:Xl ((l1.map eSto).flatten++rest) (0+j*37) 37 (eSto l[j]):=by
   have:=QY (rest:=rest) (hsz l1) (i:=j) (by rw[AR];omega)
   rwa [BT,ej]at this
  refine wf ?_
  refine H5 (k:=j) rfl rfl hlt ?_
  refine Sl rfl AI (hs:=isub) ?_
  refine wf ?_
  refine BR fun b7=>?_
  refine wo ?_
  refine AN ?_
  refine Ag 7 ?_
  refine wf ?_
  refine AO (fun h=>?_) (fun h=>?_)
  ·have hpj:p l[j]=false:=by simpa using h
   have iput:Et ((l1.map eSto).flatten++rest) (0+i*37) (eSto l[j]) (((l1.set i l[j]).map eSto).flatten++rest):=by
    have:=QZ (rest:=rest) (new:=eSto l[j]) (hsz l1) (i:=i) (by rw[AR];omega) (by simp)
    rwa [←UJ]at this
   refine wf ?_
   refine H5 (k:=i) rfl rfl (by omega) ?_
   refine wf ?_
   refine⟨(j+1,i+1,l1.set i l[j]),⟨by dsimp only;omega,by dsimp only;omega,by dsimp only;rw[Bm];exact hl1,?_,fun t h2=>?_⟩,by dsimp only;omega,⟨rfl,rfl,rfl,rfl⟩,.refl _⟩
   ·dsimp only
    rw[A6 hlt,Du,Kv (by simp[hpj]),KU,←ht,A6 (by rw[Bm];omega),Zt (B5 _),Uz]
   ·dsimp only at h2 ⊢
    rw[NQ (by omega)]
    exact hr t (by omega)
  ·have hpj:p l[j]=true:=by simpa using h
   refine wf ?_
   refine⟨(j+1,i,l1),⟨by dsimp only;omega,by dsimp only;omega,hl1,?_,fun t h2=>hr t (by dsimp only at h2;omega)⟩,by dsimp only;omega,⟨rfl,rfl,rfl,rfl⟩,.refl _⟩
   dsimp only
   rw[A6 hlt,Du,Fq (by simp[hpj]),KU,B6]
   exact ht
 have hjl:j=l.length:=by omega
 subst hjl
 rw[Cu]at ht
 have hfl:(l1.map eSto).flatten.length=l.length*37:=by rw[Cg (hsz l1),AR,hl1]
 have hfl0:(l.map eSto).flatten.length=l.length*37:=by rw[Cg (hsz l),AR]
 refine wf ?_
 refine KZ i l.length rfl (by omega) (B5 _) (by omega) hlc (fun o e=>by cases e;exact⟨_,rfl⟩) (by simp) (by simp) (fun _=>rfl) ?_
 refine YL (E:=47) (sz:=37) (L':=LF) mq (fun x=> [x]++LF) rfl (by omega) (by rw[A8,hfl];omega) (.refl _) (fun _=> .refl _) fun zs hzs=>?_
 refine AN ?_
 refine wf ?_
 refine KZ 0 i rfl (by omega) (by omega) (by omega) hlc (by simp) (fun _=>rfl) (fun o e=>by cases e;exact⟨_,rfl⟩) (by simp) ?_
 refine wf ?_
 have e0:=(Mu (hsz l1) (i:=i) (by rw[AR];omega))
 have etk:((l1.map eSto).flatten++rest).take (0+i*37)=((l1.take i).map eSto).flatten:=by
  rw[B4,Fc (by rw[hfl];omega),aA]
  have h2:=e0.2
  conv=>lhs;rw[e0.1]
  exact E1 h2
 have hlt:(l1.take i).length=i:=by rw[AV];omega
 have hti:((l1.take i).map eSto).flatten.length=i*37:=by rw[Cg (hsz _),AR,hlt]
 refine⟨trivial,_,_,.cons (.tmp 4) .nil,.refl _,.slice (some ⟨r,0,none⟩) i c,?_,?_⟩
 ·show PV.raw (Value.slice (some ⟨r,0+0*37,none⟩) (i - 0) (c - 0))=_
  simp
 ·rw[←ht,etk,AJ]
  refine .row (by rw[AR,hlt]) (by omega) (hsz _) ?_
  rw[A8,Ao,A8,hzs,hfl,hti]
  rw[hfl0]at hcl
  omega
attribute [local irreducible] H2
theorem bQ {cs r:List PV} {off n:Nat} (h:Xl cs off n r) (hn:r.length=n):J1 cs off r:=⟨by obtain⟨h1,h2⟩:=h.out;subst hn;exact⟨h1,h2⟩⟩
theorem O0 (r:Repo) (i:Nat) (s:List Sto) (t:CW) (hi:i < r.branches.length) (hl:r.branches.length≤1000):
  Bl Tryz.prog 70 [.agg (Ay r),.raw (.int .i64 (i:Int)),.slice (s.map eSto) t] (.agg (Ay { r with branches:=r.branches.set i { r.branches[i]with ids:=ids s } })):=⟨by
 refine Ak Tryz.func70 Tryz.ntmps70 rfl (rs:= [.cell 6 27]) rfl rfl fun hb LF=>?_
 refine gQ fun b3=>?_
 refine BR fun b6=>?_
 refine wf ?_
 refine Bo (xs:= [.tmp 8]) [] (.box b6 27 (Ay Repo.zero):: .box b3 27 (Ay r)::LF) (f:=94) (cs:= []) (Bx _) rfl rfl (.refl _) _ (LH r.branches .ro (by omega)) fun x R0 ⟨v0,e1,hv0⟩=>?_
 subst e1
 have hsz: ∀ e∈r.branches.map eBrn,e.length=2:=fun e he=>by obtain⟨a,_,rfl⟩:=AU.1 he;simp
 obtain⟨⟨o,c,rfl⟩,_⟩:=hv0.slice
 obtain⟨r0,rest,rfl,rfl,_,hlc,_,hcl⟩:=hv0.inv (by rw[AR];omega)
 rw[AR]at hlc ⊢
 obtain⟨v,hv⟩: ∃ v:Value,v= .slice (some ⟨r0,0,none⟩) r.branches.length c:=⟨_,rfl⟩
 obtain⟨ex,hex⟩: ∃ ex:List PV,ex= [.slice (r.pool.map eSto) .ro,.raw v,.slice (r.tags.map eTgg) .ro,.str r.current]:=⟨_,rfl⟩
 have iat:At ex 1 (.raw v):=⟨by rw[hex];rfl⟩
 have eput:(Ay r).take 1++ [.raw v]++(Ay r).drop (1+1)=ex:=by rw[hex];rfl
 rw[←hv]
 refine RI (L':= .box b3 27 (Ay r):: .box b6 27 (Ay Repo.zero):: .box r0 78 ((r.branches.map eBrn).flatten++rest)::LF) ?_ rfl ?_ (fun h=>h)
 ·exact(List.Perm.cons _ (List.Perm.swap _ _ _)).trans (B8 (l₁:= [_,_]) |>.symm)
 refine wo ?_
 refine KY ex rfl rfl (by rw[hv];rfl) eput (by simp) ?_
 refine AN ?_
 refine wn ?_
 refine BZ 7 ?_ ?_
 ·decide+kernel
 refine wo ?_
 refine H5 (k:=i) (r:=r0) (off:=0) (n:=r.branches.length) (c:=c) (by rw[←hv];rfl) rfl hi ?_
 refine wo ?_
 have hfs:=QY (rest:=rest) hsz (i:=i) (by rw[AR];exact hi)
 rw[BT]at hfs
 have hfp:=QZ (rest:=rest) (new:=eBrn { r.branches[i]with ids:=ids s }) hsz (i:=i) (by rw[AR];exact hi) (by simp)
 rw[←UJ]at hfp
 have hpt:=jj (bQ hfs (by simp)) (Yf r.branches[i] (ids s)) hfp
 refine Ln (ay:= .slice ((ids s).map eDig) .ro) (((r.branches.set i { r.branches[i]with ids:=ids s }).map eBrn).flatten++rest) rfl rfl (EU.out) hpt.out.1 hpt.out.2 ?_
 refine AN ?_
 have hv1:E9 78 2 v ((r.branches.set i { r.branches[i]with ids:=ids s }).map eBrn) [.box r0 78 (((r.branches.set i { r.branches[i]with ids:=ids s }).map eBrn).flatten++rest)]:=by
  have hs2: ∀ e∈(r.branches.set i { r.branches[i]with ids:=ids s }).map eBrn,e.length=2:=fun e he=>by obtain⟨a,_,rfl⟩:=AU.1 he;simp
  rw[hv]
  refine .row (by rw[AR,Bm]) hlc hs2 ?_
  rw[←hcl,Cg hs2,Cg hsz,AR,AR,Bm]
 have hll:((r.branches.set i { r.branches[i]with ids:=ids s }).map eBrn).length≤1000:=by rw[AR,Bm];exact hl
 refine Yd (b:=b3) (B:=27) (xs:=ex) (zs:=Ay { r with branches:=r.branches.set i { r.branches[i]with ids:=ids s } }) (L':= .box b6 27 (Ay Repo.zero)::LF) hv1 ⟨by unfold maxN;omega,by unfold maxN;omega⟩ ?_ (fun g us h1 h2=>?_) ?_
 ·exact B8 (l₁:= [_,_]) |>.trans (List.Perm.cons _ (.refl _))
 ·rw[hex]at h2
  exact iC (A:= [.slice (r.pool.map eSto) .ro]) (B:= [.slice (r.tags.map eTgg) .ro,.str r.current]) h1 h2
 refine wf ?_
 exact FW rfl (.refl _)⟩
theorem od (s:List Sto) (t:CW):B2 Tryz.prog 73 [.slice (s.map eSto) t] [] (fun r L'=> ∃ v,r= .raw v∧E9 45 32 v ((ids s).map eDig) L'):=by
 refine Bw Tryz.func73 rfl Tryz.ntmps73 (rs:= [.tmp 2]) rfl rfl fun hb LF=>?_
 rw[BK]
 have hll:s.length*37≤140737488355328:=(hb (.slice (s.map eSto) t) (by simp)).slice_cells (sz:=37)
 have hsu:=fun k (hk:k < s.length)=>show ids (s.take (k+1))=ids (s.take k)++ [s[k].id] from by
  unfold ids;rw[A6 hk,Az];rfl
 have hsl:=fun k=>show(ids (s.take k)).length≤s.length from by rw[Dj,AV];omega
 refine wf ?_
 refine jg (E:=45) (sz:=32) 3 rfl fun v0 hv0=>?_
 refine AW (σ:=Nat × Value × List Res) (fun z=>z.1≤s.length∧E9 45 32 z.2.1 ((ids (s.take z.1)).map eDig) z.2.2) (fun z=>s.length - z.1) (fun z=> [(3,.raw z.2.1),(6,.slice (s.map eSto) t),(7,.raw (.int .i64 s.length)),(8,.raw (.int .i64 z.1))]) (fun z=>z.2.2++LF) (0,v0,[]) ⟨by simp,hv0⟩ ⟨rfl,rfl,rfl,rfl⟩ (.refl _) ?_
 rintro⟨k,v,R⟩ ⟨hk,hv⟩
 dsimp only at hk hv ⊢
 refine wf ?_
 refine A1 (fun hc=>?_) (fun hc=>?_)
 ·have hlt:k < s.length:=by omega
  have e1:=hsu k hlt
  have e2:=hsl k
  refine wz fun b5=>?_
  refine Ag 5 ?_
  generalize s[k]=x at e1 ⊢
  refine wf ?_
  refine R4 (f:=eDig) (m:= [x.id]) (R:=R) (LF:=LF) (fun R'=>R'++LF) rfl rfl hv (.refl _) (fun R'=> .refl _) (by simp only[AR,AH,Aa];omega) (by simp only[AR,AH,Aa];omega) fun v2 R2 hv2=>?_
  rw[←Az,←e1]at hv2
  refine wf ?_
  refine wf ?_
  exact⟨(k+1,v2,R2),⟨by dsimp only;omega,hv2⟩,by dsimp only;omega,⟨rfl,rfl,rfl,rfl⟩,.refl _⟩
 ·have hkk:k=s.length:=by omega
  rw[hkk,Cu]at hv
  refine wf ?_
  exact⟨trivial,_,R,.cons (.tmp 2) .nil,.refl _,v,rfl,hv⟩
instance uH (x d:Dig):Bl Tryz.prog 134 [.agg (eDig x),.pt (eDig d) 0] (.raw (.bool (decide (x=d)))):=⟨by
 refine Ak Tryz.func134 Tryz.ntmps134 rfl (rs:= [.tmp 3]) rfl rfl fun hb LF=>?_
 refine wf ?_
 exact Ah (.refl _)⟩
instance mI (x:Sto) (d:Dig):Bl Tryz.prog 179 [.agg (eSto x),.pt [.clo 134 [.pt (eDig d) 0]] 0] (.raw (.bool (decide (x.id=d)))):=⟨by
 refine Ak Tryz.func179 Tryz.ntmps179 rfl (rs:= [.tmp 3]) rfl rfl fun hb LF=>?_
 refine wf ?_
 exact Ah (.refl _)⟩
theorem WV (s:List Sto) (t:CW) (d:Dig) (hl:s.length≤1000000):Bl Tryz.prog 133 [.slice (s.map eSto) t,.clo 134 [.pt (eDig d) 0]] (.slice ((s.filter fun x=>!decide (x.id=d)).map eSto) .ro):=⟨B2.frozenR (Vt eSto 37 (by decide) _ (by
 have:=Cv (fun x:Sto=>!decide (x.id=d)) s
 omega)) (by
 refine Bw Tryz.func133 rfl Tryz.ntmps133 (rs:= [.tmp 4]) rfl rfl fun hb LF=>?_
 rw[BK]
 refine wf ?_
 refine Bo (xs:= [.tmp 5]) [] LF (f:=55) (cs:= []) (Bx _) rfl rfl (.refl _) _ (Oc s t hl) fun x R0 ⟨v0,e1,hv0⟩=>?_
 subst e1
 refine wf ?_
 refine Bo (xs:= [.tmp 6,.tmp 7]) R0 LF (f:=54) (cs:= []) (Bx _) rfl rfl (.refl _) _ (U2 179 [.pt [.clo 134 [.pt (eDig d) 0]] 0] (fun x=>decide (x.id=d)) s v0 R0 hv0 hl) fun x R1 ⟨v1,e1,hv1⟩=>?_
 subst e1
 refine wf ?_
 refine wf ?_
 exact⟨trivial,_,R1,.cons (.tmp 4) .nil,.refl _,v1,rfl,hv1⟩)⟩
theorem bB (x:Sto) (d:Dig) (hg:EE x.patch=false):Bl Tryz.prog 178 [.agg (eSto x),.pt (eDig d) 0] (.raw (.bool (!decide (x.id=d)&&decide (d∈Bf x.patch)))):=⟨by
 have ig:B3 (EE x.patch=false):=⟨hg⟩
 refine Ak Tryz.func178 Tryz.ntmps178 rfl (rs:= [.tmp 3]) rfl rfl fun hb LF=>?_
 refine wf ?_
 refine An (fun hp=>?_) (fun hp=>?_)
 ·refine wf ?_
  refine Ah (.of_eq ?_)
  rw[hp,Rh]
 ·refine wf ?_
  refine Ah (.of_eq ?_)
  rw[hp,Xt]⟩
theorem fW (s:List Sto) (t:CW) (d:Dig) (hg:Dc s):Bl Tryz.prog 132 [.slice (s.map eSto) t,.agg (eDig d)] (.raw (.bool (s.any fun x=>!decide (x.id=d)&&decide (d∈Bf x.patch)))):=⟨by
 have c1:=fun t=>Uj 178 [.pt (eDig d) 0] (fun x:Sto=>!decide (x.id=d)&&decide (d∈Bf x.patch)) s t fun x hx=>bB x d (hg.2 x hx)
 refine Ak Tryz.func132 Tryz.ntmps132 rfl (rs:= [.tmp 4]) rfl rfl fun hb LF=>?_
 refine wf ?_
 exact Ah (.refl _)⟩
theorem bt {s:List Sto} (v:C7 s) (d:Dig):(s.any fun x=>!decide (x.id=d)&&decide (d∈Bf x.patch))=s.any fun x=>decide (d∈Bf x.patch):=by
 rw[KV,BW,BW]
 constructor
 ·rintro⟨x,hx,h⟩
  exact⟨x,hx,(Bool.and_eq_true_iff.1 h).2⟩
 ·rintro⟨x,hx,h⟩
  have h':=Ab h
  have hne: ¬x.id=d:=fun e=>by
   subst e
   have:=v.rank hx h'
   omega
  exact⟨x,hx,by simp[hne,h']⟩
theorem Xx (s:List Sto) (t:CW) (d:Dig) (v:C7 s):Bl Tryz.prog 71 [.slice (s.map eSto) t,.agg (eDig d)] (.tuple [.slice ((MU s d).1.map eSto) .ro,.raw (.int .i64 (MU s d).2)]):=⟨by
 have h200:=v.close.1.1
 have c1:=fun t=>fW s t d v.close.1
 rw[bt v]at c1
 have c2:=fun t=>WV s t d (by omega)
 have hsome:=IR v.asc d
 refine Ak Tryz.func71 Tryz.ntmps71 rfl (rs:= [.tmp 4,.tmp 5]) rfl rfl fun hb LF=>?_
 unfold MU
 refine wz fun b6=>?_
 refine Ag 6 ?_
 refine wf ?_
 rw[hsome]
 refine AL (fun h=>?_) (fun h=>?_)
 ·rw[if_pos h]
  refine wf ?_
  refine GM ?_;exact .tuple2 (.ro _ _) (.refl _)
 rw[if_neg (fun h2=>h2 h)]
 refine wf ?_
 refine AO (fun h=>?_) (fun h=>?_)
 ·rw[if_pos h]
  refine wf ?_
  refine GM ?_;exact .tuple2 (.ro _ _) (.refl _)
 rw[if_neg (by simp[h])]
 refine wf ?_
 exact GM (.refl _)⟩
theorem Qs (a0 b0:List Sto) (t0 u0:CW) (va:C7 a0) (vb:C7 b0) (hl:a0.length+b0.length≤400):Bl Tryz.prog 35 [.slice (a0.map eSto) t0,.slice (b0.map eSto) u0] (.tuple [.slice ((EP a0 b0).1.map eSto) .ro,.raw (.int .i64 (EP a0 b0).2)]):=⟨by
 refine Ak Tryz.func35 Tryz.ntmps35 rfl (rs:= [.tmp 4,.tmp 5]) rfl rfl fun hb LF=>?_
 have hmu:=oV va.asc vb.asc
 refine wf ?_
 refine Ee 37 ?_
 refine AW (σ:=(List Sto × CW) × (List Sto × CW) × (List Sto × CW)) (fun k=>IY a0 b0=(IY k.1.1 k.2.1.1).map (k.2.2.1++ ·)∧k.1.1.length+k.2.1.1.length+k.2.2.1.length≤a0.length+b0.length∧(∀ x∈k.1.1,x∈a0)∧(∀ x∈k.2.1.1,x∈b0)) (fun k=>k.1.1.length+k.2.1.1.length) (fun k=> [(0,.slice (k.1.1.map eSto) k.1.2),(1,.slice (k.2.1.1.map eSto) k.2.1.2),(6,.slice (k.2.2.1.map eSto) k.2.2.2)]) (fun k=> .tok k.2.2.2 k.2.2.1.length 37::LF) ((a0,t0),(b0,u0),([],.nil)) ⟨by cases IY a0 b0<;>simp,by simp,fun _ h=>h,fun _ h=>h⟩ ⟨rfl,rfl,rfl⟩ (.refl _) ?_
 rintro⟨⟨a,t⟩,⟨b,u⟩,⟨out,v⟩⟩ ⟨hm,hlen,hsa,hsb⟩
 dsimp only at hm hlen hsa hsb ⊢
 have hl0:out.length≤400:=by omega
 rcases a with _|⟨x,a⟩
 ·rcases b with _|⟨y,b⟩
  ·have e:EP a0 b0=(out,0):=by
    rw[hmu,IY]at hm
    rw[EP,hm]
    simp only[FG,B6]
    rw[if_neg (by omega)]
   rw[e]
   refine wf ?_
   refine A1 (fun h=>?_) (fun h=>?_)
   ·omega
   refine wf ?_
   exact GM (.tuple2 (.ro _ _) (.refl _))
  ·have g1:decide (0 < ((y::b).length:Int))=true:=BL (by simp)
   have g2:decide (((y::b).length:Int)=0)=false:=Ck (by simp;omega)
   refine wn ?_
   refine A1 (fun _=>?_) (fun h=>absurd (Ab g1) h)
   refine wn ?_
   refine DZ (by decide+kernel) ?_
   refine B0 [(25,.raw (.bool (false))),(0,.slice (([]:List Sto).map eSto) t),(1,.slice ((y::b).map eSto) u),(6,.slice (out.map eSto) v)] (.tok v out.length 37::LF) ?_ ?_
   ·refine wf ?_
    refine⟨⟨BO (by rfl) ?_,rfl,rfl,rfl⟩,.refl _⟩
    first|rfl|(simp_all;done)|grind
   refine wn ?_
   refine DZ (by decide+kernel) ?_
   refine B0 [(54,.raw (.bool (true))),(0,.slice (([]:List Sto).map eSto) t),(1,.slice ((y::b).map eSto) u),(6,.slice (out.map eSto) v)] (.tok v out.length 37::LF) ?_ ?_
   ·refine wf ?_
    refine⟨⟨BO (by rfl) ?_,rfl,rfl,rfl⟩,.refl _⟩
    first|rfl|(simp_all;done)|grind
   refine wn ?_
   refine EB [4,5] (by decide+kernel) ?_
   refine Aw 0 ?_
   refine Aw 1 ?_
   refine Aw 2 ?_
   refine Aw 3 ?_
   refine Aw 6 ?_
   refine Aw 7 (hq:=fun _=>by refine Nb (i:=1) rfl rfl (by simp) ?_;refine AN ?_;exact⟨CK _ _ _,rfl⟩) ?_
   refine Av 3 4 ?_
   refine wo ?_
   refine AN ?_
   refine Av 2 5 ?_
   refine Ka (l:=out) (m:= [y]) rfl rfl (by simp only[AH,Aa];omega) (by simp only[AH,Aa];omega) (fun t=> .here) fun v2=>?_
   refine AN ?_
   refine Av 1 8 ?_
   refine wo ?_
   refine AN ?_
   refine Av 0 9 ?_
   refine wo ?_
   refine AN ?_
   refine Ct (by decide+kernel) ?_
   refine wf ?_
   refine⟨(([],t),(b,.ro),(out++ [y],v2)),⟨?_,?_,?_,?_⟩,?_,⟨rfl,rfl,rfl⟩,.refl _⟩
   all_goals dsimp only
   ·rw[hm]
    cases b<;>simp[IY]
   ·simp only[A8,AH,Aa]at hlen ⊢;omega
   ·exact fun z hz=>hsa z (by first|exact hz|exact AD _ hz)
   ·exact fun z hz=>hsb z (by first|exact hz|exact AD _ hz)
   ·simp only[AH,Aa];omega
 ·have g1:decide (0 < ((x::a).length:Int))=true:=BL (by simp)
  have p1:0 < (x::a).length:=by simp
  rcases b with _|⟨y,b⟩
  ·refine wn ?_
   refine wn ?_
   refine DZ (by decide+kernel) ?_
   refine B0 [(25,.raw (.bool (true))),(0,.slice ((x::a).map eSto) t),(1,.slice (([]:List Sto).map eSto) u),(6,.slice (out.map eSto) v)] (.tok v out.length 37::LF) ?_ ?_
   ·refine wf ?_
    refine⟨⟨BO (by rfl) ?_,rfl,rfl,rfl⟩,.refl _⟩
    first|rfl|(simp_all;done)|grind
   refine wn ?_
   refine EB [4,5] (by decide+kernel) ?_
   refine Aw 0 ?_
   refine Aw 1 ?_
   refine Aw 2 ?_
   refine Aw 3 ?_
   refine Aw 6 ?_
   refine Aw 7 (hq:=fun _=>by refine Nb (i:=1) rfl rfl (by simp) ?_;refine AN ?_;exact⟨CK _ _ _,rfl⟩) ?_
   refine Av 3 4 ?_
   refine wo ?_
   refine AN ?_
   refine Av 2 5 ?_
   refine Ka (l:=out) (m:= [x]) rfl rfl (by simp only[AH,Aa];omega) (by simp only[AH,Aa];omega) (fun t=> .here) fun v2=>?_
   refine AN ?_
   refine Av 1 8 ?_
   refine wo ?_
   refine AN ?_
   refine Av 0 9 ?_
   refine wo ?_
   refine AN ?_
   refine Ct (by decide+kernel) ?_
   refine wf ?_
   refine⟨((a,.ro),([],u),(out++ [x],v2)),⟨?_,?_,?_,?_⟩,?_,⟨rfl,rfl,rfl⟩,.refl _⟩
   all_goals dsimp only
   ·rw[hm]
    cases a<;>simp[IY]
   ·simp only[A8,AH,Aa]at hlen ⊢;omega
   ·exact fun z hz=>hsa z (by first|exact hz|exact AD _ hz)
   ·exact fun z hz=>hsb z (by first|exact hz|exact AD _ hz)
   ·simp only[AH,Aa];omega
  ·have g2:decide (((y::b).length:Int)=0)=false:=Ck (by simp;omega)
   have p2:0 < (y::b).length:=by simp
   have g3:decide (((x::a).length:Int)=0)=false:=Ck (by simp;omega)
   have i1:B3 (EE x.patch=false):=⟨va.close.1.2 x (hsa x AI)⟩
   have i2:B3 (EE y.patch=false):=⟨vb.close.1.2 y (hsb y AI)⟩
   have q1:=fv x.patch y.patch
   rw[W2 i2.out i1.out (vb.id y (hsb y AI)).1 (va.id x (hsa x AI)).1]at q1
   have q2:Bl Tryz.prog 85 [.agg (CP (x::a)[0].patch),.agg (CP (y::b)[0].patch)] (.raw (.bool (decide (y.patch=x.patch)))):=q1
   by_cases h1:Dh x.id y.id < 0
   ·have hm1:IY (x::a) (y::b)=(IY a (y::b)).map (x:: ·):=by rw[IY,if_pos h1]
    refine wn ?_
    refine DZ (by decide+kernel) ?_
    refine B0 [(25,.raw (.bool (true))),(0,.slice ((x::a).map eSto) t),(1,.slice ((y::b).map eSto) u),(6,.slice (out.map eSto) v)] (.tok v out.length 37::LF) ?_ ?_
    ·refine wf ?_
     refine⟨⟨BO (by rfl) ?_,rfl,rfl,rfl⟩,.refl _⟩
     first|rfl|(simp_all;done)|grind
    refine wn ?_
    refine EB [4,5] (by decide+kernel) ?_
    refine Aw 0 ?_
    refine Aw 1 ?_
    refine Aw 2 ?_
    refine Aw 3 ?_
    refine Aw 6 ?_
    refine Aw 7 (hq:=fun _=>by refine Nb (i:=1) rfl rfl (by simp) ?_;refine AN ?_;exact⟨CK _ _ _,rfl⟩) ?_
    refine Av 3 4 ?_
    refine wo ?_
    refine AN ?_
    refine Av 2 5 ?_
    refine Ka (l:=out) (m:= [x]) rfl rfl (by simp only[AH,Aa];omega) (by simp only[AH,Aa];omega) (fun t=> .here) fun v2=>?_
    refine AN ?_
    refine Av 1 8 ?_
    refine wo ?_
    refine AN ?_
    refine Av 0 9 ?_
    refine wo ?_
    refine AN ?_
    refine Ct (by decide+kernel) ?_
    refine wf ?_
    refine⟨((a,.ro),(y::b,u),(out++ [x],v2)),⟨?_,?_,?_,?_⟩,?_,⟨rfl,rfl,rfl⟩,.refl _⟩
    all_goals dsimp only
    ·rw[hm,hm1]
     cases IY a (y::b)<;>simp
    ·simp only[A8,AH,Aa]at hlen ⊢;omega
    ·exact fun z hz=>hsa z (by first|exact hz|exact AD _ hz)
    ·exact fun z hz=>hsb z (by first|exact hz|exact AD _ hz)
    ·simp only[AH,Aa];omega
   by_cases h2:Dh y.id x.id < 0
   ·have hm1:IY (x::a) (y::b)=(IY (x::a) b).map (y:: ·):=by rw[IY,if_neg h1,if_pos h2]
    refine wn ?_
    refine DZ (by decide+kernel) ?_
    refine B0 [(25,.raw (.bool (false))),(0,.slice ((x::a).map eSto) t),(1,.slice ((y::b).map eSto) u),(6,.slice (out.map eSto) v)] (.tok v out.length 37::LF) ?_ ?_
    ·refine wf ?_
     refine⟨⟨BO (by rfl) ?_,rfl,rfl,rfl⟩,.refl _⟩
     first|rfl|(simp_all;done)|grind
    refine wn ?_
    refine DZ (by decide+kernel) ?_
    refine B0 [(54,.raw (.bool (true))),(0,.slice ((x::a).map eSto) t),(1,.slice ((y::b).map eSto) u),(6,.slice (out.map eSto) v)] (.tok v out.length 37::LF) ?_ ?_
    ·refine wf ?_
     refine⟨⟨BO (by rfl) ?_,rfl,rfl,rfl⟩,.refl _⟩
     first|rfl|(simp_all;done)|grind
    refine wn ?_
    refine EB [4,5] (by decide+kernel) ?_
    refine Aw 0 ?_
    refine Aw 1 ?_
    refine Aw 2 ?_
    refine Aw 3 ?_
    refine Aw 6 ?_
    refine Aw 7 (hq:=fun _=>by refine Nb (i:=1) rfl rfl (by simp) ?_;refine AN ?_;exact⟨CK _ _ _,rfl⟩) ?_
    refine Av 3 4 ?_
    refine wo ?_
    refine AN ?_
    refine Av 2 5 ?_
    refine Ka (l:=out) (m:= [y]) rfl rfl (by simp only[AH,Aa];omega) (by simp only[AH,Aa];omega) (fun t=> .here) fun v2=>?_
    refine AN ?_
    refine Av 1 8 ?_
    refine wo ?_
    refine AN ?_
    refine Av 0 9 ?_
    refine wo ?_
    refine AN ?_
    refine Ct (by decide+kernel) ?_
    refine wf ?_
    refine⟨((x::a,t),(b,.ro),(out++ [y],v2)),⟨?_,?_,?_,?_⟩,?_,⟨rfl,rfl,rfl⟩,.refl _⟩
    all_goals dsimp only
    ·rw[hm,hm1]
     cases IY (x::a) b<;>simp
    ·simp only[A8,AH,Aa]at hlen ⊢;omega
    ·exact fun z hz=>hsa z (by first|exact hz|exact AD _ hz)
    ·exact fun z hz=>hsb z (by first|exact hz|exact AD _ hz)
    ·simp only[AH,Aa];omega
   refine wn ?_
   refine DZ (by decide+kernel) ?_
   refine B0 [(25,.raw (.bool (false))),(0,.slice ((x::a).map eSto) t),(1,.slice ((y::b).map eSto) u),(6,.slice (out.map eSto) v)] (.tok v out.length 37::LF) ?_ ?_
   ·refine wf ?_
    refine⟨⟨BO (by rfl) ?_,rfl,rfl,rfl⟩,.refl _⟩
    first|rfl|(simp_all;done)|grind
   refine wn ?_
   refine DZ (by decide+kernel) ?_
   refine B0 [(54,.raw (.bool (false))),(0,.slice ((x::a).map eSto) t),(1,.slice ((y::b).map eSto) u),(6,.slice (out.map eSto) v)] (.tok v out.length 37::LF) ?_ ?_
   ·refine wf ?_
    refine⟨⟨BO (by rfl) ?_,rfl,rfl,rfl⟩,.refl _⟩
    first|rfl|(simp_all;done)|grind
   by_cases h3:y.patch=x.patch
   ·have hm1:IY (x::a) (y::b)=(IY a b).map (x:: ·):=by rw[IY,if_neg h1,if_neg h2,if_pos h3.symm]
    refine wn ?_
    refine DZ (by decide+kernel) ?_
    refine B0 [(78,.raw (.bool (false))),(0,.slice ((x::a).map eSto) t),(1,.slice ((y::b).map eSto) u),(6,.slice (out.map eSto) v)] (.tok v out.length 37::LF) ?_ ?_
    ·refine wf ?_
     refine⟨⟨BO (by rfl) ?_,rfl,rfl,rfl⟩,.refl _⟩
     first|rfl|(simp_all;done)|grind
    refine wn ?_
    refine EB [4,5] (by decide+kernel) ?_
    refine Aw 0 ?_
    refine Aw 1 ?_
    refine Aw 2 ?_
    refine Aw 3 ?_
    refine Aw 6 ?_
    refine Aw 7 (hq:=fun _=>by refine Nb (i:=1) rfl rfl (by simp) ?_;refine AN ?_;exact⟨CK _ _ _,rfl⟩) ?_
    refine Aw 8 ?_
    refine Aw 9 (hq:=fun _=>by refine Nb (i:=1) rfl rfl (by simp) ?_;refine AN ?_;exact⟨CK _ _ _,rfl⟩) ?_
    refine Av 4 4 ?_
    refine wo ?_
    refine AN ?_
    refine Av 3 5 ?_
    refine Ka (l:=out) (m:= [x]) rfl rfl (by simp only[AH,Aa];omega) (by simp only[AH,Aa];omega) (fun t=> .here) fun v2=>?_
    refine AN ?_
    refine Av 2 10 ?_
    refine wo ?_
    refine AN ?_
    refine Av 1 11 ?_
    refine wo ?_
    refine AN ?_
    refine Av 0 12 ?_
    refine wo ?_
    refine AN ?_
    refine Ct (by decide+kernel) ?_
    refine wf ?_
    refine⟨((a,.ro),(b,.ro),(out++ [x],v2)),⟨?_,?_,?_,?_⟩,?_,⟨rfl,rfl,rfl⟩,.refl _⟩
    all_goals dsimp only
    ·rw[hm,hm1]
     cases IY a b<;>simp
    ·simp only[A8,AH,Aa]at hlen ⊢;omega
    ·exact fun z hz=>hsa z (by first|exact hz|exact AD _ hz)
    ·exact fun z hz=>hsb z (by first|exact hz|exact AD _ hz)
    ·simp only[AH,Aa];omega
   ·have hm1:IY (x::a) (y::b)=none:=by rw[IY,if_neg h1,if_neg h2,if_neg fun h=>h3 h.symm]
    have e:EP a0 b0=([],14):=by
     rw[hmu,hm1]at hm
     rw[EP,hm];rfl
    rw[show(EP a0 b0).1= [] by rw[e],show(EP a0 b0).2=14 by rw[e],CY]
    refine wn ?_
    refine DZ (by decide+kernel) ?_
    refine B0 [(78,.raw (.bool (true))),(0,.slice ((x::a).map eSto) t),(1,.slice ((y::b).map eSto) u),(6,.slice (out.map eSto) v)] (.tok v out.length 37::LF) ?_ ?_
    ·refine wf ?_
     refine⟨⟨BO (by rfl) ?_,rfl,rfl,rfl⟩,.refl _⟩
     first|rfl|(simp_all;done)|grind
    refine wf ?_
    exact GM (.tuple2 (.ro _ _) (.refl _))⟩
end Go.Proofs
namespace Go.Q
open Go
class zQ (P:Program) (T:Nat):Prop where
 out: ∃ td,P.underlying T=some td∧ ∀ ms,td≠ .interface ms
def kE (P:Program) (T:Nat) (m:String):Option (Bool × Option (Nat × Bool)):=(P.info? T).bind fun i=>(i.methods.find? (·.name==m)).map fun r=>(r.path.isEmpty,r.func)
class zH (P:Program) (T:Nat) (m:String) (f:outParam Nat):Prop where
 row:kE P T m=some (true,some (f,true))
 ptr: ∃ E,P.underlying T=some (.pointer E)
class zG (P:Program) (T:Nat) (m:String) (E f:outParam Nat):Prop where
 row:kE P T m=some (true,some (f,false))
 ptr:P.underlying T=some (.pointer E)
section
variable {P:Program} {N:Nat} {all:Array Oper} {K:Env→List Res→Prop} {fl:List Bool} {os:List Oper} {ρ:Env} {L:List Res} {d:Nat} {ty:TypeId} {pos:String} {af:Array Edge}
end
section
variable {κ α:Type} [DecidableEq κ] (f:α→List PV) (by_:Nat)
end
section
variable {P:Program} {N:Nat} {all:Array Oper} {K:Env→List Res→Prop} {fl:List Bool} {os:List Oper} {ρ:Env} {L:List Res} {d:Nat} {ty:TypeId} {pos:String} {af:Array Edge}
end
end Go.Q
namespace Go.Proofs
open Go Go.Q
attribute [local irreducible] EG AY H2 B2 FZ
abbrev zR (v:Value) (q:List Sto) (R:List Res):Prop:=E9 47 37 v (q.map eSto) R
end Go.Proofs
namespace Go.Q
open Go
section
variable {P:Program} {N:Nat} {all:Array Oper} {K:Env→List Res→Prop} {fl:List Bool} {os:List Oper} {ρ:Env} {L:List Res} {d:Nat} {ty:TypeId} {pos:String} {af:Array Edge}
variable {κ α:Type} [DecidableEq κ] {ek:κ→PV} {ev:α→PV} {T KT ET:Nat}
end
end Go.Q
namespace Go.Proofs
open Go Go.Q
theorem ZW {s:List Sto} {k:Nat} (hk:k < s.length) (P:Sto→Bool):(s.take (k+1)).filter P=(s.take k).filter P++if P s[k]=true then [s[k]]else []:=by
 rw[A6 hk,Du]
 congr 1
 by_cases h:P s[k]=true
 ·simp[h]
 ·simp[h]
attribute [local irreducible] EG AY H2 B2 FZ
def TV (s:List Sto):List Dig:=s.flatMap fun y=>Bf y.patch
theorem bC {s:List Sto} {k:Nat} (hk:k < s.length):TV (s.take (k+1))=TV (s.take k)++Bf s[k].patch:=by
 unfold TV
 rw[A6 hk,GA,List.flatMap_singleton]
theorem Yz (f:Sto→List Dig) (d:Dig): ∀ s:List Sto,decide (d∈s.flatMap f)=!(s.all fun y=>decide (d∉f y))
 | []=>by simp
 |y::s=>by
  have ih:=Yz f d s
  rw[Cf,xb,Bool.not_and,←ih]
  by_cases h1:d∈f y<;>simp[h1]
theorem nC {s:List Sto} {T:List (Dig × Bool)} (h:Kt T (TV s)) (x:Sto):(Dv x.id T).getD false=!eF s x:=(h x.id).trans (Yz _ _ s)
def mJ (s:List Sto) (k:Nat):List Dig:=((s.take k).filter (eF s)).map (·.id)
theorem nA (s:List Sto) (k:Nat):(mJ s k).length≤k:=by
 unfold mJ
 rw[AR]
 refine CX (Cv _ _) ?_
 rw[AV];omega
theorem iH {s:List Sto} {k:Nat} (hk:k < s.length):mJ s (k+1)=mJ s k++if eF s s[k]=true then [s[k].id]else []:=by
 unfold mJ
 rw[ZW hk,Az]
 congr 1
 split<;>rfl
theorem nB (s:List Sto):mJ s s.length=K4 s:=by unfold mJ K4;rw[Cu]
theorem iQ (s:List Sto) (t:CW) (v:C7 s) (hl:s.length≤400):Bl Tryz.prog 96 [.slice (s.map eSto) t] (.slice ((K4 s).map eDig) .ro):=⟨by
 refine Ak Tryz.func96 Tryz.ntmps96 rfl (rs:= [.tmp 2]) rfl rfl fun hb LF=>?_
 refine vS fun m=>?_
 refine AW (σ:=Nat × List (Dig × Bool)) (fun z=>z.1≤s.length∧Kt z.2 (TV (s.take z.1))) (fun z=>s.length - z.1) (fun z=> [(0,.slice (s.map eSto) t),(3,.raw (.map (some m))),(12,.slice (s.map eSto) t),(13,.raw (.int .i64 s.length)),(14,.raw (.int .i64 z.1))]) (fun z=> .map m (Cj kDig vBool z.2)::LF) (0,[]) ⟨by simp,fun d=>by simp[Dv,TV]⟩ ⟨rfl,rfl,rfl,rfl,rfl⟩ (.refl _) ?_
 rintro⟨k,T⟩ ⟨hk,hT⟩
 dsimp only at hk hT ⊢
 refine wf ?_
 refine A1 (fun hc=>?_) (fun hc=>?_)
 ·have hlt:k < s.length:=by omega
  have hxm:=AK hlt
  have i1:B3 (EE s[k].patch=false):=⟨v.close.1.2 _ hxm⟩
  have hnl:=Vi v hxm
  have hns:=bC hlt
  refine wz fun b5=>?_
  refine Ag 5 ?_
  generalize s[k]=x at hxm i1 hnl hns ⊢
  refine wf ?_
  generalize TV (s.take k)=A at hT hns
  generalize Bf x.patch=nd at hnl hns ⊢
  refine AW (σ:=Nat × List (Dig × Bool)) (fun z=>z.1≤nd.length∧Kt z.2 (A++nd.take z.1)) (fun z=>nd.length - z.1) (fun z=> [(0,.slice (s.map eSto) t),(3,.raw (.map (some m))),(12,.slice (s.map eSto) t),(13,.raw (.int .i64 s.length)),(14,.raw (.int .i64 k)),(20,.slice (nd.map eDig) .ro),(21,.raw (.int .i64 nd.length)),(22,.raw (.int .i64 z.1))]) (fun z=> .map m (Cj kDig vBool z.2)::LF) (0,T) ⟨by simp,by simpa using hT⟩ ⟨rfl,rfl,rfl,rfl,rfl,rfl,rfl,rfl⟩ (.refl _) ?_
  rintro⟨j,T2⟩ ⟨hj,hT2⟩
  dsimp only at hj hT2 ⊢
  refine wf ?_
  refine A1 (fun hc=>?_) (fun hc=>?_)
  ·have hjl:j < nd.length:=by omega
   have hT3:=hT2.add nd[j]
   rw[AJ,←A6 hjl]at hT3
   refine wz fun b7=>?_
   refine Ag 7 ?_
   refine wf ?_
   exact⟨(j+1,Hb nd[j] true T2),⟨by dsimp only;omega,hT3⟩,by dsimp only;omega,⟨rfl,rfl,rfl,rfl,rfl,rfl,rfl,rfl⟩,.refl _⟩
  ·rw[AA (by omega),←hns]at hT2
   refine wf ?_
   exact⟨(k+1,T2),⟨by dsimp only;omega,hT2⟩,by dsimp only;omega,⟨rfl,rfl,rfl,rfl,rfl⟩,.refl _⟩
 have hkk:k=s.length:=by omega
 subst hkk
 rw[Cu]at hT
 have htm:=nC hT
 refine wf ?_
 refine Ee 32 ?_
 refine GI (.swap _ _ _) ?_
 refine AW (σ:=Nat × CW) (fun z=>z.1≤s.length) (fun z=>s.length - z.1) (fun z=> [(3,.raw (.map (some m))),(8,.slice ((mJ s z.1).map eDig) z.2),(30,.slice (s.map eSto) t),(31,.raw (.int .i64 s.length)),(32,.raw (.int .i64 z.1))]) (fun z=> .map m (Cj kDig vBool T):: .tok z.2 (mJ s z.1).length 32::LF) (0,.nil) (by simp) ⟨rfl,rfl,rfl,rfl,rfl⟩ (.refl _) ?_
 rintro⟨k,u⟩ hk
 dsimp only at hk ⊢
 refine wf ?_
 refine A1 (fun hc=>?_) (fun hc=>?_)
 ·have hlt:k < s.length:=by omega
  have hsk:=iH hlt
  have hkl:=nA s k
  have hx:=htm s[k]
  refine wz fun b10=>?_
  refine Ag 10 ?_
  generalize s[k]=x at hsk hx ⊢
  generalize eF s x=p at hsk hx
  refine wf ?_
  rw[hx]
  refine AO (fun h=>?_) (fun h=>?_)
  ·have hp:p=true:=by simpa using h
   rw[if_pos hp]at hsk
   generalize mJ s k=A at hsk hkl ⊢
   refine Xw fun u'=>?_
   refine⟨(k+1,u'),by dsimp only;omega,by dsimp only;omega,⟨rfl,?_,rfl,rfl,rfl⟩,?_⟩
   ·dsimp only;rw[hsk];rfl
   ·dsimp only;rw[hsk];exact .refl _
  ·have hp:p=false:=by simpa using h
   rw[if_neg (by simp[hp]),B6]at hsk
   refine wf ?_
   refine⟨(k+1,u),by dsimp only;omega,by dsimp only;omega,⟨rfl,?_,rfl,rfl,rfl⟩,?_⟩
   ·dsimp only;rw[hsk];rfl
   ·dsimp only;rw[hsk];exact .refl _
 ·have hkk:k=s.length:=by omega
  rw[hkk,nB]
  refine wf ?_
  exact Ah (.ro _ _)⟩
theorem Hi (r:Repo) (n:Str) (hg:Dc r.pool):Bl Tryz.prog 14 [.agg (Ay r),.str n] (.tuple [.slice ((N4 r n).1.map eSto) .ro,.raw (.int .i64 (N4 r n).2)]):=⟨by
 have c1:=GN r hg
 refine Ak Tryz.func14 Tryz.ntmps14 rfl (rs:= [.tmp 4,.tmp 5]) rfl rfl fun hb LF=>?_
 unfold N4
 by_cases h1:EO r≠0
 ·rw[if_pos h1]
  generalize EO r=e at c1 h1 ⊢
  refine wf ?_
  refine AL (fun _=>?_) (fun h=>absurd h h1)
  refine wf ?_
  refine GM ?_;exact .tuple2 (.ro _ _) (.refl _)
 rw[if_neg h1]
 have h1:=Aj.1 h1
 rw[h1]at c1
 have c2:=Sc r n ((DH hg).1 h1)
 cases hv:C6 r n with
 |none=>
  rw[hv]at c2
  simp only[Option.getD_some,Option.getD_none,Option.isSome_some,Option.isSome_none]at c2
  refine wf ?_
  refine GM ?_;exact .tuple2 (.ro _ _) (.refl _)
 |some s=>
  rw[hv]at c2
  simp only[Option.getD_some,Option.getD_none,Option.isSome_some,Option.isSome_none]at c2
  refine wf ?_
  refine GM ?_;exact .refl _⟩
theorem aJ (r:Repo) (n:Str) (hg:Dc r.pool):Bl Tryz.prog 39 [.agg (Ay r),.str n] (.tuple [.agg (Ay (JW r n).1),.raw (.int .i64 (JW r n).2)]):=⟨by
 have c1:=GN r hg
 refine Ak Tryz.func39 Tryz.ntmps39 rfl (rs:= [.cell 4 27,.tmp 5]) rfl rfl fun hb LF=>?_
 unfold JW
 refine gQ fun b2=>?_
 refine BR fun b4=>?_
 by_cases h1:EO r≠0
 ·rw[if_pos h1]
  generalize EO r=e at c1 h1 ⊢
  refine wf ?_
  refine AL (fun _=>?_) (fun h=>absurd h h1)
  refine wf ?_
  exact DX rfl (.of_eq rfl)
 rw[if_neg h1]
 have h1:=Aj.1 h1
 rw[h1]at c1
 refine wf ?_
 refine A1 (fun h=>?_) (fun h=>?_)
 ·rw[if_pos h]
  refine wf ?_
  exact DX rfl (.of_eq rfl)
 ·rw[if_neg h]
  refine wf ?_
  exact DX rfl (.of_eq rfl)⟩
theorem UD (r:Repo) (n m:Str) (hg:Dc r.pool):Bl Tryz.prog 37 [.agg (Ay r),.str n,.str m] (.tuple [.agg (Ay (IA r n m).1),.raw (.int .i64 (IA r n m).2)]):=⟨by
 have c1:=GN r hg
 refine Ak Tryz.func37 Tryz.ntmps37 rfl (rs:= [.cell 6 27,.tmp 7]) rfl rfl fun hb LF=>?_
 unfold IA
 refine gQ fun b3=>?_
 refine BR fun b6=>?_
 by_cases h1:EO r≠0
 ·rw[if_pos h1]
  generalize EO r=e at c1 h1 ⊢
  refine wf ?_
  refine AL (fun _=>?_) (fun h=>absurd h h1)
  refine wf ?_
  exact DX rfl (.of_eq rfl)
 rw[if_neg h1]
 have h1:=Aj.1 h1
 rw[h1]at c1
 have v:=(DH hg).1 h1
 have c2:=Sc r m v
 refine wf ?_
 refine AO (fun h=>?_) (fun h=>?_)
 ·rw[if_pos (by simpa using h)]
  refine wf ?_
  exact DX rfl (.of_eq rfl)
 rw[if_neg (by simpa using h)]
 have c3:=ZJ r n
 by_cases h2:NJ r n≠0
 ·rw[if_pos h2]
  generalize NJ r n=e at c3 h2 ⊢
  refine wf ?_
  refine AL (fun _=>?_) (fun h=>absurd h h2)
  refine wf ?_
  exact DX rfl (.of_eq rfl)
 rw[if_neg h2]
 obtain⟨f1,f2⟩:=Mr h2
 rw[Aj.1 h2]at c3
 cases hv:C6 r m with
 |none=>
  rw[hv]at c2
  simp only[Option.getD_some,Option.getD_none,Option.isSome_some,Option.isSome_none]at c2
  refine wf ?_
  exact DX rfl (.of_eq rfl)
 |some s=>
  rw[hv]at c2
  simp only[Option.getD_some,Option.getD_none,Option.isSome_some,Option.isSome_none]at c2
  dsimp only
  have hl:=v.lenB
  have c4:=fun t=>OZ (fH r.branches t ⟨n,ids s⟩ v.ascB f1 (by omega))
  refine wf ?_
  refine A1 (fun h=>?_) (fun h=>?_)
  ·rw[if_pos h]
   refine wf ?_
   exact DX rfl (.of_eq rfl)
  ·rw[if_neg h]
   refine wn ?_
   refine BZ 8 ?_ ?_
   ·decide+kernel
   refine wf ?_
   exact DX rfl (.of_eq rfl)⟩
theorem l5 (r:Repo) (n:Str) (hg:Dc r.pool):Bl Tryz.prog 38 [.agg (Ay r),.str n] (.tuple [.agg (Ay (PA r n).1),.raw (.int .i64 (PA r n).2)]):=⟨by
 have c1:=GN r hg
 refine Ak Tryz.func38 Tryz.ntmps38 rfl (rs:= [.cell 4 27,.tmp 5]) rfl rfl fun hb LF=>?_
 unfold PA
 refine gQ fun b2=>?_
 refine BR fun b4=>?_
 by_cases h1:EO r≠0
 ·rw[if_pos h1]
  generalize EO r=e at c1 h1 ⊢
  refine wf ?_
  refine AL (fun _=>?_) (fun h=>absurd h h1)
  refine wf ?_
  exact DX rfl (.of_eq rfl)
 rw[if_neg h1]
 have h1:=Aj.1 h1
 rw[h1]at c1
 have v:=(DH hg).1 h1
 have hlb:=v.lenB
 have hlt:=v.lenT
 have c2:=fun t=>fq r.tags t n
 have c3:=fun t=>Oa r.branches t n
 by_cases hT:C3 Tgg.name r.tags n < 0
 ·refine wf ?_
  refine A1 (fun h=>?_) (fun h=>?_)
  ·omega
  clear h c2
  refine wf ?_
  by_cases hB:C3 Brn.name r.branches n < 0
  ·rw[if_pos ⟨hB,hT⟩]
   refine A1 (fun h=>?_) (fun h=>absurd hB h)
   refine wf ?_
   exact DX rfl (.of_eq rfl)
  rw[if_neg (fun h=>hB h.1)]
  refine A1 (fun h=>absurd h hB) (fun _=>?_)
  refine wf ?_
  refine A1 (fun h=>?_) (fun h=>?_)
  ·rw[if_pos h]
   refine wf ?_
   exact DX rfl (.of_eq rfl)
  rw[if_neg h,if_pos (by omega)]
  obtain⟨k,hk⟩: ∃ k:Nat,C3 Brn.name r.branches n=k:=⟨(C3 Brn.name r.branches n).toNat,by omega⟩
  obtain⟨hk1,_,_⟩:=Ew _ hk
  rw[hk,Br]
  refine wf ?_
  refine Bo (xs:= [.tmp 45]) [] (.box b4 27 (Ay Repo.zero):: .box b2 27 (Ay r)::LF) (f:=94) (cs:= []) (Bx _) rfl rfl (.refl _) _ (LH r.branches .ro (by omega)) fun x R0 ⟨v0,e1,hv0⟩=>?_
  subst e1
  refine wf ?_
  refine Bo (xs:= [.tmp 46,.tmp 47,.tmp 49]) R0 (.box b4 27 (Ay Repo.zero):: .box b2 27 (Ay r)::LF) (f:=93) (cs:= []) (Bx _) rfl rfl (.refl _) _ (bg v0 r.branches R0 hv0 k hk1 (by omega)) fun x R1 ⟨e1,e2⟩=>?_
  subst e1 e2
  rw[BK]
  refine wf ?_
  exact DX rfl (.of_eq rfl)
 ·obtain⟨k,hk⟩: ∃ k:Nat,C3 Tgg.name r.tags n=k:=⟨(C3 Tgg.name r.tags n).toNat,by omega⟩
  obtain⟨hk1,hkn,_⟩:=Ew _ hk
  have hB:C3 Brn.name r.branches n < 0:=(Df _).2 fun b hb e=>(v.okT _ (AK hk1)).new b hb (e.trans hkn.symm)
  have hcur:n≠r.current:=by
   rintro rfl
   obtain⟨b,hb,e⟩:=v.cur
   exact(Df _).1 hB b hb e
  rw[if_neg (fun h=>hT h.2),if_neg hcur,if_neg (by omega),hk,Br]
  rw[hk]at c2
  refine wf ?_
  refine Bo (xs:= [.tmp 22]) [] (.box b4 27 (Ay Repo.zero):: .box b2 27 (Ay r)::LF) (f:=92) (cs:= []) (Bx _) rfl rfl (.refl _) _ (Ny r.tags .ro (by omega)) fun x R0 ⟨v0,e1,hv0⟩=>?_
  subst e1
  refine wf ?_
  refine Bo (xs:= [.tmp 23,.tmp 24,.tmp 26]) R0 (.box b4 27 (Ay Repo.zero):: .box b2 27 (Ay r)::LF) (f:=91) (cs:= []) (Bx _) rfl rfl (.refl _) _ (bc v0 r.tags R0 hv0 k hk1 (by omega)) fun x R1 ⟨e1,e2⟩=>?_
  subst e1 e2
  rw[BK]
  refine wf ?_
  exact DX rfl (.of_eq rfl)⟩
theorem Wb {r:Repo} (v:H4 r) {n:Str} {k:Nat} (hk:C3 Brn.name r.branches n=k): ∃ h:k < r.branches.length,Kx r n=Bt r.pool r.branches[k].ids∧(∀ l,Dw Brn.name r.branches ⟨n,l⟩=r.branches.set k { r.branches[k]with ids:=l })∧r.branches.getD (C3 Brn.name r.branches n).toNat Brn.zero=r.branches[k]:=by
 obtain⟨h,e,_⟩:=Ew _ hk
 refine⟨h,?_,fun l=>?_,?_⟩
 ·unfold Kx
  rw[hk,Br,GK h]
 ·rw[GY _ v.ascB h e]
  congr 1
  rw[←e]
 ·rw[hk,Br,GK h]
theorem PO (r:Repo) (n:Str) (d:Dig) (hg:Dc r.pool):Bl Tryz.prog 27 [.agg (Ay r),.str n,.agg (eDig d)] (.tuple [.agg (Ay (Fg r n d).1),.raw (.int .i64 (Fg r n d).2)]):=⟨by
 have c1:=GN r hg
 have h200:=hg.1
 have kl:B3 (r.pool.length≤1000000):=⟨by omega⟩
 refine Ak Tryz.func27 Tryz.ntmps27 rfl (rs:= [.cell 6 27,.tmp 7]) rfl rfl fun hb LF=>?_
 unfold Fg
 refine wf ?_
 refine BR fun b6=>?_
 by_cases h1:EO r≠0
 ·rw[if_pos h1]
  generalize EO r=e at c1 h1 ⊢
  refine wf ?_
  refine AL (fun _=>?_) (fun h=>absurd h h1)
  refine wf ?_
  exact DX rfl (.of_eq rfl)
 rw[if_neg h1]
 have h1:=Aj.1 h1
 rw[h1]at c1
 have v:=(DH hg).1 h1
 have hlb:=v.lenB
 have c2:=fun t=>Oa r.branches t n
 by_cases hB:C3 Brn.name r.branches n < 0
 ·rw[if_pos hB]
  refine wf ?_
  refine A1 (fun h=>?_) (fun h=>absurd hB h)
  refine wf ?_
  exact DX rfl (.of_eq rfl)
 rw[if_neg hB]
 obtain⟨k,hk⟩: ∃ k:Nat,C3 Brn.name r.branches n=k:=⟨(C3 Brn.name r.branches n).toNat,by omega⟩
 obtain⟨hk1,e2,e3,_⟩:=Wb v hk
 have vs:C7 (Kx r n):=(v.set_view hB).2.1.vp
 rw[hk]at c2
 rw[e2]at vs ⊢
 rw[e3]
 have c3:=fun t=>Xx (Bt r.pool r.branches[k].ids) t d vs
 by_cases h2:(MU (Bt r.pool r.branches[k].ids) d).2≠0
 ·rw[if_pos h2]
  generalize MU (Bt r.pool r.branches[k].ids) d=z at c3 h2 ⊢
  refine wf ?_
  refine AL (fun _=>?_) (fun h=>absurd h h2)
  refine wf ?_
  exact DX rfl (.of_eq rfl)
 rw[if_neg h2]
 generalize MU (Bt r.pool r.branches[k].ids) d=z at c3 h2 ⊢
 obtain⟨z1,z2⟩:=z
 have h2:z2=0:=Aj.1 h2
 subst h2
 have c4:=fun t=>O0 r k z1 t hk1 (by omega)
 refine wf ?_
 exact DX rfl (.of_eq rfl)⟩
end Go.Proofs
