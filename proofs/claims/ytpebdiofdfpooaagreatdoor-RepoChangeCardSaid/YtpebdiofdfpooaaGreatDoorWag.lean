/- The small logic: rows of values known to the letter. Library, no statement of its own. -/
import Derived.Test.YtpebdiofdfpooaaGreatDoorWaf
import Derived.Test.YtpebdiofdfpooaaGreatDoorWad
import Derived.Lib.Overlaps
import Derived.Laws.Externs
set_option linter.unusedSimpArgs false
set_option linter.unusedVariables false
namespace Go.Q
open Go
class VK (P:Program) (T:Nat) (E sz:outParam Nat) (by_:outParam Nat):Prop where
 out: ∃ i z,P.underlying T=some (.slice E)∧P.info? E=some i∧i.size=sz∧i.bytes=by_∧i.zero=some z∧z.cells.size=sz∧sz≠0∧sz≤by_
inductive Hy (E sz:Nat):Value→Nat→List Value→List Res→Prop
 |nil (o:Option Addr) (ho: ∀ a,o=some a→a.spot=none):Hy E sz (.slice o 0 0) 0 [] []
 |row {r n cap:Nat} {cur:Array Value} {us:List Value} (hl:n≤cap) (hs:cur.size=cap*sz) (hu:us.length=n*sz) (hc:cur.toList.take (n*sz)=us):Hy E sz (.slice (some ⟨r,0,none⟩) n cap) n us [.raw r (.cells cur E (0,0))]
theorem Hy.len {E sz n:Nat} {v:Value} {us:List Value} {R:List Res} (h:Hy E sz v n us R):us.length=n*sz:=by
 cases h with
 |nil o ho=>simp
 |row hl hs hu hc=>exact hu
theorem Hy.one {E sz n:Nat} {v:Value} {us:List Value} {R:List Res} (h:Hy E sz v n us R):v.oneCell'=true:=by cases h<;>rfl
theorem Hy.slice {E sz n:Nat} {v:Value} {us:List Value} {R:List Res} (h:Hy E sz v n us R): ∃ o c,v= .slice o n c:=by cases h<;>exact⟨_,_,rfl⟩
theorem VI {P:Program} {T T₂ E sz by_ ty:Nat} [hT:VK P T E sz by_] (hu:P.underlying T₂=some .string∨ ∃ e,P.underlying T₂=some (.slice e)) {w:World} {g:Gh} {LF R:List Res} {v:Value} {n m:Nat} {us:List Value} (u:Value) (vs:List Value)
  (hi:DM w g (R++LF)) (hv:Hy E sz v n us R) (hl: ∀ w',(Builtin.lenOf u).run P w'= .ok m w') (hvl:vs.length=m*sz) (hone: ∀ x∈vs,x.oneCell'=true)
  (hf: ∀ w',w'.heap=w.heap→(Builtin.firstCells sz m u).run P w'= .ok vs.toArray w') (hb:(n+m)*by_≤140737488355328) (hm:n+m≤140737488355328):
  ∃ v' w' R',(Builtin.append_ #[T,T₂] ty #[v,u]).run P w= .ok v' w'∧Hy E sz v' (n+m) (us++vs) R'∧DM w' g (R'++LF)∧Ej (Ao (R++LF)) w g w' g∧DV w (R++LF) (R'++LF):=by
 obtain⟨i,z,t1,t2,t3,t4,t5,t6,t7,t8⟩:=hT.out
 have hul:=hv.len
 have grown: ∀ cap nc (base:Option Addr),¬(n+m≤cap)→v= .slice base n cap→(∀ w',w'.heap=w.heap→(Builtin.firstCells sz n (.slice base n cap)).run P w'= .ok us.toArray w')→nc=grownCap w (n+m) cap E→
   (Builtin.append_ #[T,T₂] ty #[v,u]).run P w= .ok (.slice (some ⟨w.heap.size,0,none⟩) (n+m) nc) (w.drew.alloc (.cells ((us++vs).toArray++Builtin.zeroCells z.cells (nc - (n+m))) E (0,0))):=by
  rintro cap nc base hn rfl hfl rfl
  have hgrow:cap < n+m:=by omega
  have h63': ¬(9223372036854775807 < ((n:Int)+(m:Int))):=by omega
  have h48': ¬(281474976710656 < Builtin.nextslicecap (n+m) cap*i.bytes):=by
   rw[t4]
   have:Builtin.nextslicecap (n+m) cap*by_≤2*140737488355328:=by
    calc Builtin.nextslicecap (n+m) cap*by_≤(2*(n+m))*by_:=Au _ (GZ hgrow)
     _=2*((n+m)*by_):=by rw[ZK]
     _≤2*140737488355328:=HG _ hb
   omega
  have f1:=hfl w.drew rfl
  have f2:=hf w.drew rfl
  rcases hu with hu|⟨e,hu⟩<;>
  ·simp[Builtin.append_,run_underlying t1,run_underlying hu,sizeOf,typeInfo,zeroValue,t2,t3,t5,hl,hn,h63',h48',Question.forced,f1,f2,newRow,grownCap]
   congr 2
   apply MY
   simp[AL]
 have res: ∀ nc,n+m≤nc→ ∃ R',Hy E sz (.slice (some ⟨w.heap.size,0,none⟩) (n+m) nc) (n+m) (us++vs) R'∧DM (w.drew.alloc (.cells ((us++vs).toArray++Builtin.zeroCells z.cells (nc - (n+m))) E (0,0))) g (R'++LF)∧
   Ej (Ao (R++LF)) w g (w.drew.alloc (.cells ((us++vs).toArray++Builtin.zeroCells z.cells (nc - (n+m))) E (0,0))) g∧DV w (R++LF) (R'++LF):=fun nc hnc=>by
  obtain⟨k1,k2,k3⟩:=Nw hi (.cells ((us++vs).toArray++Builtin.zeroCells z.cells (nc - (n+m))) E (0,0))
  have hlen:(us++vs).length=(n+m)*sz:=by rw[A7,hul,hvl,Bq]
  refine⟨[.raw w.heap.size (.cells ((us++vs).toArray++Builtin.zeroCells z.cells (nc - (n+m))) E (0,0))],.row hnc ?_ hlen ?_,k1,k2,k3⟩
  ·rw[Array.size_append,size_zeroCells,t6,BJ,hlen,←Bq]
   congr 1;omega
  ·simp only[Array.toList_append]
   exact Dy hlen
 cases hv with
 |nil o ho=>
  by_cases hs:m=0
  ·subst hs
   have hv0:vs= []:=BU (by simpa using hvl)
   subst hv0
   refine⟨.slice o 0 0,w,[],?_,.nil o ho,hi,.refl _ _ _,.refl _ _⟩
   have f2:=hf w rfl
   rcases hu with hu|⟨e,hu⟩<;>(simp[Builtin.append_,run_underlying t1,run_underlying hu,sizeOf,typeInfo,t2,t3,hl,f2];cases o<;>simp[storeCells])
  ·have hr:=grown 0 _ o (by omega) rfl (fun w' _=>by
    cases o with
    |none=>rfl
    |some a=>show(loadCells a (0*sz)).run P w'=_;rw[xm];rfl) rfl
   obtain⟨R',k1,k2,k3,k4⟩:=res _ (grownCap_ge w (0+m) 0 E)
   exact⟨_,_,R',hr,k1,k2,k3,k4⟩
 |row hlc hs hu' hc=>
  rename_i r cap cur
  obtain⟨h1,h2,h3,hn,hiL⟩:=hi.rawHead
  by_cases hroom:n+m≤cap
  ·have hbk':w.heap[r]? =some (.cells cur.toList.toArray E (0,0)):=by simpa using h1
   have hfit:n*sz+m*sz≤cap*sz:=by rw[←Bq];exact Au _ hroom
   obtain⟨w',hrun,hb',hos,htp,hout,hsz',hkk⟩:=Eg (P:=P) vs w cur.toList (n*sz) 0 hbk' (by simp only[C8,hs,hvl,DR];exact hfit) hone
   refine⟨.slice (some ⟨r,0,none⟩) (n+m) cap,w',[.raw r (.cells (cur.toList.take (n*sz+0)++vs++cur.toList.drop (n*sz+0+vs.length)).toArray E (0,0))],?_,.row hroom ?_ ?_ ?_,hi.turnRaw hb' hkk,⟨hos,htp,hout,Dd hsz'.symm,fun k _ hk=>hkk k (fun e=>hk (by simp[Ao,Res.block,e])),.refl g,fun _ _ _=>⟨fun _=>rfl,rfl⟩⟩,fun b hb _=>by simpa [Ao,Res.block]using hb⟩
   ·have f2:=hf w rfl
    rcases hu with hu|⟨e,hu⟩<;>simp[Builtin.append_,run_underlying t1,run_underlying hu,sizeOf,typeInfo,t2,t3,hl,hroom,f2,DQ,hrun]
   ·have h9:n*sz≤cap*sz:=Au _ hlc
    simp only[BJ,A7,AG,Ab,C8,hs,hvl,DR,DE h9];omega
   ·rw[A7,hul,hvl,Bq]
   ·rw[DR,hc]
    exact Dy (by rw[A7,hul,hvl,Bq])
  ·have hr:=grown cap _ (some ⟨r,0,none⟩) hroom rfl (fun w' hw'=>by
    show(loadCells _ (n*sz)).run P w'=_
    rw[←hul]
    refine Ec fun j hj=>?_
    have hj3:j < n*sz:=by omega
    have hj2:j < cur.toList.length:=by
     rw[C8,hs]
     exact FR hj3 (Au _ hlc)
    simp only[World.cell?,hw',h1,BZ,BP,if_false,B3]
    have:us[j]=cur.toList[j]:=by
     have:=KS hc.symm hj
     rw[this,Ep]
    rw[this]
    simp[Cf (show j < cur.size by simpa using hj2)]) rfl
   obtain⟨R',k1,k2,k3,k4⟩:=res _ (grownCap_ge w (n+m) cap E)
   exact⟨_,_,R',hr,k1,k2,k3,k4⟩
theorem VJ {P:Program} {T T₂ E sz by_ ty:Nat} [hT:VK P T E sz by_] (hu:P.underlying T₂=some .string∨ ∃ e,P.underlying T₂=some (.slice e)) {w:World} {g:Gh} {LF R:List Res} {v:Value} {n m:Nat} {us:List Value} (u:Value) (vs:List Value)
  (hi:DM w g (R++LF)) (hv:Hy E sz v n us R) (hl: ∀ w',(Builtin.lenOf u).run P w'= .ok m w') (hvl:vs.length=m*sz) (hone: ∀ x∈vs,x.oneCell'=true)
  (hf: ∀ w',(∀ b o x,g.H b o=some x→w'.cell? ⟨b,o,none⟩=some x)→(Builtin.firstCells sz m u).run P w'= .ok vs.toArray w') (hb:(n+m)*by_≤140737488355328) (hm:n+m≤140737488355328):
  ∃ v' w' R',(Builtin.append_ #[T,T₂] ty #[v,u]).run P w= .ok v' w'∧Hy E sz v' (n+m) (us++vs) R'∧DM w' g (R'++LF)∧Ej (Ao (R++LF)) w g w' g∧DV w (R++LF) (R'++LF):=
 VI hu u vs hi hv hl hvl hone (fun w' e=>hf w' fun b o x h=>by
  have:=hi.sat b o x h
  simp only[World.cell?,e]at this ⊢
  exact this) hb hm
theorem raws_inv {g:Gh}: ∀ {us vs:List Value},E5 g us (vs.map PV.raw)→us=vs
 | [],[],_=>rfl
 | [],_::_,h=>by have:=h.len;simp at this
 |_::_,[],h=>by have:=h.len;simp at this
 |u::us,v::vs,h=>by
  have h':=E5.uncons (xs:=vs.map PV.raw) h
  rw[h'.1.raw_inv,raws_inv h'.2]
class O7 {α:Type} (f:α→List PV) (vf:outParam (α→List Value)):Prop where
 out: ∀ a,f a=(vf a).map PV.raw
 one: ∀ a,∀ x∈vf a,x.oneCell'=true
theorem Qy {α:Type} {f:α→List PV} {vf:α→List Value} [h:O7 f vf] (l:List α):(l.map f).flatten=(l.flatMap vf).map PV.raw:=by
 induction l with
 |nil=>rfl
 |cons x l ih=>rw[BH,CH,ih,h.out,Cn,Az]
theorem NI {α:Type} {f:α→List PV} {vf:α→List Value} {sz:Nat} [h:O7 f vf] [hf:KY f sz] (l:List α):(l.flatMap vf).length=l.length*sz:=by
 have:=Cp (xs:=l.map f) (sz:=sz) (fun e he=>by obtain⟨a,_,rfl⟩:=AX.1 he;exact hf.out a)
 rw[Qy l]at this
 simpa using this
def Jf {α:Type} (vf:α→List Value) (E sz:Nat) (v:Value) (l:List α) (R:List Res):Prop:=Hy E sz v l.length (l.flatMap vf) R
section
variable {P:Program} {N:Nat} {all:Array Oper} {K:Env→List Res→Prop} {fl:List Bool} {os:List Oper} {ρ:Env} {L:List Res} {d:Nat} {ty:TypeId} {pos:String} {af:Array Edge}
theorem PO {T T₂ E E₂ sz by_:Nat} {α:Type} {f:α→List PV} {vf:α→List Value} [hT:VK P T E sz by_] [h2:L0 P T₂ E₂] [hf:KY f sz] [hr:O7 f vf] {x y:Operand} {v:Value} {l m:List α} {t:CZ} {R LF:List Res} (F:List Res→List Res)
  (hx:ρ.ev x= .raw v) (hy:ρ.ev y= .slice (m.map f) t) (hv:Jf vf E sz v l R) (hp:L.Perm (R++LF)) (hq: ∀ R',(R'++LF).Perm (F R')) (hb:(l.length+m.length)*by_≤140737488355328) (hm:l.length+m.length≤140737488355328)
  (k: ∀ v' R',Jf vf E sz v' (l++m) R'→AW P N all K fl.tail os (CT ρ d (.raw v')) (F R')) (hd:Nat.blt d N=true:=by rfl) (hfl:fl.headD true=true:=by rfl):
  AW P N all K fl (⟨some d,.call { callee:= .builtin .append,args:= #[x,y],argTypes:= #[T,T₂] },ty,pos,af,none⟩::os) ρ L:=
 Dp rfl (QF hd) hfl (FW.perm hp fun a w g ha hi=>by
  have h1:=CW ha (x:=x) (by simp[Op.operands,Call.operands]) hx
  have h3:=ha y (by simp[Op.operands,Call.operands])
  rw[hy]at h3
  obtain⟨base,cap,e,_,_,hnone,_,_,us,hus,hcell⟩:=h3.slice_cells (sz:=sz) (fun e he=>by obtain⟨a,_,rfl⟩:=AX.1 he;exact hf.out a)
  rw[Qy m]at hus
  have hus':=raws_inv hus
  subst hus'
  rw[AF]at e
  have hvl:(m.flatMap vf).length=m.length*sz:=NI (f:=f) m
  obtain⟨v',w',R',q1,q2,q3,q4,q5⟩:=VJ (P:=P) (T:=T) (T₂:=T₂) (ty:=ty) (.inr ⟨_,h2.out⟩) (.slice base m.length cap) (m.flatMap vf) hi hv (fun _=>rfl) hvl (fun x hx=>by obtain⟨a,_,ha⟩:=Ra.1 hx;exact hr.one a x ha) (fun w' hs'=>by
   cases base with
   |none=>
    have h0:=(hnone rfl).1
    have:m= []:=by simpa using h0
    subst this;rfl
   |some ad=>
    obtain⟨b,o,sp⟩:=ad
    obtain⟨hs,hH⟩:=hcell _ rfl
    show(loadCells _ (m.length*sz)).run P w'=_
    rw[←hvl]
    exact IL (hs.imp_left fun h=>by
     have:m= []:=by simpa using h.1
     subst this;rfl) fun j hj=>hs' _ _ _ (hH j hj)) hb hm
  have he:execOp a.eval ⟨some d,.call { callee:= .builtin .append,args:= #[x,y],argTypes:= #[T,T₂] },ty,pos,af,none⟩=(do pure (.value (←Builtin.append_ #[T,T₂] ty (#[x,y].map a.eval)))):=rfl
  have hrun:(execOp a.eval ⟨some d,.call { callee:= .builtin .append,args:= #[x,y],argTypes:= #[T,T₂] },ty,pos,af,none⟩).run P w= .ok (.value v') w':=by
   rw[he];simp[h1,e,q1]
  refine Oper.wq_of_run hrun ?_
  exact⟨v',.raw v',g,F R',rfl,.raw _,q3.perm (hq R'),q4,fun b hb hlt=>q5 b ((DC (hq R')).symm.subset hb) hlt,k v' R' (by unfold Jf;rw[A7,Ez];exact q2)⟩)
theorem Re {T T' E:Nat} [hT:L0 P T E] {x:Operand} {xs:List (List PV)} {t:CZ} (hx:ρ.ev x= .slice xs t) (k: ∀ b:Bool,(b=true→xs= [])→AW P N all K fl.tail os (CT ρ d (.raw (.bool b))) L) (hd:Nat.blt d N=true:=by rfl) (hfl:fl.headD true=true:=by rfl):
  AW P N all K fl (⟨some d,.binOp .eql T x (.const (.slice none 0 0)) T',ty,pos,af,none⟩::os) ρ L:=
 Dp rfl (QF hd) hfl (fun a w g ha hi=>by
  have h1:=ha x (by simp[Op.operands])
  rw[hx]at h1
  have hs: ∃ o n c,a.eval x= .slice o n c∧(o=none→xs= []):=by
   generalize a.eval x=v at h1
   cases h1 with
   |nilN o ho=>exact⟨_,_,_,rfl,fun _=>rfl⟩
   |nilR=>exact⟨_,_,_,rfl,fun _=>rfl⟩
   |slice sz f hl hc hm hs hH hv ht hn=>exact⟨_,_,_,rfl,fun e=>by cases e⟩
  obtain⟨o,n,c,e,ho⟩:=hs
  have hrun:(execOp a.eval ⟨some d,.binOp .eql T x (.const (.slice none 0 0)) T',ty,pos,af,none⟩).run P w= .ok (.value (.bool o.isNone)) w:=by
   have h: ∀ d:Nat,(Op.equalIn (d+1) T (.slice o n c) (.slice none 0 0)).run P w= .ok o.isNone w:=fun d=>by
    cases o<;>simp[Op.equalIn,run_underlying hT.out]
   have hc:a.eval (.const (.slice none 0 0))= .slice none 0 0:=rfl
   simp only[execOp,e,hc]
   simp[eqGuard,binOp,Op.equal,Op.maxDepth,h 9999]
  refine Oper.wq_of_run hrun ?_
  exact⟨_,.raw (.bool o.isNone),g,L,rfl,.raw _,hi,.refl _ _ _,.refl _ _,k _ (fun h=>ho (by simpa using h))⟩)
theorem Rh {α:Type} {vf:α→List Value} {T E sz by_:Nat} [hE:VK P T E sz by_] (k: ∀ v,Jf vf E sz v [] []→AW P N all K fl.tail os (CT ρ d (.raw v)) L) (hd:Nat.blt d N=true:=by rfl) (hfl:fl.headD true=true:=by rfl):AW P N all K fl (⟨some d,.buildSlice T 0 #[],ty,pos,af,none⟩::os) ρ L:=
 Dp rfl (QF hd) hfl (by
  intro a w g ha hi
  obtain⟨i,z,t1,t2,t3,t4,t5,t6,t7,t8⟩:=hE.out
  obtain⟨j1,j2,j3⟩:=hi.lay [] E
  have hr:(execOp a.eval ⟨some d,.buildSlice T 0 #[],ty,pos,af,none⟩).run P w= .ok (.value (.slice (some ⟨w.heap.size,0,none⟩) 0 0)) { w with heap:=w.heap.push (.cells [].toArray E (0,0)) }:=by
   show(do pure (Next.value (←Instr.buildSlice T 0 ((#[]:Array (Nat × Operand)).map fun(p:Nat × Operand)=>(p.1,a.eval p.2)))):Sem Next).run P w=_
   have hzv:(zeroValue E).run P w= .ok z w:=by simp[zeroValue,typeInfo,t2,t5]
   simp only[Instr.buildSlice,Sem.run_bind,run_underlying t1,Result.andThen_ok,sizeOf,typeInfo,run_program,t2,Sem.run_pure,t3]
   rw[if_neg (by simp)]
   split
   ·simp[Instr.fill,newRow];congr 2;apply HQ;simp
   ·simp[hzv,Instr.fill,newRow];congr 2;apply HQ;simp
  refine Oper.wq_of_run hr ?_
  exact⟨_,.raw _,_,L,rfl,.raw _,j1,j2,.refl _ _,k _ (.nil _ (fun a e=>by cases e;rfl))⟩)
end
section
variable {α:Type} {vf:α→List Value} {sz:Nat} (hl: ∀ a,(vf a).length=sz)
include hl
theorem Oh: ∀ (l:List α) (k:Nat) (h:k < l.length) (rest:List Value),((l.flatMap vf++rest).drop (k*sz)).take sz=vf l[k]
 |x::l,0,h,rest=>by
  rw[xm,L7,Cn,AL]
  exact Dy (hl x)
 |x::l,k+1,h,rest=>by
  rw[Cn,AL,show(k+1)*sz=(vf x).length+k*sz by rw[hl,Bq];omega,List.drop_append]
  simp only[Ct]
  rw[CY (by omega),BL,show(vf x).length+k*sz - (vf x).length=k*sz by omega]
  exact Oh l k (by simpa using h) rest
theorem Yd: ∀ (l:List α) (k:Nat) (_:k < l.length) (d:α) (rest:List Value),(l.flatMap vf++rest).take (k*sz)++vf d++(l.flatMap vf++rest).drop (k*sz+sz)=(l.set k d).flatMap vf++rest
 |x::l,0,h,d,rest=>by
  rw[xm,sV,BL,B3,Cn,AL,o7 (hl x),bC,Cn,AL]
 |x::l,k+1,h,d,rest=>by
  have ih:=Yd l k (by simpa using h) d rest
  have e:(k+1)*sz=(vf x).length+k*sz:=by rw[hl,Bq];omega
  rw[e,E3,Cn,AL (vf x),OA,OC,List.set_cons_succ,Cn,AL (vf x),AL (vf x),ih,AL]
end
theorem Jf.inv {α:Type} {vf:α→List Value} {sz E n c:Nat} {o:Option Addr} {R:List Res} {l:List α} (hv:Jf vf E sz (.slice o n c) l R) (h:l≠ []):
  n=l.length∧ ∃ r cur rest,o=some ⟨r,0,none⟩∧R= [.raw r (.cells cur E (0,0))]∧cur.toList=l.flatMap vf++rest∧cur.size=c*sz∧l.length≤c:=by
 unfold Jf at hv
 generalize hn:l.length=m at hv
 generalize hus:l.flatMap vf=us at hv
 cases hv with
 |nil o ho=>exact absurd (BU hn) h
 |row hl hs hu hc=>
  rename_i r cur
  refine⟨rfl,r,cur,cur.toList.drop (n*sz),rfl,rfl,?_,hs,by omega⟩
  rw[←hc,CB]
theorem Jf.mk {α:Type} {vf:α→List Value} {sz E c r:Nat} {cur:Array Value} {l:List α} {rest:List Value} (hl: ∀ a,(vf a).length=sz) (h1:cur.toList=l.flatMap vf++rest) (h2:cur.size=c*sz) (h3:l.length≤c):Jf vf E sz (.slice (some ⟨r,0,none⟩) l.length c) l [.raw r (.cells cur E (0,0))]:=by
 have h4:(l.flatMap vf).length=l.length*sz:=by
  clear h1 h3
  induction l with
  |nil=>simp
  |cons x l ih=>rw[Cn,A7,hl,ih,AH,Bq];omega
 exact .row h3 h2 h4 (by rw[h1];exact Dy h4)
theorem Jf.freeze {α:Type} {f:α→List PV} {vf:α→List Value} {sz E:Nat} [hr:O7 f vf] [hf:KY f sz] {w:World} {g:Gh} {R L':List Res} {v:Value} {l:List α} (hi:DM w g (R++L')) (hv:Jf vf E sz v l R) (hm:l.length≤maxN∧l.length*sz≤maxN):
  ∃ g',DM w g' L'∧Ej (Ao (R++L')) w g w g'∧DV w (R++L') L'∧VR g' v (.slice (l.map f) .ro):=by
 have hlen:(l.flatMap vf).length=l.length*sz:=NI (f:=f) l
 unfold Jf at hv
 generalize hus:l.flatMap vf=us at hv
 generalize hn:l.length=n at hv
 cases hv with
 |nil o ho=>
  have h0:l= []:=BU hn
  subst h0
  exact⟨g,hi,.refl _ _ _,.refl _ _,(VR.nilN o ho).ro⟩
 |row hl hs hu hc=>
  rename_i r cap cur
  obtain⟨k1,k2,k3,k4,k5⟩:=hi.rawHead
  have hle:=Gh.le_lay (g:=g) (b:=r) (from_:=0) (us:=us) (fun o _=>k2 o)
  have hcs:us.length≤cur.size:=by rw[hu,hs];exact Au _ hl
  have hcell: ∀ j (hj:j < us.length),w.cell? ⟨r,j,none⟩=some us[j]:=fun j hj=>by
   have hj2:j < cur.size:=by omega
   simp only[World.cell?,k1,BZ,BP,if_false]
   rw[Cf hj2]
   have:=KS hc (i:=j) (by rw[hc];exact hj)
   rw[←this,Ep]
   simp
  refine⟨g.lay r 0 us,⟨fun b' o v hv=>?_,fun b' z hz=>hi.satM b' z hz,fun r' hr'=>?_,k5.nodup,hi.glob.mono hle⟩,⟨rfl,rfl,⟨rfl,B4 _⟩,B4 _,fun _ _ _=>rfl,hle,fun k _ hn=>⟨fun o=>Gh.lay_out (fun h=>hn (by rw[h.1];simp[Ao,Res.block])),rfl⟩⟩,fun b hb _=>by simp only[Ao,BM,BL,BF,Res.block];exact AD _ hb,?_⟩
  ·by_cases hin:b'=r∧0≤o∧o < 0+us.length
   ·obtain⟨rfl,_,h6⟩:=hin
    have hj:o < us.length:=by omega
    have:=Gh.lay_in (g:=g) (b:=b') (from_:=0) hj
    rw[B3,hv]at this
    cases this
    exact hcell o hj
   ·rw[Gh.lay_out hin]at hv;exact hi.sat b' o v hv
  ·exact Res.holds_kept hle (k5.res r' hr') fun b' hb'=>⟨rfl,fun o=>Gh.lay_out (fun h=>k4 (Bo.2 ⟨r',hr',by rw[hb',h.1]⟩)),rfl⟩
  ·subst hn
   have huv:E5 (g.lay r 0 us) us (l.map f).flatten:=by
    rw[Qy l,hus]
    exact⟨by simp,fun i h1 h2=>by simp;exact .raw _⟩
   have:=VR.of_cells (g:=g.lay r 0 us) (xs:=l.map f) (t:= .ro) (sz:=sz) (b:=r) (off:=0) (cap:=cap) (fun e he=>by obtain⟨a,_,rfl⟩:=AX.1 he;exact hf.out a) (by simpa using hl) (by simpa using hm) (us:=us) huv (fun j hj=>by
    have:=Gh.lay_in (g:=g) (b:=r) (from_:=0) hj
    rw[B3]at this ⊢
    exact this) (fun b' cap' e=>by cases e) (by simp)
   simpa using this
section
variable {P:Program} {N:Nat} {all:Array Oper} {K:Env→List Res→Prop} {fl:List Bool} {os:List Oper} {ρ:Env} {L:List Res} {d:Nat} {ty:TypeId} {pos:String} {af:Array Edge}
theorem Gn {T:TypeId} {E sz by_:Nat} [hT:L0 P T E] [hE:EG P E sz by_] {x y:Operand} {r off n c k:Nat} {kk:IntKind} (hx:ρ.ev x= .raw (.slice (some ⟨r,off,none⟩) n c)) (hy:ρ.ev y= .raw (.int kk (k:Int))) (hk:k < n)
  (kk':AW P N all K fl.tail os (CT ρ d (.raw (.pointer (some ⟨r,off+k*sz,none⟩)))) L) (hd:Nat.blt d N=true:=by rfl):
  AW P N all K fl (⟨some d,.indexAddr T x y,ty,pos,af,none⟩::os) ρ L:=
 Bb hd (B7 fun a w g ha hi=>by
  have h1:=CW ha (x:=x) (by simp[Op.operands]) hx
  have h2:=CW ha (x:=y) (by simp[Op.operands]) hy
  refine⟨.pointer (some ⟨r,off+k*sz,none⟩),?_,.raw _⟩
  simp only[execOp,Instr.indexAt,h2,h1,asIntOf,Sem.run_bind,Sem.run_pure,Result.andThen_ok,Hf hT.out]
  simp only[Bool.and_false,BP,if_false]
  rw[if_pos ⟨by omega,by omega⟩]
  simp[EG.run hE,DQ]) kk'
theorem Nj {α:Type} {f:α→List PV} {vf:α→List Value} {T sz:Nat} [hT:FG P T sz] [hr:O7 f vf] {x:Operand} {r off E:Nat} {p:Nat × Nat} {cur:Array Value} {a0:α} (hx:ρ.ev x= .raw (.pointer (some ⟨r,off,none⟩))) (hm:Res.raw r (.cells cur E p)∈L) (hv:(cur.toList.drop off).take sz=vf a0) (hle:off+sz≤cur.size)
  (k:AW P N all K fl.tail os (CT ρ d (.agg (f a0))) L) (hd:Nat.blt d N=true:=by rfl):AW P N all K fl (⟨some d,.load T x,ty,pos,af,none⟩::os) ρ L:=
 Bb hd (B7 fun a w g ha hi=>by
  have h1:=CW ha (x:=x) (by simp[Op.operands]) hx
  obtain⟨hb,_,_⟩:=hi.res _ hm
  have hlen:(vf a0).length=sz:=by rw[←hv];simp;omega
  refine⟨.agg (vf a0).toArray,?_,?_⟩
  ·have:=Kj hT.out (w:=w) (b:=r) (o:=off) (vs:=vf a0) hlen (fun j hj=>by
    have hj2:off+j < cur.size:=by omega
    simp only[World.cell?,hb,BZ,BP,if_false]
    rw[Cf hj2]
    have:=KS hv (i:=j) (by rw[hv];exact hj)
    rw[←this]
    simp)
   simp only[execOp,Instr.loadAt,h1,Instr.sureAddr,Sem.run_bind,Sem.run_pure,Result.andThen_ok,this]
  ·rw[hr.out]
   have:E5 g (vf a0) ((vf a0).map PV.raw):=⟨by simp,fun i h1 h2=>by simp;exact .raw _⟩
   exact this.agg) k
theorem lY {α:Type} {f:α→List PV} {vf:α→List Value} {T sz by_:Nat} [hT:EG P T sz by_] [hr:O7 f vf] {x y:Operand} {r off E:Nat} {cur:Array Value} {a0:α} {L':List Res} (F:Res→List Res) (hx:ρ.ev x= .raw (.pointer (some ⟨r,off,none⟩))) (hy:ρ.ev y= .agg (f a0)) (hlen:(vf a0).length=sz) (hle:off+sz≤cur.size)
  (hp:L.Perm (.raw r (.cells cur E (0,0))::L')) (hq: ∀ c,(c::L').Perm (F c))
  (k:AW P N all K fl.tail os ρ (F (.raw r (.cells (cur.toList.take off++vf a0++cur.toList.drop (off+sz)).toArray E (0,0))))) (hfl:fl.headD true=true:=by rfl):AW P N all K fl (⟨none,.store T x y,ty,pos,af,none⟩::os) ρ L:=
 Dp rfl (fun _ e=>by cases e) hfl (FW.perm hp fun a w g ha hi=>by
  have h1:=CW ha (x:=x) (by simp[Op.operands]) hx
  have h2:=ha y (by simp[Op.operands])
  rw[hy]at h2
  obtain⟨us,e,hus⟩:=h2.agg_inv
  rw[hr.out]at hus
  have hus':=raws_inv hus
  subst hus'
  obtain⟨k1,k2,k3,k4,k5⟩:=hi.rawHead
  obtain⟨w',hrun,hb',hos,htp,hout,hsz,hk⟩:=Eg (P:=P) (vf a0) w cur.toList off 0 (by simpa using k1) (by simpa [hlen]using hle) (hr.one a0)
  have hrn:(execOp a.eval ⟨none,.store T x y,ty,pos,af,none⟩).run P w= .ok .skip w':=by
   simp only[execOp,Instr.storeAt,h1,Instr.sureAddr,Sem.run_bind,Sem.run_pure,Result.andThen_ok,storeVar,EG.run hT,e,Value.cells,BJ]
   rw[if_neg (by rw[hlen];simp)]
   simp[hrun]
  rw[DR,hlen]at hb'
  refine Oper.wq_of_run hrn ?_
  exact⟨undef,.raw undef,g,_,rfl,.raw _,(hi.turnRaw hb' hk).perm (hq _),⟨hos,htp,hout,Dd hsz.symm,fun b _ hn=>hk b (fun e=>hn (by simp[Ao,Res.block,e])),.refl g,fun _ _ _=>⟨fun _=>rfl,rfl⟩⟩,
   fun b hb _=>by
    have:=(DC (hq _)).symm.subset hb
    simpa [Ao,Res.block]using this,k⟩)
theorem HY {α:Type} {f:α→List PV} {vf:α→List Value} {sz E:Nat} [hr:O7 f vf] [hf:KY f sz] {R L':List Res} {v:Value} {l:List α} {c:Code} {Q:PPost} (i:Nat) (hv:Jf vf E sz v l R) (hm:l.length≤maxN∧l.length*sz≤maxN) (hp:L.Perm (R++L')) (hi:ρ i= .raw v) (k:EB P N c Q (CT ρ i (.slice (l.map f) .ro)) L'):EB P N c Q ρ L:=
 HA (fun base a w g ha hI=>by
  obtain⟨g',h1,h2,h3,h4⟩:=Jf.freeze (f:=f) (hI.perm hp) hv hm
  refine⟨g',⟨ha.size,ha.defers.mono h2.le,fun j=>?_⟩,h1,h2.grow (fun b hb=>(DC hp).symm.subset hb),fun b hb hlt=>(DC hp).symm.subset (h3 b hb hlt)⟩
  have hj:=(ha.slot j).mono h2.le
  by_cases e:j=i
  ·subst e
   rw[hi]at hj
   show VR g' _ (CT ρ j _ j)
   rw[C4,hj.raw_inv];exact h4
  ·show VR g' _ (CT ρ i _ j)
   rw[GM _ _ e];exact hj) k
theorem K8 {T E sz by_:Nat} [hT:L0 P T E] [hE:EG P E sz by_] {x:Operand} {lo hi:Option Operand} {r off n c:Nat} (i j:Nat) (hx:ρ.ev x= .raw (.slice (some ⟨r,off,none⟩) n c)) (hij:i≤j) (hj:j≤n) (hc:i < c) (hnc:n≤c)
  (hlo: ∀ o,lo=some o→ ∃ k,ρ.ev o= .raw (.int k i)) (hlo':lo=none→i=0) (hhi: ∀ o,hi=some o→ ∃ k,ρ.ev o= .raw (.int k j)) (hhi':hi=none→j=n)
  (k:AW P N all K fl.tail os (CT ρ d (.raw (.slice (some ⟨r,off+i*sz,none⟩) (j - i) (c - i)))) L) (hd:Nat.blt d N=true:=by rfl):
  AW P N all K fl (⟨some d,.slice T x lo hi none,ty,pos,af,none⟩::os) ρ L:=
 Bb hd (B7 fun a w g ha hI=>by
  have e1:=CW ha (x:=x) (by simp[Op.operands]) hx
  have hbl: ∀ o,lo=some o→ ∃ k,a.eval o= .int k i:=fun o e=>by
   obtain⟨k,hk⟩:=hlo o e
   exact⟨k,CW ha (by simp[Op.operands,e]) hk⟩
  have hbh: ∀ o,hi=some o→ ∃ k,a.eval o= .int k j:=fun o e=>by
   obtain⟨k,hk⟩:=hhi o e
   exact⟨k,CW ha (by simp[Op.operands,e]) hk⟩
  have hbounds:(Instr.sliceBounds true n c (lo.map a.eval) (hi.map a.eval) none).run P w= .ok (i,j,c) w:=by
   unfold Instr.sliceBounds
   cases lo with
   |none=>
    have:=hlo' rfl;subst this
    cases hi with
    |none=>have:=hhi' rfl;subst this;simp
    |some o=>
     obtain⟨k,hk⟩:=hbh o rfl
     simp[hk,Instr.sliceBound,asIntOf]
     omega
   |some o=>
    obtain⟨k,hk⟩:=hbl o rfl
    cases hi with
    |none=>
     have:=hhi' rfl;subst this
     simp[hk,Instr.sliceBound,asIntOf]
     omega
    |some o'=>
     obtain⟨k',hk'⟩:=hbh o' rfl
     simp[hk,hk',Instr.sliceBound,asIntOf]
     rw[if_pos (by omega)]
     simp
     omega
  refine⟨.slice (some ⟨r,off+i*sz,none⟩) (j - i) (c - i),?_,.raw _⟩
  show(do pure (Next.value (←Instr.sliceAt T (a.eval x) (lo.map a.eval) (hi.map a.eval) none)):Sem Next).run P w=_
  simp only[Instr.sliceAt,Sem.run_bind,run_underlying hT.out,Result.andThen_ok,Instr.slice,e1,hbounds,EG.run hE,Sem.run_pure]
  rw[if_neg (by omega)]
  simp[DQ]) k
theorem Og {T E sz by_:Nat} [hT:VK P T E sz by_] (hz: ∀ i z,P.info? E=some i→i.zero=some z→ ∀ x∈z.cells,x.oneCell'=true) {x:Operand} {r off n c:Nat} {cur:Array Value} {L':List Res} (F:Res→List Res) (hx:ρ.ev x= .raw (.slice (some ⟨r,off,none⟩) n c)) (hn:0 < n) (hle:off+n*sz≤cur.size)
  (hp:L.Perm (.raw r (.cells cur E (0,0))::L')) (hq: ∀ c,(c::L').Perm (F c))
  (k: ∀ zs:List Value,zs.length=n*sz→AW P N all K fl.tail os ρ (F (.raw r (.cells (cur.toList.take off++zs++cur.toList.drop (off+n*sz)).toArray E (0,0))))) (hfl:fl.headD true=true:=by rfl):
  AW P N all K fl (⟨none,.call { callee:= .builtin .clear,args:= #[x],argTypes:= #[T] },ty,pos,af,none⟩::os) ρ L:=
 Dp rfl (fun _ e=>by cases e) hfl (FW.perm hp fun a w g ha hi=>by
  have h1:=CW ha (x:=x) (by simp[Op.operands,Call.operands]) hx
  obtain⟨i,z,t1,t2,t3,t4,t5,t6,t7,t8⟩:=hT.out
  obtain⟨k1,k2,k3,k4,k5⟩:=hi.rawHead
  have hzl:(Builtin.zeroCells z.cells n).toList.length=n*sz:=by rw[C8,size_zeroCells,t6]
  have hz1: ∀ x∈(Builtin.zeroCells z.cells n).toList,x.oneCell'=true:=fun x hx=>by
   simp only[Builtin.zeroCells,Array.toList_map,AX]at hx
   obtain⟨j,_,rfl⟩:=hx
   have hj:j % z.cells.size < z.cells.size:=bB _ (by rw[t6];omega)
   rw[getElem!_pos z.cells _ hj]
   exact hz i z t2 t5 _ (Array.getElem_mem hj)
  obtain⟨w',hrun,hb',hos,htp,hout,hsz,hk⟩:=Eg (P:=P) (Builtin.zeroCells z.cells n).toList w cur.toList off 0 (by simpa using k1) (by rw[hzl];simpa using hle) hz1
  have he:execOp a.eval ⟨none,.call { callee:= .builtin .clear,args:= #[x],argTypes:= #[T] },ty,pos,af,none⟩=(do pure (.value (←Builtin.clear_ #[T] ty (#[x].map a.eval)))):=rfl
  have hr:(execOp a.eval ⟨none,.call { callee:= .builtin .clear,args:= #[x],argTypes:= #[T] },ty,pos,af,none⟩).run P w= .ok (.value (.tuple #[])) w':=by
   rw[he]
   obtain⟨m,rfl⟩: ∃ m,n=m+1:=⟨n - 1,by omega⟩
   simp[Builtin.clear_,h1,run_underlying t1,zeroValue,typeInfo,t2,t5,hrun]
  rw[DR,hzl]at hb'
  refine Oper.wq_of_run hr ?_
  exact⟨_,.raw _,g,_,rfl,.raw _,(hi.turnRaw hb' hk).perm (hq _),⟨hos,htp,hout,Dd hsz.symm,fun b _ hn=>hk b (fun e=>hn (by simp[Ao,Res.block,e])),.refl g,fun _ _ _=>⟨fun _=>rfl,rfl⟩⟩,
   fun b hb _=>by
    have:=(DC (hq _)).symm.subset hb
    simpa [Ao,Res.block]using this,k _ hzl⟩)
theorem YH {S T:TypeId} [hS:O6 P S] [hT:kM P T] {x:Operand} {s:Str} {ax:PV} {dst:Option Nat} {gd:Option (Nat × Bool)} (hx:ρ.ev x=ax) [jx:HF ax s] (hs:s.length≤maxN) {Ψ:PV→List Res→Prop}
  (k: ∀ t',Ψ (.slice (s.map eBy) t') (.tok t' s.length 1::L)):FW P ⟨dst,.convert S T x,ty,pos,af,gd⟩ ρ L Ψ:=by
 intro a w g ha hi
 obtain⟨E,e1,e2⟩:=hT.out
 have h1:=jx.out g _ (hx ▸ ha x (by simp[Op.operands]))
 let nc:=grownCap w s.length 0 E
 have hnc:s.length≤nc:=grownCap_ge w _ _ _
 let vs:List Value:=s.map fun b=>Value.int .u8 (b.toNat:Int)
 have hvl:vs.length=s.length:=by simp[vs]
 have hsz:(bytesRow (sB s) nc).size=nc:=by simp[bytesRow];omega
 have hrow: ∀ j (h:j < vs.length),(bytesRow (sB s) nc)[j]? =some vs[j]:=fun j h=>by
  have h':j < s.length:=by omega
  rw[bytesRow,Ey (by simp;exact h')]
  simp[vs,sB,h']
 have hr:(execOp a.eval ⟨dst,.convert S T x,ty,pos,af,gd⟩).run P w= .ok (.value (.slice (some ⟨w.heap.size,0,none⟩) s.length nc)) (w.drew.alloc (.cells (bytesRow (sB s) nc) E ((bytesRow (sB s) nc).size,(bytesRow (sB s) nc).size+1))):=by
  show(do pure (Next.value (←convert S T (a.eval x))):Sem Next).run P w=_
  rw[h1]
  have:=run_bytes_of_string (P:=P) w S T E (sB s) hS.out e1 e2
  rw[PQ]at this
  rw[Sem.run_bind,this]
  rfl
 have hvr:E5 g vs (s.map eBy).flatten:=by
  have e: ∀ l:Str,(l.map eBy).flatten=(l.map fun b=>Value.int .u8 (b.toNat:Int)).map .raw:=fun l=>by
   induction l with
   |nil=>rfl
   |cons b l ih=>rw[BH,CH,ih];rfl
  rw[e];exact E5.raws g vs
 have hH0: ∀ o,g.H w.heap.size o=none:=fun o=>by
  cases h:g.H w.heap.size o with
  |none=>rfl
  |some v=>have:=hi.sat _ _ _ h;simp[World.cell?]at this
 have hM0:g.M w.heap.size=none:=by
  cases h:g.M w.heap.size with
  |none=>rfl
  |some v=>exact absurd (hi.satM _ _ h).lt (GH _)
 have hle:=Gh.le_lay (g:=g) (b:=w.heap.size) (from_:=0) (us:=vs) (fun o _=>hH0 o)
 have hget: ∀ (o:Obj) b,b < w.heap.size→(w.drew.alloc o).heap[b]? =w.heap[b]?:=fun o b hb=>by
  show(w.heap.push o)[b]? =_
  rw[HH,if_neg (by omega)]
 have hlast: ∀ (o:Obj),(w.drew.alloc o).heap[w.heap.size]? =some o:=fun o=>by show(w.heap.push o)[w.heap.size]? =_;simp
 have key:=(hi.tok 1).repl (w':=w.drew.alloc (.cells (bytesRow (sB s) nc) E ((bytesRow (sB s) nc).size,(bytesRow (sB s) nc).size+1))) (g':=g.lay w.heap.size 0 vs) (r':= .tok (.own w.heap.size nc) s.length 1) .here rfl rfl ⟨rfl,QG _⟩ (by simp) hle
  (fun k hk _=>hget _ k hk) (fun k hk _=>⟨fun o=>Gh.lay_out (fun h=>by have:=h.1;omega),rfl⟩)
  (fun b₂ o v hv=>by
   by_cases hin:b₂=w.heap.size∧0≤o∧o < 0+vs.length
   ·obtain⟨rfl,_,h4⟩:=hin
    have hj:o < vs.length:=by omega
    have:=Gh.lay_in (g:=g) (b:=w.heap.size) (from_:=0) hj
    rw[B3,hv]at this
    cases this
    simp only[World.cell?,hlast,BZ,BP,if_false]
    exact hrow o hj
   ·rw[Gh.lay_out hin]at hv
    have h3:=hi.sat b₂ o v hv
    have hb2:b₂ < w.heap.size:=by
     rcases BC b₂ w.heap.size with h'|h'
     ·exact h'
     ·simp[World.cell?,Bl h']at h3
    simp only[World.cell?]at h3 ⊢
    rw[hget _ b₂ hb2];exact h3)
  (fun b₂ es hM=>(hi.satM b₂ es hM).congr (hget _ b₂ (hi.satM b₂ es hM).lt))
  ⟨_,E,_,hlast _,by rw[hsz,J9],hnc,fun o ho=>by
   rw[Gh.lay_out (fun h=>by have:=h.2.2;omega)]
   exact hH0 o,hM0,.inr (B4 _)⟩ (fun b₂ hb₂=> .inr (by simp[Res.block]at hb₂;omega))
 refine Oper.wq_of_run hr ?_
 refine⟨_,.slice (s.map eBy) (.own w.heap.size nc),_,_,rfl,?_,key.1,key.2.1,key.2.2,k _⟩
 have:=VR.of_cells (g:=g.lay w.heap.size 0 vs) (xs:=s.map eBy) (t:= .own w.heap.size nc) (sz:=1) (b:=w.heap.size) (off:=0) (cap:=nc) (fun e he=>by obtain⟨b,_,rfl⟩:=AX.1 he;rfl) (by simpa using hnc) (by simpa using hs) (us:=vs) (hvr.mono hle) (fun j hj=>Gh.lay_in hj) (fun b' cap' e=>by cases e;exact⟨rfl,rfl,rfl⟩) (by simp)
 simpa using this
theorem UK {S T:TypeId} [hS:O6 P S] [hT:kM P T] {x:Operand} {s:Str} {ax:PV} (hx:ρ.ev x=ax) [jx:HF ax s] (hs:s.length≤140737488355328)
  (k: ∀ t',AW P N all K fl.tail os (CT ρ d (.slice (s.map eBy) t')) (.tok t' s.length 1::L)) (hd:Nat.blt d N=true:=by rfl) (hfl:fl.headD true=true:=by rfl):AW P N all K fl (⟨some d,.convert S T x,ty,pos,af,none⟩::os) ρ L:=
 Dp rfl (QF hd) hfl (YH hx hs k)
end
theorem DM.lendRow {w:World} {g:Gh} {r E sz cap:Nat} {xs:List (List PV)} {rest:List PV} {LF:List Res} (hi:DM w g (.box r E (xs.flatten++rest)::LF)) (hs: ∀ e∈xs,e.length=sz) (hc:xs.length≤cap) (hm:xs.length≤maxN∧xs.length*sz≤maxN):
  ∃ g',g.le g'∧DM w g' []∧VR g' (.slice (some ⟨r,0,none⟩) xs.length cap) (.slice xs .ro):=by
 obtain⟨us,h1,h2,h3,h4⟩:=hi.res _ (AK)
 have hlen:us.length=(xs.flatten++rest).length:=h2.len
 let u:=us.take xs.flatten.length
 have hul:u.length=xs.flatten.length:=by
  simp only[u,AG,hlen,A7];omega
 have hu:E5 g u xs.flatten:=⟨hul,fun i k1 k2=>by
  have:=h2.at_ i (by rw[hlen,A7];omega) (by rw[A7];omega)
  rw[Bf k2]at this
  simpa [u]using this⟩
 have hle:=Gh.le_lay (g:=g) (b:=r) (from_:=0) (us:=u) (fun o _=>h3 o)
 have hcell: ∀ j (h:j < u.length),w.cell? ⟨r,j,none⟩=some u[j]:=fun j h=>by
  have hj:j < us.length:=by rw[hlen,A7];omega
  simp only[World.cell?,h1,BZ,BP,if_false,UA]
  rw[AZ hj]
  simp[u]
 refine⟨g.lay r 0 u,hle,⟨fun b o v hv=>?_,hi.satM,by simp,by simp[Ao],hi.glob.mono hle⟩,?_⟩
 ·by_cases hin:b=r∧0≤o∧o < 0+u.length
  ·obtain⟨rfl,_,h5⟩:=hin
   have hj:o < u.length:=by omega
   have:=Gh.lay_in (g:=g) (b:=b) (from_:=0) hj
   rw[B3,hv]at this
   cases this
   exact hcell o hj
  ·rw[Gh.lay_out hin]at hv
   exact hi.sat b o v hv
 ·exact VR.of_cells (g:=g.lay r 0 u) (t:= .ro) (sz:=sz) (b:=r) (off:=0) (cap:=cap) hs hc hm (us:=u) (hu.mono hle) (fun j hj=>Gh.lay_in hj) (fun b' cap' e=>by cases e) (by simp)
theorem E5.repl {g g':Gh} {vs:List Value} {ps bs:List PV} {a b:PV} (hv:E5 g vs (ps++a::bs)) (hle:g.le g') (h: ∀ v,VR g v a→VR g' v b):E5 g' vs (ps++b::bs):=
 ⟨by rw[hv.len];simp,fun i k1 k2=>by
  have h0:=hv.at_ i k1 (by simpa using k2)
  by_cases hi1:i < ps.length
  ·rw[Bf hi1]at h0 ⊢;exact h0.mono hle
  ·rw[C6 (by omega)]at h0 ⊢
   by_cases hi2:i - ps.length=0
   ·have e1: ∀ (a:PV),(a::bs)[i - ps.length]'(by simp[hi2])=a:=fun a=>by simp[hi2]
    rw[e1]at h0 ⊢
    exact h _ h0
   ·obtain⟨m,hm'⟩: ∃ m,i - ps.length=m+1:=⟨i - ps.length - 1,by omega⟩
    simp only[hm',Ct]at h0 ⊢
    exact h0.mono hle⟩
theorem B2.lend {P:Program} {f:Nat} {X:Value} {r E sz n cap:Nat} {xs:List (List PV)} {rest:List PV} (ps bs:List PV) (hs: ∀ e∈xs,e.length=sz) (hn:xs.length=n) (hc:n≤cap) (hm:n≤maxN∧n*sz≤maxN)
  (h:Fn P f (ps++ .slice xs .ro::bs) (.raw X)):B2 P f (ps++ .raw (.slice (some ⟨r,0,none⟩) n cap)::bs) [.box r E (xs.flatten++rest)] (fun x L'=>x= .raw X∧L'= [.box r E (xs.flatten++rest)]):=by
 intro vs w g LF hv hi
 subst hn
 obtain⟨g',hle,hi',hsl⟩:=hi.lendRow hs hc hm
 have hv':E5 g' vs (ps++ .slice xs .ro::bs):=hv.repl hle fun v hv=>by rw[hv.raw_inv];exact hsl
 refine(h vs w g' [] hv' (by simpa using hi')).mono ?_
 rintro e w' ⟨v,x,g'',L',rfl,k2,k3,k4,k5,rfl,rfl⟩
 have hk: ∀ k,k < w.heap.size→w'.heap[k]? =w.heap[k]?:=fun k hk=>k4.keep k hk (by simp[Ao])
 exact⟨v,.raw X,g,_,rfl,by rw[k2.raw_inv];exact .raw _,hi.later hk,⟨k4.os,k4.tape,k4.output,k4.size,fun k h _=>hk k h,.refl g,fun _ _ _=>⟨fun _=>rfl,rfl⟩⟩,.refl _ _,rfl,rfl⟩
theorem DM.boxRaw {w:World} {g:Gh} {r E:Nat} {cs:List PV} {LF:List Res} (hi:DM w g (.box r E cs::LF)): ∃ us:List Value,E5 g us cs∧DM w g (.raw r (.cells us.toArray E (0,0))::LF):=by
 obtain⟨us,h1,h2,h3,h4⟩:=hi.res _ (AK)
 refine⟨us,h2,hi.sat,hi.satM,fun x hx=>?_,hi.nodup,hi.glob⟩
 rcases AI.1 hx with rfl|hx
 ·exact⟨h1,h3,h4⟩
 ·exact hi.res x (AD _ hx)
theorem DM.rawBox {w:World} {g:Gh} {r E:Nat} {cur:Array Value} {cs:List PV} {LF:List Res} (hi:DM w g (.raw r (.cells cur E (0,0))::LF)) (h:E5 g cur.toList cs):DM w g (.box r E cs::LF):=by
 obtain⟨h1,h3,h4⟩:=hi.res _ (AK)
 refine⟨hi.sat,hi.satM,fun x hx=>?_,hi.nodup,hi.glob⟩
 rcases AI.1 hx with rfl|hx
 ·exact⟨cur.toList,by simpa using h1,h,h3,h4⟩
 ·exact hi.res x (AD _ hx)
inductive E7 (E sz:Nat):Value→List (List PV)→List Res→Prop
 |nil (o:Option Addr) (ho: ∀ a,o=some a→a.spot=none):E7 E sz (.slice o 0 0) [] []
 |row {r n cap:Nat} {xs:List (List PV)} {rest:List PV} (hn:xs.length=n) (hl:n≤cap) (hs: ∀ e∈xs,e.length=sz) (hc:xs.flatten.length+rest.length=cap*sz):E7 E sz (.slice (some ⟨r,0,none⟩) n cap) xs [.box r E (xs.flatten++rest)]
theorem E7.slice {E sz:Nat} {v:Value} {xs:List (List PV)} {R:List Res} (h:E7 E sz v xs R):(∃ o c,v= .slice o xs.length c)∧ ∀ e∈xs,e.length=sz:=by
 cases h with
 |nil o ho=>exact⟨⟨_,_,rfl⟩,by simp⟩
 |row hn hl hs hc=>subst hn;exact⟨⟨_,_,rfl⟩,hs⟩
theorem E7.open {E sz:Nat} {v:Value} {xs:List (List PV)} {R LF:List Res} {w:World} {g:Gh} (h:E7 E sz v xs R) (hi:DM w g (R++LF)): ∃ us R₁,E5 g us xs.flatten∧Hy E sz v xs.length us R₁∧DM w g (R₁++LF)∧Ao R₁=Ao R:=by
 cases h with
 |nil o ho=>exact⟨[],[],.nil g,.nil o ho,hi,rfl⟩
 |row hn hl hs hc=>
  rename_i r n cap rest
  subst hn
  obtain⟨us,h1,h2⟩:=DM.boxRaw hi
  have hfl:=Cp hs
  have hul:us.length=xs.flatten.length+rest.length:=by rw[h1.len,A7]
  refine⟨us.take (xs.length*sz),_,⟨by rw[AG,hul,hfl];omega,fun i k1 k2=>?_⟩,.row hl (by rw[BJ,hul,hc]) (by rw[AG,hul,hfl];omega) (by simp),h2,rfl⟩
  have:=h1.at_ i (by rw[hul];omega) (by rw[A7];omega)
  rw[Bf k2]at this
  simpa using this
theorem E7.close {E sz:Nat} {v:Value} {xs:List (List PV)} {us:List Value} {R LF:List Res} {w:World} {g:Gh} {n:Nat} (hn:xs.length=n) (hs: ∀ e∈xs,e.length=sz) (h:Hy E sz v n us R) (hu:E5 g us xs.flatten) (hi:DM w g (R++LF)): ∃ R',E7 E sz v xs R'∧DM w g (R'++LF)∧Ao R'=Ao R:=by
 have hfl:=Cp hs
 cases h with
 |nil o ho=>
  have hx:xs= []:=BU hn
  subst hx
  exact⟨[],.nil o ho,hi,rfl⟩
 |row hl hc hu' hcur=>
  subst hn
  rename_i r cap cur
  have hcl:cur.toList.length=cap*sz:=by simpa using hc
  have hle:xs.length*sz≤cap*sz:=Au _ hl
  have hv:E5 g cur.toList (xs.flatten++(cur.toList.drop (xs.length*sz)).map .raw):=by
   conv=>lhs;rw[←CB (xs.length*sz) cur.toList]
   rw[hcur]
   exact hu.append (E5.raws g _)
  exact⟨_,.row rfl hl hs (by rw[AF,Ab,hcl,hfl];omega),DM.rawBox hi hv,rfl⟩
theorem E7.lend {P:Program} {f E sz:Nat} {X v:Value} {xs:List (List PV)} {R:List Res} (hr:E7 E sz v xs R) (ps bs:List PV) (hm:xs.length≤maxN∧xs.length*sz≤maxN) (h:Fn P f (ps++ .slice xs .ro::bs) (.raw X)):
  B2 P f (ps++ .raw v::bs) R (fun x L'=>x= .raw X∧L'=R):=by
 cases hr with
 |nil o ho=>
  intro vs w g LF hv hi
  exact h vs w g LF (hv.repl (.refl g) fun v hv=>by rw[hv.raw_inv];exact .nilR) hi
 |row hn hl hs hc=>
  subst hn
  exact B2.lend ps bs hs rfl hl hm h
section
variable {P:Program} {N:Nat} {all:Array Oper} {K:Env→List Res→Prop} {fl:List Bool} {os:List Oper} {ρ:Env} {L:List Res} {d:Nat} {ty:TypeId} {pos:String} {af:Array Edge}
theorem QU {T T₂ E E₂ sz by_:Nat} {α:Type} {f:α→List PV} [hT:VK P T E sz by_] [h2:L0 P T₂ E₂] [hf:KY f sz] [hff:Gd f] {x y:Operand} {v:Value} {xs:List (List PV)} {m:List α} {t:CZ} {R LF:List Res} (F:List Res→List Res)
  (hx:ρ.ev x= .raw v) (hy:ρ.ev y= .slice (m.map f) t) (hv:E7 E sz v xs R) (hp:L.Perm (R++LF)) (hq: ∀ R',(R'++LF).Perm (F R')) (hb:(xs.length+m.length)*by_≤140737488355328) (hm:xs.length+m.length≤140737488355328)
  (k: ∀ v' R',E7 E sz v' (xs++m.map f) R'→AW P N all K fl.tail os (CT ρ d (.raw v')) (F R')) (hd:Nat.blt d N=true:=by rfl) (hfl:fl.headD true=true:=by rfl):
  AW P N all K fl (⟨some d,.call { callee:= .builtin .append,args:= #[x,y],argTypes:= #[T,T₂] },ty,pos,af,none⟩::os) ρ L:=
 Dp rfl (QF hd) hfl (FW.perm hp fun a w g ha hi=>by
  have h1:=CW ha (x:=x) (by simp[Op.operands,Call.operands]) hx
  have h3:=ha y (by simp[Op.operands,Call.operands])
  rw[hy]at h3
  have hms: ∀ e∈m.map f,e.length=sz:=fun e he=>by obtain⟨a,_,rfl⟩:=AX.1 he;exact hf.out a
  obtain⟨base,cap,e,_,_,hnone,_,_,us,hus,hcell⟩:=h3.slice_cells (sz:=sz) hms
  rw[AF]at e
  have hvl:us.length=m.length*sz:=by rw[hus.len,Cp hms,AF]
  obtain⟨us0,R₁,q1,q2,q3,q4⟩:=hv.open hi
  have hone: ∀ x∈us,x.oneCell'=true:=hus.one (fun c hc=>by
   obtain⟨e,he,hce⟩:=HN.1 hc
   obtain⟨a,_,rfl⟩:=AX.1 he
   exact hff.out a c hce)
  obtain⟨v',w',R',p1,p2,p3,p4,p5⟩:=VJ (P:=P) (T:=T) (T₂:=T₂) (ty:=ty) (.inr ⟨_,h2.out⟩) (.slice base m.length cap) us q3 q2 (fun _=>rfl) hvl hone (fun w' hs'=>by
   cases base with
   |none=>
    have h0:=(hnone rfl).1
    have hm0:m= []:=by simpa using h0
    have:us= []:=BU (by rw[hvl,hm0];simp)
    rw[this];rfl
   |some ad=>
    obtain⟨b,o,s⟩:=ad
    obtain⟨hsp,hH⟩:=hcell _ rfl
    show(loadCells _ (m.length*sz)).run P w'=_
    rw[←hvl]
    exact IL (hsp.imp_left fun h=>VY hus h.1) fun j hj=>hs' _ _ _ (hH j hj)) hb hm
  obtain⟨R₂,z1,z2,z3⟩:=E7.close (xs:=xs++m.map f) (n:=xs.length+m.length) (by simp) (fun e he=>(Ay.1 he).elim (hv.slice.2 e) (hms e)) p2 (by rw[C7];exact q1.append hus) p3
  have hbl: ∀ (A B:List Res),Ao A=Ao B→Ao (A++LF)=Ao (B++LF):=fun A B h=>by
   simp only[Ao,CC]at h ⊢;rw[h]
  refine Oper.wq_of_run (show(do pure (.value (←Builtin.append_ #[T,T₂] ty (#[x,y].map a.eval))):Sem Next).run P w= .ok (.value v') w' by
   simp only[HO,BH,CX,h1,e,Sem.run_bind,p1,Result.andThen_ok,Sem.run_pure]) ?_
  refine⟨_,.raw v',g,F R₂,rfl,.raw _,z2.perm (hq R₂),?_,?_,k v' R₂ z1⟩
  ·rw[←hbl _ _ q4];exact p4
  ·intro b hb' hlt
   rw[←hbl _ _ q4]
   have hb2:b∈Ao (R'++LF):=by rw[←hbl _ _ z3];exact((hq R₂).filterMap _).symm.subset hb'
   exact p5 b hb2 hlt)
end
def CA (X:List Value) (o:Nat) (cs:List Value):List Value:=X.take o++cs++X.drop (o+cs.length)
def IY (cur:Array Value) (o:Nat) (cs:List Value):Prop:= ∀ j (h:j < cs.length),cur.toList[o+j]? =some cs[j]
theorem IY.cell {w:World} {b E o:Nat} {fr:Nat × Nat} {cur:Array Value} {cs:List Value} (h:IY cur o cs) (hb:w.heap[b]? =some (.cells cur E fr)): ∀ j (hj:j < cs.length),w.cell? ⟨b,o+j,none⟩=some cs[j]:=fun j hj=>by
 have:=h j hj
 simp only[World.cell?,hb,BZ,BP,if_false]
 simpa using this
section
variable {P:Program} {N:Nat} {all:Array Oper} {K:Env→List Res→Prop} {fl:List Bool} {os:List Oper} {ρ:Env} {L:List Res} {d:Nat} {ty:TypeId} {pos:String} {af:Array Edge}
theorem S7 {T:TypeId} {E:Nat} [hT:L0 P T E] {x:Operand} {a:Option Addr} {n c:Nat} (hx:ρ.ev x= .raw (.slice a n c)) (k:AW P N all K fl.tail os (CT ρ d (.raw (.int .i64 c))) L) (hd:Nat.blt d N=true:=by rfl):
  AW P N all K fl (⟨some d,.call { callee:= .builtin .cap,args:= #[x],argTypes:= #[T] },ty,pos,af,none⟩::os) ρ L:=
 Bb hd (B7 fun a' w g ha hi=>⟨.int .i64 c,by
  have h1:=CW ha (x:=x) (by simp[Op.operands,Call.operands]) hx
  have he:execOp a'.eval ⟨some d,.call { callee:= .builtin .cap,args:= #[x],argTypes:= #[T] },ty,pos,af,none⟩=(do pure (.value (←Builtin.cap_ #[T] ty (#[x].map a'.eval)))):=rfl
  rw[he]
  simp[Builtin.cap_,h1,Hf hT.out,goInt],.raw _⟩) k
theorem S6 {T E sz by_:Nat} [hT:L0 P T E] [hE:EG P E sz by_] {x y:Operand} {b:Option Addr} {kk:IntKind} {n c i:Nat} (hx:ρ.ev x= .raw (.slice b n c)) (hy:ρ.ev y= .raw (.int kk (i:Int))) (hi:i≤n) (hn:n≤c)
  (k: ∀ u,AW P N all K fl.tail os (CT ρ d (.raw u)) L) (hd:Nat.blt d N=true:=by rfl):AW P N all K fl (⟨some d,.slice T x (some y) none none,ty,pos,af,none⟩::os) ρ L:=by
 let u:Value:=if c=i then .slice b (n - i) (c - i)else .slice (b.map (·.add (i*sz))) (n - i) (c - i)
 refine Bb (x:= .raw u) hd (B7 fun a w g ha hI=>?_) (k u)
 have e1:=CW ha (x:=x) (by simp[Op.operands]) hx
 have e2:=CW ha (x:=y) (by simp[Op.operands]) hy
 refine⟨u,?_,.raw _⟩
 have hbounds:(Instr.sliceBounds true n c (some (a.eval y)) none none).run P w= .ok (i,n,c) w:=by
  unfold Instr.sliceBounds
  simp[e2,Instr.sliceBound,asIntOf]
  omega
 show(do pure (Next.value (←Instr.sliceAt T (a.eval x) (some (a.eval y)) none none)):Sem Next).run P w=_
 simp only[Instr.sliceAt,Sem.run_bind,run_underlying hT.out,Result.andThen_ok,Instr.slice,e1,hbounds,EG.run hE,Sem.run_pure,u]
 by_cases h:c=i
 ·cases b<;>simp[h]
 ·cases b<;>simp[h]
theorem E9 {T E sz by_:Nat} [hT:L0 P T E] [hE:EG P E sz by_] {x:Operand} {lo hi:Option Operand} {r off n c:Nat} (i j:Nat) (hx:ρ.ev x= .raw (.slice (some ⟨r,off,none⟩) n c)) (hij:i≤j) (hj:j≤c) (hc:i < c) (hnc:n≤c)
  (hlo: ∀ o,lo=some o→ ∃ k,ρ.ev o= .raw (.int k i)) (hlo':lo=none→i=0) (hhi: ∀ o,hi=some o→ ∃ k,ρ.ev o= .raw (.int k j)) (hhi':hi=none→j=n)
  (k:AW P N all K fl.tail os (CT ρ d (.raw (.slice (some ⟨r,off+i*sz,none⟩) (j - i) (c - i)))) L) (hd:Nat.blt d N=true:=by rfl):
  AW P N all K fl (⟨some d,.slice T x lo hi none,ty,pos,af,none⟩::os) ρ L:=
 Bb hd (B7 fun a w g ha hI=>by
  have e1:=CW ha (x:=x) (by simp[Op.operands]) hx
  have hbl: ∀ o,lo=some o→ ∃ k,a.eval o= .int k i:=fun o e=>by
   obtain⟨k,hk⟩:=hlo o e
   exact⟨k,CW ha (by simp[Op.operands,e]) hk⟩
  have hbh: ∀ o,hi=some o→ ∃ k,a.eval o= .int k j:=fun o e=>by
   obtain⟨k,hk⟩:=hhi o e
   exact⟨k,CW ha (by simp[Op.operands,e]) hk⟩
  have hbounds:(Instr.sliceBounds true n c (lo.map a.eval) (hi.map a.eval) none).run P w= .ok (i,j,c) w:=by
   unfold Instr.sliceBounds
   cases lo with
   |none=>
    have:=hlo' rfl;subst this
    cases hi with
    |none=>have:=hhi' rfl;subst this;simp
    |some o=>
     obtain⟨k,hk⟩:=hbh o rfl
     simp[hk,Instr.sliceBound,asIntOf]
     omega
   |some o=>
    obtain⟨k,hk⟩:=hbl o rfl
    cases hi with
    |none=>
     have:=hhi' rfl;subst this
     simp[hk,Instr.sliceBound,asIntOf]
     omega
    |some o'=>
     obtain⟨k',hk'⟩:=hbh o' rfl
     simp[hk,hk',Instr.sliceBound,asIntOf]
     rw[if_pos (by omega)]
     simp
     omega
  refine⟨.slice (some ⟨r,off+i*sz,none⟩) (j - i) (c - i),?_,.raw _⟩
  show(do pure (Next.value (←Instr.sliceAt T (a.eval x) (lo.map a.eval) (hi.map a.eval) none)):Sem Next).run P w=_
  simp only[Instr.sliceAt,Sem.run_bind,run_underlying hT.out,Result.andThen_ok,Instr.slice,e1,hbounds,EG.run hE,Sem.run_pure]
  rw[if_neg (by omega)]
  simp[DQ]) k
theorem Hd {T T₂ E sz by_:Nat} [hT:VK P T E sz by_] {x y:Operand} {r o dn dc b o2 sn sc:Nat} {cur:Array Value} (cs:List Value) {L':List Res} (F:Res→List Res)
  (hx:ρ.ev x= .raw (.slice (some ⟨r,o,none⟩) dn dc)) (hy:ρ.ev y= .raw (.slice (some ⟨b,o2,none⟩) sn sc)) (hp:L.Perm (.raw r (.cells cur E (0,0))::L')) (hq: ∀ c,(c::L').Perm (F c))
  (hl:cs.length=Nat.min sn dn*sz) (hone: ∀ x∈cs,x.oneCell'=true) (hfit:o+cs.length≤cur.size)
  (hs: ∃ cur2 E2 fr,Res.raw b (.cells cur2 E2 fr)∈(Res.raw r (.cells cur E (0,0))::L')∧IY cur2 o2 cs)
  (k:AW P N all K fl.tail os (CT ρ d (.raw (.int .i64 (Nat.min sn dn:Nat)))) (F (.raw r (.cells (CA cur.toList o cs).toArray E (0,0))))) (hd:Nat.blt d N=true:=by rfl) (hfl:fl.headD true=true:=by rfl):
  AW P N all K fl (⟨some d,.call { callee:= .builtin .copy,args:= #[x,y],argTypes:= #[T,T₂] },ty,pos,af,none⟩::os) ρ L:=
 Dp rfl (QF hd) hfl (FW.perm hp fun a w g ha hi=>by
  have h1:=CW ha (x:=x) (by simp[Op.operands,Call.operands]) hx
  have h2:=CW ha (x:=y) (by simp[Op.operands,Call.operands]) hy
  obtain⟨i,z,t1,t2,t3,t4,t5,t6,t7,t8⟩:=hT.out
  obtain⟨k1,k2,k3,k4,k5⟩:=hi.rawHead
  obtain⟨cur2,E2,fr,hm,hc⟩:=hs
  have hb:=(hi.res _ hm).1
  have hload:(loadCells ⟨b,o2,none⟩ (Nat.min sn dn*sz)).run P w= .ok cs.toArray w:=by
   rw[←hl];exact Ec (hc.cell hb)
  obtain⟨w',hrun,hb',hos,htp,hout,hsz,hk⟩:=Eg (P:=P) cs w cur.toList o 0 (by simpa using k1) (by simpa using hfit) hone
  have he:execOp a.eval ⟨some d,.call { callee:= .builtin .copy,args:= #[x,y],argTypes:= #[T,T₂] },ty,pos,af,none⟩=(do pure (.value (←Builtin.copy_ #[T,T₂] ty (#[x,y].map a.eval)))):=rfl
  have hr:(execOp a.eval ⟨some d,.call { callee:= .builtin .copy,args:= #[x,y],argTypes:= #[T,T₂] },ty,pos,af,none⟩).run P w= .ok (.value (.int .i64 (Nat.min sn dn:Nat))) w':=by
   rw[he]
   simp[Builtin.copy_,h1,h2,run_underlying t1,sizeOf,typeInfo,t2,t3,Builtin.lenOf,Builtin.firstCells,hload,hrun,goInt]
  rw[DR]at hb'
  refine Oper.wq_of_run hr ?_
  exact⟨_,.raw _,g,_,rfl,.raw _,(hi.turnRaw hb' hk).perm (hq _),⟨hos,htp,hout,Dd hsz.symm,fun b _ hn=>hk b (fun e=>hn (by simp[Ao,Res.block,e])),.refl g,fun _ _ _=>⟨fun _=>rfl,rfl⟩⟩,
   fun b hb _=>by
    have:=(DC (hq _)).symm.subset hb
    simpa [Ao,Res.block]using this,k⟩)
theorem Vi {T T₂ E E₂ sz by_:Nat} [hT:VK P T E sz by_] [h2:L0 P T₂ E₂] {x y:Operand} {v:Value} {n m b o2 sc:Nat} {us vs:List Value} {R LF:List Res} (F:List Res→List Res)
  (hx:ρ.ev x= .raw v) (hy:ρ.ev y= .raw (.slice (some ⟨b,o2,none⟩) m sc)) (hv:Hy E sz v n us R) (hp:L.Perm (R++LF)) (hq: ∀ R',(R'++LF).Perm (F R'))
  (hvl:vs.length=m*sz) (hone: ∀ x∈vs,x.oneCell'=true) (hs: ∃ cur2 E2 fr,Res.raw b (.cells cur2 E2 fr)∈LF∧IY cur2 o2 vs) (hb:(n+m)*by_≤140737488355328) (hm:n+m≤140737488355328)
  (k: ∀ v' R',Hy E sz v' (n+m) (us++vs) R'→AW P N all K fl.tail os (CT ρ d (.raw v')) (F R')) (hd:Nat.blt d N=true:=by rfl) (hfl:fl.headD true=true:=by rfl):
  AW P N all K fl (⟨some d,.call { callee:= .builtin .append,args:= #[x,y],argTypes:= #[T,T₂] },ty,pos,af,none⟩::os) ρ L:=
 Dp rfl (QF hd) hfl (FW.perm hp fun a w g ha hi=>by
  have h1:=CW ha (x:=x) (by simp[Op.operands,Call.operands]) hx
  have h3:=CW ha (x:=y) (by simp[Op.operands,Call.operands]) hy
  obtain⟨cur2,E2,fr,hm2,hc⟩:=hs
  have hbk:=(hi.res _ (EP _ hm2)).1
  obtain⟨v',w',R',q1,q2,q3,q4,q5⟩:=VI (P:=P) (T:=T) (T₂:=T₂) (ty:=ty) (.inr ⟨_,h2.out⟩) (.slice (some ⟨b,o2,none⟩) m sc) vs hi hv (fun _=>rfl) hvl hone (fun w' e=>by
   show(loadCells _ (m*sz)).run P w'=_
   rw[←hvl]
   exact Ec (hc.cell (e ▸ hbk))) hb hm
  refine Oper.wq_of_run (show(do pure (.value (←Builtin.append_ #[T,T₂] ty (#[x,y].map a.eval))):Sem Next).run P w= .ok (.value v') w' by
   simp only[HO,BH,CX,h1,h3,Sem.run_bind,q1,Result.andThen_ok,Sem.run_pure]) ?_
  exact⟨v',.raw v',g,F R',rfl,.raw _,q3.perm (hq R'),q4,fun b hb hlt=>q5 b ((DC (hq R')).symm.subset hb) hlt,k v' R' q2⟩)
theorem Ze {T T₂ E sz by_:Nat} [hT:VK P T E sz by_] {kk:IntKind} (h2:P.underlying T₂=some (.int .i64)) {x y:Operand} {r o n m c:Nat} {us:List Value} {cur:Array Value} {L':List Res}
  (hx:ρ.ev x= .raw (.slice (some ⟨r,o,none⟩) n c)) (hy:ρ.ev y= .raw (.int kk (m:Int))) (hm:Res.raw r (.cells cur E (0,0))∈L) (hl:L=L') (hu:us.length=n*sz) (hc:IY cur o us) (h0:0 < m) (hn:c < n+m) (hb:(n+m)*by_≤140737488355328) (hbm:n+m≤140737488355328)
  (k: ∀ r' nc (zs:List Value),n+m≤nc→(us++zs).length=nc*sz→AW P N all K fl.tail os (CT ρ d (.raw (.slice (some ⟨r',0,none⟩) (n+m) nc))) (.raw r' (.cells (us++zs).toArray E (0,0))::L')) (hd:Nat.blt d N=true:=by rfl) (hfl:fl.headD true=true:=by rfl):
  AW P N all K fl (⟨some d,.call { callee:= .builtin .append,args:= #[x,y],argTypes:= #[T,T₂] },ty,pos,af,none⟩::os) ρ L:=
 Dp rfl (QF hd) hfl (fun a w g ha hi=>by
  have h1:=CW ha (x:=x) (by simp[Op.operands,Call.operands]) hx
  have h3:=CW ha (x:=y) (by simp[Op.operands,Call.operands]) hy
  obtain⟨i,z,t1,t2,t3,t4,t5,t6,t7,t8⟩:=hT.out
  have hbk:=(hi.res _ hm).1
  have hload: ∀ w',w'.heap=w.heap→(loadCells ⟨r,o,none⟩ (n*sz)).run P w'= .ok us.toArray w':=fun w' e=>by
   rw[←hu];exact Ec (hc.cell (e ▸ hbk))
  have hw:IntKind.i64.wrap (m:Int)=m:=by rw[IntKind.wrap_i64];omega
  have h63': ¬(9223372036854775807 < ((n:Int)+(m:Int))):=by omega
  have h48': ¬(281474976710656 < Builtin.nextslicecap (n+m) c*i.bytes):=by
   rw[t4]
   have:Builtin.nextslicecap (n+m) c*by_≤2*140737488355328:=by
    calc Builtin.nextslicecap (n+m) c*by_≤(2*(n+m))*by_:=Au _ (GZ hn)
     _=2*((n+m)*by_):=by rw[ZK]
     _≤2*140737488355328:=HG _ hb
   omega
  have h48i: ¬(281474976710656 < (m:Int)*(i.bytes:Int)):=by
   rw[←Int.natCast_mul,t4]
   have:m*by_≤(n+m)*by_:=Au _ (by omega)
   omega
  have hneg: ¬((m:Int) < 0):=by omega
  have hns: ¬(m*sz=0):=Nat.mul_ne_zero (by omega) t7
  have hle: ¬(n+m≤c):=by omega
  obtain⟨zs,hzs⟩: ∃ zs:List Value,zs=(Builtin.zeroCells z.cells m).toList++(Builtin.zeroCells z.cells (grownCap w (n+m) c E - (n+m))).toList:=⟨_,rfl⟩
  have hr:(execOp a.eval ⟨some d,.call { callee:= .builtin .append,args:= #[x,y],argTypes:= #[T,T₂] },ty,pos,af,none⟩).run P w= .ok (.value (.slice (some ⟨w.heap.size,0,none⟩) (n+m) (grownCap w (n+m) c E))) (w.drew.alloc (.cells (us++zs).toArray E (0,0))):=by
   have f1:=hload w.drew rfl
   show(do pure (.value (←Builtin.append_ #[T,T₂] ty (#[x,y].map a.eval))):Sem Next).run P w=_
   simp[Builtin.append_,h1,h3,run_underlying t1,run_underlying h2,sizeOf,typeInfo,zeroValue,t2,t3,t5,asInt,asIntOf,hw,hneg,h48i,hns,hle,h63',h48',Question.forced,Builtin.firstCells,f1,newRow,grownCap,hzs]
   congr 2
   apply MY
   simp[grownCap]
  have hge:=grownCap_ge w (n+m) c E
  have hlen:(us++zs).length=grownCap w (n+m) c E*sz:=by
   have e1: ∀ m,(Builtin.zeroCells z.cells m).toList.length=m*sz:=fun m=>by rw[C8,size_zeroCells,t6]
   rw[hzs,A7,A7,e1,e1,hu,←Bq,←Bq]
   congr 1;omega
  obtain⟨j1,j2,j3⟩:=Nw (R:= []) (LF:=L) hi (.cells (us++zs).toArray E (0,0))
  refine Oper.wq_of_run hr ?_
  subst hl
  exact⟨_,.raw _,g,_,rfl,.raw _,j1,j2,j3,k _ _ zs hge hlen⟩)
theorem Oe {f:Nat} {fn:Func} {T B E sz by_:Nat} (hf:P.funcs[f]? =some fn) (hn:(fn.name== "runtime.NumGoroutine")=false) (hb:fn.body.isNone=true) (h1:Extern.findNext fn=none) (h2:Extern.find fn=some (Extern.SlicesOverlaps.overlaps #[T,T] #[B]))
  [hT:L0 P T E] [hE:EG P E sz by_] {ats:Array TypeId} {x y:Operand} {rv o n c r o2 n2 c2 Ev Er:Nat} {cv cr:Array Value} {L':List Res} (hx:ρ.ev x= .raw (.slice (some ⟨rv,o,none⟩) n c)) (hy:ρ.ev y= .raw (.slice (some ⟨r,o2,none⟩) n2 c2))
  (hp:L.Perm (.raw rv (.cells cv Ev (0,0)):: .raw r (.cells cr Er (0,0))::L')) (hk:cr.size≠0) (k:AW P N all K fl.tail os (CT ρ d (.raw (.bool false))) L) (hd:Nat.blt d N=true:=by rfl):
  AW P N all K fl (⟨some d,.call { callee:= .value (.func f),args:= #[x,y],argTypes:=ats },ty,pos,af,none⟩::os) ρ L:=
 Bb hd (B7 fun a w g ha hi=>by
  have e1:=CW ha (x:=x) (by simp[Op.operands,Call.operands]) hx
  have e2:=CW ha (x:=y) (by simp[Op.operands,Call.operands]) hy
  have hi2:=hi.perm hp
  obtain⟨q1,_,_,q4,q5⟩:=hi2.rawHead
  obtain⟨p1,_⟩:=q5.rawHead
  have hne:rv≠r:=fun e=>q4 (by simp[Ao,Res.block,e])
  refine⟨.bool false,?_,.raw _⟩
  have he:execOp a.eval ⟨some d,.call { callee:= .value (.func f),args:= #[x,y],argTypes:=ats },ty,pos,af,none⟩=callFunc f (#[]++ #[x,y].map a.eval++ #[]):=rfl
  rw[he]
  have hcall:(callFunc f #[.slice (some ⟨rv,o,none⟩) n c,.slice (some ⟨r,o2,none⟩) n2 c2]).run P w= .ok (.value (.bool false)) w:=by
   rw[run_callFunc_extern hf hn hb h1 h2,Lib.run_overlaps_apart w T B E hT.out sz (EG.run hE) ⟨rv,o,none⟩ ⟨r,o2,none⟩ n c n2 c2 hne Ev Er cv.size cr.size (by simp[World.shape?,q1]) (by simp[World.shape?,p1]) hk (by simp[World.frozen?,q1]) (by simp[World.frozen?,q1])]
   rfl
  simpa [e1,e2]using hcall) k
end
end Go.Q
