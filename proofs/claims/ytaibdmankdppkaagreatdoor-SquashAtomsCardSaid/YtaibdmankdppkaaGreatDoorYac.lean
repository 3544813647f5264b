/- The small logic, twelfth text: structs built, variables laid, slices cut, strings. Library, no statement of its own. -/
import Derived.Test.YtaibdmankdppkaaGreatDoorYab
set_option linter.unusedSimpArgs false
set_option linter.unusedVariables false
namespace Go.Q
open Go
class Cq (P:Program) (T:Nat):Prop where
 out: ∃ fs,P.underlying T=some (.struct fs)∧ ∀ f∈fs,∃ i,P.info? f.type=some i
class Ba (P:Program) (S k:Nat) (off sz:outParam Nat):Prop where
 out: ∃ fs f i,P.underlying S=some (.struct fs)∧fs[k]? =some f∧f.offset=off∧P.info? f.type=some i∧i.size=sz
class Cp (P:Program) (T:Nat) (z:outParam (List PV)):Prop where
 out: ∃ (i:TypeInfo) (v:Value) (us:List Value),P.info? T=some i∧i.zero=some v∧v.cells=us.toArray∧ ∀ g,EB g us z
inductive mN:List PV→List (Nat × Operand × Nat × List PV)→List PV→Prop
 |nil {cs:List PV}:mN cs [] cs
 |cons {cs cs' r new:List PV} {k off:Nat} {x:Operand} {ps:List (Nat × Operand × Nat × List PV)} (h:cs.take off++new++cs.drop (off+new.length)=cs') (hl:off+new.length≤cs.length) (hs:mN cs' ps r):mN cs ((k,x,off,new)::ps) r
section
variable {P:Program} {N:Nat} {all:Array Oper} {K:Env→List Res→Prop} {fl:List Bool} {os:List Oper} {ρ:Env} {L:List Res}
variable {d:Nat} {ty:TypeId} {pos:String} {af:Array Edge}
theorem W3 {g:Gh} {a:Act} {place:Nat→Option (Nat × Nat)}: ∀ {ps:List (Nat × Operand × Nat × List PV)} {cs r:List PV} {us:List Value},mN cs ps r→EB g us cs→
  (∀ p∈ps,∃ s,place p.1=some (p.2.2.1,s)∧p.2.2.2.length=s∧ ∃ vs:List Value,(a.eval p.2.1).cells=vs.toArray∧EB g vs p.2.2.2)→
  ∃ vs:List Value,Instr.fill place us.toArray (ps.map fun p=>(p.1,a.eval p.2.1))=some vs.toArray∧EB g vs r
 | [],_,_,us,.nil,hu,_=>⟨us,rfl,hu⟩
 |(k,x,off,new)::ps,cs,r,us,.cons h hl hs,hu,hp=>by
  obtain⟨s,h1,h2,vs,h3,h4⟩:=hp (k,x,off,new) (by simp)
  simp only at h1 h2 h3 h4
  simp only[Ar]
  rw[W4 h1 h3 (by rw[h4.len,h2]) (by rw[h4.len,hu.len];exact hl)]
  refine W3 hs ?_ (fun p hp'=>hp p (AH _ hp'))
  rw[←h,←h4.len]
  exact((hu.take off).append h4).append (hu.drop _)
theorem ZI {fs:List Field} (w:World) (h: ∀ f∈fs,∃ i,P.info? f.type=some i):(fs.mapM (m:=Sem) fun f=>do pure (f.offset,←sizeOf f.type)).run P w= .ok (fs.map fun f=>(f.offset,P.cellsOf f.type)) w:=by
 induction fs with
 |nil=>rfl
 |cons f fs ih=>
  obtain⟨i,hi⟩:=h f (by simp)
  have hf:(sizeOf f.type).run P w= .ok (P.cellsOf f.type) w:=by
   simp only[Sem.run_bind,sizeOf,typeInfo,run_program,hi,Sem.run_pure,Result.andThen_ok,Program.cellsOf,Ed,BU]
  rw[List.mapM_cons]
  simp only[Sem.run_bind,hf,ih (fun f hf=>h f (by simp[hf])),Sem.run_pure,Result.andThen_ok,Ar]
theorem JJ {T:Nat} [hS:Cq P T] {z r:List PV} [hZ:Cp P T z] {parts:List (Nat × Operand)} {ps:List (Nat × Operand × Nat × List PV)} {dst:Option Nat} {gd:Option (Nat × Bool)} (hps:parts=ps.map fun p=>(p.1,p.2.1))
  (hp: ∀ p∈ps,∃ s,(∃ fs f i,P.underlying T=some (.struct fs)∧fs[p.1]? =some f∧f.offset=p.2.2.1∧P.info? f.type=some i∧i.size=s)∧Dj (ρ.ev p.2.1) p.2.2.2∧p.2.2.2.length=s) (hr:mN z ps r):
  iE P ⟨dst,.build T parts.toArray,ty,pos,af,gd⟩ ρ L (.agg r):=B7 fun a w g ha hi=>by
 obtain⟨fs,hu,hall⟩:=hS.out
 obtain⟨i,v,us,h1,h2,h3,h4⟩:=hZ.out
 have hmem: ∀ p∈ps,p.2.1∈(Op.build T parts.toArray).operands:=fun p hp'=>by
  unfold Op.operands
  simp only[hps,CG,List.mem_toArray,AQ]
  exact⟨p,hp',rfl⟩
 obtain⟨vs,hf,hvs⟩:=W3 (g:=g) (a:=a) (place:=fun k=>((fs.toList.map fun f=>(f.offset,P.cellsOf f.type)).toArray)[k]?) hr (h4 g) (fun p hp'=>by
  obtain⟨s,⟨fs',f,j,e1,e2,e3,e4,e5⟩,hc,hl⟩:=hp p hp'
  rw[hu]at e1
  injection e1 with e1
  injection e1 with e1
  subst e1
  obtain⟨vs,hv1,hv2⟩:=hc g _ (ha _ (hmem p hp'))
  refine⟨s,?_,hl,vs,hv1,hv2⟩
  simp[e2,e3,Program.cellsOf,e4,e5])
 refine⟨.agg vs.toArray,?_,hvs.agg⟩
 have hparts:((parts.toArray).map fun(p:Nat × Operand)=>(p.1,a.eval p.2)).toList=ps.map fun p=>(p.1,a.eval p.2.1):=by
  simp[hps]
 have hpl:(fs.mapM (m:=Sem) fun f=>do pure (f.offset,←sizeOf f.type)).run P w= .ok ((fs.toList.map fun f=>(f.offset,P.cellsOf f.type)).toArray) w:=by
  obtain⟨fs⟩:=fs
  rw[List.mapM_toArray,Sem.run_map,ZI w (by simpa using hall)]
  simp
 show(do pure (Next.value (←Instr.build T ((parts.toArray).map fun(p:Nat × Operand)=>(p.1,a.eval p.2)))):Sem Next).run P w=_
 simp only[Instr.build,Sem.run_bind,zeroValue,typeInfo,run_program,h1,Sem.run_pure,Result.andThen_ok,h2,run_underlying hu,hpl,hparts,h3,hf]
theorem C6 {T:Nat} {z:List PV} [hZ:Cp P T z] (k: ∀ b,AV P N all K fl.tail os (CV ρ d (.raw (.pointer (some ⟨b,0,none⟩)))) (.box b T z::L)) (hd:Nat.blt d N=true:=by rfl) (hf:fl.headD true=true:=by rfl):
  AV P N all K fl (⟨some d,.alloc T,ty,pos,af,none⟩::os) ρ L:=
 Da rfl (PO hd) hf (fun a w g ha hi=>by
  obtain⟨i,v,us,h1,h2,h3,h4⟩:=hZ.out
  obtain⟨i1,i2,i3⟩:=hi.alloc (h4 g) T
  have hr:(execOp a.eval ⟨some d,.alloc T,ty,pos,af,none⟩).run P w= .ok (.value (.pointer (some ⟨w.heap.size,0,none⟩))) { w with heap:=w.heap.push (.cells us.toArray T (0,0)) }:=by
   simp only[execOp,Instr.alloc,zeroValue,typeInfo,Sem.run_bind,run_program,h1,h2,Sem.run_pure,Result.andThen_ok,newVar,newRow,h3,run_newObj]
  refine Oper.wq_of_run hr ?_
  exact⟨_,_,g,_,rfl,.raw _,i1,i2,i3,k _⟩)
theorem QF {T:TypeId} {x y:Operand} {b sz by_:Nat} {cs new:List PV} {L':List Res} [hT:EZ P T sz by_]
  (hx:ρ.ev x= .raw (.pointer (some ⟨b,0,none⟩))) (hy:ρ.ev y= .agg new) (hu:qV b cs new L L') [hf:Dv new] (hlen:new.length=sz) (hcs:cs.length=sz)
  (k:AV P N all K fl.tail os ρ L') (hfl:fl.headD true=true:=by rfl):AV P N all K fl (⟨none,.store T x y,ty,pos,af,none⟩::os) ρ L:=
 Da rfl (fun _ e=>by cases e) hfl (JK hx (fun g v hv=>by
  rw[hy]at hv
  obtain⟨vs,rfl,h⟩:=hv.agg_inv
  exact⟨vs,rfl,h⟩) hlen hf.out (by simp[DH (show cs.length≤new.length by omega)]) (by omega) hu k)
theorem X8 {T E sz by_:Nat} [hT:MO P T E] [hE:EZ P E sz by_] {x:Operand} {lo hi:Option Operand} {xs:List (List PV)} {t:CF} {dst:Option Nat} {gd:Option (Nat × Bool)} (i j:Nat) (hx:ρ.ev x= .slice xs t) (hij:i≤j) (hj:j≤xs.length) (hs: ∀ e∈xs,e.length=sz)
  (hlo: ∀ o,lo=some o→ ∃ k,ρ.ev o= .raw (.int k i)) (hlo':lo=none→i=0) (hhi: ∀ o,hi=some o→ ∃ k,ρ.ev o= .raw (.int k j)) (hhi':hi=none→j=xs.length):
  iE P ⟨dst,.slice T x lo hi none,ty,pos,af,gd⟩ ρ L (.slice ((xs.drop i).take (j - i)) .ro):=B7 fun a w g ha hI=>by
 have h1:=ha x (by simp[Op.operands]);rw[hx]at h1
 obtain⟨base,cap,e1,hcap,hmx,hnone,_,_,us,hus,hcell⟩:=h1.slice_cells hs
 have hsub: ∀ e∈(xs.drop i).take (j - i),e.length=sz:=fun e he=>hs e (JQ (Et he))
 have hul:us.length=xs.length*sz:=by rw[hus.len,De hs]
 have hlen:((xs.drop i).take (j - i)).length=j - i:=by simp;omega
 have hbl: ∀ o,lo=some o→ ∃ k,a.eval o= .int k i:=fun o e=>by
  obtain⟨k,hk⟩:=hlo o e
  exact⟨k,Cd ha (by simp[Op.operands,e]) hk⟩
 have hbh: ∀ o,hi=some o→ ∃ k,a.eval o= .int k j:=fun o e=>by
  obtain⟨k,hk⟩:=hhi o e
  exact⟨k,Cd ha (by simp[Op.operands,e]) hk⟩
 have hbounds:(Instr.sliceBounds true xs.length cap (lo.map a.eval) (hi.map a.eval) none).run P w= .ok (i,j,cap) w:=by
  unfold Instr.sliceBounds
  cases lo with
  |none=>
   have:=hlo' rfl;subst this
   cases hi with
   |none=>have:=hhi' rfl;subst this;simp
   |some o=>
    obtain⟨k,hk⟩:=hbh o rfl
    simp[hk,Instr.sliceBound,asIntOf]
    omega
  |some o=>
   obtain⟨k,hk⟩:=hbl o rfl
   cases hi with
   |none=>
    have:=hhi' rfl;subst this
    simp[hk,Instr.sliceBound,asIntOf]
    omega
   |some o'=>
    obtain⟨k',hk'⟩:=hbh o' rfl
    simp[hk,hk',Instr.sliceBound,asIntOf]
    rw[if_pos (by omega)]
    simp
    omega
 have hr:(execOp a.eval ⟨dst,.slice T x lo hi none,ty,pos,af,gd⟩).run P w= .ok (.value (.slice (if cap=i then base else base.map (·.add (i*sz))) (j - i) (cap - i))) w:=by
  show(do pure (Next.value (←Instr.sliceAt T (a.eval x) (lo.map a.eval) (hi.map a.eval) none)):Sem Next).run P w=_
  simp only[Instr.sliceAt,Sem.run_bind,run_underlying hT.out,Result.andThen_ok,Instr.slice,e1,hbounds,EZ.run hE,Sem.run_pure]
 refine⟨_,hr,?_⟩
 cases base with
 |none=>
  obtain⟨rfl,rfl⟩:=hnone rfl
  simp at hj
  have hj0:j=0:=by omega
  have hi0:i=0:=by omega
  subst hj0 hi0
  simpa using VR.nilR (g:=g) (o:=none)
 |some ad=>
  obtain⟨b,o,s⟩:=ad
  obtain⟨hs',hH⟩:=hcell _ rfl
  rcases hs' with ⟨e3,e4⟩|hs'
  ·subst e3 e4
   simp only[Af,Nat.le_zero]at hj
   subst hj
   have hi0:i=0:=by omega
   subst hi0
   simpa using VR.nilR (g:=g) (o:=some ⟨b,o,s⟩)
  simp only at hs'
  subst hs'
  have hfl:((xs.drop i).take (j - i)).flatten=(xs.flatten.drop (i*sz)).take ((j - i)*sz):=by
   have d1: ∀ (n:Nat) (ys:List (List PV)),(∀ e∈ys,e.length=sz)→(ys.drop n).flatten=ys.flatten.drop (n*sz):=by
    intro n
    induction n with
    |zero=>intro ys _;simp
    |succ n ih=>
     intro ys hy
     cases ys with
     |nil=>simp
     |cons y ys=>
      simp only[aX,Ck]
      rw[ih ys (fun e he=>hy e (by simp[he])),C7,nB,Jn,←LY]
      rw[qh (hy y (by simp))]
   have d2: ∀ (n:Nat) (ys:List (List PV)),(∀ e∈ys,e.length=sz)→(ys.take n).flatten=ys.flatten.take (n*sz):=by
    intro n
    induction n with
    |zero=>intro ys _;simp
    |succ n ih=>
     intro ys hy
     cases ys with
     |nil=>simp
     |cons y ys=>
      simp only[Oz,Ck]
      rw[ih ys (fun e he=>hy e (by simp[he])),C7,nB,Jn,←hy y (by simp),J4]
   rw[d2 _ _ (fun e he=>hs e (JQ he)),d1 _ _ hs]
  have hus2:EB g ((us.drop (i*sz)).take ((j - i)*sz)) ((xs.drop i).take (j - i)).flatten:=by rw[hfl];exact(hus.drop _).take _
  by_cases hci:cap=i
  ·have hj0:j - i=0:=by omega
   rw[if_pos hci,hj0]
   have:=VR.of_cells (g:=g) (xs:=(xs.drop i).take 0) (t:= .ro) (sz:=sz) (b:=b) (off:=o) (cap:=cap - i) (by simp) (by simp) ⟨by simp,by simp⟩ (us:= []) (by simpa using EB.nil g) (by simp) (by simp) (by simp)
   simpa using this
  ·rw[if_neg hci]
   have:=VR.of_cells (g:=g) (xs:=(xs.drop i).take (j - i)) (t:= .ro) (sz:=sz) (b:=b) (off:=o+i*sz) (cap:=cap - i) hsub (by omega) ⟨by have:=hmx.1;omega,CZ (B3 _ (by omega)) hmx.2⟩ hus2 (fun k hk=>by
    have hk':k < (j - i)*sz:=by simp at hk;omega
    have hlt:i*sz+k < us.length:=by
     rw[hul]
     have h2:j*sz≤xs.length*sz:=B3 _ hj
     have h3:(j - i)*sz+i*sz=j*sz:=by rw[←C7];congr 1;omega
     omega
    rw[E7,hH _ hlt]
    simp) (by simp) (by simp)
   rw[hlen]at this
   simpa [Dp]using this
theorem jY {T E sz by_:Nat} [hT:MO P T E] [hE:EZ P E sz by_] {x y:Operand} {α:Type} {f:α→List PV} [hf:NX f sz] {l:List α} {t:CF} {kk:IntKind} {i:Nat} (hx:ρ.ev x= .slice (l.map f) t) (hy:ρ.ev y= .raw (.int kk (i:Int))) (hi:i≤l.length)
  (k:AV P N all K fl.tail os (CV ρ d (.slice ((l.drop i).map f) .ro)) L) (hd:Nat.blt d N=true:=by rfl):AV P N all K fl (⟨some d,.slice T x (some y) none none,ty,pos,af,none⟩::os) ρ L:=
 Bh hd (X8 i l.length hx hi (by simp) (fun e he=>by obtain⟨a,_,rfl⟩:=AQ.1 he;exact hf.out a) (fun o e=>by cases e;exact⟨_,hy⟩) (by simp) (by simp) (by simp)) (by
  rw[AE (by simp),←List.map_drop];exact k)
theorem jZ {T E sz by_:Nat} [hT:MO P T E] [hE:EZ P E sz by_] {x y:Operand} {α:Type} {f:α→List PV} [hf:NX f sz] {l:List α} {t:CF} {kk:IntKind} {j:Nat} (hx:ρ.ev x= .slice (l.map f) t) (hy:ρ.ev y= .raw (.int kk (j:Int))) (hj:j≤l.length)
  (k:AV P N all K fl.tail os (CV ρ d (.slice ((l.take j).map f) .ro)) L) (hd:Nat.blt d N=true:=by rfl):AV P N all K fl (⟨some d,.slice T x none (some y) none,ty,pos,af,none⟩::os) ρ L:=
 Bh hd (X8 0 j hx (by omega) (by simpa using hj) (fun e he=>by obtain⟨a,_,rfl⟩:=AQ.1 he;exact hf.out a) (by simp) (by simp) (fun o e=>by cases e;exact⟨_,hy⟩) (by simp)) (by
  simp only[LX,iK,←aa];exact k)
theorem jg {T f0 o0 s0:Nat} {x0:Operand} {z c0 r0:List PV} [hS:Cq P T] [hZ:Cp P T z] [hF0:Ba P T f0 o0 s0] [hP0:FK z o0 c0 r0] (h0:Dj (ρ.ev x0) c0) (hl0:c0.length=s0)
  (k:AV P N all K fl.tail os (CV ρ d (.agg r0)) L) (hd:Nat.blt d N=true:=by rfl):AV P N all K fl (⟨some d,.build T #[(f0,x0)],ty,pos,af,none⟩::os) ρ L:=
 Bh hd (JJ (ps:= [(f0,x0,o0,c0)]) rfl (by
  intro p hp
  simp only[AI,Ai,or_false]at hp
  rcases hp with rfl
  ·exact⟨s0,hF0.out,h0,hl0⟩) (.cons hP0.out.1 hP0.out.2 (.nil))) k
theorem Yc {T f0 f1 o0 o1 s0 s1:Nat} {x0 x1:Operand} {z c0 c1 r0 r1:List PV} [hS:Cq P T] [hZ:Cp P T z] [hF0:Ba P T f0 o0 s0] [hF1:Ba P T f1 o1 s1] [hP0:FK z o0 c0 r0] [hP1:FK r0 o1 c1 r1] (h0:Dj (ρ.ev x0) c0) (h1:Dj (ρ.ev x1) c1) (hl0:c0.length=s0) (hl1:c1.length=s1)
  (k:AV P N all K fl.tail os (CV ρ d (.agg r1)) L) (hd:Nat.blt d N=true:=by rfl):AV P N all K fl (⟨some d,.build T #[(f0,x0),(f1,x1)],ty,pos,af,none⟩::os) ρ L:=
 Bh hd (JJ (ps:= [(f0,x0,o0,c0),(f1,x1,o1,c1)]) rfl (by
  intro p hp
  simp only[AI,Ai,or_false]at hp
  rcases hp with rfl|rfl
  ·exact⟨s0,hF0.out,h0,hl0⟩
  ·exact⟨s1,hF1.out,h1,hl1⟩) (.cons hP0.out.1 hP0.out.2 (.cons hP1.out.1 hP1.out.2 (.nil)))) k
theorem TM {T f0 f1 f2 o0 o1 o2 s0 s1 s2:Nat} {x0 x1 x2:Operand} {z c0 c1 c2 r0 r1 r2:List PV} [hS:Cq P T] [hZ:Cp P T z] [hF0:Ba P T f0 o0 s0] [hF1:Ba P T f1 o1 s1] [hF2:Ba P T f2 o2 s2] [hP0:FK z o0 c0 r0] [hP1:FK r0 o1 c1 r1] [hP2:FK r1 o2 c2 r2] (h0:Dj (ρ.ev x0) c0) (h1:Dj (ρ.ev x1) c1) (h2:Dj (ρ.ev x2) c2) (hl0:c0.length=s0) (hl1:c1.length=s1) (hl2:c2.length=s2)
  (k:AV P N all K fl.tail os (CV ρ d (.agg r2)) L) (hd:Nat.blt d N=true:=by rfl):AV P N all K fl (⟨some d,.build T #[(f0,x0),(f1,x1),(f2,x2)],ty,pos,af,none⟩::os) ρ L:=
 Bh hd (JJ (ps:= [(f0,x0,o0,c0),(f1,x1,o1,c1),(f2,x2,o2,c2)]) rfl (by
  intro p hp
  simp only[AI,Ai,or_false]at hp
  rcases hp with rfl|rfl|rfl
  ·exact⟨s0,hF0.out,h0,hl0⟩
  ·exact⟨s1,hF1.out,h1,hl1⟩
  ·exact⟨s2,hF2.out,h2,hl2⟩) (.cons hP0.out.1 hP0.out.2 (.cons hP1.out.1 hP1.out.2 (.cons hP2.out.1 hP2.out.2 (.nil))))) k
theorem jf {T f0 f1 f2 f3 o0 o1 o2 o3 s0 s1 s2 s3:Nat} {x0 x1 x2 x3:Operand} {z c0 c1 c2 c3 r0 r1 r2 r3:List PV} [hS:Cq P T] [hZ:Cp P T z] [hF0:Ba P T f0 o0 s0] [hF1:Ba P T f1 o1 s1] [hF2:Ba P T f2 o2 s2] [hF3:Ba P T f3 o3 s3] [hP0:FK z o0 c0 r0] [hP1:FK r0 o1 c1 r1] [hP2:FK r1 o2 c2 r2] [hP3:FK r2 o3 c3 r3] (h0:Dj (ρ.ev x0) c0) (h1:Dj (ρ.ev x1) c1) (h2:Dj (ρ.ev x2) c2) (h3:Dj (ρ.ev x3) c3) (hl0:c0.length=s0) (hl1:c1.length=s1) (hl2:c2.length=s2) (hl3:c3.length=s3)
  (k:AV P N all K fl.tail os (CV ρ d (.agg r3)) L) (hd:Nat.blt d N=true:=by rfl):AV P N all K fl (⟨some d,.build T #[(f0,x0),(f1,x1),(f2,x2),(f3,x3)],ty,pos,af,none⟩::os) ρ L:=
 Bh hd (JJ (ps:= [(f0,x0,o0,c0),(f1,x1,o1,c1),(f2,x2,o2,c2),(f3,x3,o3,c3)]) rfl (by
  intro p hp
  simp only[AI,Ai,or_false]at hp
  rcases hp with rfl|rfl|rfl|rfl
  ·exact⟨s0,hF0.out,h0,hl0⟩
  ·exact⟨s1,hF1.out,h1,hl1⟩
  ·exact⟨s2,hF2.out,h2,hl2⟩
  ·exact⟨s3,hF3.out,h3,hl3⟩) (.cons hP0.out.1 hP0.out.2 (.cons hP1.out.1 hP1.out.2 (.cons hP2.out.1 hP2.out.2 (.cons hP3.out.1 hP3.out.2 (.nil)))))) k
theorem je {T f0 f1 f2 f3 f4 o0 o1 o2 o3 o4 s0 s1 s2 s3 s4:Nat} {x0 x1 x2 x3 x4:Operand} {z c0 c1 c2 c3 c4 r0 r1 r2 r3 r4:List PV} [hS:Cq P T] [hZ:Cp P T z] [hF0:Ba P T f0 o0 s0] [hF1:Ba P T f1 o1 s1] [hF2:Ba P T f2 o2 s2] [hF3:Ba P T f3 o3 s3] [hF4:Ba P T f4 o4 s4] [hP0:FK z o0 c0 r0] [hP1:FK r0 o1 c1 r1] [hP2:FK r1 o2 c2 r2] [hP3:FK r2 o3 c3 r3] [hP4:FK r3 o4 c4 r4] (h0:Dj (ρ.ev x0) c0) (h1:Dj (ρ.ev x1) c1) (h2:Dj (ρ.ev x2) c2) (h3:Dj (ρ.ev x3) c3) (h4:Dj (ρ.ev x4) c4) (hl0:c0.length=s0) (hl1:c1.length=s1) (hl2:c2.length=s2) (hl3:c3.length=s3) (hl4:c4.length=s4)
  (k:AV P N all K fl.tail os (CV ρ d (.agg r4)) L) (hd:Nat.blt d N=true:=by rfl):AV P N all K fl (⟨some d,.build T #[(f0,x0),(f1,x1),(f2,x2),(f3,x3),(f4,x4)],ty,pos,af,none⟩::os) ρ L:=
 Bh hd (JJ (ps:= [(f0,x0,o0,c0),(f1,x1,o1,c1),(f2,x2,o2,c2),(f3,x3,o3,c3),(f4,x4,o4,c4)]) rfl (by
  intro p hp
  simp only[AI,Ai,or_false]at hp
  rcases hp with rfl|rfl|rfl|rfl|rfl
  ·exact⟨s0,hF0.out,h0,hl0⟩
  ·exact⟨s1,hF1.out,h1,hl1⟩
  ·exact⟨s2,hF2.out,h2,hl2⟩
  ·exact⟨s3,hF3.out,h3,hl3⟩
  ·exact⟨s4,hF4.out,h4,hl4⟩) (.cons hP0.out.1 hP0.out.2 (.cons hP1.out.1 hP1.out.2 (.cons hP2.out.1 hP2.out.2 (.cons hP3.out.1 hP3.out.2 (.cons hP4.out.1 hP4.out.2 (.nil))))))) k
theorem jd {T f0 f1 f2 f3 f4 f5 o0 o1 o2 o3 o4 o5 s0 s1 s2 s3 s4 s5:Nat} {x0 x1 x2 x3 x4 x5:Operand} {z c0 c1 c2 c3 c4 c5 r0 r1 r2 r3 r4 r5:List PV} [hS:Cq P T] [hZ:Cp P T z] [hF0:Ba P T f0 o0 s0] [hF1:Ba P T f1 o1 s1] [hF2:Ba P T f2 o2 s2] [hF3:Ba P T f3 o3 s3] [hF4:Ba P T f4 o4 s4] [hF5:Ba P T f5 o5 s5] [hP0:FK z o0 c0 r0] [hP1:FK r0 o1 c1 r1] [hP2:FK r1 o2 c2 r2] [hP3:FK r2 o3 c3 r3] [hP4:FK r3 o4 c4 r4] [hP5:FK r4 o5 c5 r5] (h0:Dj (ρ.ev x0) c0) (h1:Dj (ρ.ev x1) c1) (h2:Dj (ρ.ev x2) c2) (h3:Dj (ρ.ev x3) c3) (h4:Dj (ρ.ev x4) c4) (h5:Dj (ρ.ev x5) c5) (hl0:c0.length=s0) (hl1:c1.length=s1) (hl2:c2.length=s2) (hl3:c3.length=s3) (hl4:c4.length=s4) (hl5:c5.length=s5)
  (k:AV P N all K fl.tail os (CV ρ d (.agg r5)) L) (hd:Nat.blt d N=true:=by rfl):AV P N all K fl (⟨some d,.build T #[(f0,x0),(f1,x1),(f2,x2),(f3,x3),(f4,x4),(f5,x5)],ty,pos,af,none⟩::os) ρ L:=
 Bh hd (JJ (ps:= [(f0,x0,o0,c0),(f1,x1,o1,c1),(f2,x2,o2,c2),(f3,x3,o3,c3),(f4,x4,o4,c4),(f5,x5,o5,c5)]) rfl (by
  intro p hp
  simp only[AI,Ai,or_false]at hp
  rcases hp with rfl|rfl|rfl|rfl|rfl|rfl
  ·exact⟨s0,hF0.out,h0,hl0⟩
  ·exact⟨s1,hF1.out,h1,hl1⟩
  ·exact⟨s2,hF2.out,h2,hl2⟩
  ·exact⟨s3,hF3.out,h3,hl3⟩
  ·exact⟨s4,hF4.out,h4,hl4⟩
  ·exact⟨s5,hF5.out,h5,hl5⟩) (.cons hP0.out.1 hP0.out.2 (.cons hP1.out.1 hP1.out.2 (.cons hP2.out.1 hP2.out.2 (.cons hP3.out.1 hP3.out.2 (.cons hP4.out.1 hP4.out.2 (.cons hP5.out.1 hP5.out.2 (.nil)))))))) k
end
class B1 (p:Prop):Prop where
 out:p
theorem DJ {a b:List PV}:K5 (a++b) 0 a:=⟨by simp⟩
theorem MI {a:List PV}:K5 a 0 a:=⟨by simp⟩
theorem Ae {a b r:List PV} {n off:Nat} (ha:a.length=n) (h:K5 b off r):K5 (a++b) (n+off) r:=⟨by
 obtain⟨h1,h2⟩:=h.out
 subst ha
 constructor
 ·rw[P7];exact h1
 ·simp;omega⟩
theorem K9 {cs r:List PV} {off n:Nat} (h:K5 cs off r) (hn:r.length=n):Y7 cs off n r:=⟨by
 obtain⟨h1,h2⟩:=h.out;subst hn;exact⟨h1,h2⟩⟩
theorem Dd {a b new:List PV} (h:new.length=a.length):FK (a++b) 0 new (new++b):=⟨by simp[h]⟩
theorem MA {a new:List PV} (h:new.length=a.length):FK a 0 new new:=⟨by simp[h]⟩
theorem Ag {a b r new:List PV} {n off:Nat} (ha:a.length=n) (h:FK b off new r):FK (a++b) (n+off) new (a++r):=⟨by
 obtain⟨h1,h2⟩:=h.out
 subst ha
 constructor
 ·rw[←h1,J4,E7,P7];simp
 ·simp;omega⟩
theorem tZ {cs r r' new cs':List PV} {off io:Nat} (h:K5 cs off r) (k:FK r io new r') (p:FK cs off r' cs'):FK cs (off+io) new cs':=⟨by
 obtain⟨h1,h2⟩:=h.out
 obtain⟨k1,k2⟩:=k.out
 obtain⟨p1,p2⟩:=p.out
 refine⟨?_,by omega⟩
 have hl:r'.length=r.length:=by rw[←k1];simp;omega
 rw[←p1,hl,←k1]
 have e1:List.take (off+io) cs=List.take off cs++List.take io r:=by
  rw[List.take_add,←h1,List.take_take,DM (by omega)]
 have e2:List.drop (off+io+new.length) cs=List.drop (io+new.length) r++List.drop (off+r.length) cs:=by
  conv=>rhs;rw[←h1]
  rw[List.drop_take,LY,h1,E7]
  conv=>lhs;rw[←Bm (r.length - (io+new.length)) (List.drop (off+(io+new.length)) cs)]
  rw[LY]
  congr 2;omega
 rw[e1,e2]
 simp⟩
def Dig.zero:Dig:=⟨List.replicate 32 0,rfl⟩
def Ident.zero:Ident:=⟨Dig.zero,0⟩
class Dy (x:PV) (cs:outParam (List PV)):Prop where
 out:Dj x cs
instance {cs:List PV}:Dy (.agg cs) cs:=⟨.agg cs⟩
instance {xs:List (List PV)} {t:CF}:Dy (.slice xs t) [.slice xs .ro]:=⟨.ro xs t⟩
instance {k:IntKind} {n:Int}:Dy (.raw (.int k n)) [.raw (.int k n)]:=⟨.one (Dv.out)⟩
instance {b:Bool}:Dy (.raw (.bool b)) [.raw (.bool b)]:=⟨.one (Dv.out)⟩
instance {s:Str}:Dy (.str s) [.str s]:=⟨.one (Dv.out)⟩
instance {a:Option Addr}:Dy (.raw (.pointer a)) [.raw (.pointer a)]:=⟨.one (Dv.out)⟩
instance {a:Go.Fn} {b c:Array Value}:Dy (.raw (.func a b c)) [.raw (.func a b c)]:=⟨.one (Dv.out)⟩
instance {kvs:List (PV × PV)}:Dy (.fmap kvs) [.fmap kvs]:=⟨.one (Dv.out)⟩
instance :Dy (.raw (.slice none 0 0)) [.slice [] .ro]:=⟨fun g v hv=>⟨[v],by cases hv;rfl,by cases hv;exact .cons .nilR (.nil g)⟩⟩
class Cx (cs:List PV) (n:outParam Nat):Prop where
 out:cs.length=n
instance (priority:=low) {α:Type} {f:α→List PV} {a:α} {n:Nat} [h:NX f n]:Cx (f a) n:=⟨h.out a⟩
instance {x:PV}:Cx [x] 1:=⟨rfl⟩
class GI {α:outParam Type} (x:PV) (f:outParam (α→List PV)) (a:outParam α):Prop where
 out:Dj x (f a)
instance (d:Dig):GI (.agg (eDig d)) eDig d:=⟨.agg _⟩
instance (d:Ident):GI (.agg (eIdent d)) eIdent d:=⟨.agg _⟩
instance (n:Int):GI (.raw (.int .i64 n)) eI n:=⟨.one (K6.out (f:=eI) n)⟩
instance :Dy (.raw (.string ⟨[].toArray⟩)) [.str []]:=⟨fun g v hv=>⟨[v],by cases hv;rfl,by cases hv;exact .cons (.str (by show 0≤maxN;decide)) (.nil g)⟩⟩
instance (a:UInt8):GI (.raw (.string ⟨[a].toArray⟩)) eS [a]:=⟨fun g v hv=>⟨[v],by cases hv;rfl,by cases hv;exact .cons (.str (by show 1≤maxN;decide)) (.nil g)⟩⟩
instance (a b c:UInt8):Dy (.raw (.string ⟨[a,b,c].toArray⟩)) [.str [a,b,c]]:=⟨fun g v hv=>⟨[v],by cases hv;rfl,by cases hv;exact .cons (.str (by show 3≤maxN;decide)) (.nil g)⟩⟩
def Le (x y:PV):Prop:= ∀ g v,VR g v x→VR g v y
theorem Le.refl (x:PV):Le x x:=fun _ _ h=>h
theorem Le.of_eq {x y:PV} (h:x=y):Le x y:=h ▸ .refl x
theorem Le.ro (xs:List (List PV)) (t:CF):Le (.slice xs t) (.slice xs .ro):=fun _ _ h=>h.ro
theorem Le.ros {xs ys:List (List PV)} {t:CF} (h:xs=ys):Le (.slice xs t) (.slice ys .ro):=h ▸ .ro xs t
theorem Le.nil:Le (.raw (.slice none 0 0)) (.slice [] .nil):=fun _ v h=>by cases h;exact .nilN none (by simp)
theorem Le.tuple {xs ys:List PV} (hl:xs.length=ys.length) (h: ∀ i (h1:i < xs.length) (h2:i < ys.length),Le xs[i] ys[i]):Le (.tuple xs) (.tuple ys):=fun g v hv=>by
 obtain⟨vs,rfl,h1⟩:=hv.tuple_inv
 exact EB.tuple ⟨h1.len.trans hl,fun i h2 h3=>h i (by omega) h3 g _ (h1.at_ i h2 (by omega))⟩
theorem Le.tuple2 {a b a' b':PV} (h1:Le a a') (h2:Le b b'):Le (.tuple [a,b]) (.tuple [a',b']):= .tuple rfl fun i h _=>by
 match i,h with
 |0,_=>exact h1
 |1,_=>exact h2
 |n+2,h=>simp at h;omega
theorem Le.tuple3 {a b c a' b' c':PV} (h1:Le a a') (h2:Le b b') (h3:Le c c'):Le (.tuple [a,b,c]) (.tuple [a',b',c']):= .tuple rfl fun i h _=>by
 match i,h with
 |0,_=>exact h1
 |1,_=>exact h2
 |2,_=>exact h3
 |n+3,h=>simp at h;omega
class Jm (x:PV) (y:outParam PV):Prop where
 out:Le x y
instance (priority:=low) (x:PV):Jm x x:=⟨.refl x⟩
instance :Jm (.raw (.slice none 0 0)) (.slice [] .nil):=⟨.nil⟩
instance :Jm (.raw (.string ⟨[].toArray⟩)) (.str []):=⟨fun g v hv=>by cases hv;exact .str (by show 0≤maxN;decide)⟩
instance (a:UInt8):Jm (.raw (.string ⟨[a].toArray⟩)) (.str [a]):=⟨fun g v hv=>by cases hv;exact .str (by show 1≤maxN;decide)⟩
instance (a b c d e f:UInt8):Jm (.raw (.string ⟨[a,b,c,d,e,f].toArray⟩)) (.str [a,b,c,d,e,f]):=⟨fun g v hv=>by cases hv;exact .str (by show 6≤maxN;decide)⟩
class K4 (x:PV) (s:outParam Str):Prop where
 out: ∀ g v,VR g v x→v= .string (sB s)
instance (s:Str):K4 (.str s) s:=⟨fun g v h=>by cases h;rfl⟩
instance (s:List UInt8):K4 (.raw (.string ⟨s.toArray⟩)) s:=⟨fun g v h=>by cases h;rfl⟩
theorem xq {P:Program} {f:FuncId} {args:List PV} {X:PV} (h:BA P f args [] (fun r L'=>Le r X∧L'= [])):Fn P f args X:=fun vs w g LF hv hi=>
 (h vs w g LF hv hi).mono fun _ _ ⟨v,x,g',L',h1,h2,h3,h4,h5,h6,h7⟩=>⟨v,X,g',L',h1,h6 _ _ h2,h3,h4,h5,rfl,h7⟩
theorem Au {P:Program} {f:FuncId} {fn:Func} {c:Code} {rs:List ResultVar} {N:Nat} {args:List PV} {X:PV}
  (hf:P.funcs[f]? =some fn) (hn:fn.ntmps=N) (hb:fn.body=some c) (hr:fn.results=rs.toArray) (hN:Nat.ble args.length N=true)
  (h:(∀ x∈args,Bd x)→ ∀ LF,ER P N c (qW P rs (fun r L'=>Le r X∧L'= []) LF) (yn args) LF):Fn P f args X:=xq (C5 hf hb hn hr hN h)
section
variable {P:Program} {ρ:Env} {L LF:List Res} {X:PV}
theorem B2 {t:Nat} {y:PV} (hX:Le y X) (hx:ρ t=y:=by conv=>lhs;whnf) (hs:LF.Sublist L:=by repeat(first|exact EY _|apply List.Sublist.cons)):qW P [.tmp t] (fun r L'=>Le r X∧L'= []) LF .ret ρ L:=
 ⟨trivial,_,[],.cons (.tmp t) .nil,hs,hx ▸ hX,rfl⟩
theorem HH {t u:Nat} {x y:PV} (hX:Le (.tuple [x,y]) X) (hx:ρ t=x:=by conv=>lhs;whnf) (hy:ρ u=y:=by conv=>lhs;whnf) (hs:LF.Sublist L:=by repeat(first|exact EY _|apply List.Sublist.cons)):qW P [.tmp t,.tmp u] (fun r L'=>Le r X∧L'= []) LF .ret ρ L:=
 ⟨trivial,_,[],.cons (.tmp t) (.cons (.tmp u) .nil),hs,by subst hx;subst hy;exact hX,rfl⟩
theorem S4 {t u s:Nat} {x y z:PV} (hX:Le (.tuple [x,y,z]) X) (hx:ρ t=x:=by conv=>lhs;whnf) (hy:ρ u=y:=by conv=>lhs;whnf) (hz:ρ s=z:=by conv=>lhs;whnf) (hs:LF.Sublist L:=by repeat(first|exact EY _|apply List.Sublist.cons)):qW P [.tmp t,.tmp u,.tmp s] (fun r L'=>Le r X∧L'= []) LF .ret ρ L:=
 ⟨trivial,_,[],.cons (.tmp t) (.cons (.tmp u) (.cons (.tmp s) .nil)),hs,by subst hx;subst hy;subst hz;exact hX,rfl⟩
theorem Fo {t T n b T':Nat} {cs:List PV} [hT:FF P T n] (h:ρ t= .raw (.pointer (some ⟨b,0,none⟩))) (hx:Le (.agg cs) X) (hm:Res.box b T' cs∈L:=by repeat(first|exact AG|apply AH)) (hn:cs.length=n:=by simp) (hs:LF.Sublist L:=by repeat(first|exact EY _|apply List.Sublist.cons)):
  qW P [.cell t T] (fun r L'=>Le r X∧L'= []) LF .ret ρ L:=⟨trivial,_,[],.cons (.cell t T h hm hT.out hn) .nil,hs,hx,rfl⟩
theorem Jk {t T n b T' u:Nat} {cs:List PV} {y:PV} [hT:FF P T n] (h:ρ t= .raw (.pointer (some ⟨b,0,none⟩))) (hx:Le (.tuple [.agg cs,y]) X) (hy:ρ u=y:=by conv=>lhs;whnf) (hm:Res.box b T' cs∈L:=by repeat(first|exact AG|apply AH)) (hn:cs.length=n:=by simp) (hs:LF.Sublist L:=by repeat(first|exact EY _|apply List.Sublist.cons)):
  qW P [.cell t T,.tmp u] (fun r L'=>Le r X∧L'= []) LF .ret ρ L:=⟨trivial,_,[],.cons (.cell t T h hm hT.out hn) (.cons (.tmp u) .nil),hs,by subst hy;exact hx,rfl⟩
end
structure Chg where
 kind:Int
 file:Ident
 type:Int
 parent:Ident
 name:Str
 mode:Int
 data:Str
 after:Ident
 before:Ident
 lines:List Str
 over:List Ident
 deriving DecidableEq
def Chg.zero:Chg:=⟨0,Ident.zero,0,Ident.zero,[],0,[],Ident.zero,Ident.zero,[],[]⟩
def eChg (c:Chg):List PV:= [.raw (.int .i64 c.kind)]++((eIdent c.file)++([.raw (.int .i64 c.type)]++((eIdent c.parent)++([.str c.name]++([.raw (.int .i64 c.mode)]++([.str c.data]++((eIdent c.after)++((eIdent c.before)++([.slice ((c.lines).map eS) .ro]++([.slice ((c.over).map eIdent) .ro]))))))))))
@[simp] theorem kq (c:Chg):(eChg c).length=139:=by unfold eChg;simp
instance :NX eChg 139:=⟨kq⟩
instance (c:Chg):Dv (eChg c):=by unfold eChg;infer_instance
instance :K6 eChg:=⟨fun c=>(inferInstance:Dv (eChg c)).out⟩
instance (c:Chg):GI (.agg (eChg c)) eChg c:=⟨Dj.agg _⟩
instance Xc (c:Chg):K5 (eChg c) 0 [.raw (.int .i64 c.kind)]:=by unfold eChg;exact DJ
instance sJ (c:Chg):At (eChg c) 0 (.raw (.int .i64 c.kind)):=Hj (Xc c)
instance oE (c:Chg) (x:Int):FK (eChg c) 0 [.raw (.int .i64 x)] (eChg { c with kind:=x }):=by unfold eChg;exact Dd (by simp)
instance Xd (c:Chg):K5 (eChg c) 1 (eIdent c.file):=by unfold eChg;exact Ae (n:=1) (off:=0) (by simp) (DJ)
instance nU (c:Chg):Y7 (eChg c) 1 33 (eIdent c.file):=K9 (Xd c) (by simp)
instance oG (c:Chg) (x:Ident):FK (eChg c) 1 (eIdent x) (eChg { c with file:=x }):=by unfold eChg;exact Ag (n:=1) (off:=0) (by simp) (Dd (by simp))
instance XY (c:Chg):K5 (eChg c) 34 [.raw (.int .i64 c.type)]:=by unfold eChg;exact Ae (n:=1) (off:=33) (by simp) (Ae (n:=33) (off:=0) (by simp) (DJ))
instance sF (c:Chg):At (eChg c) 34 (.raw (.int .i64 c.type)):=Hj (XY c)
instance oB (c:Chg) (x:Int):FK (eChg c) 34 [.raw (.int .i64 x)] (eChg { c with type:=x }):=by unfold eChg;exact Ag (n:=1) (off:=33) (by simp) (Ag (n:=33) (off:=0) (by simp) (Dd (by simp)))
instance UD (c:Chg):K5 (eChg c) 35 (eIdent c.parent):=by unfold eChg;exact Ae (n:=1) (off:=34) (by simp) (Ae (n:=33) (off:=1) (by simp) (Ae (n:=1) (off:=0) (by simp) (DJ)))
instance iy (c:Chg):Y7 (eChg c) 35 33 (eIdent c.parent):=K9 (UD c) (by simp)
instance kI (c:Chg) (x:Ident):FK (eChg c) 35 (eIdent x) (eChg { c with parent:=x }):=by unfold eChg;exact Ag (n:=1) (off:=34) (by simp) (Ag (n:=33) (off:=1) (by simp) (Ag (n:=1) (off:=0) (by simp) (Dd (by simp))))
instance Xa (c:Chg):K5 (eChg c) 68 [.str c.name]:=by unfold eChg;exact Ae (n:=1) (off:=67) (by simp) (Ae (n:=33) (off:=34) (by simp) (Ae (n:=1) (off:=33) (by simp) (Ae (n:=33) (off:=0) (by simp) (DJ))))
instance sH (c:Chg):At (eChg c) 68 (.str c.name):=Hj (Xa c)
instance oC (c:Chg) (x:Str):FK (eChg c) 68 [.str x] (eChg { c with name:=x }):=by unfold eChg;exact Ag (n:=1) (off:=67) (by simp) (Ag (n:=33) (off:=34) (by simp) (Ag (n:=1) (off:=33) (by simp) (Ag (n:=33) (off:=0) (by simp) (Dd (by simp)))))
instance Xb (c:Chg):K5 (eChg c) 69 [.raw (.int .i64 c.mode)]:=by unfold eChg;exact Ae (n:=1) (off:=68) (by simp) (Ae (n:=33) (off:=35) (by simp) (Ae (n:=1) (off:=34) (by simp) (Ae (n:=33) (off:=1) (by simp) (Ae (n:=1) (off:=0) (by simp) (DJ)))))
instance sI (c:Chg):At (eChg c) 69 (.raw (.int .i64 c.mode)):=Hj (Xb c)
instance oD (c:Chg) (x:Int):FK (eChg c) 69 [.raw (.int .i64 x)] (eChg { c with mode:=x }):=by unfold eChg;exact Ag (n:=1) (off:=68) (by simp) (Ag (n:=33) (off:=35) (by simp) (Ag (n:=1) (off:=34) (by simp) (Ag (n:=33) (off:=1) (by simp) (Ag (n:=1) (off:=0) (by simp) (Dd (by simp))))))
instance Xe (c:Chg):K5 (eChg c) 70 [.str c.data]:=by unfold eChg;exact Ae (n:=1) (off:=69) (by simp) (Ae (n:=33) (off:=36) (by simp) (Ae (n:=1) (off:=35) (by simp) (Ae (n:=33) (off:=2) (by simp) (Ae (n:=1) (off:=1) (by simp) (Ae (n:=1) (off:=0) (by simp) (DJ))))))
instance sK (c:Chg):At (eChg c) 70 (.str c.data):=Hj (Xe c)
instance oH (c:Chg) (x:Str):FK (eChg c) 70 [.str x] (eChg { c with data:=x }):=by unfold eChg;exact Ag (n:=1) (off:=69) (by simp) (Ag (n:=33) (off:=36) (by simp) (Ag (n:=1) (off:=35) (by simp) (Ag (n:=33) (off:=2) (by simp) (Ag (n:=1) (off:=1) (by simp) (Ag (n:=1) (off:=0) (by simp) (Dd (by simp)))))))
instance Uv (c:Chg):K5 (eChg c) 71 (eIdent c.after):=by unfold eChg;exact Ae (n:=1) (off:=70) (by simp) (Ae (n:=33) (off:=37) (by simp) (Ae (n:=1) (off:=36) (by simp) (Ae (n:=33) (off:=3) (by simp) (Ae (n:=1) (off:=2) (by simp) (Ae (n:=1) (off:=1) (by simp) (Ae (n:=1) (off:=0) (by simp) (DJ)))))))
instance me (c:Chg):Y7 (eChg c) 71 33 (eIdent c.after):=K9 (Uv c) (by simp)
instance mo (c:Chg) (x:Ident):FK (eChg c) 71 (eIdent x) (eChg { c with after:=x }):=by unfold eChg;exact Ag (n:=1) (off:=70) (by simp) (Ag (n:=33) (off:=37) (by simp) (Ag (n:=1) (off:=36) (by simp) (Ag (n:=33) (off:=3) (by simp) (Ag (n:=1) (off:=2) (by simp) (Ag (n:=1) (off:=1) (by simp) (Ag (n:=1) (off:=0) (by simp) (Dd (by simp))))))))
instance UE (c:Chg):K5 (eChg c) 104 (eIdent c.before):=by unfold eChg;exact Ae (n:=1) (off:=103) (by simp) (Ae (n:=33) (off:=70) (by simp) (Ae (n:=1) (off:=69) (by simp) (Ae (n:=33) (off:=36) (by simp) (Ae (n:=1) (off:=35) (by simp) (Ae (n:=1) (off:=34) (by simp) (Ae (n:=1) (off:=33) (by simp) (Ae (n:=33) (off:=0) (by simp) (DJ))))))))
instance iz (c:Chg):Y7 (eChg c) 104 33 (eIdent c.before):=K9 (UE c) (by simp)
instance kJ (c:Chg) (x:Ident):FK (eChg c) 104 (eIdent x) (eChg { c with before:=x }):=by unfold eChg;exact Ag (n:=1) (off:=103) (by simp) (Ag (n:=33) (off:=70) (by simp) (Ag (n:=1) (off:=69) (by simp) (Ag (n:=33) (off:=36) (by simp) (Ag (n:=1) (off:=35) (by simp) (Ag (n:=1) (off:=34) (by simp) (Ag (n:=1) (off:=33) (by simp) (Ag (n:=33) (off:=0) (by simp) (Dd (by simp)))))))))
instance Uu (c:Chg):K5 (eChg c) 137 [.slice ((c.lines).map eS) .ro]:=by unfold eChg;exact Ae (n:=1) (off:=136) (by simp) (Ae (n:=33) (off:=103) (by simp) (Ae (n:=1) (off:=102) (by simp) (Ae (n:=33) (off:=69) (by simp) (Ae (n:=1) (off:=68) (by simp) (Ae (n:=1) (off:=67) (by simp) (Ae (n:=1) (off:=66) (by simp) (Ae (n:=33) (off:=33) (by simp) (Ae (n:=33) (off:=0) (by simp) (DJ)))))))))
instance qQ (c:Chg):At (eChg c) 137 (.slice ((c.lines).map eS) .ro):=Hj (Uu c)
instance Uo (c:Chg) (x:List Str):FK (eChg c) 137 [.slice ((x).map eS) .ro] (eChg { c with lines:=x }):=by unfold eChg;exact Ag (n:=1) (off:=136) (by simp) (Ag (n:=33) (off:=103) (by simp) (Ag (n:=1) (off:=102) (by simp) (Ag (n:=33) (off:=69) (by simp) (Ag (n:=1) (off:=68) (by simp) (Ag (n:=1) (off:=67) (by simp) (Ag (n:=1) (off:=66) (by simp) (Ag (n:=33) (off:=33) (by simp) (Ag (n:=33) (off:=0) (by simp) (Dd (by simp))))))))))
instance kE (c:Chg):FK (eChg c) 137 [.slice [] .ro] (eChg { c with lines:= [] }):=Uo c []
instance XZ (c:Chg):K5 (eChg c) 138 [.slice ((c.over).map eIdent) .ro]:=by unfold eChg;exact Ae (n:=1) (off:=137) (by simp) (Ae (n:=33) (off:=104) (by simp) (Ae (n:=1) (off:=103) (by simp) (Ae (n:=33) (off:=70) (by simp) (Ae (n:=1) (off:=69) (by simp) (Ae (n:=1) (off:=68) (by simp) (Ae (n:=1) (off:=67) (by simp) (Ae (n:=33) (off:=34) (by simp) (Ae (n:=33) (off:=1) (by simp) (Ae (n:=1) (off:=0) (by simp) (MI))))))))))
instance sG (c:Chg):At (eChg c) 138 (.slice ((c.over).map eIdent) .ro):=Hj (XZ c)
instance X9 (c:Chg) (x:List Ident):FK (eChg c) 138 [.slice ((x).map eIdent) .ro] (eChg { c with over:=x }):=by unfold eChg;exact Ag (n:=1) (off:=137) (by simp) (Ag (n:=33) (off:=104) (by simp) (Ag (n:=1) (off:=103) (by simp) (Ag (n:=33) (off:=70) (by simp) (Ag (n:=1) (off:=69) (by simp) (Ag (n:=1) (off:=68) (by simp) (Ag (n:=1) (off:=67) (by simp) (Ag (n:=33) (off:=34) (by simp) (Ag (n:=33) (off:=1) (by simp) (Ag (n:=1) (off:=0) (by simp) (MA (by simp)))))))))))
instance ml (c:Chg):FK (eChg c) 138 [.slice [] .ro] (eChg { c with over:= [] }):=X9 c []
structure Pat where
 author:Str
 message:Str
 time:Int
 deps:List Dig
 changes:List Chg
 deriving DecidableEq
def Pat.zero:Pat:=⟨[],[],0,[],[]⟩
def Bz (c:Pat):List PV:= [.str c.author]++([.str c.message]++([.raw (.int .i64 c.time)]++([.slice ((c.deps).map eDig) .ro]++([.slice ((c.changes).map eChg) .ro]))))
@[simp] theorem ko (c:Pat):(Bz c).length=5:=by unfold Bz;simp
instance :NX Bz 5:=⟨ko⟩
instance (c:Pat):Dv (Bz c):=by unfold Bz;infer_instance
instance UC (c:Pat):K5 (Bz c) 0 [.str c.author]:=by unfold Bz;exact DJ
instance nA (c:Pat):At (Bz c) 0 (.str c.author):=Hj (UC c)
instance kG (c:Pat) (x:Str):FK (Bz c) 0 [.str x] (Bz { c with author:=x }):=by unfold Bz;exact Dd (by simp)
instance Sd (c:Pat):K5 (Bz c) 1 [.str c.message]:=by unfold Bz;exact Ae (n:=1) (off:=0) (by simp) (DJ)
instance mB (c:Pat):At (Bz c) 1 (.str c.message):=Hj (Sd c)
instance XW (c:Pat):K5 (Bz c) 2 [.raw (.int .i64 c.time)]:=by unfold Bz;exact Ae (n:=1) (off:=1) (by simp) (Ae (n:=1) (off:=0) (by simp) (DJ))
instance sD (c:Pat):At (Bz c) 2 (.raw (.int .i64 c.time)):=Hj (XW c)
instance XX (c:Pat):K5 (Bz c) 3 [.slice ((c.deps).map eDig) .ro]:=by unfold Bz;exact Ae (n:=1) (off:=2) (by simp) (Ae (n:=1) (off:=1) (by simp) (Ae (n:=1) (off:=0) (by simp) (DJ)))
instance sE (c:Pat):At (Bz c) 3 (.slice ((c.deps).map eDig) .ro):=Hj (XX c)
instance Se (c:Pat):K5 (Bz c) 4 [.slice ((c.changes).map eChg) .ro]:=by unfold Bz;exact Ae (n:=1) (off:=3) (by simp) (Ae (n:=1) (off:=2) (by simp) (Ae (n:=1) (off:=1) (by simp) (Ae (n:=1) (off:=0) (by simp) (MI))))
instance mC (c:Pat):At (Bz c) 4 (.slice ((c.changes).map eChg) .ro):=Hj (Se c)
instance iV (c:Pat) (x:List Chg):FK (Bz c) 4 [.slice ((x).map eChg) .ro] (Bz { c with changes:=x }):=by unfold Bz;exact Ag (n:=1) (off:=3) (by simp) (Ag (n:=1) (off:=2) (by simp) (Ag (n:=1) (off:=1) (by simp) (Ag (n:=1) (off:=0) (by simp) (MA (by simp)))))
structure Sto where
 id:Dig
 patch:Pat
 deriving DecidableEq
def Sto.zero:Sto:=⟨Dig.zero,Pat.zero⟩
def eSto (c:Sto):List PV:=(eDig c.id)++((Bz c.patch))
@[simp] theorem kl (c:Sto):(eSto c).length=37:=by unfold eSto;simp
instance :NX eSto 37:=⟨kl⟩
instance (c:Sto):Dv (eSto c):=by unfold eSto;infer_instance
instance :K6 eSto:=⟨fun c=>(inferInstance:Dv (eSto c)).out⟩
instance uM (c:Sto):K5 (eSto c) 0 (eDig c.id):=by unfold eSto;exact DJ
instance ta (c:Sto) (x:Dig):FK (eSto c) 0 (eDig x) (eSto { c with id:=x }):=by unfold eSto;exact Dd (by simp)
instance mr (c:Sto):K5 (eSto c) 32 (Bz c.patch):=by unfold eSto;exact Ae (n:=32) (off:=0) (by simp) (MI)
instance mn (c:Sto) (x:Pat):FK (eSto c) 32 (Bz x) (eSto { c with patch:=x }):=by unfold eSto;exact Ag (n:=32) (off:=0) (by simp) (MA (by simp))
structure Atm where
 id:Ident
 kind:Int
 file:Ident
 type:Int
 parent:Ident
 name:Str
 mode:Int
 data:Str
 text:Str
 src:Ident
 dst:Ident
 over:List Ident
 deriving DecidableEq
def Atm.zero:Atm:=⟨Ident.zero,0,Ident.zero,0,Ident.zero,[],0,[],[],Ident.zero,Ident.zero,[]⟩
def eAtm (c:Atm):List PV:=(eIdent c.id)++([.raw (.int .i64 c.kind)]++((eIdent c.file)++([.raw (.int .i64 c.type)]++((eIdent c.parent)++([.str c.name]++([.raw (.int .i64 c.mode)]++([.str c.data]++([.str c.text]++((eIdent c.src)++((eIdent c.dst)++([.slice ((c.over).map eIdent) .ro])))))))))))
@[simp] theorem kr (c:Atm):(eAtm c).length=172:=by unfold eAtm;simp
instance :NX eAtm 172:=⟨kr⟩
instance (c:Atm):Dv (eAtm c):=by unfold eAtm;infer_instance
instance :K6 eAtm:=⟨fun c=>(inferInstance:Dv (eAtm c)).out⟩
instance (c:Atm):GI (.agg (eAtm c)) eAtm c:=⟨Dj.agg _⟩
instance UG (c:Atm):K5 (eAtm c) 0 (eIdent c.id):=by unfold eAtm;exact DJ
instance sq (c:Atm):Y7 (eAtm c) 0 33 (eIdent c.id):=K9 (UG c) (by simp)
instance bW (c:Atm) (x:Ident):FK (eAtm c) 0 (eIdent x) (eAtm { c with id:=x }):=by unfold eAtm;exact Dd (by simp)
instance fX (c:Atm) (x:Dig):FK (eAtm c) 0 (eDig x) (eAtm { c with id:={ c.id with patch:=x } }):=tZ (UG c) (by infer_instance:FK (eIdent c.id) 0 (eDig x) (eIdent { c.id with patch:=x })) (bW c _)
instance Xh (c:Atm):K5 (eAtm c) 33 [.raw (.int .i64 c.kind)]:=by unfold eAtm;exact Ae (n:=33) (off:=0) (by simp) (DJ)
instance sO (c:Atm):At (eAtm c) 33 (.raw (.int .i64 c.kind)):=Hj (Xh c)
instance oT (c:Atm) (x:Int):FK (eAtm c) 33 [.raw (.int .i64 x)] (eAtm { c with kind:=x }):=by unfold eAtm;exact Ag (n:=33) (off:=0) (by simp) (Dd (by simp))
instance Xi (c:Atm):K5 (eAtm c) 34 (eIdent c.file):=by unfold eAtm;exact Ae (n:=33) (off:=1) (by simp) (Ae (n:=1) (off:=0) (by simp) (DJ))
instance nV (c:Atm):Y7 (eAtm c) 34 33 (eIdent c.file):=K9 (Xi c) (by simp)
instance oU (c:Atm) (x:Ident):FK (eAtm c) 34 (eIdent x) (eAtm { c with file:=x }):=by unfold eAtm;exact Ag (n:=33) (off:=1) (by simp) (Ag (n:=1) (off:=0) (by simp) (Dd (by simp)))
instance Xf (c:Atm):K5 (eAtm c) 67 [.raw (.int .i64 c.type)]:=by unfold eAtm;exact Ae (n:=33) (off:=34) (by simp) (Ae (n:=1) (off:=33) (by simp) (Ae (n:=33) (off:=0) (by simp) (DJ)))
instance sL (c:Atm):At (eAtm c) 67 (.raw (.int .i64 c.type)):=Hj (Xf c)
instance oI (c:Atm) (x:Int):FK (eAtm c) 67 [.raw (.int .i64 x)] (eAtm { c with type:=x }):=by unfold eAtm;exact Ag (n:=33) (off:=34) (by simp) (Ag (n:=1) (off:=33) (by simp) (Ag (n:=33) (off:=0) (by simp) (Dd (by simp))))
instance UF (c:Atm):K5 (eAtm c) 68 (eIdent c.parent):=by unfold eAtm;exact Ae (n:=33) (off:=35) (by simp) (Ae (n:=1) (off:=34) (by simp) (Ae (n:=33) (off:=1) (by simp) (Ae (n:=1) (off:=0) (by simp) (DJ))))
instance j0 (c:Atm):Y7 (eAtm c) 68 33 (eIdent c.parent):=K9 (UF c) (by simp)
instance kK (c:Atm) (x:Ident):FK (eAtm c) 68 (eIdent x) (eAtm { c with parent:=x }):=by unfold eAtm;exact Ag (n:=33) (off:=35) (by simp) (Ag (n:=1) (off:=34) (by simp) (Ag (n:=33) (off:=1) (by simp) (Ag (n:=1) (off:=0) (by simp) (Dd (by simp)))))
instance pc (c:Atm):K5 (eAtm c) 101 [.str c.name]:=by unfold eAtm;exact Ae (n:=33) (off:=68) (by simp) (Ae (n:=1) (off:=67) (by simp) (Ae (n:=33) (off:=34) (by simp) (Ae (n:=1) (off:=33) (by simp) (Ae (n:=33) (off:=0) (by simp) (DJ)))))
instance oO (c:Atm) (x:Str):FK (eAtm c) 101 [.str x] (eAtm { c with name:=x }):=by unfold eAtm;exact Ag (n:=33) (off:=68) (by simp) (Ag (n:=1) (off:=67) (by simp) (Ag (n:=33) (off:=34) (by simp) (Ag (n:=1) (off:=33) (by simp) (Ag (n:=33) (off:=0) (by simp) (Dd (by simp))))))
instance pd (c:Atm):K5 (eAtm c) 102 [.raw (.int .i64 c.mode)]:=by unfold eAtm;exact Ae (n:=33) (off:=69) (by simp) (Ae (n:=1) (off:=68) (by simp) (Ae (n:=33) (off:=35) (by simp) (Ae (n:=1) (off:=34) (by simp) (Ae (n:=33) (off:=1) (by simp) (Ae (n:=1) (off:=0) (by simp) (DJ))))))
instance oQ (c:Atm) (x:Int):FK (eAtm c) 102 [.raw (.int .i64 x)] (eAtm { c with mode:=x }):=by unfold eAtm;exact Ag (n:=33) (off:=69) (by simp) (Ag (n:=1) (off:=68) (by simp) (Ag (n:=33) (off:=35) (by simp) (Ag (n:=1) (off:=34) (by simp) (Ag (n:=33) (off:=1) (by simp) (Ag (n:=1) (off:=0) (by simp) (Dd (by simp)))))))
instance pf (c:Atm):K5 (eAtm c) 103 [.str c.data]:=by unfold eAtm;exact Ae (n:=33) (off:=70) (by simp) (Ae (n:=1) (off:=69) (by simp) (Ae (n:=33) (off:=36) (by simp) (Ae (n:=1) (off:=35) (by simp) (Ae (n:=33) (off:=2) (by simp) (Ae (n:=1) (off:=1) (by simp) (Ae (n:=1) (off:=0) (by simp) (DJ)))))))
instance oV (c:Atm) (x:Str):FK (eAtm c) 103 [.str x] (eAtm { c with data:=x }):=by unfold eAtm;exact Ag (n:=33) (off:=70) (by simp) (Ag (n:=1) (off:=69) (by simp) (Ag (n:=33) (off:=36) (by simp) (Ag (n:=1) (off:=35) (by simp) (Ag (n:=33) (off:=2) (by simp) (Ag (n:=1) (off:=1) (by simp) (Ag (n:=1) (off:=0) (by simp) (Dd (by simp))))))))
instance pb (c:Atm):K5 (eAtm c) 104 [.str c.text]:=by unfold eAtm;exact Ae (n:=33) (off:=71) (by simp) (Ae (n:=1) (off:=70) (by simp) (Ae (n:=33) (off:=37) (by simp) (Ae (n:=1) (off:=36) (by simp) (Ae (n:=33) (off:=3) (by simp) (Ae (n:=1) (off:=2) (by simp) (Ae (n:=1) (off:=1) (by simp) (Ae (n:=1) (off:=0) (by simp) (DJ))))))))
instance oJ (c:Atm) (x:Str):FK (eAtm c) 104 [.str x] (eAtm { c with text:=x }):=by unfold eAtm;exact Ag (n:=33) (off:=71) (by simp) (Ag (n:=1) (off:=70) (by simp) (Ag (n:=33) (off:=37) (by simp) (Ag (n:=1) (off:=36) (by simp) (Ag (n:=33) (off:=3) (by simp) (Ag (n:=1) (off:=2) (by simp) (Ag (n:=1) (off:=1) (by simp) (Ag (n:=1) (off:=0) (by simp) (Dd (by simp)))))))))
instance Zi (c:Atm):K5 (eAtm c) 105 (eIdent c.src):=by unfold eAtm;exact Ae (n:=33) (off:=72) (by simp) (Ae (n:=1) (off:=71) (by simp) (Ae (n:=33) (off:=38) (by simp) (Ae (n:=1) (off:=37) (by simp) (Ae (n:=33) (off:=4) (by simp) (Ae (n:=1) (off:=3) (by simp) (Ae (n:=1) (off:=2) (by simp) (Ae (n:=1) (off:=1) (by simp) (Ae (n:=1) (off:=0) (by simp) (DJ)))))))))
instance qp (c:Atm):Y7 (eAtm c) 105 33 (eIdent c.src):=K9 (Zi c) (by simp)
instance rS (c:Atm) (x:Ident):FK (eAtm c) 105 (eIdent x) (eAtm { c with src:=x }):=by unfold eAtm;exact Ag (n:=33) (off:=72) (by simp) (Ag (n:=1) (off:=71) (by simp) (Ag (n:=33) (off:=38) (by simp) (Ag (n:=1) (off:=37) (by simp) (Ag (n:=33) (off:=4) (by simp) (Ag (n:=1) (off:=3) (by simp) (Ag (n:=1) (off:=2) (by simp) (Ag (n:=1) (off:=1) (by simp) (Ag (n:=1) (off:=0) (by simp) (Dd (by simp))))))))))
instance Zj (c:Atm):K5 (eAtm c) 138 (eIdent c.dst):=by unfold eAtm;exact Ae (n:=33) (off:=105) (by simp) (Ae (n:=1) (off:=104) (by simp) (Ae (n:=33) (off:=71) (by simp) (Ae (n:=1) (off:=70) (by simp) (Ae (n:=33) (off:=37) (by simp) (Ae (n:=1) (off:=36) (by simp) (Ae (n:=1) (off:=35) (by simp) (Ae (n:=1) (off:=34) (by simp) (Ae (n:=1) (off:=33) (by simp) (Ae (n:=33) (off:=0) (by simp) (DJ))))))))))
instance qq (c:Atm):Y7 (eAtm c) 138 33 (eIdent c.dst):=K9 (Zj c) (by simp)
instance rU (c:Atm) (x:Ident):FK (eAtm c) 138 (eIdent x) (eAtm { c with dst:=x }):=by unfold eAtm;exact Ag (n:=33) (off:=105) (by simp) (Ag (n:=1) (off:=104) (by simp) (Ag (n:=33) (off:=71) (by simp) (Ag (n:=1) (off:=70) (by simp) (Ag (n:=33) (off:=37) (by simp) (Ag (n:=1) (off:=36) (by simp) (Ag (n:=1) (off:=35) (by simp) (Ag (n:=1) (off:=34) (by simp) (Ag (n:=1) (off:=33) (by simp) (Ag (n:=33) (off:=0) (by simp) (Dd (by simp)))))))))))
instance Xg (c:Atm):K5 (eAtm c) 171 [.slice ((c.over).map eIdent) .ro]:=by unfold eAtm;exact Ae (n:=33) (off:=138) (by simp) (Ae (n:=1) (off:=137) (by simp) (Ae (n:=33) (off:=104) (by simp) (Ae (n:=1) (off:=103) (by simp) (Ae (n:=33) (off:=70) (by simp) (Ae (n:=1) (off:=69) (by simp) (Ae (n:=1) (off:=68) (by simp) (Ae (n:=1) (off:=67) (by simp) (Ae (n:=1) (off:=66) (by simp) (Ae (n:=33) (off:=33) (by simp) (Ae (n:=33) (off:=0) (by simp) (MI)))))))))))
instance sN (c:Atm):At (eAtm c) 171 (.slice ((c.over).map eIdent) .ro):=Hj (Xg c)
instance oM (c:Atm) (x:List Ident):FK (eAtm c) 171 [.slice ((x).map eIdent) .ro] (eAtm { c with over:=x }):=by unfold eAtm;exact Ag (n:=33) (off:=138) (by simp) (Ag (n:=1) (off:=137) (by simp) (Ag (n:=33) (off:=104) (by simp) (Ag (n:=1) (off:=103) (by simp) (Ag (n:=33) (off:=70) (by simp) (Ag (n:=1) (off:=69) (by simp) (Ag (n:=1) (off:=68) (by simp) (Ag (n:=1) (off:=67) (by simp) (Ag (n:=1) (off:=66) (by simp) (Ag (n:=33) (off:=33) (by simp) (Ag (n:=33) (off:=0) (by simp) (MA (by simp))))))))))))
structure Bis where
 left:List Dig
 asked:List Dig
 bad:List Bool
 deriving DecidableEq
def y6 (c:Bis):List PV:= [.slice ((c.left).map eDig) .ro]++([.slice ((c.asked).map eDig) .ro]++([.slice ((c.bad).map eB) .ro]))
@[simp] theorem xi (c:Bis):(y6 c).length=3:=by unfold y6;simp
inductive Sx where
 |mk (isList:Bool) (atom:Str) (list:List Sx)
def Sx.isList:Sx→Bool| .mk b _ _=>b
def Sx.atom:Sx→Str| .mk _ a _=>a
def Sx.list:Sx→List Sx| .mk _ _ l=>l
def Sx.zero:Sx:= .mk false [] []
mutual
def eSx:Sx→List PV
 | .mk b a l=> [.raw (.bool b),.str a,.slice (lX l) .ro]
def lX:List Sx→List (List PV)
 | []=> []
 |x::l=>eSx x::lX l
end
theorem eN: ∀ l:List Sx,lX l=l.map eSx
 | []=>by simp[lX]
 |x::l=>by simp[lX,eN l]
theorem Fp (x:Sx):eSx x= [.raw (.bool x.isList),.str x.atom,.slice (x.list.map eSx) .ro]:=by
 cases x;simp[eSx,eN,Sx.isList,Sx.atom,Sx.list]
@[simp] theorem pF (x:Sx):(eSx x).length=3:=by rw[Fp];rfl
instance :NX eSx 3:=⟨pF⟩
instance (c:Sx):Dv (eSx c):=by rw[Fp];infer_instance
instance :K6 eSx:=⟨fun c=>(inferInstance:Dv (eSx c)).out⟩
instance (c:Sx):GI (.agg (eSx c)) eSx c:=⟨Dj.agg _⟩
instance mq (c:Sx):K5 (eSx c) 0 [.raw (.bool c.isList)]:=⟨by rw[Fp];simp⟩
instance qP (c:Sx):At (eSx c) 0 (.raw (.bool c.isList)):=⟨by rw[Fp];simp⟩
instance rr (c:Sx):K5 (eSx c) 1 [.str c.atom]:=⟨by rw[Fp];simp⟩
instance ur (c:Sx):At (eSx c) 1 (.str c.atom):=⟨by rw[Fp];simp⟩
instance rq (c:Sx):K5 (eSx c) 2 [.slice (c.list.map eSx) .ro]:=⟨by rw[Fp];simp⟩
instance uq (c:Sx):At (eSx c) 2 (.slice (c.list.map eSx) .ro):=⟨by rw[Fp];simp⟩
instance mm (c:Sx) (x:Bool):FK (eSx c) 0 [.raw (.bool x)] (eSx (.mk x c.atom c.list)):=⟨by rw[Fp,Fp];simp[Sx.isList,Sx.atom,Sx.list]⟩
instance rR (c:Sx) (x:Str):FK (eSx c) 1 [.str x] (eSx (.mk c.isList x c.list)):=⟨by rw[Fp,Fp];simp[Sx.isList,Sx.atom,Sx.list]⟩
instance rQ (c:Sx) (x:List Sx):FK (eSx c) 2 [.slice (x.map eSx) .ro] (eSx (.mk c.isList c.atom x)):=⟨by rw[Fp,Fp];simp[Sx.isList,Sx.atom,Sx.list]⟩
end Go.Q
