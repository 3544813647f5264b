/- The small logic, twelfth text: structs built, variables laid, slices cut, strings. Library, no statement of its own. -/
import Derived.Test.YtpebdiofdfpooaaGreatDoorWab
set_option linter.unusedSimpArgs false
set_option linter.unusedVariables false
namespace Go.Q
open Go
class Cb (P:Program) (T:Nat):Prop where
 out: ∃ fs,P.underlying T=some (.struct fs)∧ ∀ f∈fs,∃ i,P.info? f.type=some i
class Ba (P:Program) (S k:Nat) (off sz:outParam Nat):Prop where
 out: ∃ fs f i,P.underlying S=some (.struct fs)∧fs[k]? =some f∧f.offset=off∧P.info? f.type=some i∧i.size=sz
class Cu (P:Program) (T:Nat) (z:outParam (List PV)):Prop where
 out: ∃ (i:TypeInfo) (v:Value) (us:List Value),P.info? T=some i∧i.zero=some v∧v.cells=us.toArray∧ ∀ g,E5 g us z
inductive kP:List PV→List (Nat × Operand × Nat × List PV)→List PV→Prop
 |nil {cs:List PV}:kP cs [] cs
 |cons {cs cs' r new:List PV} {k off:Nat} {x:Operand} {ps:List (Nat × Operand × Nat × List PV)} (h:cs.take off++new++cs.drop (off+new.length)=cs') (hl:off+new.length≤cs.length) (hs:kP cs' ps r):kP cs ((k,x,off,new)::ps) r
section
variable {P:Program} {N:Nat} {all:Array Oper} {K:Env→List Res→Prop} {fl:List Bool} {os:List Oper} {ρ:Env} {L:List Res}
variable {d:Nat} {ty:TypeId} {pos:String} {af:Array Edge}
theorem Ux {g:Gh} {a:Act} {place:Nat→Option (Nat × Nat)}: ∀ {ps:List (Nat × Operand × Nat × List PV)} {cs r:List PV} {us:List Value},kP cs ps r→E5 g us cs→
  (∀ p∈ps,∃ s,place p.1=some (p.2.2.1,s)∧p.2.2.2.length=s∧ ∃ vs:List Value,(a.eval p.2.1).cells=vs.toArray∧E5 g vs p.2.2.2)→
  ∃ vs:List Value,Instr.fill place us.toArray (ps.map fun p=>(p.1,a.eval p.2.1))=some vs.toArray∧E5 g vs r
 | [],_,_,us,.nil,hu,_=>⟨us,rfl,hu⟩
 |(k,x,off,new)::ps,cs,r,us,.cons h hl hs,hu,hp=>by
  obtain⟨s,h1,h2,vs,h3,h4⟩:=hp (k,x,off,new) (by simp)
  simp only at h1 h2 h3 h4
  simp only[BH]
  rw[Uy h1 h3 (by rw[h4.len,h2]) (by rw[h4.len,hu.len];exact hl)]
  refine Ux hs ?_ (fun p hp'=>hp p (AD _ hp'))
  rw[←h,←h4.len]
  exact((hu.take off).append h4).append (hu.drop _)
theorem YK {fs:List Field} (w:World) (h: ∀ f∈fs,∃ i,P.info? f.type=some i):(fs.mapM (m:=Sem) fun f=>do pure (f.offset,←sizeOf f.type)).run P w= .ok (fs.map fun f=>(f.offset,P.cellsOf f.type)) w:=by
 induction fs with
 |nil=>rfl
 |cons f fs ih=>
  obtain⟨i,hi⟩:=h f (by simp)
  have hf:(sizeOf f.type).run P w= .ok (P.cellsOf f.type) w:=by
   simp only[Sem.run_bind,sizeOf,typeInfo,run_program,hi,Sem.run_pure,Result.andThen_ok,Program.cellsOf,FB,BO]
  rw[List.mapM_cons]
  simp only[Sem.run_bind,hf,ih (fun f hf=>h f (by simp[hf])),Sem.run_pure,Result.andThen_ok,BH]
theorem J0 {T:Nat} [hS:Cb P T] {z r:List PV} [hZ:Cu P T z] {parts:List (Nat × Operand)} {ps:List (Nat × Operand × Nat × List PV)} {dst:Option Nat} {gd:Option (Nat × Bool)} (hps:parts=ps.map fun p=>(p.1,p.2.1))
  (hp: ∀ p∈ps,∃ s,(∃ fs f i,P.underlying T=some (.struct fs)∧fs[p.1]? =some f∧f.offset=p.2.2.1∧P.info? f.type=some i∧i.size=s)∧Dv (ρ.ev p.2.1) p.2.2.2∧p.2.2.2.length=s) (hr:kP z ps r):
  fC P ⟨dst,.build T parts.toArray,ty,pos,af,gd⟩ ρ L (.agg r):=B7 fun a w g ha hi=>by
 obtain⟨fs,hu,hall⟩:=hS.out
 obtain⟨i,v,us,h1,h2,h3,h4⟩:=hZ.out
 have hmem: ∀ p∈ps,p.2.1∈(Op.build T parts.toArray).operands:=fun p hp'=>by
  unfold Op.operands
  simp only[hps,DK,List.mem_toArray,AX]
  exact⟨p,hp',rfl⟩
 obtain⟨vs,hf,hvs⟩:=Ux (g:=g) (a:=a) (place:=fun k=>((fs.toList.map fun f=>(f.offset,P.cellsOf f.type)).toArray)[k]?) hr (h4 g) (fun p hp'=>by
  obtain⟨s,⟨fs',f,j,e1,e2,e3,e4,e5⟩,hc,hl⟩:=hp p hp'
  rw[hu]at e1
  injection e1 with e1
  injection e1 with e1
  subst e1
  obtain⟨vs,hv1,hv2⟩:=hc g _ (ha _ (hmem p hp'))
  refine⟨s,?_,hl,vs,hv1,hv2⟩
  simp[e2,e3,Program.cellsOf,e4,e5])
 refine⟨.agg vs.toArray,?_,hvs.agg⟩
 have hparts:((parts.toArray).map fun(p:Nat × Operand)=>(p.1,a.eval p.2)).toList=ps.map fun p=>(p.1,a.eval p.2.1):=by
  simp[hps]
 have hpl:(fs.mapM (m:=Sem) fun f=>do pure (f.offset,←sizeOf f.type)).run P w= .ok ((fs.toList.map fun f=>(f.offset,P.cellsOf f.type)).toArray) w:=by
  obtain⟨fs⟩:=fs
  rw[List.mapM_toArray,Sem.run_map,YK w (by simpa using hall)]
  simp
 show(do pure (Next.value (←Instr.build T ((parts.toArray).map fun(p:Nat × Operand)=>(p.1,a.eval p.2)))):Sem Next).run P w=_
 simp only[Instr.build,Sem.run_bind,zeroValue,typeInfo,run_program,h1,Sem.run_pure,Result.andThen_ok,h2,run_underlying hu,hpl,hparts,h3,hf]
theorem BN {T:Nat} {z:List PV} [hZ:Cu P T z] (k: ∀ b,AW P N all K fl.tail os (CT ρ d (.raw (.pointer (some ⟨b,0,none⟩)))) (.box b T z::L)) (hd:Nat.blt d N=true:=by rfl) (hf:fl.headD true=true:=by rfl):
  AW P N all K fl (⟨some d,.alloc T,ty,pos,af,none⟩::os) ρ L:=
 Dp rfl (QF hd) hf (fun a w g ha hi=>by
  obtain⟨i,v,us,h1,h2,h3,h4⟩:=hZ.out
  obtain⟨i1,i2,i3⟩:=hi.alloc (h4 g) T
  have hr:(execOp a.eval ⟨some d,.alloc T,ty,pos,af,none⟩).run P w= .ok (.value (.pointer (some ⟨w.heap.size,0,none⟩))) { w with heap:=w.heap.push (.cells us.toArray T (0,0)) }:=by
   simp only[execOp,Instr.alloc,zeroValue,typeInfo,Sem.run_bind,run_program,h1,h2,Sem.run_pure,Result.andThen_ok,newVar,newRow,h3,run_newObj]
  refine Oper.wq_of_run hr ?_
  exact⟨_,_,g,_,rfl,.raw _,i1,i2,i3,k _⟩)
theorem fx {T:TypeId} {x y:Operand} {b sz by_:Nat} {cs new:List PV} {L':List Res} [hT:EG P T sz by_]
  (hx:ρ.ev x= .raw (.pointer (some ⟨b,0,none⟩))) (hy:ρ.ev y= .agg new) (hu:np b cs new L L') [hf:EH new] (hlen:new.length=sz) (hcs:cs.length=sz)
  (k:AW P N all K fl.tail os ρ L') (hfl:fl.headD true=true:=by rfl):AW P N all K fl (⟨none,.store T x y,ty,pos,af,none⟩::os) ρ L:=
 Dp rfl (fun _ e=>by cases e) hfl (J2 hx (fun g v hv=>by
  rw[hy]at hv
  obtain⟨vs,rfl,h⟩:=hv.agg_inv
  exact⟨vs,rfl,h⟩) hlen hf.out (by simp[CY (show cs.length≤new.length by omega)]) (by omega) hu k)
theorem Vs {T E sz by_:Nat} [hT:L0 P T E] [hE:EG P E sz by_] {x:Operand} {lo hi:Option Operand} {xs:List (List PV)} {t:CZ} {dst:Option Nat} {gd:Option (Nat × Bool)} (i j:Nat) (hx:ρ.ev x= .slice xs t) (hij:i≤j) (hj:j≤xs.length) (hs: ∀ e∈xs,e.length=sz)
  (hlo: ∀ o,lo=some o→ ∃ k,ρ.ev o= .raw (.int k i)) (hlo':lo=none→i=0) (hhi: ∀ o,hi=some o→ ∃ k,ρ.ev o= .raw (.int k j)) (hhi':hi=none→j=xs.length):
  fC P ⟨dst,.slice T x lo hi none,ty,pos,af,gd⟩ ρ L (.slice ((xs.drop i).take (j - i)) .ro):=B7 fun a w g ha hI=>by
 have h1:=ha x (by simp[Op.operands]);rw[hx]at h1
 obtain⟨base,cap,e1,hcap,hmx,hnone,_,_,us,hus,hcell⟩:=h1.slice_cells hs
 have hsub: ∀ e∈(xs.drop i).take (j - i),e.length=sz:=fun e he=>hs e (Di (Ee he))
 have hul:us.length=xs.length*sz:=by rw[hus.len,Cp hs]
 have hlen:((xs.drop i).take (j - i)).length=j - i:=by simp;omega
 have hbl: ∀ o,lo=some o→ ∃ k,a.eval o= .int k i:=fun o e=>by
  obtain⟨k,hk⟩:=hlo o e
  exact⟨k,CW ha (by simp[Op.operands,e]) hk⟩
 have hbh: ∀ o,hi=some o→ ∃ k,a.eval o= .int k j:=fun o e=>by
  obtain⟨k,hk⟩:=hhi o e
  exact⟨k,CW ha (by simp[Op.operands,e]) hk⟩
 have hbounds:(Instr.sliceBounds true xs.length cap (lo.map a.eval) (hi.map a.eval) none).run P w= .ok (i,j,cap) w:=by
  unfold Instr.sliceBounds
  cases lo with
  |none=>
   have:=hlo' rfl;subst this
   cases hi with
   |none=>have:=hhi' rfl;subst this;simp
   |some o=>
    obtain⟨k,hk⟩:=hbh o rfl
    simp[hk,Instr.sliceBound,asIntOf]
    omega
  |some o=>
   obtain⟨k,hk⟩:=hbl o rfl
   cases hi with
   |none=>
    have:=hhi' rfl;subst this
    simp[hk,Instr.sliceBound,asIntOf]
    omega
   |some o'=>
    obtain⟨k',hk'⟩:=hbh o' rfl
    simp[hk,hk',Instr.sliceBound,asIntOf]
    rw[if_pos (by omega)]
    simp
    omega
 have hr:(execOp a.eval ⟨dst,.slice T x lo hi none,ty,pos,af,gd⟩).run P w= .ok (.value (.slice (if cap=i then base else base.map (·.add (i*sz))) (j - i) (cap - i))) w:=by
  show(do pure (Next.value (←Instr.sliceAt T (a.eval x) (lo.map a.eval) (hi.map a.eval) none)):Sem Next).run P w=_
  simp only[Instr.sliceAt,Sem.run_bind,run_underlying hT.out,Result.andThen_ok,Instr.slice,e1,hbounds,EG.run hE,Sem.run_pure]
 refine⟨_,hr,?_⟩
 cases base with
 |none=>
  obtain⟨rfl,rfl⟩:=hnone rfl
  simp at hj
  have hj0:j=0:=by omega
  have hi0:i=0:=by omega
  subst hj0 hi0
  simpa using VR.nilR (g:=g) (o:=none)
 |some ad=>
  obtain⟨b,o,s⟩:=ad
  obtain⟨hs',hH⟩:=hcell _ rfl
  rcases hs' with ⟨e3,e4⟩|hs'
  ·subst e3 e4
   simp only[Aa,Nat.le_zero]at hj
   subst hj
   have hi0:i=0:=by omega
   subst hi0
   simpa using VR.nilR (g:=g) (o:=some ⟨b,o,s⟩)
  simp only at hs'
  subst hs'
  have hfl:((xs.drop i).take (j - i)).flatten=(xs.flatten.drop (i*sz)).take ((j - i)*sz):=by
   have d1: ∀ (n:Nat) (ys:List (List PV)),(∀ e∈ys,e.length=sz)→(ys.drop n).flatten=ys.flatten.drop (n*sz):=by
    intro n
    induction n with
    |zero=>intro ys _;simp
    |succ n ih=>
     intro ys hy
     cases ys with
     |nil=>simp
     |cons y ys=>
      simp only[ZH,CH]
      rw[ih ys (fun e he=>hy e (by simp[he])),Bq,l5,L5,←L8]
      rw[o7 (hy y (by simp))]
   have d2: ∀ (n:Nat) (ys:List (List PV)),(∀ e∈ys,e.length=sz)→(ys.take n).flatten=ys.flatten.take (n*sz):=by
    intro n
    induction n with
    |zero=>intro ys _;simp
    |succ n ih=>
     intro ys hy
     cases ys with
     |nil=>simp
     |cons y ys=>
      simp only[O1,CH]
      rw[ih ys (fun e he=>hy e (by simp[he])),Bq,l5,L5,←hy y (by simp),OA]
   rw[d2 _ _ (fun e he=>hs e (Di he)),d1 _ _ hs]
  have hus2:E5 g ((us.drop (i*sz)).take ((j - i)*sz)) ((xs.drop i).take (j - i)).flatten:=by rw[hfl];exact(hus.drop _).take _
  by_cases hci:cap=i
  ·have hj0:j - i=0:=by omega
   rw[if_pos hci,hj0]
   have:=VR.of_cells (g:=g) (xs:=(xs.drop i).take 0) (t:= .ro) (sz:=sz) (b:=b) (off:=o) (cap:=cap - i) (by simp) (by simp) ⟨by simp,by simp⟩ (us:= []) (by simpa using E5.nil g) (by simp) (by simp) (by simp)
   simpa using this
  ·rw[if_neg hci]
   have:=VR.of_cells (g:=g) (xs:=(xs.drop i).take (j - i)) (t:= .ro) (sz:=sz) (b:=b) (off:=o+i*sz) (cap:=cap - i) hsub (by omega) ⟨by have:=hmx.1;omega,Cd (Au _ (by omega)) hmx.2⟩ hus2 (fun k hk=>by
    have hk':k < (j - i)*sz:=by simp at hk;omega
    have hlt:i*sz+k < us.length:=by
     rw[hul]
     have h2:j*sz≤xs.length*sz:=Au _ hj
     have h3:(j - i)*sz+i*sz=j*sz:=by rw[←Bq];congr 1;omega
     omega
    rw[E3,hH _ hlt]
    simp) (by simp) (by simp)
   rw[hlen]at this
   simpa [DQ]using this
theorem Hh {T E sz by_:Nat} [hT:L0 P T E] [hE:EG P E sz by_] {x y:Operand} {α:Type} {f:α→List PV} [hf:KY f sz] {l:List α} {t:CZ} {kk:IntKind} {i:Nat} (hx:ρ.ev x= .slice (l.map f) t) (hy:ρ.ev y= .raw (.int kk (i:Int))) (hi:i≤l.length)
  (k:AW P N all K fl.tail os (CT ρ d (.slice ((l.drop i).map f) .ro)) L) (hd:Nat.blt d N=true:=by rfl):AW P N all K fl (⟨some d,.slice T x (some y) none none,ty,pos,af,none⟩::os) ρ L:=
 Bb hd (Vs i l.length hx hi (by simp) (fun e he=>by obtain⟨a,_,rfl⟩:=AX.1 he;exact hf.out a) (fun o e=>by cases e;exact⟨_,hy⟩) (by simp) (by simp) (by simp)) (by
  rw[AA (by simp),←List.map_drop];exact k)
theorem gY {T E sz by_:Nat} [hT:L0 P T E] [hE:EG P E sz by_] {x y:Operand} {α:Type} {f:α→List PV} [hf:KY f sz] {l:List α} {t:CZ} {kk:IntKind} {j:Nat} (hx:ρ.ev x= .slice (l.map f) t) (hy:ρ.ev y= .raw (.int kk (j:Int))) (hj:j≤l.length)
  (k:AW P N all K fl.tail os (CT ρ d (.slice ((l.take j).map f) .ro)) L) (hd:Nat.blt d N=true:=by rfl):AW P N all K fl (⟨some d,.slice T x none (some y) none,ty,pos,af,none⟩::os) ρ L:=
 Bb hd (Vs 0 j hx (by omega) (by simpa using hj) (fun e he=>by obtain⟨a,_,rfl⟩:=AX.1 he;exact hf.out a) (by simp) (by simp) (fun o e=>by cases e;exact⟨_,hy⟩) (by simp)) (by
  simp only[L7,Te,←ZL];exact k)
theorem gi {T f0 o0 s0:Nat} {x0:Operand} {z c0 r0:List PV} [hS:Cb P T] [hZ:Cu P T z] [hF0:Ba P T f0 o0 s0] [hP0:Ek z o0 c0 r0] (h0:Dv (ρ.ev x0) c0) (hl0:c0.length=s0)
  (k:AW P N all K fl.tail os (CT ρ d (.agg r0)) L) (hd:Nat.blt d N=true:=by rfl):AW P N all K fl (⟨some d,.build T #[(f0,x0)],ty,pos,af,none⟩::os) ρ L:=
 Bb hd (J0 (ps:= [(f0,x0,o0,c0)]) rfl (by
  intro p hp
  simp only[AI,Ar,or_false]at hp
  rcases hp with rfl
  ·exact⟨s0,hF0.out,h0,hl0⟩) (.cons hP0.out.1 hP0.out.2 (.nil))) k
theorem Xg {T f0 f1 o0 o1 s0 s1:Nat} {x0 x1:Operand} {z c0 c1 r0 r1:List PV} [hS:Cb P T] [hZ:Cu P T z] [hF0:Ba P T f0 o0 s0] [hF1:Ba P T f1 o1 s1] [hP0:Ek z o0 c0 r0] [hP1:Ek r0 o1 c1 r1] (h0:Dv (ρ.ev x0) c0) (h1:Dv (ρ.ev x1) c1) (hl0:c0.length=s0) (hl1:c1.length=s1)
  (k:AW P N all K fl.tail os (CT ρ d (.agg r1)) L) (hd:Nat.blt d N=true:=by rfl):AW P N all K fl (⟨some d,.build T #[(f0,x0),(f1,x1)],ty,pos,af,none⟩::os) ρ L:=
 Bb hd (J0 (ps:= [(f0,x0,o0,c0),(f1,x1,o1,c1)]) rfl (by
  intro p hp
  simp only[AI,Ar,or_false]at hp
  rcases hp with rfl|rfl
  ·exact⟨s0,hF0.out,h0,hl0⟩
  ·exact⟨s1,hF1.out,h1,hl1⟩) (.cons hP0.out.1 hP0.out.2 (.cons hP1.out.1 hP1.out.2 (.nil)))) k
theorem gh {T f0 f1 f2 o0 o1 o2 s0 s1 s2:Nat} {x0 x1 x2:Operand} {z c0 c1 c2 r0 r1 r2:List PV} [hS:Cb P T] [hZ:Cu P T z] [hF0:Ba P T f0 o0 s0] [hF1:Ba P T f1 o1 s1] [hF2:Ba P T f2 o2 s2] [hP0:Ek z o0 c0 r0] [hP1:Ek r0 o1 c1 r1] [hP2:Ek r1 o2 c2 r2] (h0:Dv (ρ.ev x0) c0) (h1:Dv (ρ.ev x1) c1) (h2:Dv (ρ.ev x2) c2) (hl0:c0.length=s0) (hl1:c1.length=s1) (hl2:c2.length=s2)
  (k:AW P N all K fl.tail os (CT ρ d (.agg r2)) L) (hd:Nat.blt d N=true:=by rfl):AW P N all K fl (⟨some d,.build T #[(f0,x0),(f1,x1),(f2,x2)],ty,pos,af,none⟩::os) ρ L:=
 Bb hd (J0 (ps:= [(f0,x0,o0,c0),(f1,x1,o1,c1),(f2,x2,o2,c2)]) rfl (by
  intro p hp
  simp only[AI,Ar,or_false]at hp
  rcases hp with rfl|rfl|rfl
  ·exact⟨s0,hF0.out,h0,hl0⟩
  ·exact⟨s1,hF1.out,h1,hl1⟩
  ·exact⟨s2,hF2.out,h2,hl2⟩) (.cons hP0.out.1 hP0.out.2 (.cons hP1.out.1 hP1.out.2 (.cons hP2.out.1 hP2.out.2 (.nil))))) k
theorem gg {T f0 f1 f2 f3 o0 o1 o2 o3 s0 s1 s2 s3:Nat} {x0 x1 x2 x3:Operand} {z c0 c1 c2 c3 r0 r1 r2 r3:List PV} [hS:Cb P T] [hZ:Cu P T z] [hF0:Ba P T f0 o0 s0] [hF1:Ba P T f1 o1 s1] [hF2:Ba P T f2 o2 s2] [hF3:Ba P T f3 o3 s3] [hP0:Ek z o0 c0 r0] [hP1:Ek r0 o1 c1 r1] [hP2:Ek r1 o2 c2 r2] [hP3:Ek r2 o3 c3 r3] (h0:Dv (ρ.ev x0) c0) (h1:Dv (ρ.ev x1) c1) (h2:Dv (ρ.ev x2) c2) (h3:Dv (ρ.ev x3) c3) (hl0:c0.length=s0) (hl1:c1.length=s1) (hl2:c2.length=s2) (hl3:c3.length=s3)
  (k:AW P N all K fl.tail os (CT ρ d (.agg r3)) L) (hd:Nat.blt d N=true:=by rfl):AW P N all K fl (⟨some d,.build T #[(f0,x0),(f1,x1),(f2,x2),(f3,x3)],ty,pos,af,none⟩::os) ρ L:=
 Bb hd (J0 (ps:= [(f0,x0,o0,c0),(f1,x1,o1,c1),(f2,x2,o2,c2),(f3,x3,o3,c3)]) rfl (by
  intro p hp
  simp only[AI,Ar,or_false]at hp
  rcases hp with rfl|rfl|rfl|rfl
  ·exact⟨s0,hF0.out,h0,hl0⟩
  ·exact⟨s1,hF1.out,h1,hl1⟩
  ·exact⟨s2,hF2.out,h2,hl2⟩
  ·exact⟨s3,hF3.out,h3,hl3⟩) (.cons hP0.out.1 hP0.out.2 (.cons hP1.out.1 hP1.out.2 (.cons hP2.out.1 hP2.out.2 (.cons hP3.out.1 hP3.out.2 (.nil)))))) k
theorem gf {T f0 f1 f2 f3 f4 o0 o1 o2 o3 o4 s0 s1 s2 s3 s4:Nat} {x0 x1 x2 x3 x4:Operand} {z c0 c1 c2 c3 c4 r0 r1 r2 r3 r4:List PV} [hS:Cb P T] [hZ:Cu P T z] [hF0:Ba P T f0 o0 s0] [hF1:Ba P T f1 o1 s1] [hF2:Ba P T f2 o2 s2] [hF3:Ba P T f3 o3 s3] [hF4:Ba P T f4 o4 s4] [hP0:Ek z o0 c0 r0] [hP1:Ek r0 o1 c1 r1] [hP2:Ek r1 o2 c2 r2] [hP3:Ek r2 o3 c3 r3] [hP4:Ek r3 o4 c4 r4] (h0:Dv (ρ.ev x0) c0) (h1:Dv (ρ.ev x1) c1) (h2:Dv (ρ.ev x2) c2) (h3:Dv (ρ.ev x3) c3) (h4:Dv (ρ.ev x4) c4) (hl0:c0.length=s0) (hl1:c1.length=s1) (hl2:c2.length=s2) (hl3:c3.length=s3) (hl4:c4.length=s4)
  (k:AW P N all K fl.tail os (CT ρ d (.agg r4)) L) (hd:Nat.blt d N=true:=by rfl):AW P N all K fl (⟨some d,.build T #[(f0,x0),(f1,x1),(f2,x2),(f3,x3),(f4,x4)],ty,pos,af,none⟩::os) ρ L:=
 Bb hd (J0 (ps:= [(f0,x0,o0,c0),(f1,x1,o1,c1),(f2,x2,o2,c2),(f3,x3,o3,c3),(f4,x4,o4,c4)]) rfl (by
  intro p hp
  simp only[AI,Ar,or_false]at hp
  rcases hp with rfl|rfl|rfl|rfl|rfl
  ·exact⟨s0,hF0.out,h0,hl0⟩
  ·exact⟨s1,hF1.out,h1,hl1⟩
  ·exact⟨s2,hF2.out,h2,hl2⟩
  ·exact⟨s3,hF3.out,h3,hl3⟩
  ·exact⟨s4,hF4.out,h4,hl4⟩) (.cons hP0.out.1 hP0.out.2 (.cons hP1.out.1 hP1.out.2 (.cons hP2.out.1 hP2.out.2 (.cons hP3.out.1 hP3.out.2 (.cons hP4.out.1 hP4.out.2 (.nil))))))) k
theorem gb {T f0 f1 f2 f3 f4 f5 o0 o1 o2 o3 o4 o5 s0 s1 s2 s3 s4 s5:Nat} {x0 x1 x2 x3 x4 x5:Operand} {z c0 c1 c2 c3 c4 c5 r0 r1 r2 r3 r4 r5:List PV} [hS:Cb P T] [hZ:Cu P T z] [hF0:Ba P T f0 o0 s0] [hF1:Ba P T f1 o1 s1] [hF2:Ba P T f2 o2 s2] [hF3:Ba P T f3 o3 s3] [hF4:Ba P T f4 o4 s4] [hF5:Ba P T f5 o5 s5] [hP0:Ek z o0 c0 r0] [hP1:Ek r0 o1 c1 r1] [hP2:Ek r1 o2 c2 r2] [hP3:Ek r2 o3 c3 r3] [hP4:Ek r3 o4 c4 r4] [hP5:Ek r4 o5 c5 r5] (h0:Dv (ρ.ev x0) c0) (h1:Dv (ρ.ev x1) c1) (h2:Dv (ρ.ev x2) c2) (h3:Dv (ρ.ev x3) c3) (h4:Dv (ρ.ev x4) c4) (h5:Dv (ρ.ev x5) c5) (hl0:c0.length=s0) (hl1:c1.length=s1) (hl2:c2.length=s2) (hl3:c3.length=s3) (hl4:c4.length=s4) (hl5:c5.length=s5)
  (k:AW P N all K fl.tail os (CT ρ d (.agg r5)) L) (hd:Nat.blt d N=true:=by rfl):AW P N all K fl (⟨some d,.build T #[(f0,x0),(f1,x1),(f2,x2),(f3,x3),(f4,x4),(f5,x5)],ty,pos,af,none⟩::os) ρ L:=
 Bb hd (J0 (ps:= [(f0,x0,o0,c0),(f1,x1,o1,c1),(f2,x2,o2,c2),(f3,x3,o3,c3),(f4,x4,o4,c4),(f5,x5,o5,c5)]) rfl (by
  intro p hp
  simp only[AI,Ar,or_false]at hp
  rcases hp with rfl|rfl|rfl|rfl|rfl|rfl
  ·exact⟨s0,hF0.out,h0,hl0⟩
  ·exact⟨s1,hF1.out,h1,hl1⟩
  ·exact⟨s2,hF2.out,h2,hl2⟩
  ·exact⟨s3,hF3.out,h3,hl3⟩
  ·exact⟨s4,hF4.out,h4,hl4⟩
  ·exact⟨s5,hF5.out,h5,hl5⟩) (.cons hP0.out.1 hP0.out.2 (.cons hP1.out.1 hP1.out.2 (.cons hP2.out.1 hP2.out.2 (.cons hP3.out.1 hP3.out.2 (.cons hP4.out.1 hP4.out.2 (.cons hP5.out.1 hP5.out.2 (.nil)))))))) k
end
class B0 (p:Prop):Prop where
 out:p
theorem Cr {a b:List PV}:Ib (a++b) 0 a:=⟨by simp⟩
theorem IM {a:List PV}:Ib a 0 a:=⟨by simp⟩
theorem Ah {a b r:List PV} {n off:Nat} (ha:a.length=n) (h:Ib b off r):Ib (a++b) (n+off) r:=⟨by
 obtain⟨h1,h2⟩:=h.out
 subst ha
 constructor
 ·rw[OC];exact h1
 ·simp;omega⟩
theorem JC {cs r:List PV} {off n:Nat} (h:Ib cs off r) (hn:r.length=n):VL cs off n r:=⟨by
 obtain⟨h1,h2⟩:=h.out;subst hn;exact⟨h1,h2⟩⟩
theorem Cw {a b new:List PV} (h:new.length=a.length):Ek (a++b) 0 new (new++b):=⟨by simp[h]⟩
theorem IJ {a new:List PV} (h:new.length=a.length):Ek a 0 new new:=⟨by simp[h]⟩
theorem Ad {a b r new:List PV} {n off:Nat} (ha:a.length=n) (h:Ek b off new r):Ek (a++b) (n+off) new (a++r):=⟨by
 obtain⟨h1,h2⟩:=h.out
 subst ha
 constructor
 ·rw[←h1,OA,E3,OC];simp
 ·simp;omega⟩
theorem iM {cs r r' new cs':List PV} {off io:Nat} (h:Ib cs off r) (k:Ek r io new r') (p:Ek cs off r' cs'):Ek cs (off+io) new cs':=⟨by
 obtain⟨h1,h2⟩:=h.out
 obtain⟨k1,k2⟩:=k.out
 obtain⟨p1,p2⟩:=p.out
 refine⟨?_,by omega⟩
 have hl:r'.length=r.length:=by rw[←k1];simp;omega
 rw[←p1,hl,←k1]
 have e1:List.take (off+io) cs=List.take off cs++List.take io r:=by
  rw[List.take_add,←h1,List.take_take,DE (by omega)]
 have e2:List.drop (off+io+new.length) cs=List.drop (io+new.length) r++List.drop (off+r.length) cs:=by
  conv=>rhs;rw[←h1]
  rw[List.drop_take,L8,h1,E3]
  conv=>lhs;rw[←CB (r.length - (io+new.length)) (List.drop (off+(io+new.length)) cs)]
  rw[L8]
  congr 2;omega
 rw[e1,e2]
 simp⟩
def Dig.zero:Dig:=⟨List.replicate 32 0,rfl⟩
def Ident.zero:Ident:=⟨Dig.zero,0⟩
class Dq (x:PV) (cs:outParam (List PV)):Prop where
 out:Dv x cs
instance {cs:List PV}:Dq (.agg cs) cs:=⟨.agg cs⟩
instance {xs:List (List PV)} {t:CZ}:Dq (.slice xs t) [.slice xs .ro]:=⟨.ro xs t⟩
instance {k:IntKind} {n:Int}:Dq (.raw (.int k n)) [.raw (.int k n)]:=⟨.one (EH.out)⟩
instance {b:Bool}:Dq (.raw (.bool b)) [.raw (.bool b)]:=⟨.one (EH.out)⟩
instance {s:Str}:Dq (.str s) [.str s]:=⟨.one (EH.out)⟩
instance {kvs:List (PV × PV)}:Dq (.fmap kvs) [.fmap kvs]:=⟨.one (EH.out)⟩
instance :Dq (.raw (.slice none 0 0)) [.slice [] .ro]:=⟨fun g v hv=>⟨[v],by cases hv;rfl,by cases hv;exact .cons .nilR (.nil g)⟩⟩
class Cz (cs:List PV) (n:outParam Nat):Prop where
 out:cs.length=n
instance (priority:=low) {α:Type} {f:α→List PV} {a:α} {n:Nat} [h:KY f n]:Cz (f a) n:=⟨h.out a⟩
instance {x:PV}:Cz [x] 1:=⟨rfl⟩
class Fg {α:outParam Type} (x:PV) (f:outParam (α→List PV)) (a:outParam α):Prop where
 out:Dv x (f a)
instance (d:Dig):Fg (.agg (eDig d)) eDig d:=⟨.agg _⟩
instance (d:Ident):Fg (.agg (eIdent d)) eIdent d:=⟨.agg _⟩
instance (n:Int):Fg (.raw (.int .i64 n)) eI n:=⟨.one (Gd.out (f:=eI) n)⟩
instance (s:Str):Fg (.str s) eS s:=⟨.one (Gd.out (f:=eS) s)⟩
instance :Dq (.raw (.string ⟨[].toArray⟩)) [.str []]:=⟨fun g v hv=>⟨[v],by cases hv;rfl,by cases hv;exact .cons (.str (by show 0≤maxN;decide)) (.nil g)⟩⟩
instance (a b c:UInt8):Dq (.raw (.string ⟨[a,b,c].toArray⟩)) [.str [a,b,c]]:=⟨fun g v hv=>⟨[v],by cases hv;rfl,by cases hv;exact .cons (.str (by show 3≤maxN;decide)) (.nil g)⟩⟩
def Le (x y:PV):Prop:= ∀ g v,VR g v x→VR g v y
theorem Le.refl (x:PV):Le x x:=fun _ _ h=>h
theorem Le.of_eq {x y:PV} (h:x=y):Le x y:=h ▸ .refl x
theorem Le.ro (xs:List (List PV)) (t:CZ):Le (.slice xs t) (.slice xs .ro):=fun _ _ h=>h.ro
theorem Le.ros {xs ys:List (List PV)} {t:CZ} (h:xs=ys):Le (.slice xs t) (.slice ys .ro):=h ▸ .ro xs t
theorem Le.nil:Le (.raw (.slice none 0 0)) (.slice [] .nil):=fun _ v h=>by cases h;exact .nilN none (by simp)
theorem Le.nilr:Le (.raw (.slice none 0 0)) (.slice [] .ro):=fun _ v h=>by cases h;exact .nilR
theorem Le.tuple {xs ys:List PV} (hl:xs.length=ys.length) (h: ∀ i (h1:i < xs.length) (h2:i < ys.length),Le xs[i] ys[i]):Le (.tuple xs) (.tuple ys):=fun g v hv=>by
 obtain⟨vs,rfl,h1⟩:=hv.tuple_inv
 exact E5.tuple ⟨h1.len.trans hl,fun i h2 h3=>h i (by omega) h3 g _ (h1.at_ i h2 (by omega))⟩
theorem Le.tuple2 {a b a' b':PV} (h1:Le a a') (h2:Le b b'):Le (.tuple [a,b]) (.tuple [a',b']):= .tuple rfl fun i h _=>by
 match i,h with
 |0,_=>exact h1
 |1,_=>exact h2
 |n+2,h=>simp at h;omega
theorem Le.tuple3 {a b c a' b' c':PV} (h1:Le a a') (h2:Le b b') (h3:Le c c'):Le (.tuple [a,b,c]) (.tuple [a',b',c']):= .tuple rfl fun i h _=>by
 match i,h with
 |0,_=>exact h1
 |1,_=>exact h2
 |2,_=>exact h3
 |n+3,h=>simp at h;omega
class Ja (x:PV) (y:outParam PV):Prop where
 out:Le x y
instance (priority:=low) (x:PV):Ja x x:=⟨.refl x⟩
instance :Ja (.raw (.slice none 0 0)) (.slice [] .nil):=⟨.nil⟩
instance :Ja (.raw (.string ⟨[].toArray⟩)) (.str []):=⟨fun g v hv=>by cases hv;exact .str (by show 0≤maxN;decide)⟩
instance (a:UInt8):Ja (.raw (.string ⟨[a].toArray⟩)) (.str [a]):=⟨fun g v hv=>by cases hv;exact .str (by show 1≤maxN;decide)⟩
instance (a b c d e f:UInt8):Ja (.raw (.string ⟨[a,b,c,d,e,f].toArray⟩)) (.str [a,b,c,d,e,f]):=⟨fun g v hv=>by cases hv;exact .str (by show 6≤maxN;decide)⟩
class HF (x:PV) (s:outParam Str):Prop where
 out: ∀ g v,VR g v x→v= .string (sB s)
instance (s:Str):HF (.str s) s:=⟨fun g v h=>by cases h;rfl⟩
instance (s:List UInt8):HF (.raw (.string ⟨s.toArray⟩)) s:=⟨fun g v h=>by cases h;rfl⟩
theorem um {P:Program} {f:FuncId} {args:List PV} {X:PV} (h:B2 P f args [] (fun r L'=>Le r X∧L'= [])):Fn P f args X:=fun vs w g LF hv hi=>
 (h vs w g LF hv hi).mono fun _ _ ⟨v,x,g',L',h1,h2,h3,h4,h5,h6,h7⟩=>⟨v,X,g',L',h1,h6 _ _ h2,h3,h4,h5,rfl,h7⟩
theorem Aj {P:Program} {f:FuncId} {fn:Func} {c:Code} {rs:List ResultVar} {N:Nat} {args:List PV} {X:PV}
  (hf:P.funcs[f]? =some fn) (hn:fn.ntmps=N) (hb:fn.body=some c) (hr:fn.results=rs.toArray) (hN:Nat.ble args.length N=true)
  (h:(∀ x∈args,Bd x)→ ∀ LF,EB P N c (fR P rs (fun r L'=>Le r X∧L'= []) LF) (wC args) LF):Fn P f args X:=um (Bt hf hb hn hr hN h)
section
variable {P:Program} {ρ:Env} {L LF:List Res} {X:PV}
theorem Al {t:Nat} {y:PV} (hX:Le y X) (hx:ρ t=y:=by conv=>lhs;whnf) (hs:LF.Sublist L:=by repeat(first|exact Dh _|apply List.Sublist.cons)):fR P [.tmp t] (fun r L'=>Le r X∧L'= []) LF .ret ρ L:=
 ⟨trivial,_,[],.cons (.tmp t) .nil,hs,hx ▸ hX,rfl⟩
theorem Ei {t u:Nat} {x y:PV} (hX:Le (.tuple [x,y]) X) (hx:ρ t=x:=by conv=>lhs;whnf) (hy:ρ u=y:=by conv=>lhs;whnf) (hs:LF.Sublist L:=by repeat(first|exact Dh _|apply List.Sublist.cons)):fR P [.tmp t,.tmp u] (fun r L'=>Le r X∧L'= []) LF .ret ρ L:=
 ⟨trivial,_,[],.cons (.tmp t) (.cons (.tmp u) .nil),hs,by subst hx;subst hy;exact hX,rfl⟩
theorem je {t u s:Nat} {x y z:PV} (hX:Le (.tuple [x,y,z]) X) (hx:ρ t=x:=by conv=>lhs;whnf) (hy:ρ u=y:=by conv=>lhs;whnf) (hz:ρ s=z:=by conv=>lhs;whnf) (hs:LF.Sublist L:=by repeat(first|exact Dh _|apply List.Sublist.cons)):fR P [.tmp t,.tmp u,.tmp s] (fun r L'=>Le r X∧L'= []) LF .ret ρ L:=
 ⟨trivial,_,[],.cons (.tmp t) (.cons (.tmp u) (.cons (.tmp s) .nil)),hs,by subst hx;subst hy;subst hz;exact hX,rfl⟩
theorem FK {t T n b T':Nat} {cs:List PV} [hT:FG P T n] (h:ρ t= .raw (.pointer (some ⟨b,0,none⟩))) (hx:Le (.agg cs) X) (hm:Res.box b T' cs∈L:=by repeat(first|exact AK|apply AD)) (hn:cs.length=n:=by simp) (hs:LF.Sublist L:=by repeat(first|exact Dh _|apply List.Sublist.cons)):
  fR P [.cell t T] (fun r L'=>Le r X∧L'= []) LF .ret ρ L:=⟨trivial,_,[],.cons (.cell t T h hm hT.out hn) .nil,hs,hx,rfl⟩
theorem CJ {t T n b T' u:Nat} {cs:List PV} {y:PV} [hT:FG P T n] (h:ρ t= .raw (.pointer (some ⟨b,0,none⟩))) (hx:Le (.tuple [.agg cs,y]) X) (hy:ρ u=y:=by conv=>lhs;whnf) (hm:Res.box b T' cs∈L:=by repeat(first|exact AK|apply AD)) (hn:cs.length=n:=by simp) (hs:LF.Sublist L:=by repeat(first|exact Dh _|apply List.Sublist.cons)):
  fR P [.cell t T,.tmp u] (fun r L'=>Le r X∧L'= []) LF .ret ρ L:=⟨trivial,_,[],.cons (.cell t T h hm hT.out hn) (.cons (.tmp u) .nil),hs,by subst hy;exact hx,rfl⟩
end
structure Chg where
 kind:Int
 file:Ident
 type:Int
 parent:Ident
 name:Str
 mode:Int
 data:Str
 after:Ident
 before:Ident
 lines:List Str
 over:List Ident
 deriving DecidableEq
def Chg.zero:Chg:=⟨0,Ident.zero,0,Ident.zero,[],0,[],Ident.zero,Ident.zero,[],[]⟩
def BG (c:Chg):List PV:= [.raw (.int .i64 c.kind)]++((eIdent c.file)++([.raw (.int .i64 c.type)]++((eIdent c.parent)++([.str c.name]++([.raw (.int .i64 c.mode)]++([.str c.data]++((eIdent c.after)++((eIdent c.before)++([.slice ((c.lines).map eS) .ro]++([.slice ((c.over).map eIdent) .ro]))))))))))
@[simp] theorem jE (c:Chg):(BG c).length=139:=by unfold BG;simp
instance :KY BG 139:=⟨jE⟩
instance (c:Chg):EH (BG c):=by unfold BG;infer_instance
instance (c:Chg):Fg (.agg (BG c)) BG c:=⟨Dv.agg _⟩
instance WU (c:Chg):Ib (BG c) 0 [.raw (.int .i64 c.kind)]:=by unfold BG;exact Cr
instance pf (c:Chg):At (BG c) 0 (.raw (.int .i64 c.kind)):=GF (WU c)
instance mF (c:Chg) (x:Int):Ek (BG c) 0 [.raw (.int .i64 x)] (BG { c with kind:=x }):=by unfold BG;exact Cw (by simp)
instance WV (c:Chg):Ib (BG c) 1 (eIdent c.file):=by unfold BG;exact Ah (n:=1) (off:=0) (by simp) (Cr)
instance lR (c:Chg):VL (BG c) 1 33 (eIdent c.file):=JC (WV c) (by simp)
instance mG (c:Chg) (x:Ident):Ek (BG c) 1 (eIdent x) (BG { c with file:=x }):=by unfold BG;exact Ad (n:=1) (off:=0) (by simp) (Cw (by simp))
instance WI (c:Chg):Ib (BG c) 34 [.raw (.int .i64 c.type)]:=by unfold BG;exact Ah (n:=1) (off:=33) (by simp) (Ah (n:=33) (off:=0) (by simp) (Cr))
instance pY (c:Chg):At (BG c) 34 (.raw (.int .i64 c.type)):=GF (WI c)
instance mB (c:Chg) (x:Int):Ek (BG c) 34 [.raw (.int .i64 x)] (BG { c with type:=x }):=by unfold BG;exact Ad (n:=1) (off:=33) (by simp) (Ad (n:=33) (off:=0) (by simp) (Cw (by simp)))
instance Sz (c:Chg):Ib (BG c) 35 (eIdent c.parent):=by unfold BG;exact Ah (n:=1) (off:=34) (by simp) (Ah (n:=33) (off:=1) (by simp) (Ah (n:=1) (off:=0) (by simp) (Cr)))
instance fm (c:Chg):VL (BG c) 35 33 (eIdent c.parent):=JC (Sz c) (by simp)
instance iR (c:Chg) (x:Ident):Ek (BG c) 35 (eIdent x) (BG { c with parent:=x }):=by unfold BG;exact Ad (n:=1) (off:=34) (by simp) (Ad (n:=33) (off:=1) (by simp) (Ad (n:=1) (off:=0) (by simp) (Cw (by simp))))
instance WM (c:Chg):Ib (BG c) 68 [.str c.name]:=by unfold BG;exact Ah (n:=1) (off:=67) (by simp) (Ah (n:=33) (off:=34) (by simp) (Ah (n:=1) (off:=33) (by simp) (Ah (n:=33) (off:=0) (by simp) (Cr))))
instance pc (c:Chg):At (BG c) 68 (.str c.name):=GF (WM c)
instance mC (c:Chg) (x:Str):Ek (BG c) 68 [.str x] (BG { c with name:=x }):=by unfold BG;exact Ad (n:=1) (off:=67) (by simp) (Ad (n:=33) (off:=34) (by simp) (Ad (n:=1) (off:=33) (by simp) (Ad (n:=33) (off:=0) (by simp) (Cw (by simp)))))
instance WT (c:Chg):Ib (BG c) 69 [.raw (.int .i64 c.mode)]:=by unfold BG;exact Ah (n:=1) (off:=68) (by simp) (Ah (n:=33) (off:=35) (by simp) (Ah (n:=1) (off:=34) (by simp) (Ah (n:=33) (off:=1) (by simp) (Ah (n:=1) (off:=0) (by simp) (Cr)))))
instance pd (c:Chg):At (BG c) 69 (.raw (.int .i64 c.mode)):=GF (WT c)
instance mE (c:Chg) (x:Int):Ek (BG c) 69 [.raw (.int .i64 x)] (BG { c with mode:=x }):=by unfold BG;exact Ad (n:=1) (off:=68) (by simp) (Ad (n:=33) (off:=35) (by simp) (Ad (n:=1) (off:=34) (by simp) (Ad (n:=33) (off:=1) (by simp) (Ad (n:=1) (off:=0) (by simp) (Cw (by simp))))))
instance WX (c:Chg):Ib (BG c) 70 [.str c.data]:=by unfold BG;exact Ah (n:=1) (off:=69) (by simp) (Ah (n:=33) (off:=36) (by simp) (Ah (n:=1) (off:=35) (by simp) (Ah (n:=33) (off:=2) (by simp) (Ah (n:=1) (off:=1) (by simp) (Ah (n:=1) (off:=0) (by simp) (Cr))))))
instance pg (c:Chg):At (BG c) 70 (.str c.data):=GF (WX c)
instance mH (c:Chg) (x:Str):Ek (BG c) 70 [.str x] (BG { c with data:=x }):=by unfold BG;exact Ad (n:=1) (off:=69) (by simp) (Ad (n:=33) (off:=36) (by simp) (Ad (n:=1) (off:=35) (by simp) (Ad (n:=33) (off:=2) (by simp) (Ad (n:=1) (off:=1) (by simp) (Ad (n:=1) (off:=0) (by simp) (Cw (by simp)))))))
instance Tt (c:Chg):Ib (BG c) 71 (eIdent c.after):=by unfold BG;exact Ah (n:=1) (off:=70) (by simp) (Ah (n:=33) (off:=37) (by simp) (Ah (n:=1) (off:=36) (by simp) (Ah (n:=33) (off:=3) (by simp) (Ah (n:=1) (off:=2) (by simp) (Ah (n:=1) (off:=1) (by simp) (Ah (n:=1) (off:=0) (by simp) (Cr)))))))
instance ke (c:Chg):VL (BG c) 71 33 (eIdent c.after):=JC (Tt c) (by simp)
instance kq (c:Chg) (x:Ident):Ek (BG c) 71 (eIdent x) (BG { c with after:=x }):=by unfold BG;exact Ad (n:=1) (off:=70) (by simp) (Ad (n:=33) (off:=37) (by simp) (Ad (n:=1) (off:=36) (by simp) (Ad (n:=33) (off:=3) (by simp) (Ad (n:=1) (off:=2) (by simp) (Ad (n:=1) (off:=1) (by simp) (Ad (n:=1) (off:=0) (by simp) (Cw (by simp))))))))
instance TA (c:Chg):Ib (BG c) 104 (eIdent c.before):=by unfold BG;exact Ah (n:=1) (off:=103) (by simp) (Ah (n:=33) (off:=70) (by simp) (Ah (n:=1) (off:=69) (by simp) (Ah (n:=33) (off:=36) (by simp) (Ah (n:=1) (off:=35) (by simp) (Ah (n:=1) (off:=34) (by simp) (Ah (n:=1) (off:=33) (by simp) (Ah (n:=33) (off:=0) (by simp) (Cr))))))))
instance fo (c:Chg):VL (BG c) 104 33 (eIdent c.before):=JC (TA c) (by simp)
instance iU (c:Chg) (x:Ident):Ek (BG c) 104 (eIdent x) (BG { c with before:=x }):=by unfold BG;exact Ad (n:=1) (off:=103) (by simp) (Ad (n:=33) (off:=70) (by simp) (Ad (n:=1) (off:=69) (by simp) (Ad (n:=33) (off:=36) (by simp) (Ad (n:=1) (off:=35) (by simp) (Ad (n:=1) (off:=34) (by simp) (Ad (n:=1) (off:=33) (by simp) (Ad (n:=33) (off:=0) (by simp) (Cw (by simp)))))))))
instance Ts (c:Chg):Ib (BG c) 137 [.slice ((c.lines).map eS) .ro]:=by unfold BG;exact Ah (n:=1) (off:=136) (by simp) (Ah (n:=33) (off:=103) (by simp) (Ah (n:=1) (off:=102) (by simp) (Ah (n:=33) (off:=69) (by simp) (Ah (n:=1) (off:=68) (by simp) (Ah (n:=1) (off:=67) (by simp) (Ah (n:=1) (off:=66) (by simp) (Ah (n:=33) (off:=33) (by simp) (Ah (n:=33) (off:=0) (by simp) (Cr)))))))))
instance nj (c:Chg):At (BG c) 137 (.slice ((c.lines).map eS) .ro):=GF (Ts c)
instance Tk (c:Chg) (x:List Str):Ek (BG c) 137 [.slice ((x).map eS) .ro] (BG { c with lines:=x }):=by unfold BG;exact Ad (n:=1) (off:=136) (by simp) (Ad (n:=33) (off:=103) (by simp) (Ad (n:=1) (off:=102) (by simp) (Ad (n:=33) (off:=69) (by simp) (Ad (n:=1) (off:=68) (by simp) (Ad (n:=1) (off:=67) (by simp) (Ad (n:=1) (off:=66) (by simp) (Ad (n:=33) (off:=33) (by simp) (Ad (n:=33) (off:=0) (by simp) (Cw (by simp))))))))))
instance iL (c:Chg):Ek (BG c) 137 [.slice [] .ro] (BG { c with lines:= [] }):=Tk c []
instance WJ (c:Chg):Ib (BG c) 138 [.slice ((c.over).map eIdent) .ro]:=by unfold BG;exact Ah (n:=1) (off:=137) (by simp) (Ah (n:=33) (off:=104) (by simp) (Ah (n:=1) (off:=103) (by simp) (Ah (n:=33) (off:=70) (by simp) (Ah (n:=1) (off:=69) (by simp) (Ah (n:=1) (off:=68) (by simp) (Ah (n:=1) (off:=67) (by simp) (Ah (n:=33) (off:=34) (by simp) (Ah (n:=33) (off:=1) (by simp) (Ah (n:=1) (off:=0) (by simp) (IM))))))))))
instance pZ (c:Chg):At (BG c) 138 (.slice ((c.over).map eIdent) .ro):=GF (WJ c)
instance Vu (c:Chg) (x:List Ident):Ek (BG c) 138 [.slice ((x).map eIdent) .ro] (BG { c with over:=x }):=by unfold BG;exact Ad (n:=1) (off:=137) (by simp) (Ad (n:=33) (off:=104) (by simp) (Ad (n:=1) (off:=103) (by simp) (Ad (n:=33) (off:=70) (by simp) (Ad (n:=1) (off:=69) (by simp) (Ad (n:=1) (off:=68) (by simp) (Ad (n:=1) (off:=67) (by simp) (Ad (n:=33) (off:=34) (by simp) (Ad (n:=33) (off:=1) (by simp) (Ad (n:=1) (off:=0) (by simp) (IJ (by simp)))))))))))
instance ki (c:Chg):Ek (BG c) 138 [.slice [] .ro] (BG { c with over:= [] }):=Vu c []
structure Pat where
 author:Str
 message:Str
 time:Int
 deps:List Dig
 changes:List Chg
 deriving DecidableEq
def Pat.zero:Pat:=⟨[],[],0,[],[]⟩
def Cc (c:Pat):List PV:= [.str c.author]++([.str c.message]++([.raw (.int .i64 c.time)]++([.slice ((c.deps).map eDig) .ro]++([.slice ((c.changes).map BG) .ro]))))
@[simp] theorem jD (c:Pat):(Cc c).length=5:=by unfold Cc;simp
instance :KY Cc 5:=⟨jD⟩
instance (c:Pat):EH (Cc c):=by unfold Cc;infer_instance
instance Sy (c:Pat):Ib (Cc c) 0 [.str c.author]:=by unfold Cc;exact Cr
instance kz (c:Pat):At (Cc c) 0 (.str c.author):=GF (Sy c)
instance iQ (c:Pat) (x:Str):Ek (Cc c) 0 [.str x] (Cc { c with author:=x }):=by unfold Cc;exact Cw (by simp)
instance RV (c:Pat):Ib (Cc c) 1 [.str c.message]:=by unfold Cc;exact Ah (n:=1) (off:=0) (by simp) (Cr)
instance kG (c:Pat):At (Cc c) 1 (.str c.message):=GF (RV c)
instance WG (c:Pat):Ib (Cc c) 2 [.raw (.int .i64 c.time)]:=by unfold Cc;exact Ah (n:=1) (off:=1) (by simp) (Ah (n:=1) (off:=0) (by simp) (Cr))
instance pW (c:Pat):At (Cc c) 2 (.raw (.int .i64 c.time)):=GF (WG c)
instance mA (c:Pat) (x:Int):Ek (Cc c) 2 [.raw (.int .i64 x)] (Cc { c with time:=x }):=by unfold Cc;exact Ad (n:=1) (off:=1) (by simp) (Ad (n:=1) (off:=0) (by simp) (Cw (by simp)))
instance WH (c:Pat):Ib (Cc c) 3 [.slice ((c.deps).map eDig) .ro]:=by unfold Cc;exact Ah (n:=1) (off:=2) (by simp) (Ah (n:=1) (off:=1) (by simp) (Ah (n:=1) (off:=0) (by simp) (Cr)))
instance pX (c:Pat):At (Cc c) 3 (.slice ((c.deps).map eDig) .ro):=GF (WH c)
instance RY (c:Pat):Ib (Cc c) 4 [.slice ((c.changes).map BG) .ro]:=by unfold Cc;exact Ah (n:=1) (off:=3) (by simp) (Ah (n:=1) (off:=2) (by simp) (Ah (n:=1) (off:=1) (by simp) (Ah (n:=1) (off:=0) (by simp) (IM))))
instance kH (c:Pat):At (Cc c) 4 (.slice ((c.changes).map BG) .ro):=GF (RY c)
instance fI (c:Pat) (x:List Chg):Ek (Cc c) 4 [.slice ((x).map BG) .ro] (Cc { c with changes:=x }):=by unfold Cc;exact Ad (n:=1) (off:=3) (by simp) (Ad (n:=1) (off:=2) (by simp) (Ad (n:=1) (off:=1) (by simp) (Ad (n:=1) (off:=0) (by simp) (IJ (by simp)))))
structure Sto where
 id:Dig
 patch:Pat
 deriving DecidableEq
def Sto.zero:Sto:=⟨Dig.zero,Pat.zero⟩
def eSto (c:Sto):List PV:=(eDig c.id)++((Cc c.patch))
@[simp] theorem jB (c:Sto):(eSto c).length=37:=by unfold eSto;simp
instance :KY eSto 37:=⟨jB⟩
instance (c:Sto):EH (eSto c):=by unfold eSto;infer_instance
instance :Gd eSto:=⟨fun c=>(inferInstance:EH (eSto c)).out⟩
instance (c:Sto):Fg (.agg (eSto c)) eSto c:=⟨Dv.agg _⟩
instance aX (c:Sto):Ib (eSto c) 0 (eDig c.id):=by unfold eSto;exact Cr
instance qJ (c:Sto):VL (eSto c) 0 32 (eDig c.id):=JC (aX c) (by simp)
instance ql (c:Sto) (x:Dig):Ek (eSto c) 0 (eDig x) (eSto { c with id:=x }):=by unfold eSto;exact Cw (by simp)
instance kt (c:Sto):Ib (eSto c) 32 (Cc c.patch):=by unfold eSto;exact Ah (n:=32) (off:=0) (by simp) (IM)
instance km (c:Sto) (x:Pat):Ek (eSto c) 32 (Cc x) (eSto { c with patch:=x }):=by unfold eSto;exact Ad (n:=32) (off:=0) (by simp) (IJ (by simp))
structure Atm where
 id:Ident
 kind:Int
 file:Ident
 type:Int
 parent:Ident
 name:Str
 mode:Int
 data:Str
 text:Str
 src:Ident
 dst:Ident
 over:List Ident
 deriving DecidableEq
def Atm.zero:Atm:=⟨Ident.zero,0,Ident.zero,0,Ident.zero,[],0,[],[],Ident.zero,Ident.zero,[]⟩
def eAtm (c:Atm):List PV:=(eIdent c.id)++([.raw (.int .i64 c.kind)]++((eIdent c.file)++([.raw (.int .i64 c.type)]++((eIdent c.parent)++([.str c.name]++([.raw (.int .i64 c.mode)]++([.str c.data]++([.str c.text]++((eIdent c.src)++((eIdent c.dst)++([.slice ((c.over).map eIdent) .ro])))))))))))
@[simp] theorem jG (c:Atm):(eAtm c).length=172:=by unfold eAtm;simp
instance :KY eAtm 172:=⟨jG⟩
instance (c:Atm):EH (eAtm c):=by unfold eAtm;infer_instance
instance :Gd eAtm:=⟨fun c=>(inferInstance:EH (eAtm c)).out⟩
instance (c:Atm):Fg (.agg (eAtm c)) eAtm c:=⟨Dv.agg _⟩
instance TC (c:Atm):Ib (eAtm c) 0 (eIdent c.id):=by unfold eAtm;exact Cr
instance qK (c:Atm):VL (eAtm c) 0 33 (eIdent c.id):=JC (TC c) (by simp)
instance Zs (c:Atm) (x:Ident):Ek (eAtm c) 0 (eIdent x) (eAtm { c with id:=x }):=by unfold eAtm;exact Cw (by simp)
instance dh (c:Atm) (x:Dig):Ek (eAtm c) 0 (eDig x) (eAtm { c with id:={ c.id with patch:=x } }):=iM (TC c) (by infer_instance:Ek (eIdent c.id) 0 (eDig x) (eIdent { c.id with patch:=x })) (Zs c _)
instance Wb (c:Atm):Ib (eAtm c) 33 [.raw (.int .i64 c.kind)]:=by unfold eAtm;exact Ah (n:=33) (off:=0) (by simp) (Cr)
instance pk (c:Atm):At (eAtm c) 33 (.raw (.int .i64 c.kind)):=GF (Wb c)
instance mQ (c:Atm) (x:Int):Ek (eAtm c) 33 [.raw (.int .i64 x)] (eAtm { c with kind:=x }):=by unfold eAtm;exact Ad (n:=33) (off:=0) (by simp) (Cw (by simp))
instance Wc (c:Atm):Ib (eAtm c) 34 (eIdent c.file):=by unfold eAtm;exact Ah (n:=33) (off:=1) (by simp) (Ah (n:=1) (off:=0) (by simp) (Cr))
instance lS (c:Atm):VL (eAtm c) 34 33 (eIdent c.file):=JC (Wc c) (by simp)
instance mR (c:Atm) (x:Ident):Ek (eAtm c) 34 (eIdent x) (eAtm { c with file:=x }):=by unfold eAtm;exact Ad (n:=33) (off:=1) (by simp) (Ad (n:=1) (off:=0) (by simp) (Cw (by simp)))
instance WY (c:Atm):Ib (eAtm c) 67 [.raw (.int .i64 c.type)]:=by unfold eAtm;exact Ah (n:=33) (off:=34) (by simp) (Ah (n:=1) (off:=33) (by simp) (Ah (n:=33) (off:=0) (by simp) (Cr)))
instance ph (c:Atm):At (eAtm c) 67 (.raw (.int .i64 c.type)):=GF (WY c)
instance mJ (c:Atm) (x:Int):Ek (eAtm c) 67 [.raw (.int .i64 x)] (eAtm { c with type:=x }):=by unfold eAtm;exact Ad (n:=33) (off:=34) (by simp) (Ad (n:=1) (off:=33) (by simp) (Ad (n:=33) (off:=0) (by simp) (Cw (by simp))))
instance TB (c:Atm):Ib (eAtm c) 68 (eIdent c.parent):=by unfold eAtm;exact Ah (n:=33) (off:=35) (by simp) (Ah (n:=1) (off:=34) (by simp) (Ah (n:=33) (off:=1) (by simp) (Ah (n:=1) (off:=0) (by simp) (Cr))))
instance fp (c:Atm):VL (eAtm c) 68 33 (eIdent c.parent):=JC (TB c) (by simp)
instance iV (c:Atm) (x:Ident):Ek (eAtm c) 68 (eIdent x) (eAtm { c with parent:=x }):=by unfold eAtm;exact Ad (n:=33) (off:=35) (by simp) (Ad (n:=1) (off:=34) (by simp) (Ad (n:=33) (off:=1) (by simp) (Ad (n:=1) (off:=0) (by simp) (Cw (by simp)))))
instance mN (c:Atm) (x:Str):Ek (eAtm c) 101 [.str x] (eAtm { c with name:=x }):=by unfold eAtm;exact Ad (n:=33) (off:=68) (by simp) (Ad (n:=1) (off:=67) (by simp) (Ad (n:=33) (off:=34) (by simp) (Ad (n:=1) (off:=33) (by simp) (Ad (n:=33) (off:=0) (by simp) (Cw (by simp))))))
instance mO (c:Atm) (x:Int):Ek (eAtm c) 102 [.raw (.int .i64 x)] (eAtm { c with mode:=x }):=by unfold eAtm;exact Ad (n:=33) (off:=69) (by simp) (Ad (n:=1) (off:=68) (by simp) (Ad (n:=33) (off:=35) (by simp) (Ad (n:=1) (off:=34) (by simp) (Ad (n:=33) (off:=1) (by simp) (Ad (n:=1) (off:=0) (by simp) (Cw (by simp)))))))
instance mU (c:Atm) (x:Str):Ek (eAtm c) 103 [.str x] (eAtm { c with data:=x }):=by unfold eAtm;exact Ad (n:=33) (off:=70) (by simp) (Ad (n:=1) (off:=69) (by simp) (Ad (n:=33) (off:=36) (by simp) (Ad (n:=1) (off:=35) (by simp) (Ad (n:=33) (off:=2) (by simp) (Ad (n:=1) (off:=1) (by simp) (Ad (n:=1) (off:=0) (by simp) (Cw (by simp))))))))
instance mL (c:Atm) (x:Str):Ek (eAtm c) 104 [.str x] (eAtm { c with text:=x }):=by unfold eAtm;exact Ad (n:=33) (off:=71) (by simp) (Ad (n:=1) (off:=70) (by simp) (Ad (n:=33) (off:=37) (by simp) (Ad (n:=1) (off:=36) (by simp) (Ad (n:=33) (off:=3) (by simp) (Ad (n:=1) (off:=2) (by simp) (Ad (n:=1) (off:=1) (by simp) (Ad (n:=1) (off:=0) (by simp) (Cw (by simp)))))))))
instance Ya (c:Atm):Ib (eAtm c) 105 (eIdent c.src):=by unfold eAtm;exact Ah (n:=33) (off:=72) (by simp) (Ah (n:=1) (off:=71) (by simp) (Ah (n:=33) (off:=38) (by simp) (Ah (n:=1) (off:=37) (by simp) (Ah (n:=33) (off:=4) (by simp) (Ah (n:=1) (off:=3) (by simp) (Ah (n:=1) (off:=2) (by simp) (Ah (n:=1) (off:=1) (by simp) (Ah (n:=1) (off:=0) (by simp) (Cr)))))))))
instance oC (c:Atm):VL (eAtm c) 105 33 (eIdent c.src):=JC (Ya c) (by simp)
instance oh (c:Atm) (x:Ident):Ek (eAtm c) 105 (eIdent x) (eAtm { c with src:=x }):=by unfold eAtm;exact Ad (n:=33) (off:=72) (by simp) (Ad (n:=1) (off:=71) (by simp) (Ad (n:=33) (off:=38) (by simp) (Ad (n:=1) (off:=37) (by simp) (Ad (n:=33) (off:=4) (by simp) (Ad (n:=1) (off:=3) (by simp) (Ad (n:=1) (off:=2) (by simp) (Ad (n:=1) (off:=1) (by simp) (Ad (n:=1) (off:=0) (by simp) (Cw (by simp))))))))))
instance Yb (c:Atm):Ib (eAtm c) 138 (eIdent c.dst):=by unfold eAtm;exact Ah (n:=33) (off:=105) (by simp) (Ah (n:=1) (off:=104) (by simp) (Ah (n:=33) (off:=71) (by simp) (Ah (n:=1) (off:=70) (by simp) (Ah (n:=33) (off:=37) (by simp) (Ah (n:=1) (off:=36) (by simp) (Ah (n:=1) (off:=35) (by simp) (Ah (n:=1) (off:=34) (by simp) (Ah (n:=1) (off:=33) (by simp) (Ah (n:=33) (off:=0) (by simp) (Cr))))))))))
instance oD (c:Atm):VL (eAtm c) 138 33 (eIdent c.dst):=JC (Yb c) (by simp)
instance om (c:Atm) (x:Ident):Ek (eAtm c) 138 (eIdent x) (eAtm { c with dst:=x }):=by unfold eAtm;exact Ad (n:=33) (off:=105) (by simp) (Ad (n:=1) (off:=104) (by simp) (Ad (n:=33) (off:=71) (by simp) (Ad (n:=1) (off:=70) (by simp) (Ad (n:=33) (off:=37) (by simp) (Ad (n:=1) (off:=36) (by simp) (Ad (n:=1) (off:=35) (by simp) (Ad (n:=1) (off:=34) (by simp) (Ad (n:=1) (off:=33) (by simp) (Ad (n:=33) (off:=0) (by simp) (Cw (by simp)))))))))))
instance Wa (c:Atm):Ib (eAtm c) 171 [.slice ((c.over).map eIdent) .ro]:=by unfold eAtm;exact Ah (n:=33) (off:=138) (by simp) (Ah (n:=1) (off:=137) (by simp) (Ah (n:=33) (off:=104) (by simp) (Ah (n:=1) (off:=103) (by simp) (Ah (n:=33) (off:=70) (by simp) (Ah (n:=1) (off:=69) (by simp) (Ah (n:=1) (off:=68) (by simp) (Ah (n:=1) (off:=67) (by simp) (Ah (n:=1) (off:=66) (by simp) (Ah (n:=33) (off:=33) (by simp) (Ah (n:=33) (off:=0) (by simp) (IM)))))))))))
instance pj (c:Atm):At (eAtm c) 171 (.slice ((c.over).map eIdent) .ro):=GF (Wa c)
instance mM (c:Atm) (x:List Ident):Ek (eAtm c) 171 [.slice ((x).map eIdent) .ro] (eAtm { c with over:=x }):=by unfold eAtm;exact Ad (n:=33) (off:=138) (by simp) (Ad (n:=1) (off:=137) (by simp) (Ad (n:=33) (off:=104) (by simp) (Ad (n:=1) (off:=103) (by simp) (Ad (n:=33) (off:=70) (by simp) (Ad (n:=1) (off:=69) (by simp) (Ad (n:=1) (off:=68) (by simp) (Ad (n:=1) (off:=67) (by simp) (Ad (n:=1) (off:=66) (by simp) (Ad (n:=33) (off:=33) (by simp) (Ad (n:=33) (off:=0) (by simp) (IJ (by simp))))))))))))
structure xw where
 left:List Dig
 asked:List Dig
 bad:List Bool
 deriving DecidableEq
def ux (c:xw):List PV:= [.slice ((c.left).map eDig) .ro]++([.slice ((c.asked).map eDig) .ro]++([.slice ((c.bad).map eB) .ro]))
@[simp] theorem ud (c:xw):(ux c).length=3:=by unfold ux;simp
inductive Sx where
 |mk (isList:Bool) (atom:Str) (list:List Sx)
def Sx.isList:Sx→Bool| .mk b _ _=>b
def Sx.atom:Sx→Str| .mk _ a _=>a
def Sx.list:Sx→List Sx| .mk _ _ l=>l
def Sx.zero:Sx:= .mk false [] []
mutual
def eSx:Sx→List PV
 | .mk b a l=> [.raw (.bool b),.str a,.slice (jf l) .ro]
def jf:List Sx→List (List PV)
 | []=> []
 |x::l=>eSx x::jf l
end
theorem cU: ∀ l:List Sx,jf l=l.map eSx
 | []=>by simp[jf]
 |x::l=>by simp[jf,cU l]
theorem FV (x:Sx):eSx x= [.raw (.bool x.isList),.str x.atom,.slice (x.list.map eSx) .ro]:=by
 cases x;simp[eSx,cU,Sx.isList,Sx.atom,Sx.list]
@[simp] theorem mo (x:Sx):(eSx x).length=3:=by rw[FV];rfl
instance :KY eSx 3:=⟨mo⟩
instance (c:Sx):EH (eSx c):=by rw[FV];infer_instance
instance :Gd eSx:=⟨fun c=>(inferInstance:EH (eSx c)).out⟩
instance (c:Sx):Fg (.agg (eSx c)) eSx c:=⟨Dv.agg _⟩
instance ks (c:Sx):Ib (eSx c) 0 [.raw (.bool c.isList)]:=⟨by rw[FV];simp⟩
instance ng (c:Sx):At (eSx c) 0 (.raw (.bool c.isList)):=⟨by rw[FV];simp⟩
instance pF (c:Sx):Ib (eSx c) 1 [.str c.atom]:=⟨by rw[FV];simp⟩
instance s8 (c:Sx):At (eSx c) 1 (.str c.atom):=⟨by rw[FV];simp⟩
instance pE (c:Sx):Ib (eSx c) 2 [.slice (c.list.map eSx) .ro]:=⟨by rw[FV];simp⟩
instance s7 (c:Sx):At (eSx c) 2 (.slice (c.list.map eSx) .ro):=⟨by rw[FV];simp⟩
instance kj (c:Sx) (x:Bool):Ek (eSx c) 0 [.raw (.bool x)] (eSx (.mk x c.atom c.list)):=⟨by rw[FV,FV];simp[Sx.isList,Sx.atom,Sx.list]⟩
instance og (c:Sx) (x:Str):Ek (eSx c) 1 [.str x] (eSx (.mk c.isList x c.list)):=⟨by rw[FV,FV];simp[Sx.isList,Sx.atom,Sx.list]⟩
instance oe (c:Sx) (x:List Sx):Ek (eSx c) 2 [.slice (x.map eSx) .ro] (eSx (.mk c.isList c.atom x)):=⟨by rw[FV,FV];simp[Sx.isList,Sx.atom,Sx.list]⟩
end Go.Q
