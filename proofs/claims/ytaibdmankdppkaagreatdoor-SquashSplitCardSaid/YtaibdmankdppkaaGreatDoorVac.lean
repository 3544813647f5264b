/- The small logic, twelfth text: structs built, variables laid, slices cut, strings. Library, no statement of its own. -/
import Derived.Test.YtaibdmankdppkaaGreatDoorVab
set_option linter.unusedSimpArgs false
set_option linter.unusedVariables false
namespace Go.Q
open Go
class Cc (P:Program) (T:Nat):Prop where
 out: ∃ fs,P.underlying T=some (.struct fs)∧ ∀ f∈fs,∃ i,P.info? f.type=some i
class BR (P:Program) (S k:Nat) (off sz:outParam Nat):Prop where
 out: ∃ fs f i,P.underlying S=some (.struct fs)∧fs[k]? =some f∧f.offset=off∧P.info? f.type=some i∧i.size=sz
class Ck (P:Program) (T:Nat) (z:outParam (List PV)):Prop where
 out: ∃ (i:TypeInfo) (v:Value) (us:List Value),P.info? T=some i∧i.zero=some v∧v.cells=us.toArray∧ ∀ g,E7 g us z
inductive lg:List PV→List (Nat × Operand × Nat × List PV)→List PV→Prop
 |nil {cs:List PV}:lg cs [] cs
 |cons {cs cs' r new:List PV} {k off:Nat} {x:Operand} {ps:List (Nat × Operand × Nat × List PV)} (h:cs.take off++new++cs.drop (off+new.length)=cs') (hl:off+new.length≤cs.length) (hs:lg cs' ps r):lg cs ((k,x,off,new)::ps) r
section
variable {P:Program} {N:Nat} {all:Array Oper} {K:Env→List Res→Prop} {fl:List Bool} {os:List Oper} {ρ:Env} {L:List Res}
variable {d:Nat} {ty:TypeId} {pos:String} {af:Array Edge}
theorem Vx {g:Gh} {a:Act} {place:Nat→Option (Nat × Nat)}: ∀ {ps:List (Nat × Operand × Nat × List PV)} {cs r:List PV} {us:List Value},lg cs ps r→E7 g us cs→
  (∀ p∈ps,∃ s,place p.1=some (p.2.2.1,s)∧p.2.2.2.length=s∧ ∃ vs:List Value,(a.eval p.2.1).cells=vs.toArray∧E7 g vs p.2.2.2)→
  ∃ vs:List Value,Instr.fill place us.toArray (ps.map fun p=>(p.1,a.eval p.2.1))=some vs.toArray∧E7 g vs r
 | [],_,_,us,.nil,hu,_=>⟨us,rfl,hu⟩
 |(k,x,off,new)::ps,cs,r,us,.cons h hl hs,hu,hp=>by
  obtain⟨s,h1,h2,vs,h3,h4⟩:=hp (k,x,off,new) (by simp)
  simp only at h1 h2 h3 h4
  simp only[Aq]
  rw[Vy h1 h3 (by rw[h4.len,h2]) (by rw[h4.len,hu.len];exact hl)]
  refine Vx hs ?_ (fun p hp'=>hp p (AL _ hp'))
  rw[←h,←h4.len]
  exact((hu.take off).append h4).append (hu.drop _)
theorem ZN {fs:List Field} (w:World) (h: ∀ f∈fs,∃ i,P.info? f.type=some i):(fs.mapM (m:=Sem) fun f=>do pure (f.offset,←sizeOf f.type)).run P w= .ok (fs.map fun f=>(f.offset,P.cellsOf f.type)) w:=by
 induction fs with
 |nil=>rfl
 |cons f fs ih=>
  obtain⟨i,hi⟩:=h f (by simp)
  have hf:(sizeOf f.type).run P w= .ok (P.cellsOf f.type) w:=by
   simp only[Sem.run_bind,sizeOf,typeInfo,run_program,hi,Sem.run_pure,Result.andThen_ok,Program.cellsOf,Gz,CJ]
  rw[List.mapM_cons]
  simp only[Sem.run_bind,hf,ih (fun f hf=>h f (by simp[hf])),Sem.run_pure,Result.andThen_ok,Aq]
theorem JI {T:Nat} [hS:Cc P T] {z r:List PV} [hZ:Ck P T z] {parts:List (Nat × Operand)} {ps:List (Nat × Operand × Nat × List PV)} {dst:Option Nat} {gd:Option (Nat × Bool)} (hps:parts=ps.map fun p=>(p.1,p.2.1))
  (hp: ∀ p∈ps,∃ s,(∃ fs f i,P.underlying T=some (.struct fs)∧fs[p.1]? =some f∧f.offset=p.2.2.1∧P.info? f.type=some i∧i.size=s)∧Cw (ρ.ev p.2.1) p.2.2.2∧p.2.2.2.length=s) (hr:lg z ps r):
  gi P ⟨dst,.build T parts.toArray,ty,pos,af,gd⟩ ρ L (.agg r):=B9 fun a w g ha hi=>by
 obtain⟨fs,hu,hall⟩:=hS.out
 obtain⟨i,v,us,h1,h2,h3,h4⟩:=hZ.out
 have hmem: ∀ p∈ps,p.2.1∈(Op.build T parts.toArray).operands:=fun p hp'=>by
  unfold Op.operands
  simp only[hps,Cd,List.mem_toArray,AY]
  exact⟨p,hp',rfl⟩
 obtain⟨vs,hf,hvs⟩:=Vx (g:=g) (a:=a) (place:=fun k=>((fs.toList.map fun f=>(f.offset,P.cellsOf f.type)).toArray)[k]?) hr (h4 g) (fun p hp'=>by
  obtain⟨s,⟨fs',f,j,e1,e2,e3,e4,e5⟩,hc,hl⟩:=hp p hp'
  rw[hu]at e1
  injection e1 with e1
  injection e1 with e1
  subst e1
  obtain⟨vs,hv1,hv2⟩:=hc g _ (ha _ (hmem p hp'))
  refine⟨s,?_,hl,vs,hv1,hv2⟩
  simp[e2,e3,Program.cellsOf,e4,e5])
 refine⟨.agg vs.toArray,?_,hvs.agg⟩
 have hparts:((parts.toArray).map fun(p:Nat × Operand)=>(p.1,a.eval p.2)).toList=ps.map fun p=>(p.1,a.eval p.2.1):=by
  simp[hps]
 have hpl:(fs.mapM (m:=Sem) fun f=>do pure (f.offset,←sizeOf f.type)).run P w= .ok ((fs.toList.map fun f=>(f.offset,P.cellsOf f.type)).toArray) w:=by
  obtain⟨fs⟩:=fs
  rw[List.mapM_toArray,Sem.run_map,ZN w (by simpa using hall)]
  simp
 show(do pure (Next.value (←Instr.build T ((parts.toArray).map fun(p:Nat × Operand)=>(p.1,a.eval p.2)))):Sem Next).run P w=_
 simp only[Instr.build,Sem.run_bind,zeroValue,typeInfo,run_program,h1,Sem.run_pure,Result.andThen_ok,h2,run_underlying hu,hpl,hparts,h3,hf]
theorem CA {T:Nat} {z:List PV} [hZ:Ck P T z] (k: ∀ b,AU P N all K fl.tail os (CR ρ d (.raw (.pointer (some ⟨b,0,none⟩)))) (.box b T z::L)) (hd:Nat.blt d N=true:=by rfl) (hf:fl.headD true=true:=by rfl):
  AU P N all K fl (⟨some d,.alloc T,ty,pos,af,none⟩::os) ρ L:=
 DY rfl (P7 hd) hf (fun a w g ha hi=>by
  obtain⟨i,v,us,h1,h2,h3,h4⟩:=hZ.out
  obtain⟨i1,i2,i3⟩:=hi.alloc (h4 g) T
  have hr:(execOp a.eval ⟨some d,.alloc T,ty,pos,af,none⟩).run P w= .ok (.value (.pointer (some ⟨w.heap.size,0,none⟩))) { w with heap:=w.heap.push (.cells us.toArray T (0,0)) }:=by
   simp only[execOp,Instr.alloc,zeroValue,typeInfo,Sem.run_bind,run_program,h1,h2,Sem.run_pure,Result.andThen_ok,newVar,newRow,h3,run_newObj]
  refine Oper.wq_of_run hr ?_
  exact⟨_,_,g,_,rfl,.raw _,i1,i2,i3,k _⟩)
theorem Nv {T:TypeId} {x y:Operand} {b sz by_:Nat} {cs new:List PV} {L':List Res} [hT:EZ P T sz by_]
  (hx:ρ.ev x= .raw (.pointer (some ⟨b,0,none⟩))) (hy:ρ.ev y= .agg new) (hu:po b cs new L L') [hf:Di new] (hlen:new.length=sz) (hcs:cs.length=sz)
  (k:AU P N all K fl.tail os ρ L') (hfl:fl.headD true=true:=by rfl):AU P N all K fl (⟨none,.store T x y,ty,pos,af,none⟩::os) ρ L:=
 DY rfl (fun _ e=>by cases e) hfl (JJ hx (fun g v hv=>by
  rw[hy]at hv
  obtain⟨vs,rfl,h⟩:=hv.agg_inv
  exact⟨vs,rfl,h⟩) hlen hf.out (by simp[Bu (show cs.length≤new.length by omega)]) (by omega) hu k)
theorem X4 {T E sz by_:Nat} [hT:Lp P T E] [hE:EZ P E sz by_] {x:Operand} {lo hi:Option Operand} {xs:List (List PV)} {t:CD} {dst:Option Nat} {gd:Option (Nat × Bool)} (i j:Nat) (hx:ρ.ev x= .slice xs t) (hij:i≤j) (hj:j≤xs.length) (hs: ∀ e∈xs,e.length=sz)
  (hlo: ∀ o,lo=some o→ ∃ k,ρ.ev o= .raw (.int k i)) (hlo':lo=none→i=0) (hhi: ∀ o,hi=some o→ ∃ k,ρ.ev o= .raw (.int k j)) (hhi':hi=none→j=xs.length):
  gi P ⟨dst,.slice T x lo hi none,ty,pos,af,gd⟩ ρ L (.slice ((xs.drop i).take (j - i)) .ro):=B9 fun a w g ha hI=>by
 have h1:=ha x (by simp[Op.operands]);rw[hx]at h1
 obtain⟨base,cap,e1,hcap,hmx,hnone,_,_,us,hus,hcell⟩:=h1.slice_cells hs
 have hsub: ∀ e∈(xs.drop i).take (j - i),e.length=sz:=fun e he=>hs e (JR (El he))
 have hul:us.length=xs.length*sz:=by rw[hus.len,Cv hs]
 have hlen:((xs.drop i).take (j - i)).length=j - i:=by simp;omega
 have hbl: ∀ o,lo=some o→ ∃ k,a.eval o= .int k i:=fun o e=>by
  obtain⟨k,hk⟩:=hlo o e
  exact⟨k,Cb ha (by simp[Op.operands,e]) hk⟩
 have hbh: ∀ o,hi=some o→ ∃ k,a.eval o= .int k j:=fun o e=>by
  obtain⟨k,hk⟩:=hhi o e
  exact⟨k,Cb ha (by simp[Op.operands,e]) hk⟩
 have hbounds:(Instr.sliceBounds true xs.length cap (lo.map a.eval) (hi.map a.eval) none).run P w= .ok (i,j,cap) w:=by
  unfold Instr.sliceBounds
  cases lo with
  |none=>
   have:=hlo' rfl;subst this
   cases hi with
   |none=>have:=hhi' rfl;subst this;simp
   |some o=>
    obtain⟨k,hk⟩:=hbh o rfl
    simp[hk,Instr.sliceBound,asIntOf]
    omega
  |some o=>
   obtain⟨k,hk⟩:=hbl o rfl
   cases hi with
   |none=>
    have:=hhi' rfl;subst this
    simp[hk,Instr.sliceBound,asIntOf]
    omega
   |some o'=>
    obtain⟨k',hk'⟩:=hbh o' rfl
    simp[hk,hk',Instr.sliceBound,asIntOf]
    rw[if_pos (by omega)]
    simp
    omega
 have hr:(execOp a.eval ⟨dst,.slice T x lo hi none,ty,pos,af,gd⟩).run P w= .ok (.value (.slice (if cap=i then base else base.map (·.add (i*sz))) (j - i) (cap - i))) w:=by
  show(do pure (Next.value (←Instr.sliceAt T (a.eval x) (lo.map a.eval) (hi.map a.eval) none)):Sem Next).run P w=_
  simp only[Instr.sliceAt,Sem.run_bind,run_underlying hT.out,Result.andThen_ok,Instr.slice,e1,hbounds,EZ.run hE,Sem.run_pure]
 refine⟨_,hr,?_⟩
 cases base with
 |none=>
  obtain⟨rfl,rfl⟩:=hnone rfl
  simp at hj
  have hj0:j=0:=by omega
  have hi0:i=0:=by omega
  subst hj0 hi0
  simpa using VR.nilR (g:=g) (o:=none)
 |some ad=>
  obtain⟨b,o,s⟩:=ad
  obtain⟨hs',hH⟩:=hcell _ rfl
  rcases hs' with ⟨e3,e4⟩|hs'
  ·subst e3 e4
   simp only[Ae,Nat.le_zero]at hj
   subst hj
   have hi0:i=0:=by omega
   subst hi0
   simpa using VR.nilR (g:=g) (o:=some ⟨b,o,s⟩)
  simp only at hs'
  subst hs'
  have hfl:((xs.drop i).take (j - i)).flatten=(xs.flatten.drop (i*sz)).take ((j - i)*sz):=by
   have d1: ∀ (n:Nat) (ys:List (List PV)),(∀ e∈ys,e.length=sz)→(ys.drop n).flatten=ys.flatten.drop (n*sz):=by
    intro n
    induction n with
    |zero=>intro ys _;simp
    |succ n ih=>
     intro ys hy
     cases ys with
     |nil=>simp
     |cons y ys=>
      simp only[aN,CX]
      rw[ih ys (fun e he=>hy e (by simp[he])),C7,mW,Jt,←GY]
      rw[qF (hy y (by simp))]
   have d2: ∀ (n:Nat) (ys:List (List PV)),(∀ e∈ys,e.length=sz)→(ys.take n).flatten=ys.flatten.take (n*sz):=by
    intro n
    induction n with
    |zero=>intro ys _;simp
    |succ n ih=>
     intro ys hy
     cases ys with
     |nil=>simp
     |cons y ys=>
      simp only[P3,CX]
      rw[ih ys (fun e he=>hy e (by simp[he])),C7,mW,Jt,←hy y (by simp),PD]
   rw[d2 _ _ (fun e he=>hs e (JR he)),d1 _ _ hs]
  have hus2:E7 g ((us.drop (i*sz)).take ((j - i)*sz)) ((xs.drop i).take (j - i)).flatten:=by rw[hfl];exact(hus.drop _).take _
  by_cases hci:cap=i
  ·have hj0:j - i=0:=by omega
   rw[if_pos hci,hj0]
   have:=VR.of_cells (g:=g) (xs:=(xs.drop i).take 0) (t:= .ro) (sz:=sz) (b:=b) (off:=o) (cap:=cap - i) (by simp) (by simp) ⟨by simp,by simp⟩ (us:= []) (by simpa using E7.nil g) (by simp) (by simp) (by simp)
   simpa using this
  ·rw[if_neg hci]
   have:=VR.of_cells (g:=g) (xs:=(xs.drop i).take (j - i)) (t:= .ro) (sz:=sz) (b:=b) (off:=o+i*sz) (cap:=cap - i) hsub (by omega) ⟨by have:=hmx.1;omega,Cq (B8 _ (by omega)) hmx.2⟩ hus2 (fun k hk=>by
    have hk':k < (j - i)*sz:=by simp at hk;omega
    have hlt:i*sz+k < us.length:=by
     rw[hul]
     have h2:j*sz≤xs.length*sz:=B8 _ hj
     have h3:(j - i)*sz+i*sz=j*sz:=by rw[←C7];congr 1;omega
     omega
    rw[Dx,hH _ hlt]
    simp) (by simp) (by simp)
   rw[hlen]at this
   simpa [Dr]using this
theorem jI {T E sz by_:Nat} [hT:Lp P T E] [hE:EZ P E sz by_] {x y:Operand} {α:Type} {f:α→List PV} [hf:MZ f sz] {l:List α} {t:CD} {kk:IntKind} {i:Nat} (hx:ρ.ev x= .slice (l.map f) t) (hy:ρ.ev y= .raw (.int kk (i:Int))) (hi:i≤l.length)
  (k:AU P N all K fl.tail os (CR ρ d (.slice ((l.drop i).map f) .ro)) L) (hd:Nat.blt d N=true:=by rfl):AU P N all K fl (⟨some d,.slice T x (some y) none none,ty,pos,af,none⟩::os) ρ L:=
 Bg hd (X4 i l.length hx hi (by simp) (fun e he=>by obtain⟨a,_,rfl⟩:=AY.1 he;exact hf.out a) (fun o e=>by cases e;exact⟨_,hy⟩) (by simp) (by simp) (by simp)) (by
  rw[AB (by simp),←List.map_drop];exact k)
theorem jJ {T E sz by_:Nat} [hT:Lp P T E] [hE:EZ P E sz by_] {x y:Operand} {α:Type} {f:α→List PV} [hf:MZ f sz] {l:List α} {t:CD} {kk:IntKind} {j:Nat} (hx:ρ.ev x= .slice (l.map f) t) (hy:ρ.ev y= .raw (.int kk (j:Int))) (hj:j≤l.length)
  (k:AU P N all K fl.tail os (CR ρ d (.slice ((l.take j).map f) .ro)) L) (hd:Nat.blt d N=true:=by rfl):AU P N all K fl (⟨some d,.slice T x none (some y) none,ty,pos,af,none⟩::os) ρ L:=
 Bg hd (X4 0 j hx (by omega) (by simpa using hj) (fun e he=>by obtain⟨a,_,rfl⟩:=AY.1 he;exact hf.out a) (by simp) (by simp) (fun o e=>by cases e;exact⟨_,hy⟩) (by simp)) (by
  simp only[Ll,zk,←yB];exact k)
theorem jQ {T f0 o0 s0:Nat} {x0:Operand} {z c0 r0:List PV} [hS:Cc P T] [hZ:Ck P T z] [hF0:BR P T f0 o0 s0] [hP0:Eg z o0 c0 r0] (h0:Cw (ρ.ev x0) c0) (hl0:c0.length=s0)
  (k:AU P N all K fl.tail os (CR ρ d (.agg r0)) L) (hd:Nat.blt d N=true:=by rfl):AU P N all K fl (⟨some d,.build T #[(f0,x0)],ty,pos,af,none⟩::os) ρ L:=
 Bg hd (JI (ps:= [(f0,x0,o0,c0)]) rfl (by
  intro p hp
  simp only[AG,Aa,or_false]at hp
  rcases hp with rfl
  ·exact⟨s0,hF0.out,h0,hl0⟩) (.cons hP0.out.1 hP0.out.2 (.nil))) k
theorem Ya {T f0 f1 o0 o1 s0 s1:Nat} {x0 x1:Operand} {z c0 c1 r0 r1:List PV} [hS:Cc P T] [hZ:Ck P T z] [hF0:BR P T f0 o0 s0] [hF1:BR P T f1 o1 s1] [hP0:Eg z o0 c0 r0] [hP1:Eg r0 o1 c1 r1] (h0:Cw (ρ.ev x0) c0) (h1:Cw (ρ.ev x1) c1) (hl0:c0.length=s0) (hl1:c1.length=s1)
  (k:AU P N all K fl.tail os (CR ρ d (.agg r1)) L) (hd:Nat.blt d N=true:=by rfl):AU P N all K fl (⟨some d,.build T #[(f0,x0),(f1,x1)],ty,pos,af,none⟩::os) ρ L:=
 Bg hd (JI (ps:= [(f0,x0,o0,c0),(f1,x1,o1,c1)]) rfl (by
  intro p hp
  simp only[AG,Aa,or_false]at hp
  rcases hp with rfl|rfl
  ·exact⟨s0,hF0.out,h0,hl0⟩
  ·exact⟨s1,hF1.out,h1,hl1⟩) (.cons hP0.out.1 hP0.out.2 (.cons hP1.out.1 hP1.out.2 (.nil)))) k
theorem TA {T f0 f1 f2 o0 o1 o2 s0 s1 s2:Nat} {x0 x1 x2:Operand} {z c0 c1 c2 r0 r1 r2:List PV} [hS:Cc P T] [hZ:Ck P T z] [hF0:BR P T f0 o0 s0] [hF1:BR P T f1 o1 s1] [hF2:BR P T f2 o2 s2] [hP0:Eg z o0 c0 r0] [hP1:Eg r0 o1 c1 r1] [hP2:Eg r1 o2 c2 r2] (h0:Cw (ρ.ev x0) c0) (h1:Cw (ρ.ev x1) c1) (h2:Cw (ρ.ev x2) c2) (hl0:c0.length=s0) (hl1:c1.length=s1) (hl2:c2.length=s2)
  (k:AU P N all K fl.tail os (CR ρ d (.agg r2)) L) (hd:Nat.blt d N=true:=by rfl):AU P N all K fl (⟨some d,.build T #[(f0,x0),(f1,x1),(f2,x2)],ty,pos,af,none⟩::os) ρ L:=
 Bg hd (JI (ps:= [(f0,x0,o0,c0),(f1,x1,o1,c1),(f2,x2,o2,c2)]) rfl (by
  intro p hp
  simp only[AG,Aa,or_false]at hp
  rcases hp with rfl|rfl|rfl
  ·exact⟨s0,hF0.out,h0,hl0⟩
  ·exact⟨s1,hF1.out,h1,hl1⟩
  ·exact⟨s2,hF2.out,h2,hl2⟩) (.cons hP0.out.1 hP0.out.2 (.cons hP1.out.1 hP1.out.2 (.cons hP2.out.1 hP2.out.2 (.nil))))) k
theorem YZ {T f0 f1 f2 f3 o0 o1 o2 o3 s0 s1 s2 s3:Nat} {x0 x1 x2 x3:Operand} {z c0 c1 c2 c3 r0 r1 r2 r3:List PV} [hS:Cc P T] [hZ:Ck P T z] [hF0:BR P T f0 o0 s0] [hF1:BR P T f1 o1 s1] [hF2:BR P T f2 o2 s2] [hF3:BR P T f3 o3 s3] [hP0:Eg z o0 c0 r0] [hP1:Eg r0 o1 c1 r1] [hP2:Eg r1 o2 c2 r2] [hP3:Eg r2 o3 c3 r3] (h0:Cw (ρ.ev x0) c0) (h1:Cw (ρ.ev x1) c1) (h2:Cw (ρ.ev x2) c2) (h3:Cw (ρ.ev x3) c3) (hl0:c0.length=s0) (hl1:c1.length=s1) (hl2:c2.length=s2) (hl3:c3.length=s3)
  (k:AU P N all K fl.tail os (CR ρ d (.agg r3)) L) (hd:Nat.blt d N=true:=by rfl):AU P N all K fl (⟨some d,.build T #[(f0,x0),(f1,x1),(f2,x2),(f3,x3)],ty,pos,af,none⟩::os) ρ L:=
 Bg hd (JI (ps:= [(f0,x0,o0,c0),(f1,x1,o1,c1),(f2,x2,o2,c2),(f3,x3,o3,c3)]) rfl (by
  intro p hp
  simp only[AG,Aa,or_false]at hp
  rcases hp with rfl|rfl|rfl|rfl
  ·exact⟨s0,hF0.out,h0,hl0⟩
  ·exact⟨s1,hF1.out,h1,hl1⟩
  ·exact⟨s2,hF2.out,h2,hl2⟩
  ·exact⟨s3,hF3.out,h3,hl3⟩) (.cons hP0.out.1 hP0.out.2 (.cons hP1.out.1 hP1.out.2 (.cons hP2.out.1 hP2.out.2 (.cons hP3.out.1 hP3.out.2 (.nil)))))) k
theorem jO {T f0 f1 f2 f3 f4 o0 o1 o2 o3 o4 s0 s1 s2 s3 s4:Nat} {x0 x1 x2 x3 x4:Operand} {z c0 c1 c2 c3 c4 r0 r1 r2 r3 r4:List PV} [hS:Cc P T] [hZ:Ck P T z] [hF0:BR P T f0 o0 s0] [hF1:BR P T f1 o1 s1] [hF2:BR P T f2 o2 s2] [hF3:BR P T f3 o3 s3] [hF4:BR P T f4 o4 s4] [hP0:Eg z o0 c0 r0] [hP1:Eg r0 o1 c1 r1] [hP2:Eg r1 o2 c2 r2] [hP3:Eg r2 o3 c3 r3] [hP4:Eg r3 o4 c4 r4] (h0:Cw (ρ.ev x0) c0) (h1:Cw (ρ.ev x1) c1) (h2:Cw (ρ.ev x2) c2) (h3:Cw (ρ.ev x3) c3) (h4:Cw (ρ.ev x4) c4) (hl0:c0.length=s0) (hl1:c1.length=s1) (hl2:c2.length=s2) (hl3:c3.length=s3) (hl4:c4.length=s4)
  (k:AU P N all K fl.tail os (CR ρ d (.agg r4)) L) (hd:Nat.blt d N=true:=by rfl):AU P N all K fl (⟨some d,.build T #[(f0,x0),(f1,x1),(f2,x2),(f3,x3),(f4,x4)],ty,pos,af,none⟩::os) ρ L:=
 Bg hd (JI (ps:= [(f0,x0,o0,c0),(f1,x1,o1,c1),(f2,x2,o2,c2),(f3,x3,o3,c3),(f4,x4,o4,c4)]) rfl (by
  intro p hp
  simp only[AG,Aa,or_false]at hp
  rcases hp with rfl|rfl|rfl|rfl|rfl
  ·exact⟨s0,hF0.out,h0,hl0⟩
  ·exact⟨s1,hF1.out,h1,hl1⟩
  ·exact⟨s2,hF2.out,h2,hl2⟩
  ·exact⟨s3,hF3.out,h3,hl3⟩
  ·exact⟨s4,hF4.out,h4,hl4⟩) (.cons hP0.out.1 hP0.out.2 (.cons hP1.out.1 hP1.out.2 (.cons hP2.out.1 hP2.out.2 (.cons hP3.out.1 hP3.out.2 (.cons hP4.out.1 hP4.out.2 (.nil))))))) k
theorem jN {T f0 f1 f2 f3 f4 f5 o0 o1 o2 o3 o4 o5 s0 s1 s2 s3 s4 s5:Nat} {x0 x1 x2 x3 x4 x5:Operand} {z c0 c1 c2 c3 c4 c5 r0 r1 r2 r3 r4 r5:List PV} [hS:Cc P T] [hZ:Ck P T z] [hF0:BR P T f0 o0 s0] [hF1:BR P T f1 o1 s1] [hF2:BR P T f2 o2 s2] [hF3:BR P T f3 o3 s3] [hF4:BR P T f4 o4 s4] [hF5:BR P T f5 o5 s5] [hP0:Eg z o0 c0 r0] [hP1:Eg r0 o1 c1 r1] [hP2:Eg r1 o2 c2 r2] [hP3:Eg r2 o3 c3 r3] [hP4:Eg r3 o4 c4 r4] [hP5:Eg r4 o5 c5 r5] (h0:Cw (ρ.ev x0) c0) (h1:Cw (ρ.ev x1) c1) (h2:Cw (ρ.ev x2) c2) (h3:Cw (ρ.ev x3) c3) (h4:Cw (ρ.ev x4) c4) (h5:Cw (ρ.ev x5) c5) (hl0:c0.length=s0) (hl1:c1.length=s1) (hl2:c2.length=s2) (hl3:c3.length=s3) (hl4:c4.length=s4) (hl5:c5.length=s5)
  (k:AU P N all K fl.tail os (CR ρ d (.agg r5)) L) (hd:Nat.blt d N=true:=by rfl):AU P N all K fl (⟨some d,.build T #[(f0,x0),(f1,x1),(f2,x2),(f3,x3),(f4,x4),(f5,x5)],ty,pos,af,none⟩::os) ρ L:=
 Bg hd (JI (ps:= [(f0,x0,o0,c0),(f1,x1,o1,c1),(f2,x2,o2,c2),(f3,x3,o3,c3),(f4,x4,o4,c4),(f5,x5,o5,c5)]) rfl (by
  intro p hp
  simp only[AG,Aa,or_false]at hp
  rcases hp with rfl|rfl|rfl|rfl|rfl|rfl
  ·exact⟨s0,hF0.out,h0,hl0⟩
  ·exact⟨s1,hF1.out,h1,hl1⟩
  ·exact⟨s2,hF2.out,h2,hl2⟩
  ·exact⟨s3,hF3.out,h3,hl3⟩
  ·exact⟨s4,hF4.out,h4,hl4⟩
  ·exact⟨s5,hF5.out,h5,hl5⟩) (.cons hP0.out.1 hP0.out.2 (.cons hP1.out.1 hP1.out.2 (.cons hP2.out.1 hP2.out.2 (.cons hP3.out.1 hP3.out.2 (.cons hP4.out.1 hP4.out.2 (.cons hP5.out.1 hP5.out.2 (.nil)))))))) k
end
class Ay (p:Prop):Prop where
 out:p
theorem DA {a b:List PV}:Jc (a++b) 0 a:=⟨by simp⟩
theorem Jk {a:List PV}:Jc a 0 a:=⟨by simp⟩
theorem Ai {a b r:List PV} {n off:Nat} (ha:a.length=n) (h:Jc b off r):Jc (a++b) (n+off) r:=⟨by
 obtain⟨h1,h2⟩:=h.out
 subst ha
 constructor
 ·rw[PE];exact h1
 ·simp;omega⟩
theorem Hy {cs r:List PV} {off n:Nat} (h:Jc cs off r) (hn:r.length=n):PA cs off n r:=⟨by
 obtain⟨h1,h2⟩:=h.out;subst hn;exact⟨h1,h2⟩⟩
theorem DH {a b new:List PV} (h:new.length=a.length):Eg (a++b) 0 new (new++b):=⟨by simp[h]⟩
theorem Kd {a new:List PV} (h:new.length=a.length):Eg a 0 new new:=⟨by simp[h]⟩
theorem Af {a b r new:List PV} {n off:Nat} (ha:a.length=n) (h:Eg b off new r):Eg (a++b) (n+off) new (a++r):=⟨by
 obtain⟨h1,h2⟩:=h.out
 subst ha
 constructor
 ·rw[←h1,PD,Dx,PE];simp
 ·simp;omega⟩
theorem su {cs r r' new cs':List PV} {off io:Nat} (h:Jc cs off r) (k:Eg r io new r') (p:Eg cs off r' cs'):Eg cs (off+io) new cs':=⟨by
 obtain⟨h1,h2⟩:=h.out
 obtain⟨k1,k2⟩:=k.out
 obtain⟨p1,p2⟩:=p.out
 refine⟨?_,by omega⟩
 have hl:r'.length=r.length:=by rw[←k1];simp;omega
 rw[←p1,hl,←k1]
 have e1:List.take (off+io) cs=List.take off cs++List.take io r:=by
  rw[List.take_add,←h1,uq,Cp (by omega)]
 have e2:List.drop (off+io+new.length) cs=List.drop (io+new.length) r++List.drop (off+r.length) cs:=by
  conv=>rhs;rw[←h1]
  rw[ur,GY,h1,Dx]
  conv=>lhs;rw[←C6 (r.length - (io+new.length)) (List.drop (off+(io+new.length)) cs)]
  rw[GY]
  congr 2;omega
 rw[e1,e2]
 simp⟩
def Dig.zero:Dig:=⟨List.replicate 32 0,rfl⟩
def Ident.zero:Ident:=⟨Dig.zero,0⟩
class E1 (x:PV) (cs:outParam (List PV)):Prop where
 out:Cw x cs
instance {cs:List PV}:E1 (.agg cs) cs:=⟨.agg cs⟩
instance {xs:List (List PV)} {t:CD}:E1 (.slice xs t) [.slice xs .ro]:=⟨.ro xs t⟩
instance {k:IntKind} {n:Int}:E1 (.raw (.int k n)) [.raw (.int k n)]:=⟨.one (Di.out)⟩
instance {b:Bool}:E1 (.raw (.bool b)) [.raw (.bool b)]:=⟨.one (Di.out)⟩
instance {s:Str}:E1 (.str s) [.str s]:=⟨.one (Di.out)⟩
instance {a:Option Addr}:E1 (.raw (.pointer a)) [.raw (.pointer a)]:=⟨.one (Di.out)⟩
instance {kvs:List (PV × PV)}:E1 (.fmap kvs) [.fmap kvs]:=⟨.one (Di.out)⟩
instance :E1 (.raw (.slice none 0 0)) [.slice [] .ro]:=⟨fun g v hv=>⟨[v],by cases hv;rfl,by cases hv;exact .cons .nilR (.nil g)⟩⟩
class Cx (cs:List PV) (n:outParam Nat):Prop where
 out:cs.length=n
instance (priority:=low) {α:Type} {f:α→List PV} {a:α} {n:Nat} [h:MZ f n]:Cx (f a) n:=⟨h.out a⟩
instance {x:PV}:Cx [x] 1:=⟨rfl⟩
class Fw {α:outParam Type} (x:PV) (f:outParam (α→List PV)) (a:outParam α):Prop where
 out:Cw x (f a)
instance (d:Dig):Fw (.agg (eDig d)) eDig d:=⟨.agg _⟩
instance (d:Ident):Fw (.agg (eIdent d)) eIdent d:=⟨.agg _⟩
instance (n:Int):Fw (.raw (.int .i64 n)) eI n:=⟨.one (Js.out (f:=eI) n)⟩
instance :E1 (.raw (.string ⟨[].toArray⟩)) [.str []]:=⟨fun g v hv=>⟨[v],by cases hv;rfl,by cases hv;exact .cons (.str (by show 0≤maxN;decide)) (.nil g)⟩⟩
instance (a:UInt8):Fw (.raw (.string ⟨[a].toArray⟩)) eS [a]:=⟨fun g v hv=>⟨[v],by cases hv;rfl,by cases hv;exact .cons (.str (by show 1≤maxN;decide)) (.nil g)⟩⟩
instance (a b c:UInt8):E1 (.raw (.string ⟨[a,b,c].toArray⟩)) [.str [a,b,c]]:=⟨fun g v hv=>⟨[v],by cases hv;rfl,by cases hv;exact .cons (.str (by show 3≤maxN;decide)) (.nil g)⟩⟩
def Le (x y:PV):Prop:= ∀ g v,VR g v x→VR g v y
theorem Le.refl (x:PV):Le x x:=fun _ _ h=>h
theorem Le.of_eq {x y:PV} (h:x=y):Le x y:=h ▸ .refl x
theorem Le.ro (xs:List (List PV)) (t:CD):Le (.slice xs t) (.slice xs .ro):=fun _ _ h=>h.ro
theorem Le.ros {xs ys:List (List PV)} {t:CD} (h:xs=ys):Le (.slice xs t) (.slice ys .ro):=h ▸ .ro xs t
theorem Le.nil:Le (.raw (.slice none 0 0)) (.slice [] .nil):=fun _ v h=>by cases h;exact .nilN none (by simp)
theorem Le.tuple {xs ys:List PV} (hl:xs.length=ys.length) (h: ∀ i (h1:i < xs.length) (h2:i < ys.length),Le xs[i] ys[i]):Le (.tuple xs) (.tuple ys):=fun g v hv=>by
 obtain⟨vs,rfl,h1⟩:=hv.tuple_inv
 exact E7.tuple ⟨h1.len.trans hl,fun i h2 h3=>h i (by omega) h3 g _ (h1.at_ i h2 (by omega))⟩
theorem Le.tuple2 {a b a' b':PV} (h1:Le a a') (h2:Le b b'):Le (.tuple [a,b]) (.tuple [a',b']):= .tuple rfl fun i h _=>by
 match i,h with
 |0,_=>exact h1
 |1,_=>exact h2
 |n+2,h=>simp at h;omega
theorem Le.tuple3 {a b c a' b' c':PV} (h1:Le a a') (h2:Le b b') (h3:Le c c'):Le (.tuple [a,b,c]) (.tuple [a',b',c']):= .tuple rfl fun i h _=>by
 match i,h with
 |0,_=>exact h1
 |1,_=>exact h2
 |2,_=>exact h3
 |n+3,h=>simp at h;omega
class Jr (x:PV) (y:outParam PV):Prop where
 out:Le x y
instance (priority:=low) (x:PV):Jr x x:=⟨.refl x⟩
instance :Jr (.raw (.slice none 0 0)) (.slice [] .nil):=⟨.nil⟩
instance :Jr (.raw (.string ⟨[].toArray⟩)) (.str []):=⟨fun g v hv=>by cases hv;exact .str (by show 0≤maxN;decide)⟩
instance (a:UInt8):Jr (.raw (.string ⟨[a].toArray⟩)) (.str [a]):=⟨fun g v hv=>by cases hv;exact .str (by show 1≤maxN;decide)⟩
instance (a b c d e f:UInt8):Jr (.raw (.string ⟨[a,b,c,d,e,f].toArray⟩)) (.str [a,b,c,d,e,f]):=⟨fun g v hv=>by cases hv;exact .str (by show 6≤maxN;decide)⟩
class K8 (x:PV) (s:outParam Str):Prop where
 out: ∀ g v,VR g v x→v= .string (sB s)
instance (s:Str):K8 (.str s) s:=⟨fun g v h=>by cases h;rfl⟩
instance (s:List UInt8):K8 (.raw (.string ⟨s.toArray⟩)) s:=⟨fun g v h=>by cases h;rfl⟩
theorem xd {P:Program} {f:FuncId} {args:List PV} {X:PV} (h:BH P f args [] (fun r L'=>Le r X∧L'= [])):Fn P f args X:=fun vs w g LF hv hi=>
 (h vs w g LF hv hi).mono fun _ _ ⟨v,x,g',L',h1,h2,h3,h4,h5,h6,h7⟩=>⟨v,X,g',L',h1,h6 _ _ h2,h3,h4,h5,rfl,h7⟩
theorem Av {P:Program} {f:FuncId} {fn:Func} {c:Code} {rs:List ResultVar} {N:Nat} {args:List PV} {X:PV}
  (hf:P.funcs[f]? =some fn) (hn:fn.ntmps=N) (hb:fn.body=some c) (hr:fn.results=rs.toArray) (hN:Nat.ble args.length N=true)
  (h:(∀ x∈args,Bd x)→ ∀ LF,EY P N c (pq P rs (fun r L'=>Le r X∧L'= []) LF) (ya args) LF):Fn P f args X:=xd (C8 hf hb hn hr hN h)
section
variable {P:Program} {ρ:Env} {L LF:List Res} {X:PV}
theorem Aw {t:Nat} {y:PV} (hX:Le y X) (hx:ρ t=y:=by conv=>lhs;whnf) (hs:LF.Sublist L:=by repeat(first|exact EW _|apply List.Sublist.cons)):pq P [.tmp t] (fun r L'=>Le r X∧L'= []) LF .ret ρ L:=
 ⟨trivial,_,[],.cons (.tmp t) .nil,hs,hx ▸ hX,rfl⟩
theorem HD {t u:Nat} {x y:PV} (hX:Le (.tuple [x,y]) X) (hx:ρ t=x:=by conv=>lhs;whnf) (hy:ρ u=y:=by conv=>lhs;whnf) (hs:LF.Sublist L:=by repeat(first|exact EW _|apply List.Sublist.cons)):pq P [.tmp t,.tmp u] (fun r L'=>Le r X∧L'= []) LF .ret ρ L:=
 ⟨trivial,_,[],.cons (.tmp t) (.cons (.tmp u) .nil),hs,by subst hx;subst hy;exact hX,rfl⟩
theorem NI {t u s:Nat} {x y z:PV} (hX:Le (.tuple [x,y,z]) X) (hx:ρ t=x:=by conv=>lhs;whnf) (hy:ρ u=y:=by conv=>lhs;whnf) (hz:ρ s=z:=by conv=>lhs;whnf) (hs:LF.Sublist L:=by repeat(first|exact EW _|apply List.Sublist.cons)):pq P [.tmp t,.tmp u,.tmp s] (fun r L'=>Le r X∧L'= []) LF .ret ρ L:=
 ⟨trivial,_,[],.cons (.tmp t) (.cons (.tmp u) (.cons (.tmp s) .nil)),hs,by subst hx;subst hy;subst hz;exact hX,rfl⟩
theorem Fi {t T n b T':Nat} {cs:List PV} [hT:Ea P T n] (h:ρ t= .raw (.pointer (some ⟨b,0,none⟩))) (hx:Le (.agg cs) X) (hm:Res.box b T' cs∈L:=by repeat(first|exact AI|apply AL)) (hn:cs.length=n:=by simp) (hs:LF.Sublist L:=by repeat(first|exact EW _|apply List.Sublist.cons)):
  pq P [.cell t T] (fun r L'=>Le r X∧L'= []) LF .ret ρ L:=⟨trivial,_,[],.cons (.cell t T h hm hT.out hn) .nil,hs,hx,rfl⟩
theorem LK {t T n b T' u:Nat} {cs:List PV} {y:PV} [hT:Ea P T n] (h:ρ t= .raw (.pointer (some ⟨b,0,none⟩))) (hx:Le (.tuple [.agg cs,y]) X) (hy:ρ u=y:=by conv=>lhs;whnf) (hm:Res.box b T' cs∈L:=by repeat(first|exact AI|apply AL)) (hn:cs.length=n:=by simp) (hs:LF.Sublist L:=by repeat(first|exact EW _|apply List.Sublist.cons)):
  pq P [.cell t T,.tmp u] (fun r L'=>Le r X∧L'= []) LF .ret ρ L:=⟨trivial,_,[],.cons (.cell t T h hm hT.out hn) (.cons (.tmp u) .nil),hs,by subst hy;exact hx,rfl⟩
end
structure Chg where
 kind:Int
 file:Ident
 type:Int
 parent:Ident
 name:Str
 mode:Int
 data:Str
 after:Ident
 before:Ident
 lines:List Str
 over:List Ident
 deriving DecidableEq
def Chg.zero:Chg:=⟨0,Ident.zero,0,Ident.zero,[],0,[],Ident.zero,Ident.zero,[],[]⟩
def eChg (c:Chg):List PV:= [.raw (.int .i64 c.kind)]++((eIdent c.file)++([.raw (.int .i64 c.type)]++((eIdent c.parent)++([.str c.name]++([.raw (.int .i64 c.mode)]++([.str c.data]++((eIdent c.after)++((eIdent c.before)++([.slice ((c.lines).map eS) .ro]++([.slice ((c.over).map eIdent) .ro]))))))))))
@[simp] theorem kX (c:Chg):(eChg c).length=139:=by unfold eChg;simp
instance :MZ eChg 139:=⟨kX⟩
instance (c:Chg):Di (eChg c):=by unfold eChg;infer_instance
instance :Js eChg:=⟨fun c=>(inferInstance:Di (eChg c)).out⟩
instance (c:Chg):Fw (.agg (eChg c)) eChg c:=⟨Cw.agg _⟩
instance XY (c:Chg):Jc (eChg c) 0 [.raw (.int .i64 c.kind)]:=by unfold eChg;exact DA
instance ra (c:Chg):At (eChg c) 0 (.raw (.int .i64 c.kind)):=GX (XY c)
instance ni (c:Chg) (x:Int):Eg (eChg c) 0 [.raw (.int .i64 x)] (eChg { c with kind:=x }):=by unfold eChg;exact DH (by simp)
instance XZ (c:Chg):Jc (eChg c) 1 (eIdent c.file):=by unfold eChg;exact Ai (n:=1) (off:=0) (by simp) (DA)
instance mq (c:Chg):PA (eChg c) 1 33 (eIdent c.file):=Hy (XZ c) (by simp)
instance nj (c:Chg) (x:Ident):Eg (eChg c) 1 (eIdent x) (eChg { c with file:=x }):=by unfold eChg;exact Af (n:=1) (off:=0) (by simp) (DH (by simp))
instance XU (c:Chg):Jc (eChg c) 34 [.raw (.int .i64 c.type)]:=by unfold eChg;exact Ai (n:=1) (off:=33) (by simp) (Ai (n:=33) (off:=0) (by simp) (DA))
instance rU (c:Chg):At (eChg c) 34 (.raw (.int .i64 c.type)):=GX (XU c)
instance nf (c:Chg) (x:Int):Eg (eChg c) 34 [.raw (.int .i64 x)] (eChg { c with type:=x }):=by unfold eChg;exact Af (n:=1) (off:=33) (by simp) (Af (n:=33) (off:=0) (by simp) (DH (by simp)))
instance U9 (c:Chg):Jc (eChg c) 35 (eIdent c.parent):=by unfold eChg;exact Ai (n:=1) (off:=34) (by simp) (Ai (n:=33) (off:=1) (by simp) (Ai (n:=1) (off:=0) (by simp) (DA)))
instance iZ (c:Chg):PA (eChg c) 35 33 (eIdent c.parent):=Hy (U9 c) (by simp)
instance jo (c:Chg) (x:Ident):Eg (eChg c) 35 (eIdent x) (eChg { c with parent:=x }):=by unfold eChg;exact Af (n:=1) (off:=34) (by simp) (Af (n:=33) (off:=1) (by simp) (Af (n:=1) (off:=0) (by simp) (DH (by simp))))
instance XW (c:Chg):Jc (eChg c) 68 [.str c.name]:=by unfold eChg;exact Ai (n:=1) (off:=67) (by simp) (Ai (n:=33) (off:=34) (by simp) (Ai (n:=1) (off:=33) (by simp) (Ai (n:=33) (off:=0) (by simp) (DA))))
instance rY (c:Chg):At (eChg c) 68 (.str c.name):=GX (XW c)
instance ng (c:Chg) (x:Str):Eg (eChg c) 68 [.str x] (eChg { c with name:=x }):=by unfold eChg;exact Af (n:=1) (off:=67) (by simp) (Af (n:=33) (off:=34) (by simp) (Af (n:=1) (off:=33) (by simp) (Af (n:=33) (off:=0) (by simp) (DH (by simp)))))
instance XX (c:Chg):Jc (eChg c) 69 [.raw (.int .i64 c.mode)]:=by unfold eChg;exact Ai (n:=1) (off:=68) (by simp) (Ai (n:=33) (off:=35) (by simp) (Ai (n:=1) (off:=34) (by simp) (Ai (n:=33) (off:=1) (by simp) (Ai (n:=1) (off:=0) (by simp) (DA)))))
instance rZ (c:Chg):At (eChg c) 69 (.raw (.int .i64 c.mode)):=GX (XX c)
instance nh (c:Chg) (x:Int):Eg (eChg c) 69 [.raw (.int .i64 x)] (eChg { c with mode:=x }):=by unfold eChg;exact Af (n:=1) (off:=68) (by simp) (Af (n:=33) (off:=35) (by simp) (Af (n:=1) (off:=34) (by simp) (Af (n:=33) (off:=1) (by simp) (Af (n:=1) (off:=0) (by simp) (DH (by simp))))))
instance Xa (c:Chg):Jc (eChg c) 70 [.str c.data]:=by unfold eChg;exact Ai (n:=1) (off:=69) (by simp) (Ai (n:=33) (off:=36) (by simp) (Ai (n:=1) (off:=35) (by simp) (Ai (n:=33) (off:=2) (by simp) (Ai (n:=1) (off:=1) (by simp) (Ai (n:=1) (off:=0) (by simp) (DA))))))
instance re (c:Chg):At (eChg c) 70 (.str c.data):=GX (Xa c)
instance nk (c:Chg) (x:Str):Eg (eChg c) 70 [.str x] (eChg { c with data:=x }):=by unfold eChg;exact Af (n:=1) (off:=69) (by simp) (Af (n:=33) (off:=36) (by simp) (Af (n:=1) (off:=35) (by simp) (Af (n:=33) (off:=2) (by simp) (Af (n:=1) (off:=1) (by simp) (Af (n:=1) (off:=0) (by simp) (DH (by simp)))))))
instance Uo (c:Chg):Jc (eChg c) 71 (eIdent c.after):=by unfold eChg;exact Ai (n:=1) (off:=70) (by simp) (Ai (n:=33) (off:=37) (by simp) (Ai (n:=1) (off:=36) (by simp) (Ai (n:=33) (off:=3) (by simp) (Ai (n:=1) (off:=2) (by simp) (Ai (n:=1) (off:=1) (by simp) (Ai (n:=1) (off:=0) (by simp) (DA)))))))
instance lz (c:Chg):PA (eChg c) 71 33 (eIdent c.after):=Hy (Uo c) (by simp)
instance mI (c:Chg) (x:Ident):Eg (eChg c) 71 (eIdent x) (eChg { c with after:=x }):=by unfold eChg;exact Af (n:=1) (off:=70) (by simp) (Af (n:=33) (off:=37) (by simp) (Af (n:=1) (off:=36) (by simp) (Af (n:=33) (off:=3) (by simp) (Af (n:=1) (off:=2) (by simp) (Af (n:=1) (off:=1) (by simp) (Af (n:=1) (off:=0) (by simp) (DH (by simp))))))))
instance UA (c:Chg):Jc (eChg c) 104 (eIdent c.before):=by unfold eChg;exact Ai (n:=1) (off:=103) (by simp) (Ai (n:=33) (off:=70) (by simp) (Ai (n:=1) (off:=69) (by simp) (Ai (n:=33) (off:=36) (by simp) (Ai (n:=1) (off:=35) (by simp) (Ai (n:=1) (off:=34) (by simp) (Ai (n:=1) (off:=33) (by simp) (Ai (n:=33) (off:=0) (by simp) (DA))))))))
instance ia (c:Chg):PA (eChg c) 104 33 (eIdent c.before):=Hy (UA c) (by simp)
instance jq (c:Chg) (x:Ident):Eg (eChg c) 104 (eIdent x) (eChg { c with before:=x }):=by unfold eChg;exact Af (n:=1) (off:=103) (by simp) (Af (n:=33) (off:=70) (by simp) (Af (n:=1) (off:=69) (by simp) (Af (n:=33) (off:=36) (by simp) (Af (n:=1) (off:=35) (by simp) (Af (n:=1) (off:=34) (by simp) (Af (n:=1) (off:=33) (by simp) (Af (n:=33) (off:=0) (by simp) (DH (by simp)))))))))
instance Um (c:Chg):Jc (eChg c) 137 [.slice ((c.lines).map eS) .ro]:=by unfold eChg;exact Ai (n:=1) (off:=136) (by simp) (Ai (n:=33) (off:=103) (by simp) (Ai (n:=1) (off:=102) (by simp) (Ai (n:=33) (off:=69) (by simp) (Ai (n:=1) (off:=68) (by simp) (Ai (n:=1) (off:=67) (by simp) (Ai (n:=1) (off:=66) (by simp) (Ai (n:=33) (off:=33) (by simp) (Ai (n:=33) (off:=0) (by simp) (DA)))))))))
instance ph (c:Chg):At (eChg c) 137 (.slice ((c.lines).map eS) .ro):=GX (Um c)
instance Ui (c:Chg) (x:List Str):Eg (eChg c) 137 [.slice ((x).map eS) .ro] (eChg { c with lines:=x }):=by unfold eChg;exact Af (n:=1) (off:=136) (by simp) (Af (n:=33) (off:=103) (by simp) (Af (n:=1) (off:=102) (by simp) (Af (n:=33) (off:=69) (by simp) (Af (n:=1) (off:=68) (by simp) (Af (n:=1) (off:=67) (by simp) (Af (n:=1) (off:=66) (by simp) (Af (n:=33) (off:=33) (by simp) (Af (n:=33) (off:=0) (by simp) (DH (by simp))))))))))
instance jl (c:Chg):Eg (eChg c) 137 [.slice [] .ro] (eChg { c with lines:= [] }):=Ui c []
instance XV (c:Chg):Jc (eChg c) 138 [.slice ((c.over).map eIdent) .ro]:=by unfold eChg;exact Ai (n:=1) (off:=137) (by simp) (Ai (n:=33) (off:=104) (by simp) (Ai (n:=1) (off:=103) (by simp) (Ai (n:=33) (off:=70) (by simp) (Ai (n:=1) (off:=69) (by simp) (Ai (n:=1) (off:=68) (by simp) (Ai (n:=1) (off:=67) (by simp) (Ai (n:=33) (off:=34) (by simp) (Ai (n:=33) (off:=1) (by simp) (Ai (n:=1) (off:=0) (by simp) (Jk))))))))))
instance rV (c:Chg):At (eChg c) 138 (.slice ((c.over).map eIdent) .ro):=GX (XV c)
instance X5 (c:Chg) (x:List Ident):Eg (eChg c) 138 [.slice ((x).map eIdent) .ro] (eChg { c with over:=x }):=by unfold eChg;exact Af (n:=1) (off:=137) (by simp) (Af (n:=33) (off:=104) (by simp) (Af (n:=1) (off:=103) (by simp) (Af (n:=33) (off:=70) (by simp) (Af (n:=1) (off:=69) (by simp) (Af (n:=1) (off:=68) (by simp) (Af (n:=1) (off:=67) (by simp) (Af (n:=33) (off:=34) (by simp) (Af (n:=33) (off:=1) (by simp) (Af (n:=1) (off:=0) (by simp) (Kd (by simp)))))))))))
instance mF (c:Chg):Eg (eChg c) 138 [.slice [] .ro] (eChg { c with over:= [] }):=X5 c []
structure Pat where
 author:Str
 message:Str
 time:Int
 deps:List Dig
 changes:List Chg
 deriving DecidableEq
def Pat.zero:Pat:=⟨[],[],0,[],[]⟩
def Ba (c:Pat):List PV:= [.str c.author]++([.str c.message]++([.raw (.int .i64 c.time)]++([.slice ((c.deps).map eDig) .ro]++([.slice ((c.changes).map eChg) .ro]))))
@[simp] theorem kR (c:Pat):(Ba c).length=5:=by unfold Ba;simp
instance :MZ Ba 5:=⟨kR⟩
instance (c:Pat):Di (Ba c):=by unfold Ba;infer_instance
instance U7 (c:Pat):Jc (Ba c) 0 [.str c.author]:=by unfold Ba;exact DA
instance mR (c:Pat):At (Ba c) 0 (.str c.author):=GX (U7 c)
instance jm (c:Pat) (x:Str):Eg (Ba c) 0 [.str x] (Ba { c with author:=x }):=by unfold Ba;exact DH (by simp)
instance SO (c:Pat):Jc (Ba c) 1 [.str c.message]:=by unfold Ba;exact Ai (n:=1) (off:=0) (by simp) (DA)
instance lU (c:Pat):At (Ba c) 1 (.str c.message):=GX (SO c)
instance XR (c:Pat):Jc (Ba c) 2 [.raw (.int .i64 c.time)]:=by unfold Ba;exact Ai (n:=1) (off:=1) (by simp) (Ai (n:=1) (off:=0) (by simp) (DA))
instance rR (c:Pat):At (Ba c) 2 (.raw (.int .i64 c.time)):=GX (XR c)
instance XT (c:Pat):Jc (Ba c) 3 [.slice ((c.deps).map eDig) .ro]:=by unfold Ba;exact Ai (n:=1) (off:=2) (by simp) (Ai (n:=1) (off:=1) (by simp) (Ai (n:=1) (off:=0) (by simp) (DA)))
instance rS (c:Pat):At (Ba c) 3 (.slice ((c.deps).map eDig) .ro):=GX (XT c)
instance SP (c:Pat):Jc (Ba c) 4 [.slice ((c.changes).map eChg) .ro]:=by unfold Ba;exact Ai (n:=1) (off:=3) (by simp) (Ai (n:=1) (off:=2) (by simp) (Ai (n:=1) (off:=1) (by simp) (Ai (n:=1) (off:=0) (by simp) (Jk))))
instance lV (c:Pat):At (Ba c) 4 (.slice ((c.changes).map eChg) .ro):=GX (SP c)
instance iA (c:Pat) (x:List Chg):Eg (Ba c) 4 [.slice ((x).map eChg) .ro] (Ba { c with changes:=x }):=by unfold Ba;exact Af (n:=1) (off:=3) (by simp) (Af (n:=1) (off:=2) (by simp) (Af (n:=1) (off:=1) (by simp) (Af (n:=1) (off:=0) (by simp) (Kd (by simp)))))
structure Sto where
 id:Dig
 patch:Pat
 deriving DecidableEq
def Sto.zero:Sto:=⟨Dig.zero,Pat.zero⟩
def eSto (c:Sto):List PV:=(eDig c.id)++((Ba c.patch))
@[simp] theorem kP (c:Sto):(eSto c).length=37:=by unfold eSto;simp
instance :MZ eSto 37:=⟨kP⟩
instance (c:Sto):Di (eSto c):=by unfold eSto;infer_instance
instance :Js eSto:=⟨fun c=>(inferInstance:Di (eSto c)).out⟩
instance (c:Sto):Fw (.agg (eSto c)) eSto c:=⟨Cw.agg _⟩
instance bk (c:Sto):Jc (eSto c) 0 (eDig c.id):=by unfold eSto;exact DA
instance sI (c:Sto):PA (eSto c) 0 32 (eDig c.id):=Hy (bk c) (by simp)
instance sv (c:Sto) (x:Dig):Eg (eSto c) 0 (eDig x) (eSto { c with id:=x }):=by unfold eSto;exact DH (by simp)
instance mL (c:Sto):Jc (eSto c) 32 (Ba c.patch):=by unfold eSto;exact Ai (n:=32) (off:=0) (by simp) (Jk)
instance mH (c:Sto) (x:Pat):Eg (eSto c) 32 (Ba x) (eSto { c with patch:=x }):=by unfold eSto;exact Af (n:=32) (off:=0) (by simp) (Kd (by simp))
structure Atm where
 id:Ident
 kind:Int
 file:Ident
 type:Int
 parent:Ident
 name:Str
 mode:Int
 data:Str
 text:Str
 src:Ident
 dst:Ident
 over:List Ident
 deriving DecidableEq
def Atm.zero:Atm:=⟨Ident.zero,0,Ident.zero,0,Ident.zero,[],0,[],[],Ident.zero,Ident.zero,[]⟩
def eAtm (c:Atm):List PV:=(eIdent c.id)++([.raw (.int .i64 c.kind)]++((eIdent c.file)++([.raw (.int .i64 c.type)]++((eIdent c.parent)++([.str c.name]++([.raw (.int .i64 c.mode)]++([.str c.data]++([.str c.text]++((eIdent c.src)++((eIdent c.dst)++([.slice ((c.over).map eIdent) .ro])))))))))))
@[simp] theorem kY (c:Atm):(eAtm c).length=172:=by unfold eAtm;simp
instance :MZ eAtm 172:=⟨kY⟩
instance (c:Atm):Di (eAtm c):=by unfold eAtm;infer_instance
instance :Js eAtm:=⟨fun c=>(inferInstance:Di (eAtm c)).out⟩
instance (c:Atm):Fw (.agg (eAtm c)) eAtm c:=⟨Cw.agg _⟩
instance UC (c:Atm):Jc (eAtm c) 0 (eIdent c.id):=by unfold eAtm;exact DA
instance sJ (c:Atm):PA (eAtm c) 0 33 (eIdent c.id):=Hy (UC c) (by simp)
instance bL (c:Atm) (x:Ident):Eg (eAtm c) 0 (eIdent x) (eAtm { c with id:=x }):=by unfold eAtm;exact DH (by simp)
instance fG (c:Atm) (x:Dig):Eg (eAtm c) 0 (eDig x) (eAtm { c with id:={ c.id with patch:=x } }):=su (UC c) (by infer_instance:Eg (eIdent c.id) 0 (eDig x) (eIdent { c.id with patch:=x })) (bL c _)
instance Xd (c:Atm):Jc (eAtm c) 33 [.raw (.int .i64 c.kind)]:=by unfold eAtm;exact Ai (n:=33) (off:=0) (by simp) (DA)
instance ri (c:Atm):At (eAtm c) 33 (.raw (.int .i64 c.kind)):=GX (Xd c)
instance nr (c:Atm) (x:Int):Eg (eAtm c) 33 [.raw (.int .i64 x)] (eAtm { c with kind:=x }):=by unfold eAtm;exact Af (n:=33) (off:=0) (by simp) (DH (by simp))
instance Xe (c:Atm):Jc (eAtm c) 34 (eIdent c.file):=by unfold eAtm;exact Ai (n:=33) (off:=1) (by simp) (Ai (n:=1) (off:=0) (by simp) (DA))
instance mr (c:Atm):PA (eAtm c) 34 33 (eIdent c.file):=Hy (Xe c) (by simp)
instance nt (c:Atm) (x:Ident):Eg (eAtm c) 34 (eIdent x) (eAtm { c with file:=x }):=by unfold eAtm;exact Af (n:=33) (off:=1) (by simp) (Af (n:=1) (off:=0) (by simp) (DH (by simp)))
instance Xb (c:Atm):Jc (eAtm c) 67 [.raw (.int .i64 c.type)]:=by unfold eAtm;exact Ai (n:=33) (off:=34) (by simp) (Ai (n:=1) (off:=33) (by simp) (Ai (n:=33) (off:=0) (by simp) (DA)))
instance rf (c:Atm):At (eAtm c) 67 (.raw (.int .i64 c.type)):=GX (Xb c)
instance nl (c:Atm) (x:Int):Eg (eAtm c) 67 [.raw (.int .i64 x)] (eAtm { c with type:=x }):=by unfold eAtm;exact Af (n:=33) (off:=34) (by simp) (Af (n:=1) (off:=33) (by simp) (Af (n:=33) (off:=0) (by simp) (DH (by simp))))
instance UB (c:Atm):Jc (eAtm c) 68 (eIdent c.parent):=by unfold eAtm;exact Ai (n:=33) (off:=35) (by simp) (Ai (n:=1) (off:=34) (by simp) (Ai (n:=33) (off:=1) (by simp) (Ai (n:=1) (off:=0) (by simp) (DA))))
instance ib (c:Atm):PA (eAtm c) 68 33 (eIdent c.parent):=Hy (UB c) (by simp)
instance jr (c:Atm) (x:Ident):Eg (eAtm c) 68 (eIdent x) (eAtm { c with parent:=x }):=by unfold eAtm;exact Af (n:=33) (off:=35) (by simp) (Af (n:=1) (off:=34) (by simp) (Af (n:=33) (off:=1) (by simp) (Af (n:=1) (off:=0) (by simp) (DH (by simp)))))
instance np (c:Atm) (x:Str):Eg (eAtm c) 101 [.str x] (eAtm { c with name:=x }):=by unfold eAtm;exact Af (n:=33) (off:=68) (by simp) (Af (n:=1) (off:=67) (by simp) (Af (n:=33) (off:=34) (by simp) (Af (n:=1) (off:=33) (by simp) (Af (n:=33) (off:=0) (by simp) (DH (by simp))))))
instance nq (c:Atm) (x:Int):Eg (eAtm c) 102 [.raw (.int .i64 x)] (eAtm { c with mode:=x }):=by unfold eAtm;exact Af (n:=33) (off:=69) (by simp) (Af (n:=1) (off:=68) (by simp) (Af (n:=33) (off:=35) (by simp) (Af (n:=1) (off:=34) (by simp) (Af (n:=33) (off:=1) (by simp) (Af (n:=1) (off:=0) (by simp) (DH (by simp)))))))
instance nu (c:Atm) (x:Str):Eg (eAtm c) 103 [.str x] (eAtm { c with data:=x }):=by unfold eAtm;exact Af (n:=33) (off:=70) (by simp) (Af (n:=1) (off:=69) (by simp) (Af (n:=33) (off:=36) (by simp) (Af (n:=1) (off:=35) (by simp) (Af (n:=33) (off:=2) (by simp) (Af (n:=1) (off:=1) (by simp) (Af (n:=1) (off:=0) (by simp) (DH (by simp))))))))
instance nm (c:Atm) (x:Str):Eg (eAtm c) 104 [.str x] (eAtm { c with text:=x }):=by unfold eAtm;exact Af (n:=33) (off:=71) (by simp) (Af (n:=1) (off:=70) (by simp) (Af (n:=33) (off:=37) (by simp) (Af (n:=1) (off:=36) (by simp) (Af (n:=33) (off:=3) (by simp) (Af (n:=1) (off:=2) (by simp) (Af (n:=1) (off:=1) (by simp) (Af (n:=1) (off:=0) (by simp) (DH (by simp)))))))))
instance Zk (c:Atm):Jc (eAtm c) 105 (eIdent c.src):=by unfold eAtm;exact Ai (n:=33) (off:=72) (by simp) (Ai (n:=1) (off:=71) (by simp) (Ai (n:=33) (off:=38) (by simp) (Ai (n:=1) (off:=37) (by simp) (Ai (n:=33) (off:=4) (by simp) (Ai (n:=1) (off:=3) (by simp) (Ai (n:=1) (off:=2) (by simp) (Ai (n:=1) (off:=1) (by simp) (Ai (n:=1) (off:=0) (by simp) (DA)))))))))
instance qN (c:Atm):PA (eAtm c) 105 33 (eIdent c.src):=Hy (Zk c) (by simp)
instance qp (c:Atm) (x:Ident):Eg (eAtm c) 105 (eIdent x) (eAtm { c with src:=x }):=by unfold eAtm;exact Af (n:=33) (off:=72) (by simp) (Af (n:=1) (off:=71) (by simp) (Af (n:=33) (off:=38) (by simp) (Af (n:=1) (off:=37) (by simp) (Af (n:=33) (off:=4) (by simp) (Af (n:=1) (off:=3) (by simp) (Af (n:=1) (off:=2) (by simp) (Af (n:=1) (off:=1) (by simp) (Af (n:=1) (off:=0) (by simp) (DH (by simp))))))))))
instance Zl (c:Atm):Jc (eAtm c) 138 (eIdent c.dst):=by unfold eAtm;exact Ai (n:=33) (off:=105) (by simp) (Ai (n:=1) (off:=104) (by simp) (Ai (n:=33) (off:=71) (by simp) (Ai (n:=1) (off:=70) (by simp) (Ai (n:=33) (off:=37) (by simp) (Ai (n:=1) (off:=36) (by simp) (Ai (n:=1) (off:=35) (by simp) (Ai (n:=1) (off:=34) (by simp) (Ai (n:=1) (off:=33) (by simp) (Ai (n:=33) (off:=0) (by simp) (DA))))))))))
instance qO (c:Atm):PA (eAtm c) 138 33 (eIdent c.dst):=Hy (Zl c) (by simp)
instance qq (c:Atm) (x:Ident):Eg (eAtm c) 138 (eIdent x) (eAtm { c with dst:=x }):=by unfold eAtm;exact Af (n:=33) (off:=105) (by simp) (Af (n:=1) (off:=104) (by simp) (Af (n:=33) (off:=71) (by simp) (Af (n:=1) (off:=70) (by simp) (Af (n:=33) (off:=37) (by simp) (Af (n:=1) (off:=36) (by simp) (Af (n:=1) (off:=35) (by simp) (Af (n:=1) (off:=34) (by simp) (Af (n:=1) (off:=33) (by simp) (Af (n:=33) (off:=0) (by simp) (DH (by simp)))))))))))
instance Xc (c:Atm):Jc (eAtm c) 171 [.slice ((c.over).map eIdent) .ro]:=by unfold eAtm;exact Ai (n:=33) (off:=138) (by simp) (Ai (n:=1) (off:=137) (by simp) (Ai (n:=33) (off:=104) (by simp) (Ai (n:=1) (off:=103) (by simp) (Ai (n:=33) (off:=70) (by simp) (Ai (n:=1) (off:=69) (by simp) (Ai (n:=1) (off:=68) (by simp) (Ai (n:=1) (off:=67) (by simp) (Ai (n:=1) (off:=66) (by simp) (Ai (n:=33) (off:=33) (by simp) (Ai (n:=33) (off:=0) (by simp) (Jk)))))))))))
instance rh (c:Atm):At (eAtm c) 171 (.slice ((c.over).map eIdent) .ro):=GX (Xc c)
instance nn (c:Atm) (x:List Ident):Eg (eAtm c) 171 [.slice ((x).map eIdent) .ro] (eAtm { c with over:=x }):=by unfold eAtm;exact Af (n:=33) (off:=138) (by simp) (Af (n:=1) (off:=137) (by simp) (Af (n:=33) (off:=104) (by simp) (Af (n:=1) (off:=103) (by simp) (Af (n:=33) (off:=70) (by simp) (Af (n:=1) (off:=69) (by simp) (Af (n:=1) (off:=68) (by simp) (Af (n:=1) (off:=67) (by simp) (Af (n:=1) (off:=66) (by simp) (Af (n:=33) (off:=33) (by simp) (Af (n:=33) (off:=0) (by simp) (Kd (by simp))))))))))))
structure Bis where
 left:List Dig
 asked:List Dig
 bad:List Bool
 deriving DecidableEq
def xl (c:Bis):List PV:= [.slice ((c.left).map eDig) .ro]++([.slice ((c.asked).map eDig) .ro]++([.slice ((c.bad).map eB) .ro]))
@[simp] theorem xU (c:Bis):(xl c).length=3:=by unfold xl;simp
inductive Sx where
 |mk (isList:Bool) (atom:Str) (list:List Sx)
def Sx.isList:Sx→Bool| .mk b _ _=>b
def Sx.atom:Sx→Str| .mk _ a _=>a
def Sx.list:Sx→List Sx| .mk _ _ l=>l
def Sx.zero:Sx:= .mk false [] []
mutual
def eSx:Sx→List PV
 | .mk b a l=> [.raw (.bool b),.str a,.slice (ky l) .ro]
def ky:List Sx→List (List PV)
 | []=> []
 |x::l=>eSx x::ky l
end
theorem dq: ∀ l:List Sx,ky l=l.map eSx
 | []=>by simp[ky]
 |x::l=>by simp[ky,dq l]
theorem Fj (x:Sx):eSx x= [.raw (.bool x.isList),.str x.atom,.slice (x.list.map eSx) .ro]:=by
 cases x;simp[eSx,dq,Sx.isList,Sx.atom,Sx.list]
@[simp] theorem oV (x:Sx):(eSx x).length=3:=by rw[Fj];rfl
instance :MZ eSx 3:=⟨oV⟩
instance (c:Sx):Di (eSx c):=by rw[Fj];infer_instance
instance :Js eSx:=⟨fun c=>(inferInstance:Di (eSx c)).out⟩
instance (c:Sx):Fw (.agg (eSx c)) eSx c:=⟨Cw.agg _⟩
instance mJ (c:Sx):Jc (eSx c) 0 [.raw (.bool c.isList)]:=⟨by rw[Fj];simp⟩
instance pg (c:Sx):At (eSx c) 0 (.raw (.bool c.isList)):=⟨by rw[Fj];simp⟩
instance rE (c:Sx):Jc (eSx c) 1 [.str c.atom]:=⟨by rw[Fj];simp⟩
instance uU (c:Sx):At (eSx c) 1 (.str c.atom):=⟨by rw[Fj];simp⟩
instance rB (c:Sx):Jc (eSx c) 2 [.slice (c.list.map eSx) .ro]:=⟨by rw[Fj];simp⟩
instance uR (c:Sx):At (eSx c) 2 (.slice (c.list.map eSx) .ro):=⟨by rw[Fj];simp⟩
instance mG (c:Sx) (x:Bool):Eg (eSx c) 0 [.raw (.bool x)] (eSx (.mk x c.atom c.list)):=⟨by rw[Fj,Fj];simp[Sx.isList,Sx.atom,Sx.list]⟩
instance qm (c:Sx) (x:Str):Eg (eSx c) 1 [.str x] (eSx (.mk c.isList x c.list)):=⟨by rw[Fj,Fj];simp[Sx.isList,Sx.atom,Sx.list]⟩
instance ql (c:Sx) (x:List Sx):Eg (eSx c) 2 [.slice (x.map eSx) .ro] (eSx (.mk c.isList c.atom x)):=⟨by rw[Fj,Fj];simp[Sx.isList,Sx.atom,Sx.list]⟩
end Go.Q
