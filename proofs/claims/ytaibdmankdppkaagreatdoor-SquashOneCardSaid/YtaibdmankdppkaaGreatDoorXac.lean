/- The small logic, twelfth text: structs built, variables laid, slices cut, strings. Library, no statement of its own. -/
import Derived.Test.YtaibdmankdppkaaGreatDoorXab
set_option linter.unusedSimpArgs false
set_option linter.unusedVariables false
namespace Go.Q
open Go
class Cj (P:Program) (T:Nat):Prop where
 out: ∃ fs,P.underlying T=some (.struct fs)∧ ∀ f∈fs,∃ i,P.info? f.type=some i
class BZ (P:Program) (S k:Nat) (off sz:outParam Nat):Prop where
 out: ∃ fs f i,P.underlying S=some (.struct fs)∧fs[k]? =some f∧f.offset=off∧P.info? f.type=some i∧i.size=sz
class Cq (P:Program) (T:Nat) (z:outParam (List PV)):Prop where
 out: ∃ (i:TypeInfo) (v:Value) (us:List Value),P.info? T=some i∧i.zero=some v∧v.cells=us.toArray∧ ∀ g,EB g us z
inductive ku:List PV→List (Nat × Operand × Nat × List PV)→List PV→Prop
 |nil {cs:List PV}:ku cs [] cs
 |cons {cs cs' r new:List PV} {k off:Nat} {x:Operand} {ps:List (Nat × Operand × Nat × List PV)} (h:cs.take off++new++cs.drop (off+new.length)=cs') (hl:off+new.length≤cs.length) (hs:ku cs' ps r):ku cs ((k,x,off,new)::ps) r
section
variable {P:Program} {N:Nat} {all:Array Oper} {K:Env→List Res→Prop} {fl:List Bool} {os:List Oper} {ρ:Env} {L:List Res}
variable {d:Nat} {ty:TypeId} {pos:String} {af:Array Edge}
theorem VU {g:Gh} {a:Act} {place:Nat→Option (Nat × Nat)}: ∀ {ps:List (Nat × Operand × Nat × List PV)} {cs r:List PV} {us:List Value},ku cs ps r→EB g us cs→
  (∀ p∈ps,∃ s,place p.1=some (p.2.2.1,s)∧p.2.2.2.length=s∧ ∃ vs:List Value,(a.eval p.2.1).cells=vs.toArray∧EB g vs p.2.2.2)→
  ∃ vs:List Value,Instr.fill place us.toArray (ps.map fun p=>(p.1,a.eval p.2.1))=some vs.toArray∧EB g vs r
 | [],_,_,us,.nil,hu,_=>⟨us,rfl,hu⟩
 |(k,x,off,new)::ps,cs,r,us,.cons h hl hs,hu,hp=>by
  obtain⟨s,h1,h2,vs,h3,h4⟩:=hp (k,x,off,new) (by simp)
  simp only at h1 h2 h3 h4
  simp only[Aq]
  rw[VV h1 h3 (by rw[h4.len,h2]) (by rw[h4.len,hu.len];exact hl)]
  refine VU hs ?_ (fun p hp'=>hp p (AI _ hp'))
  rw[←h,←h4.len]
  exact((hu.take off).append h4).append (hu.drop _)
theorem Yh {fs:List Field} (w:World) (h: ∀ f∈fs,∃ i,P.info? f.type=some i):(fs.mapM (m:=Sem) fun f=>do pure (f.offset,←sizeOf f.type)).run P w= .ok (fs.map fun f=>(f.offset,P.cellsOf f.type)) w:=by
 induction fs with
 |nil=>rfl
 |cons f fs ih=>
  obtain⟨i,hi⟩:=h f (by simp)
  have hf:(sizeOf f.type).run P w= .ok (P.cellsOf f.type) w:=by
   simp only[Sem.run_bind,sizeOf,typeInfo,run_program,hi,Sem.run_pure,Result.andThen_ok,Program.cellsOf,Gx,Br]
  rw[List.mapM_cons]
  simp only[Sem.run_bind,hf,ih (fun f hf=>h f (by simp[hf])),Sem.run_pure,Result.andThen_ok,Aq]
theorem JE {T:Nat} [hS:Cj P T] {z r:List PV} [hZ:Cq P T z] {parts:List (Nat × Operand)} {ps:List (Nat × Operand × Nat × List PV)} {dst:Option Nat} {gd:Option (Nat × Bool)} (hps:parts=ps.map fun p=>(p.1,p.2.1))
  (hp: ∀ p∈ps,∃ s,(∃ fs f i,P.underlying T=some (.struct fs)∧fs[p.1]? =some f∧f.offset=p.2.2.1∧P.info? f.type=some i∧i.size=s)∧Dm (ρ.ev p.2.1) p.2.2.2∧p.2.2.2.length=s) (hr:ku z ps r):
  fk P ⟨dst,.build T parts.toArray,ty,pos,af,gd⟩ ρ L (.agg r):=BC fun a w g ha hi=>by
 obtain⟨fs,hu,hall⟩:=hS.out
 obtain⟨i,v,us,h1,h2,h3,h4⟩:=hZ.out
 have hmem: ∀ p∈ps,p.2.1∈(Op.build T parts.toArray).operands:=fun p hp'=>by
  unfold Op.operands
  simp only[hps,CK,List.mem_toArray,AO]
  exact⟨p,hp',rfl⟩
 obtain⟨vs,hf,hvs⟩:=VU (g:=g) (a:=a) (place:=fun k=>((fs.toList.map fun f=>(f.offset,P.cellsOf f.type)).toArray)[k]?) hr (h4 g) (fun p hp'=>by
  obtain⟨s,⟨fs',f,j,e1,e2,e3,e4,e5⟩,hc,hl⟩:=hp p hp'
  rw[hu]at e1
  injection e1 with e1
  injection e1 with e1
  subst e1
  obtain⟨vs,hv1,hv2⟩:=hc g _ (ha _ (hmem p hp'))
  refine⟨s,?_,hl,vs,hv1,hv2⟩
  simp[e2,e3,Program.cellsOf,e4,e5])
 refine⟨.agg vs.toArray,?_,hvs.agg⟩
 have hparts:((parts.toArray).map fun(p:Nat × Operand)=>(p.1,a.eval p.2)).toList=ps.map fun p=>(p.1,a.eval p.2.1):=by
  simp[hps]
 have hpl:(fs.mapM (m:=Sem) fun f=>do pure (f.offset,←sizeOf f.type)).run P w= .ok ((fs.toList.map fun f=>(f.offset,P.cellsOf f.type)).toArray) w:=by
  obtain⟨fs⟩:=fs
  rw[List.mapM_toArray,Sem.run_map,Yh w (by simpa using hall)]
  simp
 show(do pure (Next.value (←Instr.build T ((parts.toArray).map fun(p:Nat × Operand)=>(p.1,a.eval p.2)))):Sem Next).run P w=_
 simp only[Instr.build,Sem.run_bind,zeroValue,typeInfo,run_program,h1,Sem.run_pure,Result.andThen_ok,h2,run_underlying hu,hpl,hparts,h3,hf]
theorem CC {T:Nat} {z:List PV} [hZ:Cq P T z] (k: ∀ b,AQ P N all K fl.tail os (CT ρ d (.raw (.pointer (some ⟨b,0,none⟩)))) (.box b T z::L)) (hd:Nat.blt d N=true:=by rfl) (hf:fl.headD true=true:=by rfl):
  AQ P N all K fl (⟨some d,.alloc T,ty,pos,af,none⟩::os) ρ L:=
 Dd rfl (PA hd) hf (fun a w g ha hi=>by
  obtain⟨i,v,us,h1,h2,h3,h4⟩:=hZ.out
  obtain⟨i1,i2,i3⟩:=hi.alloc (h4 g) T
  have hr:(execOp a.eval ⟨some d,.alloc T,ty,pos,af,none⟩).run P w= .ok (.value (.pointer (some ⟨w.heap.size,0,none⟩))) { w with heap:=w.heap.push (.cells us.toArray T (0,0)) }:=by
   simp only[execOp,Instr.alloc,zeroValue,typeInfo,Sem.run_bind,run_program,h1,h2,Sem.run_pure,Result.andThen_ok,newVar,newRow,h3,run_newObj]
  refine Oper.wq_of_run hr ?_
  exact⟨_,_,g,_,rfl,.raw _,i1,i2,i3,k _⟩)
theorem Q4 {T:TypeId} {x y:Operand} {b sz by_:Nat} {cs new:List PV} {L':List Res} [hT:Ed P T sz by_]
  (hx:ρ.ev x= .raw (.pointer (some ⟨b,0,none⟩))) (hy:ρ.ev y= .agg new) (hu:om b cs new L L') [hf:E3 new] (hlen:new.length=sz) (hcs:cs.length=sz)
  (k:AQ P N all K fl.tail os ρ L') (hfl:fl.headD true=true:=by rfl):AQ P N all K fl (⟨none,.store T x y,ty,pos,af,none⟩::os) ρ L:=
 Dd rfl (fun _ e=>by cases e) hfl (JG hx (fun g v hv=>by
  rw[hy]at hv
  obtain⟨vs,rfl,h⟩:=hv.agg_inv
  exact⟨vs,rfl,h⟩) hlen hf.out (by simp[DB (show cs.length≤new.length by omega)]) (by omega) hu k)
theorem WH {T E sz by_:Nat} [hT:ML P T E] [hE:Ed P E sz by_] {x:Operand} {lo hi:Option Operand} {xs:List (List PV)} {t:CN} {dst:Option Nat} {gd:Option (Nat × Bool)} (i j:Nat) (hx:ρ.ev x= .slice xs t) (hij:i≤j) (hj:j≤xs.length) (hs: ∀ e∈xs,e.length=sz)
  (hlo: ∀ o,lo=some o→ ∃ k,ρ.ev o= .raw (.int k i)) (hlo':lo=none→i=0) (hhi: ∀ o,hi=some o→ ∃ k,ρ.ev o= .raw (.int k j)) (hhi':hi=none→j=xs.length):
  fk P ⟨dst,.slice T x lo hi none,ty,pos,af,gd⟩ ρ L (.slice ((xs.drop i).take (j - i)) .ro):=BC fun a w g ha hI=>by
 have h1:=ha x (by simp[Op.operands]);rw[hx]at h1
 obtain⟨base,cap,e1,hcap,hmx,hnone,_,_,us,hus,hcell⟩:=h1.slice_cells hs
 have hsub: ∀ e∈(xs.drop i).take (j - i),e.length=sz:=fun e he=>hs e (JO (Ek he))
 have hul:us.length=xs.length*sz:=by rw[hus.len,Df hs]
 have hlen:((xs.drop i).take (j - i)).length=j - i:=by simp;omega
 have hbl: ∀ o,lo=some o→ ∃ k,a.eval o= .int k i:=fun o e=>by
  obtain⟨k,hk⟩:=hlo o e
  exact⟨k,Ca ha (by simp[Op.operands,e]) hk⟩
 have hbh: ∀ o,hi=some o→ ∃ k,a.eval o= .int k j:=fun o e=>by
  obtain⟨k,hk⟩:=hhi o e
  exact⟨k,Ca ha (by simp[Op.operands,e]) hk⟩
 have hbounds:(Instr.sliceBounds true xs.length cap (lo.map a.eval) (hi.map a.eval) none).run P w= .ok (i,j,cap) w:=by
  unfold Instr.sliceBounds
  cases lo with
  |none=>
   have:=hlo' rfl;subst this
   cases hi with
   |none=>have:=hhi' rfl;subst this;simp
   |some o=>
    obtain⟨k,hk⟩:=hbh o rfl
    simp[hk,Instr.sliceBound,asIntOf]
    omega
  |some o=>
   obtain⟨k,hk⟩:=hbl o rfl
   cases hi with
   |none=>
    have:=hhi' rfl;subst this
    simp[hk,Instr.sliceBound,asIntOf]
    omega
   |some o'=>
    obtain⟨k',hk'⟩:=hbh o' rfl
    simp[hk,hk',Instr.sliceBound,asIntOf]
    rw[if_pos (by omega)]
    simp
    omega
 have hr:(execOp a.eval ⟨dst,.slice T x lo hi none,ty,pos,af,gd⟩).run P w= .ok (.value (.slice (if cap=i then base else base.map (·.add (i*sz))) (j - i) (cap - i))) w:=by
  show(do pure (Next.value (←Instr.sliceAt T (a.eval x) (lo.map a.eval) (hi.map a.eval) none)):Sem Next).run P w=_
  simp only[Instr.sliceAt,Sem.run_bind,run_underlying hT.out,Result.andThen_ok,Instr.slice,e1,hbounds,Ed.run hE,Sem.run_pure]
 refine⟨_,hr,?_⟩
 cases base with
 |none=>
  obtain⟨rfl,rfl⟩:=hnone rfl
  simp at hj
  have hj0:j=0:=by omega
  have hi0:i=0:=by omega
  subst hj0 hi0
  simpa using VR.nilR (g:=g) (o:=none)
 |some ad=>
  obtain⟨b,o,s⟩:=ad
  obtain⟨hs',hH⟩:=hcell _ rfl
  rcases hs' with ⟨e3,e4⟩|hs'
  ·subst e3 e4
   simp only[Af,Nat.le_zero]at hj
   subst hj
   have hi0:i=0:=by omega
   subst hi0
   simpa using VR.nilR (g:=g) (o:=some ⟨b,o,s⟩)
  simp only at hs'
  subst hs'
  have hfl:((xs.drop i).take (j - i)).flatten=(xs.flatten.drop (i*sz)).take ((j - i)*sz):=by
   have d1: ∀ (n:Nat) (ys:List (List PV)),(∀ e∈ys,e.length=sz)→(ys.drop n).flatten=ys.flatten.drop (n*sz):=by
    intro n
    induction n with
    |zero=>intro ys _;simp
    |succ n ih=>
     intro ys hy
     cases ys with
     |nil=>simp
     |cons y ys=>
      simp only[Za,Cf]
      rw[ih ys (fun e he=>hy e (by simp[he])),C3,lY,LQ,←LV]
      rw[pF (hy y (by simp))]
   have d2: ∀ (n:Nat) (ys:List (List PV)),(∀ e∈ys,e.length=sz)→(ys.take n).flatten=ys.flatten.take (n*sz):=by
    intro n
    induction n with
    |zero=>intro ys _;simp
    |succ n ih=>
     intro ys hy
     cases ys with
     |nil=>simp
     |cons y ys=>
      simp only[Oi,Cf]
      rw[ih ys (fun e he=>hy e (by simp[he])),C3,lY,LQ,←hy y (by simp),Ox]
   rw[d2 _ _ (fun e he=>hs e (JO he)),d1 _ _ hs]
  have hus2:EB g ((us.drop (i*sz)).take ((j - i)*sz)) ((xs.drop i).take (j - i)).flatten:=by rw[hfl];exact(hus.drop _).take _
  by_cases hci:cap=i
  ·have hj0:j - i=0:=by omega
   rw[if_pos hci,hj0]
   have:=VR.of_cells (g:=g) (xs:=(xs.drop i).take 0) (t:= .ro) (sz:=sz) (b:=b) (off:=o) (cap:=cap - i) (by simp) (by simp) ⟨by simp,by simp⟩ (us:= []) (by simpa using EB.nil g) (by simp) (by simp) (by simp)
   simpa using this
  ·rw[if_neg hci]
   have:=VR.of_cells (g:=g) (xs:=(xs.drop i).take (j - i)) (t:= .ro) (sz:=sz) (b:=b) (off:=o+i*sz) (cap:=cap - i) hsub (by omega) ⟨by have:=hmx.1;omega,CX (B8 _ (by omega)) hmx.2⟩ hus2 (fun k hk=>by
    have hk':k < (j - i)*sz:=by simp at hk;omega
    have hlt:i*sz+k < us.length:=by
     rw[hul]
     have h2:j*sz≤xs.length*sz:=B8 _ hj
     have h3:(j - i)*sz+i*sz=j*sz:=by rw[←C3];congr 1;omega
     omega
    rw[EJ,hH _ hlt]
    simp) (by simp) (by simp)
   rw[hlen]at this
   simpa [Dq]using this
theorem iM {T E sz by_:Nat} [hT:ML P T E] [hE:Ed P E sz by_] {x y:Operand} {α:Type} {f:α→List PV} [hf:NR f sz] {l:List α} {t:CN} {kk:IntKind} {i:Nat} (hx:ρ.ev x= .slice (l.map f) t) (hy:ρ.ev y= .raw (.int kk (i:Int))) (hi:i≤l.length)
  (k:AQ P N all K fl.tail os (CT ρ d (.slice ((l.drop i).map f) .ro)) L) (hd:Nat.blt d N=true:=by rfl):AQ P N all K fl (⟨some d,.slice T x (some y) none none,ty,pos,af,none⟩::os) ρ L:=
 Bh hd (WH i l.length hx hi (by simp) (fun e he=>by obtain⟨a,_,rfl⟩:=AO.1 he;exact hf.out a) (fun o e=>by cases e;exact⟨_,hy⟩) (by simp) (by simp) (by simp)) (by
  rw[AE (by simp),←List.map_drop];exact k)
theorem iQ {T E sz by_:Nat} [hT:ML P T E] [hE:Ed P E sz by_] {x y:Operand} {α:Type} {f:α→List PV} [hf:NR f sz] {l:List α} {t:CN} {kk:IntKind} {j:Nat} (hx:ρ.ev x= .slice (l.map f) t) (hy:ρ.ev y= .raw (.int kk (j:Int))) (hj:j≤l.length)
  (k:AQ P N all K fl.tail os (CT ρ d (.slice ((l.take j).map f) .ro)) L) (hd:Nat.blt d N=true:=by rfl):AQ P N all K fl (⟨some d,.slice T x none (some y) none,ty,pos,af,none⟩::os) ρ L:=
 Bh hd (WH 0 j hx (by omega) (by simpa using hj) (fun e he=>by obtain⟨a,_,rfl⟩:=AO.1 he;exact hf.out a) (by simp) (by simp) (fun o e=>by cases e;exact⟨_,hy⟩) (by simp)) (by
  simp only[LU,yi,←xD];exact k)
theorem iZ {T f0 o0 s0:Nat} {x0:Operand} {z c0 r0:List PV} [hS:Cj P T] [hZ:Cq P T z] [hF0:BZ P T f0 o0 s0] [hP0:FB z o0 c0 r0] (h0:Dm (ρ.ev x0) c0) (hl0:c0.length=s0)
  (k:AQ P N all K fl.tail os (CT ρ d (.agg r0)) L) (hd:Nat.blt d N=true:=by rfl):AQ P N all K fl (⟨some d,.build T #[(f0,x0)],ty,pos,af,none⟩::os) ρ L:=
 Bh hd (JE (ps:= [(f0,x0,o0,c0)]) rfl (by
  intro p hp
  simp only[AH,Ah,or_false]at hp
  rcases hp with rfl
  ·exact⟨s0,hF0.out,h0,hl0⟩) (.cons hP0.out.1 hP0.out.2 (.nil))) k
theorem Y2 {T f0 f1 o0 o1 s0 s1:Nat} {x0 x1:Operand} {z c0 c1 r0 r1:List PV} [hS:Cj P T] [hZ:Cq P T z] [hF0:BZ P T f0 o0 s0] [hF1:BZ P T f1 o1 s1] [hP0:FB z o0 c0 r0] [hP1:FB r0 o1 c1 r1] (h0:Dm (ρ.ev x0) c0) (h1:Dm (ρ.ev x1) c1) (hl0:c0.length=s0) (hl1:c1.length=s1)
  (k:AQ P N all K fl.tail os (CT ρ d (.agg r1)) L) (hd:Nat.blt d N=true:=by rfl):AQ P N all K fl (⟨some d,.build T #[(f0,x0),(f1,x1)],ty,pos,af,none⟩::os) ρ L:=
 Bh hd (JE (ps:= [(f0,x0,o0,c0),(f1,x1,o1,c1)]) rfl (by
  intro p hp
  simp only[AH,Ah,or_false]at hp
  rcases hp with rfl|rfl
  ·exact⟨s0,hF0.out,h0,hl0⟩
  ·exact⟨s1,hF1.out,h1,hl1⟩) (.cons hP0.out.1 hP0.out.2 (.cons hP1.out.1 hP1.out.2 (.nil)))) k
theorem Sj {T f0 f1 f2 o0 o1 o2 s0 s1 s2:Nat} {x0 x1 x2:Operand} {z c0 c1 c2 r0 r1 r2:List PV} [hS:Cj P T] [hZ:Cq P T z] [hF0:BZ P T f0 o0 s0] [hF1:BZ P T f1 o1 s1] [hF2:BZ P T f2 o2 s2] [hP0:FB z o0 c0 r0] [hP1:FB r0 o1 c1 r1] [hP2:FB r1 o2 c2 r2] (h0:Dm (ρ.ev x0) c0) (h1:Dm (ρ.ev x1) c1) (h2:Dm (ρ.ev x2) c2) (hl0:c0.length=s0) (hl1:c1.length=s1) (hl2:c2.length=s2)
  (k:AQ P N all K fl.tail os (CT ρ d (.agg r2)) L) (hd:Nat.blt d N=true:=by rfl):AQ P N all K fl (⟨some d,.build T #[(f0,x0),(f1,x1),(f2,x2)],ty,pos,af,none⟩::os) ρ L:=
 Bh hd (JE (ps:= [(f0,x0,o0,c0),(f1,x1,o1,c1),(f2,x2,o2,c2)]) rfl (by
  intro p hp
  simp only[AH,Ah,or_false]at hp
  rcases hp with rfl|rfl|rfl
  ·exact⟨s0,hF0.out,h0,hl0⟩
  ·exact⟨s1,hF1.out,h1,hl1⟩
  ·exact⟨s2,hF2.out,h2,hl2⟩) (.cons hP0.out.1 hP0.out.2 (.cons hP1.out.1 hP1.out.2 (.cons hP2.out.1 hP2.out.2 (.nil))))) k
theorem iY {T f0 f1 f2 f3 o0 o1 o2 o3 s0 s1 s2 s3:Nat} {x0 x1 x2 x3:Operand} {z c0 c1 c2 c3 r0 r1 r2 r3:List PV} [hS:Cj P T] [hZ:Cq P T z] [hF0:BZ P T f0 o0 s0] [hF1:BZ P T f1 o1 s1] [hF2:BZ P T f2 o2 s2] [hF3:BZ P T f3 o3 s3] [hP0:FB z o0 c0 r0] [hP1:FB r0 o1 c1 r1] [hP2:FB r1 o2 c2 r2] [hP3:FB r2 o3 c3 r3] (h0:Dm (ρ.ev x0) c0) (h1:Dm (ρ.ev x1) c1) (h2:Dm (ρ.ev x2) c2) (h3:Dm (ρ.ev x3) c3) (hl0:c0.length=s0) (hl1:c1.length=s1) (hl2:c2.length=s2) (hl3:c3.length=s3)
  (k:AQ P N all K fl.tail os (CT ρ d (.agg r3)) L) (hd:Nat.blt d N=true:=by rfl):AQ P N all K fl (⟨some d,.build T #[(f0,x0),(f1,x1),(f2,x2),(f3,x3)],ty,pos,af,none⟩::os) ρ L:=
 Bh hd (JE (ps:= [(f0,x0,o0,c0),(f1,x1,o1,c1),(f2,x2,o2,c2),(f3,x3,o3,c3)]) rfl (by
  intro p hp
  simp only[AH,Ah,or_false]at hp
  rcases hp with rfl|rfl|rfl|rfl
  ·exact⟨s0,hF0.out,h0,hl0⟩
  ·exact⟨s1,hF1.out,h1,hl1⟩
  ·exact⟨s2,hF2.out,h2,hl2⟩
  ·exact⟨s3,hF3.out,h3,hl3⟩) (.cons hP0.out.1 hP0.out.2 (.cons hP1.out.1 hP1.out.2 (.cons hP2.out.1 hP2.out.2 (.cons hP3.out.1 hP3.out.2 (.nil)))))) k
theorem iX {T f0 f1 f2 f3 f4 o0 o1 o2 o3 o4 s0 s1 s2 s3 s4:Nat} {x0 x1 x2 x3 x4:Operand} {z c0 c1 c2 c3 c4 r0 r1 r2 r3 r4:List PV} [hS:Cj P T] [hZ:Cq P T z] [hF0:BZ P T f0 o0 s0] [hF1:BZ P T f1 o1 s1] [hF2:BZ P T f2 o2 s2] [hF3:BZ P T f3 o3 s3] [hF4:BZ P T f4 o4 s4] [hP0:FB z o0 c0 r0] [hP1:FB r0 o1 c1 r1] [hP2:FB r1 o2 c2 r2] [hP3:FB r2 o3 c3 r3] [hP4:FB r3 o4 c4 r4] (h0:Dm (ρ.ev x0) c0) (h1:Dm (ρ.ev x1) c1) (h2:Dm (ρ.ev x2) c2) (h3:Dm (ρ.ev x3) c3) (h4:Dm (ρ.ev x4) c4) (hl0:c0.length=s0) (hl1:c1.length=s1) (hl2:c2.length=s2) (hl3:c3.length=s3) (hl4:c4.length=s4)
  (k:AQ P N all K fl.tail os (CT ρ d (.agg r4)) L) (hd:Nat.blt d N=true:=by rfl):AQ P N all K fl (⟨some d,.build T #[(f0,x0),(f1,x1),(f2,x2),(f3,x3),(f4,x4)],ty,pos,af,none⟩::os) ρ L:=
 Bh hd (JE (ps:= [(f0,x0,o0,c0),(f1,x1,o1,c1),(f2,x2,o2,c2),(f3,x3,o3,c3),(f4,x4,o4,c4)]) rfl (by
  intro p hp
  simp only[AH,Ah,or_false]at hp
  rcases hp with rfl|rfl|rfl|rfl|rfl
  ·exact⟨s0,hF0.out,h0,hl0⟩
  ·exact⟨s1,hF1.out,h1,hl1⟩
  ·exact⟨s2,hF2.out,h2,hl2⟩
  ·exact⟨s3,hF3.out,h3,hl3⟩
  ·exact⟨s4,hF4.out,h4,hl4⟩) (.cons hP0.out.1 hP0.out.2 (.cons hP1.out.1 hP1.out.2 (.cons hP2.out.1 hP2.out.2 (.cons hP3.out.1 hP3.out.2 (.cons hP4.out.1 hP4.out.2 (.nil))))))) k
theorem iW {T f0 f1 f2 f3 f4 f5 o0 o1 o2 o3 o4 o5 s0 s1 s2 s3 s4 s5:Nat} {x0 x1 x2 x3 x4 x5:Operand} {z c0 c1 c2 c3 c4 c5 r0 r1 r2 r3 r4 r5:List PV} [hS:Cj P T] [hZ:Cq P T z] [hF0:BZ P T f0 o0 s0] [hF1:BZ P T f1 o1 s1] [hF2:BZ P T f2 o2 s2] [hF3:BZ P T f3 o3 s3] [hF4:BZ P T f4 o4 s4] [hF5:BZ P T f5 o5 s5] [hP0:FB z o0 c0 r0] [hP1:FB r0 o1 c1 r1] [hP2:FB r1 o2 c2 r2] [hP3:FB r2 o3 c3 r3] [hP4:FB r3 o4 c4 r4] [hP5:FB r4 o5 c5 r5] (h0:Dm (ρ.ev x0) c0) (h1:Dm (ρ.ev x1) c1) (h2:Dm (ρ.ev x2) c2) (h3:Dm (ρ.ev x3) c3) (h4:Dm (ρ.ev x4) c4) (h5:Dm (ρ.ev x5) c5) (hl0:c0.length=s0) (hl1:c1.length=s1) (hl2:c2.length=s2) (hl3:c3.length=s3) (hl4:c4.length=s4) (hl5:c5.length=s5)
  (k:AQ P N all K fl.tail os (CT ρ d (.agg r5)) L) (hd:Nat.blt d N=true:=by rfl):AQ P N all K fl (⟨some d,.build T #[(f0,x0),(f1,x1),(f2,x2),(f3,x3),(f4,x4),(f5,x5)],ty,pos,af,none⟩::os) ρ L:=
 Bh hd (JE (ps:= [(f0,x0,o0,c0),(f1,x1,o1,c1),(f2,x2,o2,c2),(f3,x3,o3,c3),(f4,x4,o4,c4),(f5,x5,o5,c5)]) rfl (by
  intro p hp
  simp only[AH,Ah,or_false]at hp
  rcases hp with rfl|rfl|rfl|rfl|rfl|rfl
  ·exact⟨s0,hF0.out,h0,hl0⟩
  ·exact⟨s1,hF1.out,h1,hl1⟩
  ·exact⟨s2,hF2.out,h2,hl2⟩
  ·exact⟨s3,hF3.out,h3,hl3⟩
  ·exact⟨s4,hF4.out,h4,hl4⟩
  ·exact⟨s5,hF5.out,h5,hl5⟩) (.cons hP0.out.1 hP0.out.2 (.cons hP1.out.1 hP1.out.2 (.cons hP2.out.1 hP2.out.2 (.cons hP3.out.1 hP3.out.2 (.cons hP4.out.1 hP4.out.2 (.cons hP5.out.1 hP5.out.2 (.nil)))))))) k
end
class B4 (p:Prop):Prop where
 out:p
theorem Dk {a b:List PV}:Km (a++b) 0 a:=⟨by simp⟩
theorem MF {a:List PV}:Km a 0 a:=⟨by simp⟩
theorem Al {a b r:List PV} {n off:Nat} (ha:a.length=n) (h:Km b off r):Km (a++b) (n+off) r:=⟨by
 obtain⟨h1,h2⟩:=h.out
 subst ha
 constructor
 ·rw[Oy];exact h1
 ·simp;omega⟩
theorem K5 {cs r:List PV} {off n:Nat} (h:Km cs off r) (hn:r.length=n):XX cs off n r:=⟨by
 obtain⟨h1,h2⟩:=h.out;subst hn;exact⟨h1,h2⟩⟩
theorem DE {a b new:List PV} (h:new.length=a.length):FB (a++b) 0 new (new++b):=⟨by simp[h]⟩
theorem Lv {a new:List PV} (h:new.length=a.length):FB a 0 new new:=⟨by simp[h]⟩
theorem Ae {a b r new:List PV} {n off:Nat} (ha:a.length=n) (h:FB b off new r):FB (a++b) (n+off) new (a++r):=⟨by
 obtain⟨h1,h2⟩:=h.out
 subst ha
 constructor
 ·rw[←h1,Ox,EJ,Oy];simp
 ·simp;omega⟩
theorem s6 {cs r r' new cs':List PV} {off io:Nat} (h:Km cs off r) (k:FB r io new r') (p:FB cs off r' cs'):FB cs (off+io) new cs':=⟨by
 obtain⟨h1,h2⟩:=h.out
 obtain⟨k1,k2⟩:=k.out
 obtain⟨p1,p2⟩:=p.out
 refine⟨?_,by omega⟩
 have hl:r'.length=r.length:=by rw[←k1];simp;omega
 rw[←p1,hl,←k1]
 have e1:List.take (off+io) cs=List.take off cs++List.take io r:=by
  rw[List.take_add,←h1,List.take_take,Cy (by omega)]
 have e2:List.drop (off+io+new.length) cs=List.drop (io+new.length) r++List.drop (off+r.length) cs:=by
  conv=>rhs;rw[←h1]
  rw[List.drop_take,LV,h1,EJ]
  conv=>lhs;rw[←C7 (r.length - (io+new.length)) (List.drop (off+(io+new.length)) cs)]
  rw[LV]
  congr 2;omega
 rw[e1,e2]
 simp⟩
def Dig.zero:Dig:=⟨List.replicate 32 0,rfl⟩
def Ident.zero:Ident:=⟨Dig.zero,0⟩
class E4 (x:PV) (cs:outParam (List PV)):Prop where
 out:Dm x cs
instance {cs:List PV}:E4 (.agg cs) cs:=⟨.agg cs⟩
instance {xs:List (List PV)} {t:CN}:E4 (.slice xs t) [.slice xs .ro]:=⟨.ro xs t⟩
instance {k:IntKind} {n:Int}:E4 (.raw (.int k n)) [.raw (.int k n)]:=⟨.one (E3.out)⟩
instance {b:Bool}:E4 (.raw (.bool b)) [.raw (.bool b)]:=⟨.one (E3.out)⟩
instance {s:Str}:E4 (.str s) [.str s]:=⟨.one (E3.out)⟩
instance {a:Option Addr}:E4 (.raw (.pointer a)) [.raw (.pointer a)]:=⟨.one (E3.out)⟩
instance {kvs:List (PV × PV)}:E4 (.fmap kvs) [.fmap kvs]:=⟨.one (E3.out)⟩
instance :E4 (.raw (.slice none 0 0)) [.slice [] .ro]:=⟨fun g v hv=>⟨[v],by cases hv;rfl,by cases hv;exact .cons .nilR (.nil g)⟩⟩
class Cx (cs:List PV) (n:outParam Nat):Prop where
 out:cs.length=n
instance (priority:=low) {α:Type} {f:α→List PV} {a:α} {n:Nat} [h:NR f n]:Cx (f a) n:=⟨h.out a⟩
instance {x:PV}:Cx [x] 1:=⟨rfl⟩
class GI {α:outParam Type} (x:PV) (f:outParam (α→List PV)) (a:outParam α):Prop where
 out:Dm x (f a)
instance (d:Dig):GI (.agg (eDig d)) eDig d:=⟨.agg _⟩
instance (d:Ident):GI (.agg (eIdent d)) eIdent d:=⟨.agg _⟩
instance (n:Int):GI (.raw (.int .i64 n)) eI n:=⟨.one (K2.out (f:=eI) n)⟩
instance :E4 (.raw (.string ⟨[].toArray⟩)) [.str []]:=⟨fun g v hv=>⟨[v],by cases hv;rfl,by cases hv;exact .cons (.str (by show 0≤maxN;decide)) (.nil g)⟩⟩
instance (a:UInt8):GI (.raw (.string ⟨[a].toArray⟩)) eS [a]:=⟨fun g v hv=>⟨[v],by cases hv;rfl,by cases hv;exact .cons (.str (by show 1≤maxN;decide)) (.nil g)⟩⟩
instance (a b c:UInt8):E4 (.raw (.string ⟨[a,b,c].toArray⟩)) [.str [a,b,c]]:=⟨fun g v hv=>⟨[v],by cases hv;rfl,by cases hv;exact .cons (.str (by show 3≤maxN;decide)) (.nil g)⟩⟩
def Le (x y:PV):Prop:= ∀ g v,VR g v x→VR g v y
theorem Le.refl (x:PV):Le x x:=fun _ _ h=>h
theorem Le.of_eq {x y:PV} (h:x=y):Le x y:=h ▸ .refl x
theorem Le.ro (xs:List (List PV)) (t:CN):Le (.slice xs t) (.slice xs .ro):=fun _ _ h=>h.ro
theorem Le.ros {xs ys:List (List PV)} {t:CN} (h:xs=ys):Le (.slice xs t) (.slice ys .ro):=h ▸ .ro xs t
theorem Le.nil:Le (.raw (.slice none 0 0)) (.slice [] .nil):=fun _ v h=>by cases h;exact .nilN none (by simp)
theorem Le.tuple {xs ys:List PV} (hl:xs.length=ys.length) (h: ∀ i (h1:i < xs.length) (h2:i < ys.length),Le xs[i] ys[i]):Le (.tuple xs) (.tuple ys):=fun g v hv=>by
 obtain⟨vs,rfl,h1⟩:=hv.tuple_inv
 exact EB.tuple ⟨h1.len.trans hl,fun i h2 h3=>h i (by omega) h3 g _ (h1.at_ i h2 (by omega))⟩
theorem Le.tuple2 {a b a' b':PV} (h1:Le a a') (h2:Le b b'):Le (.tuple [a,b]) (.tuple [a',b']):= .tuple rfl fun i h _=>by
 match i,h with
 |0,_=>exact h1
 |1,_=>exact h2
 |n+2,h=>simp at h;omega
theorem Le.tuple3 {a b c a' b' c':PV} (h1:Le a a') (h2:Le b b') (h3:Le c c'):Le (.tuple [a,b,c]) (.tuple [a',b',c']):= .tuple rfl fun i h _=>by
 match i,h with
 |0,_=>exact h1
 |1,_=>exact h2
 |2,_=>exact h3
 |n+3,h=>simp at h;omega
class Jl (x:PV) (y:outParam PV):Prop where
 out:Le x y
instance (priority:=low) (x:PV):Jl x x:=⟨.refl x⟩
instance :Jl (.raw (.slice none 0 0)) (.slice [] .nil):=⟨.nil⟩
instance :Jl (.raw (.string ⟨[].toArray⟩)) (.str []):=⟨fun g v hv=>by cases hv;exact .str (by show 0≤maxN;decide)⟩
instance (a:UInt8):Jl (.raw (.string ⟨[a].toArray⟩)) (.str [a]):=⟨fun g v hv=>by cases hv;exact .str (by show 1≤maxN;decide)⟩
instance (a b c d e f:UInt8):Jl (.raw (.string ⟨[a,b,c,d,e,f].toArray⟩)) (.str [a,b,c,d,e,f]):=⟨fun g v hv=>by cases hv;exact .str (by show 6≤maxN;decide)⟩
class K1 (x:PV) (s:outParam Str):Prop where
 out: ∀ g v,VR g v x→v= .string (sB s)
instance (s:Str):K1 (.str s) s:=⟨fun g v h=>by cases h;rfl⟩
instance (s:List UInt8):K1 (.raw (.string ⟨s.toArray⟩)) s:=⟨fun g v h=>by cases h;rfl⟩
theorem wC {P:Program} {f:FuncId} {args:List PV} {X:PV} (h:BG P f args [] (fun r L'=>Le r X∧L'= [])):Fn P f args X:=fun vs w g LF hv hi=>
 (h vs w g LF hv hi).mono fun _ _ ⟨v,x,g',L',h1,h2,h3,h4,h5,h6,h7⟩=>⟨v,X,g',L',h1,h6 _ _ h2,h3,h4,h5,rfl,h7⟩
theorem Au {P:Program} {f:FuncId} {fn:Func} {c:Code} {rs:List ResultVar} {N:Nat} {args:List PV} {X:PV}
  (hf:P.funcs[f]? =some fn) (hn:fn.ntmps=N) (hb:fn.body=some c) (hr:fn.results=rs.toArray) (hN:Nat.ble args.length N=true)
  (h:(∀ x∈args,Bd x)→ ∀ LF,ER P N c (oo P rs (fun r L'=>Le r X∧L'= []) LF) (xd args) LF):Fn P f args X:=wC (CA hf hb hn hr hN h)
section
variable {P:Program} {ρ:Env} {L LF:List Res} {X:PV}
theorem Az {t:Nat} {y:PV} (hX:Le y X) (hx:ρ t=y:=by conv=>lhs;whnf) (hs:LF.Sublist L:=by repeat(first|exact Dz _|apply List.Sublist.cons)):oo P [.tmp t] (fun r L'=>Le r X∧L'= []) LF .ret ρ L:=
 ⟨trivial,_,[],.cons (.tmp t) .nil,hs,hx ▸ hX,rfl⟩
theorem HD {t u:Nat} {x y:PV} (hX:Le (.tuple [x,y]) X) (hx:ρ t=x:=by conv=>lhs;whnf) (hy:ρ u=y:=by conv=>lhs;whnf) (hs:LF.Sublist L:=by repeat(first|exact Dz _|apply List.Sublist.cons)):oo P [.tmp t,.tmp u] (fun r L'=>Le r X∧L'= []) LF .ret ρ L:=
 ⟨trivial,_,[],.cons (.tmp t) (.cons (.tmp u) .nil),hs,by subst hx;subst hy;exact hX,rfl⟩
theorem Ra {t u s:Nat} {x y z:PV} (hX:Le (.tuple [x,y,z]) X) (hx:ρ t=x:=by conv=>lhs;whnf) (hy:ρ u=y:=by conv=>lhs;whnf) (hz:ρ s=z:=by conv=>lhs;whnf) (hs:LF.Sublist L:=by repeat(first|exact Dz _|apply List.Sublist.cons)):oo P [.tmp t,.tmp u,.tmp s] (fun r L'=>Le r X∧L'= []) LF .ret ρ L:=
 ⟨trivial,_,[],.cons (.tmp t) (.cons (.tmp u) (.cons (.tmp s) .nil)),hs,by subst hx;subst hy;subst hz;exact hX,rfl⟩
theorem Fq {t T n b T':Nat} {cs:List PV} [hT:FE P T n] (h:ρ t= .raw (.pointer (some ⟨b,0,none⟩))) (hx:Le (.agg cs) X) (hm:Res.box b T' cs∈L:=by repeat(first|exact AF|apply AI)) (hn:cs.length=n:=by simp) (hs:LF.Sublist L:=by repeat(first|exact Dz _|apply List.Sublist.cons)):
  oo P [.cell t T] (fun r L'=>Le r X∧L'= []) LF .ret ρ L:=⟨trivial,_,[],.cons (.cell t T h hm hT.out hn) .nil,hs,hx,rfl⟩
theorem L6 {t T n b T' u:Nat} {cs:List PV} {y:PV} [hT:FE P T n] (h:ρ t= .raw (.pointer (some ⟨b,0,none⟩))) (hx:Le (.tuple [.agg cs,y]) X) (hy:ρ u=y:=by conv=>lhs;whnf) (hm:Res.box b T' cs∈L:=by repeat(first|exact AF|apply AI)) (hn:cs.length=n:=by simp) (hs:LF.Sublist L:=by repeat(first|exact Dz _|apply List.Sublist.cons)):
  oo P [.cell t T,.tmp u] (fun r L'=>Le r X∧L'= []) LF .ret ρ L:=⟨trivial,_,[],.cons (.cell t T h hm hT.out hn) (.cons (.tmp u) .nil),hs,by subst hy;exact hx,rfl⟩
end
structure Chg where
 kind:Int
 file:Ident
 type:Int
 parent:Ident
 name:Str
 mode:Int
 data:Str
 after:Ident
 before:Ident
 lines:List Str
 over:List Ident
 deriving DecidableEq
def Chg.zero:Chg:=⟨0,Ident.zero,0,Ident.zero,[],0,[],Ident.zero,Ident.zero,[],[]⟩
def eChg (c:Chg):List PV:= [.raw (.int .i64 c.kind)]++((eIdent c.file)++([.raw (.int .i64 c.type)]++((eIdent c.parent)++([.str c.name]++([.raw (.int .i64 c.mode)]++([.str c.data]++((eIdent c.after)++((eIdent c.before)++([.slice ((c.lines).map eS) .ro]++([.slice ((c.over).map eIdent) .ro]))))))))))
@[simp] theorem jm (c:Chg):(eChg c).length=139:=by unfold eChg;simp
instance :NR eChg 139:=⟨jm⟩
instance (c:Chg):E3 (eChg c):=by unfold eChg;infer_instance
instance :K2 eChg:=⟨fun c=>(inferInstance:E3 (eChg c)).out⟩
instance (c:Chg):GI (.agg (eChg c)) eChg c:=⟨Dm.agg _⟩
instance X5 (c:Chg):Km (eChg c) 0 [.raw (.int .i64 c.kind)]:=by unfold eChg;exact Dk
instance qd (c:Chg):At (eChg c) 0 (.raw (.int .i64 c.kind)):=Hd (X5 c)
instance mn (c:Chg) (x:Int):FB (eChg c) 0 [.raw (.int .i64 x)] (eChg { c with kind:=x }):=by unfold eChg;exact DE (by simp)
instance X6 (c:Chg):Km (eChg c) 1 (eIdent c.file):=by unfold eChg;exact Al (n:=1) (off:=0) (by simp) (Dk)
instance lu (c:Chg):XX (eChg c) 1 33 (eIdent c.file):=K5 (X6 c) (by simp)
instance mo (c:Chg) (x:Ident):FB (eChg c) 1 (eIdent x) (eChg { c with file:=x }):=by unfold eChg;exact Ae (n:=1) (off:=0) (by simp) (DE (by simp))
instance X1 (c:Chg):Km (eChg c) 34 [.raw (.int .i64 c.type)]:=by unfold eChg;exact Al (n:=1) (off:=33) (by simp) (Al (n:=33) (off:=0) (by simp) (Dk))
instance qZ (c:Chg):At (eChg c) 34 (.raw (.int .i64 c.type)):=Hd (X1 c)
instance mi (c:Chg) (x:Int):FB (eChg c) 34 [.raw (.int .i64 x)] (eChg { c with type:=x }):=by unfold eChg;exact Ae (n:=1) (off:=33) (by simp) (Ae (n:=33) (off:=0) (by simp) (DE (by simp)))
instance Tk (c:Chg):Km (eChg c) 35 (eIdent c.parent):=by unfold eChg;exact Al (n:=1) (off:=34) (by simp) (Al (n:=33) (off:=1) (by simp) (Al (n:=1) (off:=0) (by simp) (Dk)))
instance gY (c:Chg):XX (eChg c) 35 33 (eIdent c.parent):=K5 (Tk c) (by simp)
instance jG (c:Chg) (x:Ident):FB (eChg c) 35 (eIdent x) (eChg { c with parent:=x }):=by unfold eChg;exact Ae (n:=1) (off:=34) (by simp) (Ae (n:=33) (off:=1) (by simp) (Ae (n:=1) (off:=0) (by simp) (DE (by simp))))
instance X3 (c:Chg):Km (eChg c) 68 [.str c.name]:=by unfold eChg;exact Al (n:=1) (off:=67) (by simp) (Al (n:=33) (off:=34) (by simp) (Al (n:=1) (off:=33) (by simp) (Al (n:=33) (off:=0) (by simp) (Dk))))
instance qb (c:Chg):At (eChg c) 68 (.str c.name):=Hd (X3 c)
instance ml (c:Chg) (x:Str):FB (eChg c) 68 [.str x] (eChg { c with name:=x }):=by unfold eChg;exact Ae (n:=1) (off:=67) (by simp) (Ae (n:=33) (off:=34) (by simp) (Ae (n:=1) (off:=33) (by simp) (Ae (n:=33) (off:=0) (by simp) (DE (by simp)))))
instance X4 (c:Chg):Km (eChg c) 69 [.raw (.int .i64 c.mode)]:=by unfold eChg;exact Al (n:=1) (off:=68) (by simp) (Al (n:=33) (off:=35) (by simp) (Al (n:=1) (off:=34) (by simp) (Al (n:=33) (off:=1) (by simp) (Al (n:=1) (off:=0) (by simp) (Dk)))))
instance qc (c:Chg):At (eChg c) 69 (.raw (.int .i64 c.mode)):=Hd (X4 c)
instance mm (c:Chg) (x:Int):FB (eChg c) 69 [.raw (.int .i64 x)] (eChg { c with mode:=x }):=by unfold eChg;exact Ae (n:=1) (off:=68) (by simp) (Ae (n:=33) (off:=35) (by simp) (Ae (n:=1) (off:=34) (by simp) (Ae (n:=33) (off:=1) (by simp) (Ae (n:=1) (off:=0) (by simp) (DE (by simp))))))
instance X7 (c:Chg):Km (eChg c) 70 [.str c.data]:=by unfold eChg;exact Al (n:=1) (off:=69) (by simp) (Al (n:=33) (off:=36) (by simp) (Al (n:=1) (off:=35) (by simp) (Al (n:=33) (off:=2) (by simp) (Al (n:=1) (off:=1) (by simp) (Al (n:=1) (off:=0) (by simp) (Dk))))))
instance qe (c:Chg):At (eChg c) 70 (.str c.data):=Hd (X7 c)
instance mq (c:Chg) (x:Str):FB (eChg c) 70 [.str x] (eChg { c with data:=x }):=by unfold eChg;exact Ae (n:=1) (off:=69) (by simp) (Ae (n:=33) (off:=36) (by simp) (Ae (n:=1) (off:=35) (by simp) (Ae (n:=33) (off:=2) (by simp) (Ae (n:=1) (off:=1) (by simp) (Ae (n:=1) (off:=0) (by simp) (DE (by simp)))))))
instance UG (c:Chg):Km (eChg c) 71 (eIdent c.after):=by unfold eChg;exact Al (n:=1) (off:=70) (by simp) (Al (n:=33) (off:=37) (by simp) (Al (n:=1) (off:=36) (by simp) (Al (n:=33) (off:=3) (by simp) (Al (n:=1) (off:=2) (by simp) (Al (n:=1) (off:=1) (by simp) (Al (n:=1) (off:=0) (by simp) (Dk)))))))
instance lA (c:Chg):XX (eChg c) 71 33 (eIdent c.after):=K5 (UG c) (by simp)
instance lN (c:Chg) (x:Ident):FB (eChg c) 71 (eIdent x) (eChg { c with after:=x }):=by unfold eChg;exact Ae (n:=1) (off:=70) (by simp) (Ae (n:=33) (off:=37) (by simp) (Ae (n:=1) (off:=36) (by simp) (Ae (n:=33) (off:=3) (by simp) (Ae (n:=1) (off:=2) (by simp) (Ae (n:=1) (off:=1) (by simp) (Ae (n:=1) (off:=0) (by simp) (DE (by simp))))))))
instance Tl (c:Chg):Km (eChg c) 104 (eIdent c.before):=by unfold eChg;exact Al (n:=1) (off:=103) (by simp) (Al (n:=33) (off:=70) (by simp) (Al (n:=1) (off:=69) (by simp) (Al (n:=33) (off:=36) (by simp) (Al (n:=1) (off:=35) (by simp) (Al (n:=1) (off:=34) (by simp) (Al (n:=1) (off:=33) (by simp) (Al (n:=33) (off:=0) (by simp) (Dk))))))))
instance gZ (c:Chg):XX (eChg c) 104 33 (eIdent c.before):=K5 (Tl c) (by simp)
instance jH (c:Chg) (x:Ident):FB (eChg c) 104 (eIdent x) (eChg { c with before:=x }):=by unfold eChg;exact Ae (n:=1) (off:=103) (by simp) (Ae (n:=33) (off:=70) (by simp) (Ae (n:=1) (off:=69) (by simp) (Ae (n:=33) (off:=36) (by simp) (Ae (n:=1) (off:=35) (by simp) (Ae (n:=1) (off:=34) (by simp) (Ae (n:=1) (off:=33) (by simp) (Ae (n:=33) (off:=0) (by simp) (DE (by simp)))))))))
instance UF (c:Chg):Km (eChg c) 137 [.slice ((c.lines).map eS) .ro]:=by unfold eChg;exact Al (n:=1) (off:=136) (by simp) (Al (n:=33) (off:=103) (by simp) (Al (n:=1) (off:=102) (by simp) (Al (n:=33) (off:=69) (by simp) (Al (n:=1) (off:=68) (by simp) (Al (n:=1) (off:=67) (by simp) (Al (n:=1) (off:=66) (by simp) (Al (n:=33) (off:=33) (by simp) (Al (n:=33) (off:=0) (by simp) (Dk)))))))))
instance oe (c:Chg):At (eChg c) 137 (.slice ((c.lines).map eS) .ro):=Hd (UF c)
instance UD (c:Chg) (x:List Str):FB (eChg c) 137 [.slice ((x).map eS) .ro] (eChg { c with lines:=x }):=by unfold eChg;exact Ae (n:=1) (off:=136) (by simp) (Ae (n:=33) (off:=103) (by simp) (Ae (n:=1) (off:=102) (by simp) (Ae (n:=33) (off:=69) (by simp) (Ae (n:=1) (off:=68) (by simp) (Ae (n:=1) (off:=67) (by simp) (Ae (n:=1) (off:=66) (by simp) (Ae (n:=33) (off:=33) (by simp) (Ae (n:=33) (off:=0) (by simp) (DE (by simp))))))))))
instance jD (c:Chg):FB (eChg c) 137 [.slice [] .ro] (eChg { c with lines:= [] }):=UD c []
instance X2 (c:Chg):Km (eChg c) 138 [.slice ((c.over).map eIdent) .ro]:=by unfold eChg;exact Al (n:=1) (off:=137) (by simp) (Al (n:=33) (off:=104) (by simp) (Al (n:=1) (off:=103) (by simp) (Al (n:=33) (off:=70) (by simp) (Al (n:=1) (off:=69) (by simp) (Al (n:=1) (off:=68) (by simp) (Al (n:=1) (off:=67) (by simp) (Al (n:=33) (off:=34) (by simp) (Al (n:=33) (off:=1) (by simp) (Al (n:=1) (off:=0) (by simp) (MF))))))))))
instance qa (c:Chg):At (eChg c) 138 (.slice ((c.over).map eIdent) .ro):=Hd (X2 c)
instance WI (c:Chg) (x:List Ident):FB (eChg c) 138 [.slice ((x).map eIdent) .ro] (eChg { c with over:=x }):=by unfold eChg;exact Ae (n:=1) (off:=137) (by simp) (Ae (n:=33) (off:=104) (by simp) (Ae (n:=1) (off:=103) (by simp) (Ae (n:=33) (off:=70) (by simp) (Ae (n:=1) (off:=69) (by simp) (Ae (n:=1) (off:=68) (by simp) (Ae (n:=1) (off:=67) (by simp) (Ae (n:=33) (off:=34) (by simp) (Ae (n:=33) (off:=1) (by simp) (Ae (n:=1) (off:=0) (by simp) (Lv (by simp)))))))))))
instance lJ (c:Chg):FB (eChg c) 138 [.slice [] .ro] (eChg { c with over:= [] }):=WI c []
structure Pat where
 author:Str
 message:Str
 time:Int
 deps:List Dig
 changes:List Chg
 deriving DecidableEq
def Pat.zero:Pat:=⟨[],[],0,[],[]⟩
def Ba (c:Pat):List PV:= [.str c.author]++([.str c.message]++([.raw (.int .i64 c.time)]++([.slice ((c.deps).map eDig) .ro]++([.slice ((c.changes).map eChg) .ro]))))
@[simp] theorem jk (c:Pat):(Ba c).length=5:=by unfold Ba;simp
instance :NR Ba 5:=⟨jk⟩
instance (c:Pat):E3 (Ba c):=by unfold Ba;infer_instance
instance Tj (c:Pat):Km (Ba c) 0 [.str c.author]:=by unfold Ba;exact Dk
instance lV (c:Pat):At (Ba c) 0 (.str c.author):=Hd (Tj c)
instance jE (c:Pat) (x:Str):FB (Ba c) 0 [.str x] (Ba { c with author:=x }):=by unfold Ba;exact DE (by simp)
instance SD (c:Pat):Km (Ba c) 1 [.str c.message]:=by unfold Ba;exact Al (n:=1) (off:=0) (by simp) (Dk)
instance ki (c:Pat):At (Ba c) 1 (.str c.message):=Hd (SD c)
instance fw (c:Pat) (x:Str):FB (Ba c) 1 [.str x] (Ba { c with message:=x }):=by unfold Ba;exact Ae (n:=1) (off:=0) (by simp) (DE (by simp))
instance Wy (c:Pat):Km (Ba c) 2 [.raw (.int .i64 c.time)]:=by unfold Ba;exact Al (n:=1) (off:=1) (by simp) (Al (n:=1) (off:=0) (by simp) (Dk))
instance qX (c:Pat):At (Ba c) 2 (.raw (.int .i64 c.time)):=Hd (Wy c)
instance mg (c:Pat) (x:Int):FB (Ba c) 2 [.raw (.int .i64 x)] (Ba { c with time:=x }):=by unfold Ba;exact Ae (n:=1) (off:=1) (by simp) (Ae (n:=1) (off:=0) (by simp) (DE (by simp)))
instance X0 (c:Pat):Km (Ba c) 3 [.slice ((c.deps).map eDig) .ro]:=by unfold Ba;exact Al (n:=1) (off:=2) (by simp) (Al (n:=1) (off:=1) (by simp) (Al (n:=1) (off:=0) (by simp) (Dk)))
instance qY (c:Pat):At (Ba c) 3 (.slice ((c.deps).map eDig) .ro):=Hd (X0 c)
instance mh (c:Pat) (x:List Dig):FB (Ba c) 3 [.slice ((x).map eDig) .ro] (Ba { c with deps:=x }):=by unfold Ba;exact Ae (n:=1) (off:=2) (by simp) (Ae (n:=1) (off:=1) (by simp) (Ae (n:=1) (off:=0) (by simp) (DE (by simp))))
instance SE (c:Pat):Km (Ba c) 4 [.slice ((c.changes).map eChg) .ro]:=by unfold Ba;exact Al (n:=1) (off:=3) (by simp) (Al (n:=1) (off:=2) (by simp) (Al (n:=1) (off:=1) (by simp) (Al (n:=1) (off:=0) (by simp) (MF))))
instance kj (c:Pat):At (Ba c) 4 (.slice ((c.changes).map eChg) .ro):=Hd (SE c)
instance fx (c:Pat) (x:List Chg):FB (Ba c) 4 [.slice ((x).map eChg) .ro] (Ba { c with changes:=x }):=by unfold Ba;exact Ae (n:=1) (off:=3) (by simp) (Ae (n:=1) (off:=2) (by simp) (Ae (n:=1) (off:=1) (by simp) (Ae (n:=1) (off:=0) (by simp) (Lv (by simp)))))
structure Sto where
 id:Dig
 patch:Pat
 deriving DecidableEq
def Sto.zero:Sto:=⟨Dig.zero,Pat.zero⟩
def eSto (c:Sto):List PV:=(eDig c.id)++((Ba c.patch))
@[simp] theorem ji (c:Sto):(eSto c).length=37:=by unfold eSto;simp
instance :NR eSto 37:=⟨ji⟩
instance (c:Sto):E3 (eSto c):=by unfold eSto;infer_instance
instance :K2 eSto:=⟨fun c=>(inferInstance:E3 (eSto c)).out⟩
instance sg (c:Sto):Km (eSto c) 0 (eDig c.id):=by unfold eSto;exact Dk
instance s7 (c:Sto) (x:Dig):FB (eSto c) 0 (eDig x) (eSto { c with id:=x }):=by unfold eSto;exact DE (by simp)
instance lQ (c:Sto):Km (eSto c) 32 (Ba c.patch):=by unfold eSto;exact Al (n:=32) (off:=0) (by simp) (MF)
instance lL (c:Sto) (x:Pat):FB (eSto c) 32 (Ba x) (eSto { c with patch:=x }):=by unfold eSto;exact Ae (n:=32) (off:=0) (by simp) (Lv (by simp))
structure Atm where
 id:Ident
 kind:Int
 file:Ident
 type:Int
 parent:Ident
 name:Str
 mode:Int
 data:Str
 text:Str
 src:Ident
 dst:Ident
 over:List Ident
 deriving DecidableEq
def Atm.zero:Atm:=⟨Ident.zero,0,Ident.zero,0,Ident.zero,[],0,[],[],Ident.zero,Ident.zero,[]⟩
def eAtm (c:Atm):List PV:=(eIdent c.id)++([.raw (.int .i64 c.kind)]++((eIdent c.file)++([.raw (.int .i64 c.type)]++((eIdent c.parent)++([.str c.name]++([.raw (.int .i64 c.mode)]++([.str c.data]++([.str c.text]++((eIdent c.src)++((eIdent c.dst)++([.slice ((c.over).map eIdent) .ro])))))))))))
@[simp] theorem jn (c:Atm):(eAtm c).length=172:=by unfold eAtm;simp
instance :NR eAtm 172:=⟨jn⟩
instance (c:Atm):E3 (eAtm c):=by unfold eAtm;infer_instance
instance :K2 eAtm:=⟨fun c=>(inferInstance:E3 (eAtm c)).out⟩
instance (c:Atm):GI (.agg (eAtm c)) eAtm c:=⟨Dm.agg _⟩
instance Tn (c:Atm):Km (eAtm c) 0 (eIdent c.id):=by unfold eAtm;exact Dk
instance rE (c:Atm):XX (eAtm c) 0 33 (eIdent c.id):=K5 (Tn c) (by simp)
instance aO (c:Atm) (x:Ident):FB (eAtm c) 0 (eIdent x) (eAtm { c with id:=x }):=by unfold eAtm;exact DE (by simp)
instance eJ (c:Atm) (x:Dig):FB (eAtm c) 0 (eDig x) (eAtm { c with id:={ c.id with patch:=x } }):=s6 (Tn c) (by infer_instance:FB (eIdent c.id) 0 (eDig x) (eIdent { c.id with patch:=x })) (aO c _)
instance XA (c:Atm):Km (eAtm c) 33 [.raw (.int .i64 c.kind)]:=by unfold eAtm;exact Al (n:=33) (off:=0) (by simp) (Dk)
instance qh (c:Atm):At (eAtm c) 33 (.raw (.int .i64 c.kind)):=Hd (XA c)
instance n5 (c:Atm) (x:Int):FB (eAtm c) 33 [.raw (.int .i64 x)] (eAtm { c with kind:=x }):=by unfold eAtm;exact Ae (n:=33) (off:=0) (by simp) (DE (by simp))
instance XB (c:Atm):Km (eAtm c) 34 (eIdent c.file):=by unfold eAtm;exact Al (n:=33) (off:=1) (by simp) (Al (n:=1) (off:=0) (by simp) (Dk))
instance lx (c:Atm):XX (eAtm c) 34 33 (eIdent c.file):=K5 (XB c) (by simp)
instance nA (c:Atm) (x:Ident):FB (eAtm c) 34 (eIdent x) (eAtm { c with file:=x }):=by unfold eAtm;exact Ae (n:=33) (off:=1) (by simp) (Ae (n:=1) (off:=0) (by simp) (DE (by simp)))
instance X8 (c:Atm):Km (eAtm c) 67 [.raw (.int .i64 c.type)]:=by unfold eAtm;exact Al (n:=33) (off:=34) (by simp) (Al (n:=1) (off:=33) (by simp) (Al (n:=33) (off:=0) (by simp) (Dk)))
instance qf (c:Atm):At (eAtm c) 67 (.raw (.int .i64 c.type)):=Hd (X8 c)
instance mr (c:Atm) (x:Int):FB (eAtm c) 67 [.raw (.int .i64 x)] (eAtm { c with type:=x }):=by unfold eAtm;exact Ae (n:=33) (off:=34) (by simp) (Ae (n:=1) (off:=33) (by simp) (Ae (n:=33) (off:=0) (by simp) (DE (by simp))))
instance Tm (c:Atm):Km (eAtm c) 68 (eIdent c.parent):=by unfold eAtm;exact Al (n:=33) (off:=35) (by simp) (Al (n:=1) (off:=34) (by simp) (Al (n:=33) (off:=1) (by simp) (Al (n:=1) (off:=0) (by simp) (Dk))))
instance ga (c:Atm):XX (eAtm c) 68 33 (eIdent c.parent):=K5 (Tm c) (by simp)
instance jI (c:Atm) (x:Ident):FB (eAtm c) 68 (eIdent x) (eAtm { c with parent:=x }):=by unfold eAtm;exact Ae (n:=33) (off:=35) (by simp) (Ae (n:=1) (off:=34) (by simp) (Ae (n:=33) (off:=1) (by simp) (Ae (n:=1) (off:=0) (by simp) (DE (by simp)))))
instance my (c:Atm) (x:Str):FB (eAtm c) 101 [.str x] (eAtm { c with name:=x }):=by unfold eAtm;exact Ae (n:=33) (off:=68) (by simp) (Ae (n:=1) (off:=67) (by simp) (Ae (n:=33) (off:=34) (by simp) (Ae (n:=1) (off:=33) (by simp) (Ae (n:=33) (off:=0) (by simp) (DE (by simp))))))
instance mz (c:Atm) (x:Int):FB (eAtm c) 102 [.raw (.int .i64 x)] (eAtm { c with mode:=x }):=by unfold eAtm;exact Ae (n:=33) (off:=69) (by simp) (Ae (n:=1) (off:=68) (by simp) (Ae (n:=33) (off:=35) (by simp) (Ae (n:=1) (off:=34) (by simp) (Ae (n:=33) (off:=1) (by simp) (Ae (n:=1) (off:=0) (by simp) (DE (by simp)))))))
instance nB (c:Atm) (x:Str):FB (eAtm c) 103 [.str x] (eAtm { c with data:=x }):=by unfold eAtm;exact Ae (n:=33) (off:=70) (by simp) (Ae (n:=1) (off:=69) (by simp) (Ae (n:=33) (off:=36) (by simp) (Ae (n:=1) (off:=35) (by simp) (Ae (n:=33) (off:=2) (by simp) (Ae (n:=1) (off:=1) (by simp) (Ae (n:=1) (off:=0) (by simp) (DE (by simp))))))))
instance mu (c:Atm) (x:Str):FB (eAtm c) 104 [.str x] (eAtm { c with text:=x }):=by unfold eAtm;exact Ae (n:=33) (off:=71) (by simp) (Ae (n:=1) (off:=70) (by simp) (Ae (n:=33) (off:=37) (by simp) (Ae (n:=1) (off:=36) (by simp) (Ae (n:=33) (off:=3) (by simp) (Ae (n:=1) (off:=2) (by simp) (Ae (n:=1) (off:=1) (by simp) (Ae (n:=1) (off:=0) (by simp) (DE (by simp)))))))))
instance Z1 (c:Atm):Km (eAtm c) 105 (eIdent c.src):=by unfold eAtm;exact Al (n:=33) (off:=72) (by simp) (Al (n:=1) (off:=71) (by simp) (Al (n:=33) (off:=38) (by simp) (Al (n:=1) (off:=37) (by simp) (Al (n:=33) (off:=4) (by simp) (Al (n:=1) (off:=3) (by simp) (Al (n:=1) (off:=2) (by simp) (Al (n:=1) (off:=1) (by simp) (Al (n:=1) (off:=0) (by simp) (Dk)))))))))
instance pO (c:Atm):XX (eAtm c) 105 33 (eIdent c.src):=K5 (Z1 c) (by simp)
instance pz (c:Atm) (x:Ident):FB (eAtm c) 105 (eIdent x) (eAtm { c with src:=x }):=by unfold eAtm;exact Ae (n:=33) (off:=72) (by simp) (Ae (n:=1) (off:=71) (by simp) (Ae (n:=33) (off:=38) (by simp) (Ae (n:=1) (off:=37) (by simp) (Ae (n:=33) (off:=4) (by simp) (Ae (n:=1) (off:=3) (by simp) (Ae (n:=1) (off:=2) (by simp) (Ae (n:=1) (off:=1) (by simp) (Ae (n:=1) (off:=0) (by simp) (DE (by simp))))))))))
instance Z6 (c:Atm):Km (eAtm c) 138 (eIdent c.dst):=by unfold eAtm;exact Al (n:=33) (off:=105) (by simp) (Al (n:=1) (off:=104) (by simp) (Al (n:=33) (off:=71) (by simp) (Al (n:=1) (off:=70) (by simp) (Al (n:=33) (off:=37) (by simp) (Al (n:=1) (off:=36) (by simp) (Al (n:=1) (off:=35) (by simp) (Al (n:=1) (off:=34) (by simp) (Al (n:=1) (off:=33) (by simp) (Al (n:=33) (off:=0) (by simp) (Dk))))))))))
instance pQ (c:Atm):XX (eAtm c) 138 33 (eIdent c.dst):=K5 (Z6 c) (by simp)
instance qA (c:Atm) (x:Ident):FB (eAtm c) 138 (eIdent x) (eAtm { c with dst:=x }):=by unfold eAtm;exact Ae (n:=33) (off:=105) (by simp) (Ae (n:=1) (off:=104) (by simp) (Ae (n:=33) (off:=71) (by simp) (Ae (n:=1) (off:=70) (by simp) (Ae (n:=33) (off:=37) (by simp) (Ae (n:=1) (off:=36) (by simp) (Ae (n:=1) (off:=35) (by simp) (Ae (n:=1) (off:=34) (by simp) (Ae (n:=1) (off:=33) (by simp) (Ae (n:=33) (off:=0) (by simp) (DE (by simp)))))))))))
instance X9 (c:Atm):Km (eAtm c) 171 [.slice ((c.over).map eIdent) .ro]:=by unfold eAtm;exact Al (n:=33) (off:=138) (by simp) (Al (n:=1) (off:=137) (by simp) (Al (n:=33) (off:=104) (by simp) (Al (n:=1) (off:=103) (by simp) (Al (n:=33) (off:=70) (by simp) (Al (n:=1) (off:=69) (by simp) (Al (n:=1) (off:=68) (by simp) (Al (n:=1) (off:=67) (by simp) (Al (n:=1) (off:=66) (by simp) (Al (n:=33) (off:=33) (by simp) (Al (n:=33) (off:=0) (by simp) (MF)))))))))))
instance qg (c:Atm):At (eAtm c) 171 (.slice ((c.over).map eIdent) .ro):=Hd (X9 c)
instance mw (c:Atm) (x:List Ident):FB (eAtm c) 171 [.slice ((x).map eIdent) .ro] (eAtm { c with over:=x }):=by unfold eAtm;exact Ae (n:=33) (off:=138) (by simp) (Ae (n:=1) (off:=137) (by simp) (Ae (n:=33) (off:=104) (by simp) (Ae (n:=1) (off:=103) (by simp) (Ae (n:=33) (off:=70) (by simp) (Ae (n:=1) (off:=69) (by simp) (Ae (n:=1) (off:=68) (by simp) (Ae (n:=1) (off:=67) (by simp) (Ae (n:=1) (off:=66) (by simp) (Ae (n:=33) (off:=33) (by simp) (Ae (n:=33) (off:=0) (by simp) (Lv (by simp))))))))))))
structure z6 where
 left:List Dig
 asked:List Dig
 bad:List Bool
 deriving DecidableEq
def wV (c:z6):List PV:= [.slice ((c.left).map eDig) .ro]++([.slice ((c.asked).map eDig) .ro]++([.slice ((c.bad).map eB) .ro]))
@[simp] theorem w0 (c:z6):(wV c).length=3:=by unfold wV;simp
inductive Sx where
 |mk (isList:Bool) (atom:Str) (list:List Sx)
def Sx.isList:Sx→Bool| .mk b _ _=>b
def Sx.atom:Sx→Str| .mk _ a _=>a
def Sx.list:Sx→List Sx| .mk _ _ l=>l
def Sx.zero:Sx:= .mk false [] []
mutual
def eSx:Sx→List PV
 | .mk b a l=> [.raw (.bool b),.str a,.slice (kN l) .ro]
def kN:List Sx→List (List PV)
 | []=> []
 |x::l=>eSx x::kN l
end
theorem dC: ∀ l:List Sx,kN l=l.map eSx
 | []=>by simp[kN]
 |x::l=>by simp[kN,dC l]
theorem Ft (x:Sx):eSx x= [.raw (.bool x.isList),.str x.atom,.slice (x.list.map eSx) .ro]:=by
 cases x;simp[eSx,dC,Sx.isList,Sx.atom,Sx.list]
@[simp] theorem nf (x:Sx):(eSx x).length=3:=by rw[Ft];rfl
instance :NR eSx 3:=⟨nf⟩
instance (c:Sx):E3 (eSx c):=by rw[Ft];infer_instance
instance :K2 eSx:=⟨fun c=>(inferInstance:E3 (eSx c)).out⟩
instance (c:Sx):GI (.agg (eSx c)) eSx c:=⟨Dm.agg _⟩
instance lP (c:Sx):Km (eSx c) 0 [.raw (.bool c.isList)]:=⟨by rw[Ft];simp⟩
instance od (c:Sx):At (eSx c) 0 (.raw (.bool c.isList)):=⟨by rw[Ft];simp⟩
instance qN (c:Sx):Km (eSx c) 1 [.str c.atom]:=⟨by rw[Ft];simp⟩
instance tM (c:Sx):At (eSx c) 1 (.str c.atom):=⟨by rw[Ft];simp⟩
instance qM (c:Sx):Km (eSx c) 2 [.slice (c.list.map eSx) .ro]:=⟨by rw[Ft];simp⟩
instance tL (c:Sx):At (eSx c) 2 (.slice (c.list.map eSx) .ro):=⟨by rw[Ft];simp⟩
instance lK (c:Sx) (x:Bool):FB (eSx c) 0 [.raw (.bool x)] (eSx (.mk x c.atom c.list)):=⟨by rw[Ft,Ft];simp[Sx.isList,Sx.atom,Sx.list]⟩
instance py (c:Sx) (x:Str):FB (eSx c) 1 [.str x] (eSx (.mk c.isList x c.list)):=⟨by rw[Ft,Ft];simp[Sx.isList,Sx.atom,Sx.list]⟩
instance px (c:Sx) (x:List Sx):FB (eSx c) 2 [.slice (x.map eSx) .ro] (eSx (.mk c.isList c.atom x)):=⟨by rw[Ft,Ft];simp[Sx.isList,Sx.atom,Sx.list]⟩
end Go.Q
