/- The small logic, twelfth text: structs built, variables laid, slices cut, strings. Library, no statement of its own. -/
import Derived.Test.YtpebdiofdfpooaaGreatDoorUab
set_option linter.unusedSimpArgs false
set_option linter.unusedVariables false
namespace Go.Q
open Go
class CV (P:Program) (T:Nat):Prop where
 out: ∃ fs,P.underlying T=some (.struct fs)∧ ∀ f∈fs,∃ i,P.info? f.type=some i
class Bb (P:Program) (S k:Nat) (off sz:outParam Nat):Prop where
 out: ∃ fs f i,P.underlying S=some (.struct fs)∧fs[k]? =some f∧f.offset=off∧P.info? f.type=some i∧i.size=sz
class Ch (P:Program) (T:Nat) (z:outParam (List PV)):Prop where
 out: ∃ (i:TypeInfo) (v:Value) (us:List Value),P.info? T=some i∧i.zero=some v∧v.cells=us.toArray∧ ∀ g,E8 g us z
inductive ln:List PV→List (Nat × Operand × Nat × List PV)→List PV→Prop
 |nil {cs:List PV}:ln cs [] cs
 |cons {cs cs' r new:List PV} {k off:Nat} {x:Operand} {ps:List (Nat × Operand × Nat × List PV)} (h:cs.take off++new++cs.drop (off+new.length)=cs') (hl:off+new.length≤cs.length) (hs:ln cs' ps r):ln cs ((k,x,off,new)::ps) r
section
variable {P:Program} {N:Nat} {all:Array Oper} {K:Env→List Res→Prop} {fl:List Bool} {os:List Oper} {ρ:Env} {L:List Res}
variable {d:Nat} {ty:TypeId} {pos:String} {af:Array Edge}
theorem Vy {g:Gh} {a:Act} {place:Nat→Option (Nat × Nat)}: ∀ {ps:List (Nat × Operand × Nat × List PV)} {cs r:List PV} {us:List Value},ln cs ps r→E8 g us cs→
  (∀ p∈ps,∃ s,place p.1=some (p.2.2.1,s)∧p.2.2.2.length=s∧ ∃ vs:List Value,(a.eval p.2.1).cells=vs.toArray∧E8 g vs p.2.2.2)→
  ∃ vs:List Value,Instr.fill place us.toArray (ps.map fun p=>(p.1,a.eval p.2.1))=some vs.toArray∧E8 g vs r
 | [],_,_,us,.nil,hu,_=>⟨us,rfl,hu⟩
 |(k,x,off,new)::ps,cs,r,us,.cons h hl hs,hu,hp=>by
  obtain⟨s,h1,h2,vs,h3,h4⟩:=hp (k,x,off,new) (by simp)
  simp only at h1 h2 h3 h4
  simp only[BG]
  rw[Vz h1 h3 (by rw[h4.len,h2]) (by rw[h4.len,hu.len];exact hl)]
  refine Vy hs ?_ (fun p hp'=>hp p (AD _ hp'))
  rw[←h,←h4.len]
  exact((hu.take off).append h4).append (hu.drop _)
theorem Z1 {fs:List Field} (w:World) (h: ∀ f∈fs,∃ i,P.info? f.type=some i):(fs.mapM (m:=Sem) fun f=>do pure (f.offset,←sizeOf f.type)).run P w= .ok (fs.map fun f=>(f.offset,P.cellsOf f.type)) w:=by
 induction fs with
 |nil=>rfl
 |cons f fs ih=>
  obtain⟨i,hi⟩:=h f (by simp)
  have hf:(sizeOf f.type).run P w= .ok (P.cellsOf f.type) w:=by
   simp only[Sem.run_bind,sizeOf,typeInfo,run_program,hi,Sem.run_pure,Result.andThen_ok,Program.cellsOf,FG,Option.getD_some]
  rw[List.mapM_cons]
  simp only[Sem.run_bind,hf,ih (fun f hf=>h f (by simp[hf])),Sem.run_pure,Result.andThen_ok,BG]
theorem JI {T:Nat} [hS:CV P T] {z r:List PV} [hZ:Ch P T z] {parts:List (Nat × Operand)} {ps:List (Nat × Operand × Nat × List PV)} {dst:Option Nat} {gd:Option (Nat × Bool)} (hps:parts=ps.map fun p=>(p.1,p.2.1))
  (hp: ∀ p∈ps,∃ s,(∃ fs f i,P.underlying T=some (.struct fs)∧fs[p.1]? =some f∧f.offset=p.2.2.1∧P.info? f.type=some i∧i.size=s)∧E4 (ρ.ev p.2.1) p.2.2.2∧p.2.2.2.length=s) (hr:ln z ps r):
  gL P ⟨dst,.build T parts.toArray,ty,pos,af,gd⟩ ρ L (.agg r):=B7 fun a w g ha hi=>by
 obtain⟨fs,hu,hall⟩:=hS.out
 obtain⟨i,v,us,h1,h2,h3,h4⟩:=hZ.out
 have hmem: ∀ p∈ps,p.2.1∈(Op.build T parts.toArray).operands:=fun p hp'=>by
  unfold Op.operands
  simp only[hps,DI,List.mem_toArray,AU]
  exact⟨p,hp',rfl⟩
 obtain⟨vs,hf,hvs⟩:=Vy (g:=g) (a:=a) (place:=fun k=>((fs.toList.map fun f=>(f.offset,P.cellsOf f.type)).toArray)[k]?) hr (h4 g) (fun p hp'=>by
  obtain⟨s,⟨fs',f,j,e1,e2,e3,e4,e5⟩,hc,hl⟩:=hp p hp'
  rw[hu]at e1
  injection e1 with e1
  injection e1 with e1
  subst e1
  obtain⟨vs,hv1,hv2⟩:=hc g _ (ha _ (hmem p hp'))
  refine⟨s,?_,hl,vs,hv1,hv2⟩
  simp[e2,e3,Program.cellsOf,e4,e5])
 refine⟨.agg vs.toArray,?_,hvs.agg⟩
 have hparts:((parts.toArray).map fun(p:Nat × Operand)=>(p.1,a.eval p.2)).toList=ps.map fun p=>(p.1,a.eval p.2.1):=by
  simp[hps]
 have hpl:(fs.mapM (m:=Sem) fun f=>do pure (f.offset,←sizeOf f.type)).run P w= .ok ((fs.toList.map fun f=>(f.offset,P.cellsOf f.type)).toArray) w:=by
  obtain⟨fs⟩:=fs
  rw[List.mapM_toArray,Sem.run_map,Z1 w (by simpa using hall)]
  simp
 show(do pure (Next.value (←Instr.build T ((parts.toArray).map fun(p:Nat × Operand)=>(p.1,a.eval p.2)))):Sem Next).run P w=_
 simp only[Instr.build,Sem.run_bind,zeroValue,typeInfo,run_program,h1,Sem.run_pure,Result.andThen_ok,h2,run_underlying hu,hpl,hparts,h3,hf]
theorem BR {T:Nat} {z:List PV} [hZ:Ch P T z] (k: ∀ b,AY P N all K fl.tail os (CN ρ d (.raw (.pointer (some ⟨b,0,none⟩)))) (.box b T z::L)) (hd:Nat.blt d N=true:=by rfl) (hf:fl.headD true=true:=by rfl):
  AY P N all K fl (⟨some d,.alloc T,ty,pos,af,none⟩::os) ρ L:=
 Dr rfl (Qn hd) hf (fun a w g ha hi=>by
  obtain⟨i,v,us,h1,h2,h3,h4⟩:=hZ.out
  obtain⟨i1,i2,i3⟩:=hi.alloc (h4 g) T
  have hr:(execOp a.eval ⟨some d,.alloc T,ty,pos,af,none⟩).run P w= .ok (.value (.pointer (some ⟨w.heap.size,0,none⟩))) { w with heap:=w.heap.push (.cells us.toArray T (0,0)) }:=by
   simp only[execOp,Instr.alloc,zeroValue,typeInfo,Sem.run_bind,run_program,h1,h2,Sem.run_pure,Result.andThen_ok,newVar,newRow,h3,run_newObj]
  refine Oper.wq_of_run hr ?_
  exact⟨_,_,g,_,rfl,.raw _,i1,i2,i3,k _⟩)
theorem ie {T:TypeId} {x y:Operand} {b sz by_:Nat} {cs new:List PV} {L':List Res} [hT:ER P T sz by_]
  (hx:ρ.ev x= .raw (.pointer (some ⟨b,0,none⟩))) (hy:ρ.ev y= .agg new) (hu:pn b cs new L L') [hf:EU new] (hlen:new.length=sz) (hcs:cs.length=sz)
  (k:AY P N all K fl.tail os ρ L') (hfl:fl.headD true=true:=by rfl):AY P N all K fl (⟨none,.store T x y,ty,pos,af,none⟩::os) ρ L:=
 Dr rfl (fun _ e=>by cases e) hfl (JJ hx (fun g v hv=>by
  rw[hy]at hv
  obtain⟨vs,rfl,h⟩:=hv.agg_inv
  exact⟨vs,rfl,h⟩) hlen hf.out (by simp[Cp (show cs.length≤new.length by omega)]) (by omega) hu k)
theorem X1 {T E sz by_:Nat} [hT:LK P T E] [hE:ER P E sz by_] {x:Operand} {lo hi:Option Operand} {xs:List (List PV)} {t:CW} {dst:Option Nat} {gd:Option (Nat × Bool)} (i j:Nat) (hx:ρ.ev x= .slice xs t) (hij:i≤j) (hj:j≤xs.length) (hs: ∀ e∈xs,e.length=sz)
  (hlo: ∀ o,lo=some o→ ∃ k,ρ.ev o= .raw (.int k i)) (hlo':lo=none→i=0) (hhi: ∀ o,hi=some o→ ∃ k,ρ.ev o= .raw (.int k j)) (hhi':hi=none→j=xs.length):
  gL P ⟨dst,.slice T x lo hi none,ty,pos,af,gd⟩ ρ L (.slice ((xs.drop i).take (j - i)) .ro):=B7 fun a w g ha hI=>by
 have h1:=ha x (by simp[Op.operands]);rw[hx]at h1
 obtain⟨base,cap,e1,hcap,hmx,hnone,_,_,us,hus,hcell⟩:=h1.slice_cells hs
 have hsub: ∀ e∈(xs.drop i).take (j - i),e.length=sz:=fun e he=>hs e (Di (Fe he))
 have hul:us.length=xs.length*sz:=by rw[hus.len,Cg hs]
 have hlen:((xs.drop i).take (j - i)).length=j - i:=by simp;omega
 have hbl: ∀ o,lo=some o→ ∃ k,a.eval o= .int k i:=fun o e=>by
  obtain⟨k,hk⟩:=hlo o e
  exact⟨k,CR ha (by simp[Op.operands,e]) hk⟩
 have hbh: ∀ o,hi=some o→ ∃ k,a.eval o= .int k j:=fun o e=>by
  obtain⟨k,hk⟩:=hhi o e
  exact⟨k,CR ha (by simp[Op.operands,e]) hk⟩
 have hbounds:(Instr.sliceBounds true xs.length cap (lo.map a.eval) (hi.map a.eval) none).run P w= .ok (i,j,cap) w:=by
  unfold Instr.sliceBounds
  cases lo with
  |none=>
   have:=hlo' rfl;subst this
   cases hi with
   |none=>have:=hhi' rfl;subst this;simp
   |some o=>
    obtain⟨k,hk⟩:=hbh o rfl
    simp[hk,Instr.sliceBound,asIntOf]
    omega
  |some o=>
   obtain⟨k,hk⟩:=hbl o rfl
   cases hi with
   |none=>
    have:=hhi' rfl;subst this
    simp[hk,Instr.sliceBound,asIntOf]
    omega
   |some o'=>
    obtain⟨k',hk'⟩:=hbh o' rfl
    simp[hk,hk',Instr.sliceBound,asIntOf]
    rw[if_pos (by omega)]
    simp
    omega
 have hr:(execOp a.eval ⟨dst,.slice T x lo hi none,ty,pos,af,gd⟩).run P w= .ok (.value (.slice (if cap=i then base else base.map (·.add (i*sz))) (j - i) (cap - i))) w:=by
  show(do pure (Next.value (←Instr.sliceAt T (a.eval x) (lo.map a.eval) (hi.map a.eval) none)):Sem Next).run P w=_
  simp only[Instr.sliceAt,Sem.run_bind,run_underlying hT.out,Result.andThen_ok,Instr.slice,e1,hbounds,ER.run hE,Sem.run_pure]
 refine⟨_,hr,?_⟩
 cases base with
 |none=>
  obtain⟨rfl,rfl⟩:=hnone rfl
  simp at hj
  have hj0:j=0:=by omega
  have hi0:i=0:=by omega
  subst hj0 hi0
  simpa using VR.nilR (g:=g) (o:=none)
 |some ad=>
  obtain⟨b,o,s⟩:=ad
  obtain⟨hs',hH⟩:=hcell _ rfl
  rcases hs' with ⟨e3,e4⟩|hs'
  ·subst e3 e4
   simp only[Aa,Nat.le_zero]at hj
   subst hj
   have hi0:i=0:=by omega
   subst hi0
   simpa using VR.nilR (g:=g) (o:=some ⟨b,o,s⟩)
  simp only at hs'
  subst hs'
  have hfl:((xs.drop i).take (j - i)).flatten=(xs.flatten.drop (i*sz)).take ((j - i)*sz):=by
   have d1: ∀ (n:Nat) (ys:List (List PV)),(∀ e∈ys,e.length=sz)→(ys.drop n).flatten=ys.flatten.drop (n*sz):=by
    intro n
    induction n with
    |zero=>intro ys _;simp
    |succ n ih=>
     intro ys hy
     cases ys with
     |nil=>simp
     |cons y ys=>
      simp only[Zx,CD]
      rw[ih ys (fun e he=>hy e (by simp[he])),Bq,mm,Oo,←Lh]
      rw[qD (hy y (by simp))]
   have d2: ∀ (n:Nat) (ys:List (List PV)),(∀ e∈ys,e.length=sz)→(ys.take n).flatten=ys.flatten.take (n*sz):=by
    intro n
    induction n with
    |zero=>intro ys _;simp
    |succ n ih=>
     intro ys hy
     cases ys with
     |nil=>simp
     |cons y ys=>
      simp only[Oe,CD]
      rw[ih ys (fun e he=>hy e (by simp[he])),Bq,mm,Oo,←hy y (by simp),Oq]
   rw[d2 _ _ (fun e he=>hs e (Di he)),d1 _ _ hs]
  have hus2:E8 g ((us.drop (i*sz)).take ((j - i)*sz)) ((xs.drop i).take (j - i)).flatten:=by rw[hfl];exact(hus.drop _).take _
  by_cases hci:cap=i
  ·have hj0:j - i=0:=by omega
   rw[if_pos hci,hj0]
   have:=VR.of_cells (g:=g) (xs:=(xs.drop i).take 0) (t:= .ro) (sz:=sz) (b:=b) (off:=o) (cap:=cap - i) (by simp) (by simp) ⟨by simp,by simp⟩ (us:= []) (by simpa using E8.nil g) (by simp) (by simp) (by simp)
   simpa using this
  ·rw[if_neg hci]
   have:=VR.of_cells (g:=g) (xs:=(xs.drop i).take (j - i)) (t:= .ro) (sz:=sz) (b:=b) (off:=o+i*sz) (cap:=cap - i) hsub (by omega) ⟨by have:=hmx.1;omega,CX (Au _ (by omega)) hmx.2⟩ hus2 (fun k hk=>by
    have hk':k < (j - i)*sz:=by simp at hk;omega
    have hlt:i*sz+k < us.length:=by
     rw[hul]
     have h2:j*sz≤xs.length*sz:=Au _ hj
     have h3:(j - i)*sz+i*sz=j*sz:=by rw[←Bq];congr 1;omega
     omega
    rw[EH,hH _ hlt]
    simp) (by simp) (by simp)
   rw[hlen]at this
   simpa [DN]using this
theorem Nb {T E sz by_:Nat} [hT:LK P T E] [hE:ER P E sz by_] {x y:Operand} {α:Type} {f:α→List PV} [hf:Kz f sz] {l:List α} {t:CW} {kk:IntKind} {i:Nat} (hx:ρ.ev x= .slice (l.map f) t) (hy:ρ.ev y= .raw (.int kk (i:Int))) (hi:i≤l.length)
  (k:AY P N all K fl.tail os (CN ρ d (.slice ((l.drop i).map f) .ro)) L) (hd:Nat.blt d N=true:=by rfl):AY P N all K fl (⟨some d,.slice T x (some y) none none,ty,pos,af,none⟩::os) ρ L:=
 Bg hd (X1 i l.length hx hi (by simp) (fun e he=>by obtain⟨a,_,rfl⟩:=AU.1 he;exact hf.out a) (fun o e=>by cases e;exact⟨_,hy⟩) (by simp) (by simp) (by simp)) (by
  rw[AA (by simp),←List.map_drop];exact k)
theorem jG {T E sz by_:Nat} [hT:LK P T E] [hE:ER P E sz by_] {x y:Operand} {α:Type} {f:α→List PV} [hf:Kz f sz] {l:List α} {t:CW} {kk:IntKind} {j:Nat} (hx:ρ.ev x= .slice (l.map f) t) (hy:ρ.ev y= .raw (.int kk (j:Int))) (hj:j≤l.length)
  (k:AY P N all K fl.tail os (CN ρ d (.slice ((l.take j).map f) .ro)) L) (hd:Nat.blt d N=true:=by rfl):AY P N all K fl (⟨some d,.slice T x none (some y) none,ty,pos,af,none⟩::os) ρ L:=
 Bg hd (X1 0 j hx (by omega) (by simpa using hj) (fun e he=>by obtain⟨a,_,rfl⟩:=AU.1 he;exact hf.out a) (by simp) (by simp) (fun o e=>by cases e;exact⟨_,hy⟩) (by simp)) (by
  simp only[Lg,UI,←aA];exact k)
theorem jN {T f0 o0 s0:Nat} {x0:Operand} {z c0 r0:List PV} [hS:CV P T] [hZ:Ch P T z] [hF0:Bb P T f0 o0 s0] [hP0:Et z o0 c0 r0] (h0:E4 (ρ.ev x0) c0) (hl0:c0.length=s0)
  (k:AY P N all K fl.tail os (CN ρ d (.agg r0)) L) (hd:Nat.blt d N=true:=by rfl):AY P N all K fl (⟨some d,.build T #[(f0,x0)],ty,pos,af,none⟩::os) ρ L:=
 Bg hd (JI (ps:= [(f0,x0,o0,c0)]) rfl (by
  intro p hp
  simp only[AQ,BF,or_false]at hp
  rcases hp with rfl
  ·exact⟨s0,hF0.out,h0,hl0⟩) (.cons hP0.out.1 hP0.out.2 (.nil))) k
theorem YM {T f0 f1 o0 o1 s0 s1:Nat} {x0 x1:Operand} {z c0 c1 r0 r1:List PV} [hS:CV P T] [hZ:Ch P T z] [hF0:Bb P T f0 o0 s0] [hF1:Bb P T f1 o1 s1] [hP0:Et z o0 c0 r0] [hP1:Et r0 o1 c1 r1] (h0:E4 (ρ.ev x0) c0) (h1:E4 (ρ.ev x1) c1) (hl0:c0.length=s0) (hl1:c1.length=s1)
  (k:AY P N all K fl.tail os (CN ρ d (.agg r1)) L) (hd:Nat.blt d N=true:=by rfl):AY P N all K fl (⟨some d,.build T #[(f0,x0),(f1,x1)],ty,pos,af,none⟩::os) ρ L:=
 Bg hd (JI (ps:= [(f0,x0,o0,c0),(f1,x1,o1,c1)]) rfl (by
  intro p hp
  simp only[AQ,BF,or_false]at hp
  rcases hp with rfl|rfl
  ·exact⟨s0,hF0.out,h0,hl0⟩
  ·exact⟨s1,hF1.out,h1,hl1⟩) (.cons hP0.out.1 hP0.out.2 (.cons hP1.out.1 hP1.out.2 (.nil)))) k
theorem jM {T f0 f1 f2 o0 o1 o2 s0 s1 s2:Nat} {x0 x1 x2:Operand} {z c0 c1 c2 r0 r1 r2:List PV} [hS:CV P T] [hZ:Ch P T z] [hF0:Bb P T f0 o0 s0] [hF1:Bb P T f1 o1 s1] [hF2:Bb P T f2 o2 s2] [hP0:Et z o0 c0 r0] [hP1:Et r0 o1 c1 r1] [hP2:Et r1 o2 c2 r2] (h0:E4 (ρ.ev x0) c0) (h1:E4 (ρ.ev x1) c1) (h2:E4 (ρ.ev x2) c2) (hl0:c0.length=s0) (hl1:c1.length=s1) (hl2:c2.length=s2)
  (k:AY P N all K fl.tail os (CN ρ d (.agg r2)) L) (hd:Nat.blt d N=true:=by rfl):AY P N all K fl (⟨some d,.build T #[(f0,x0),(f1,x1),(f2,x2)],ty,pos,af,none⟩::os) ρ L:=
 Bg hd (JI (ps:= [(f0,x0,o0,c0),(f1,x1,o1,c1),(f2,x2,o2,c2)]) rfl (by
  intro p hp
  simp only[AQ,BF,or_false]at hp
  rcases hp with rfl|rfl|rfl
  ·exact⟨s0,hF0.out,h0,hl0⟩
  ·exact⟨s1,hF1.out,h1,hl1⟩
  ·exact⟨s2,hF2.out,h2,hl2⟩) (.cons hP0.out.1 hP0.out.2 (.cons hP1.out.1 hP1.out.2 (.cons hP2.out.1 hP2.out.2 (.nil))))) k
theorem jL {T f0 f1 f2 f3 o0 o1 o2 o3 s0 s1 s2 s3:Nat} {x0 x1 x2 x3:Operand} {z c0 c1 c2 c3 r0 r1 r2 r3:List PV} [hS:CV P T] [hZ:Ch P T z] [hF0:Bb P T f0 o0 s0] [hF1:Bb P T f1 o1 s1] [hF2:Bb P T f2 o2 s2] [hF3:Bb P T f3 o3 s3] [hP0:Et z o0 c0 r0] [hP1:Et r0 o1 c1 r1] [hP2:Et r1 o2 c2 r2] [hP3:Et r2 o3 c3 r3] (h0:E4 (ρ.ev x0) c0) (h1:E4 (ρ.ev x1) c1) (h2:E4 (ρ.ev x2) c2) (h3:E4 (ρ.ev x3) c3) (hl0:c0.length=s0) (hl1:c1.length=s1) (hl2:c2.length=s2) (hl3:c3.length=s3)
  (k:AY P N all K fl.tail os (CN ρ d (.agg r3)) L) (hd:Nat.blt d N=true:=by rfl):AY P N all K fl (⟨some d,.build T #[(f0,x0),(f1,x1),(f2,x2),(f3,x3)],ty,pos,af,none⟩::os) ρ L:=
 Bg hd (JI (ps:= [(f0,x0,o0,c0),(f1,x1,o1,c1),(f2,x2,o2,c2),(f3,x3,o3,c3)]) rfl (by
  intro p hp
  simp only[AQ,BF,or_false]at hp
  rcases hp with rfl|rfl|rfl|rfl
  ·exact⟨s0,hF0.out,h0,hl0⟩
  ·exact⟨s1,hF1.out,h1,hl1⟩
  ·exact⟨s2,hF2.out,h2,hl2⟩
  ·exact⟨s3,hF3.out,h3,hl3⟩) (.cons hP0.out.1 hP0.out.2 (.cons hP1.out.1 hP1.out.2 (.cons hP2.out.1 hP2.out.2 (.cons hP3.out.1 hP3.out.2 (.nil)))))) k
theorem jK {T f0 f1 f2 f3 f4 o0 o1 o2 o3 o4 s0 s1 s2 s3 s4:Nat} {x0 x1 x2 x3 x4:Operand} {z c0 c1 c2 c3 c4 r0 r1 r2 r3 r4:List PV} [hS:CV P T] [hZ:Ch P T z] [hF0:Bb P T f0 o0 s0] [hF1:Bb P T f1 o1 s1] [hF2:Bb P T f2 o2 s2] [hF3:Bb P T f3 o3 s3] [hF4:Bb P T f4 o4 s4] [hP0:Et z o0 c0 r0] [hP1:Et r0 o1 c1 r1] [hP2:Et r1 o2 c2 r2] [hP3:Et r2 o3 c3 r3] [hP4:Et r3 o4 c4 r4] (h0:E4 (ρ.ev x0) c0) (h1:E4 (ρ.ev x1) c1) (h2:E4 (ρ.ev x2) c2) (h3:E4 (ρ.ev x3) c3) (h4:E4 (ρ.ev x4) c4) (hl0:c0.length=s0) (hl1:c1.length=s1) (hl2:c2.length=s2) (hl3:c3.length=s3) (hl4:c4.length=s4)
  (k:AY P N all K fl.tail os (CN ρ d (.agg r4)) L) (hd:Nat.blt d N=true:=by rfl):AY P N all K fl (⟨some d,.build T #[(f0,x0),(f1,x1),(f2,x2),(f3,x3),(f4,x4)],ty,pos,af,none⟩::os) ρ L:=
 Bg hd (JI (ps:= [(f0,x0,o0,c0),(f1,x1,o1,c1),(f2,x2,o2,c2),(f3,x3,o3,c3),(f4,x4,o4,c4)]) rfl (by
  intro p hp
  simp only[AQ,BF,or_false]at hp
  rcases hp with rfl|rfl|rfl|rfl|rfl
  ·exact⟨s0,hF0.out,h0,hl0⟩
  ·exact⟨s1,hF1.out,h1,hl1⟩
  ·exact⟨s2,hF2.out,h2,hl2⟩
  ·exact⟨s3,hF3.out,h3,hl3⟩
  ·exact⟨s4,hF4.out,h4,hl4⟩) (.cons hP0.out.1 hP0.out.2 (.cons hP1.out.1 hP1.out.2 (.cons hP2.out.1 hP2.out.2 (.cons hP3.out.1 hP3.out.2 (.cons hP4.out.1 hP4.out.2 (.nil))))))) k
theorem jJ {T f0 f1 f2 f3 f4 f5 o0 o1 o2 o3 o4 o5 s0 s1 s2 s3 s4 s5:Nat} {x0 x1 x2 x3 x4 x5:Operand} {z c0 c1 c2 c3 c4 c5 r0 r1 r2 r3 r4 r5:List PV} [hS:CV P T] [hZ:Ch P T z] [hF0:Bb P T f0 o0 s0] [hF1:Bb P T f1 o1 s1] [hF2:Bb P T f2 o2 s2] [hF3:Bb P T f3 o3 s3] [hF4:Bb P T f4 o4 s4] [hF5:Bb P T f5 o5 s5] [hP0:Et z o0 c0 r0] [hP1:Et r0 o1 c1 r1] [hP2:Et r1 o2 c2 r2] [hP3:Et r2 o3 c3 r3] [hP4:Et r3 o4 c4 r4] [hP5:Et r4 o5 c5 r5] (h0:E4 (ρ.ev x0) c0) (h1:E4 (ρ.ev x1) c1) (h2:E4 (ρ.ev x2) c2) (h3:E4 (ρ.ev x3) c3) (h4:E4 (ρ.ev x4) c4) (h5:E4 (ρ.ev x5) c5) (hl0:c0.length=s0) (hl1:c1.length=s1) (hl2:c2.length=s2) (hl3:c3.length=s3) (hl4:c4.length=s4) (hl5:c5.length=s5)
  (k:AY P N all K fl.tail os (CN ρ d (.agg r5)) L) (hd:Nat.blt d N=true:=by rfl):AY P N all K fl (⟨some d,.build T #[(f0,x0),(f1,x1),(f2,x2),(f3,x3),(f4,x4),(f5,x5)],ty,pos,af,none⟩::os) ρ L:=
 Bg hd (JI (ps:= [(f0,x0,o0,c0),(f1,x1,o1,c1),(f2,x2,o2,c2),(f3,x3,o3,c3),(f4,x4,o4,c4),(f5,x5,o5,c5)]) rfl (by
  intro p hp
  simp only[AQ,BF,or_false]at hp
  rcases hp with rfl|rfl|rfl|rfl|rfl|rfl
  ·exact⟨s0,hF0.out,h0,hl0⟩
  ·exact⟨s1,hF1.out,h1,hl1⟩
  ·exact⟨s2,hF2.out,h2,hl2⟩
  ·exact⟨s3,hF3.out,h3,hl3⟩
  ·exact⟨s4,hF4.out,h4,hl4⟩
  ·exact⟨s5,hF5.out,h5,hl5⟩) (.cons hP0.out.1 hP0.out.2 (.cons hP1.out.1 hP1.out.2 (.cons hP2.out.1 hP2.out.2 (.cons hP3.out.1 hP3.out.2 (.cons hP4.out.1 hP4.out.2 (.cons hP5.out.1 hP5.out.2 (.nil)))))))) k
end
class B3 (p:Prop):Prop where
 out:p
theorem Cd {a b:List PV}:J1 (a++b) 0 a:=⟨by simp⟩
theorem Ir {a:List PV}:J1 a 0 a:=⟨by simp⟩
theorem Af {a b r:List PV} {n off:Nat} (ha:a.length=n) (h:J1 b off r):J1 (a++b) (n+off) r:=⟨by
 obtain⟨h1,h2⟩:=h.out
 subst ha
 constructor
 ·rw[Ou];exact h1
 ·simp;omega⟩
theorem K9 {cs r:List PV} {off n:Nat} (h:J1 cs off r) (hn:r.length=n):Xl cs off n r:=⟨by
 obtain⟨h1,h2⟩:=h.out;subst hn;exact⟨h1,h2⟩⟩
theorem Cr {a b new:List PV} (h:new.length=a.length):Et (a++b) 0 new (new++b):=⟨by simp[h]⟩
theorem Ij {a new:List PV} (h:new.length=a.length):Et a 0 new new:=⟨by simp[h]⟩
theorem Ae {a b r new:List PV} {n off:Nat} (ha:a.length=n) (h:Et b off new r):Et (a++b) (n+off) new (a++r):=⟨by
 obtain⟨h1,h2⟩:=h.out
 subst ha
 constructor
 ·rw[←h1,Oq,EH,Ou];simp
 ·simp;omega⟩
theorem jj {cs r r' new cs':List PV} {off io:Nat} (h:J1 cs off r) (k:Et r io new r') (p:Et cs off r' cs'):Et cs (off+io) new cs':=⟨by
 obtain⟨h1,h2⟩:=h.out
 obtain⟨k1,k2⟩:=k.out
 obtain⟨p1,p2⟩:=p.out
 refine⟨?_,by omega⟩
 have hl:r'.length=r.length:=by rw[←k1];simp;omega
 rw[←p1,hl,←k1]
 have e1:List.take (off+io) cs=List.take off cs++List.take io r:=by
  rw[List.take_add,←h1,List.take_take,DD (by omega)]
 have e2:List.drop (off+io+new.length) cs=List.drop (io+new.length) r++List.drop (off+r.length) cs:=by
  conv=>rhs;rw[←h1]
  rw[List.drop_take,Lh,h1,EH]
  conv=>lhs;rw[←C4 (r.length - (io+new.length)) (List.drop (off+(io+new.length)) cs)]
  rw[Lh]
  congr 2;omega
 rw[e1,e2]
 simp⟩
def Dig.zero:Dig:=⟨List.replicate 32 0,rfl⟩
def Ident.zero:Ident:=⟨Dig.zero,0⟩
class Dt (x:PV) (cs:outParam (List PV)):Prop where
 out:E4 x cs
instance {cs:List PV}:Dt (.agg cs) cs:=⟨.agg cs⟩
instance {xs:List (List PV)} {t:CW}:Dt (.slice xs t) [.slice xs .ro]:=⟨.ro xs t⟩
instance {k:IntKind} {n:Int}:Dt (.raw (.int k n)) [.raw (.int k n)]:=⟨.one (EU.out)⟩
instance {b:Bool}:Dt (.raw (.bool b)) [.raw (.bool b)]:=⟨.one (EU.out)⟩
instance {s:Str}:Dt (.str s) [.str s]:=⟨.one (EU.out)⟩
instance {kvs:List (PV × PV)}:Dt (.fmap kvs) [.fmap kvs]:=⟨.one (EU.out)⟩
instance :Dt (.raw (.slice none 0 0)) [.slice [] .ro]:=⟨fun g v hv=>⟨[v],by cases hv;rfl,by cases hv;exact .cons .nilR (.nil g)⟩⟩
class Cw (cs:List PV) (n:outParam Nat):Prop where
 out:cs.length=n
instance (priority:=low) {α:Type} {f:α→List PV} {a:α} {n:Nat} [h:Kz f n]:Cw (f a) n:=⟨h.out a⟩
instance {x:PV}:Cw [x] 1:=⟨rfl⟩
class Fx {α:outParam Type} (x:PV) (f:outParam (α→List PV)) (a:outParam α):Prop where
 out:E4 x (f a)
instance (d:Dig):Fx (.agg (eDig d)) eDig d:=⟨.agg _⟩
instance (d:Ident):Fx (.agg (eIdent d)) eIdent d:=⟨.agg _⟩
instance (n:Int):Fx (.raw (.int .i64 n)) eI n:=⟨.one (Gw.out (f:=eI) n)⟩
instance (s:Str):Fx (.str s) eS s:=⟨.one (Gw.out (f:=eS) s)⟩
instance :Dt (.raw (.string ⟨[].toArray⟩)) [.str []]:=⟨fun g v hv=>⟨[v],by cases hv;rfl,by cases hv;exact .cons (.str (by show 0≤maxN;decide)) (.nil g)⟩⟩
instance (a b c:UInt8):Dt (.raw (.string ⟨[a,b,c].toArray⟩)) [.str [a,b,c]]:=⟨fun g v hv=>⟨[v],by cases hv;rfl,by cases hv;exact .cons (.str (by show 3≤maxN;decide)) (.nil g)⟩⟩
def Le (x y:PV):Prop:= ∀ g v,VR g v x→VR g v y
theorem Le.refl (x:PV):Le x x:=fun _ _ h=>h
theorem Le.of_eq {x y:PV} (h:x=y):Le x y:=h ▸ .refl x
theorem Le.ro (xs:List (List PV)) (t:CW):Le (.slice xs t) (.slice xs .ro):=fun _ _ h=>h.ro
theorem Le.ros {xs ys:List (List PV)} {t:CW} (h:xs=ys):Le (.slice xs t) (.slice ys .ro):=h ▸ .ro xs t
theorem Le.nil:Le (.raw (.slice none 0 0)) (.slice [] .nil):=fun _ v h=>by cases h;exact .nilN none (by simp)
theorem Le.nilr:Le (.raw (.slice none 0 0)) (.slice [] .ro):=fun _ v h=>by cases h;exact .nilR
theorem Le.tuple {xs ys:List PV} (hl:xs.length=ys.length) (h: ∀ i (h1:i < xs.length) (h2:i < ys.length),Le xs[i] ys[i]):Le (.tuple xs) (.tuple ys):=fun g v hv=>by
 obtain⟨vs,rfl,h1⟩:=hv.tuple_inv
 exact E8.tuple ⟨h1.len.trans hl,fun i h2 h3=>h i (by omega) h3 g _ (h1.at_ i h2 (by omega))⟩
theorem Le.tuple2 {a b a' b':PV} (h1:Le a a') (h2:Le b b'):Le (.tuple [a,b]) (.tuple [a',b']):= .tuple rfl fun i h _=>by
 match i,h with
 |0,_=>exact h1
 |1,_=>exact h2
 |n+2,h=>simp at h;omega
theorem Le.tuple3 {a b c a' b' c':PV} (h1:Le a a') (h2:Le b b') (h3:Le c c'):Le (.tuple [a,b,c]) (.tuple [a',b',c']):= .tuple rfl fun i h _=>by
 match i,h with
 |0,_=>exact h1
 |1,_=>exact h2
 |2,_=>exact h3
 |n+3,h=>simp at h;omega
class Jt (x:PV) (y:outParam PV):Prop where
 out:Le x y
instance (priority:=low) (x:PV):Jt x x:=⟨.refl x⟩
instance :Jt (.raw (.slice none 0 0)) (.slice [] .nil):=⟨.nil⟩
instance :Jt (.raw (.string ⟨[].toArray⟩)) (.str []):=⟨fun g v hv=>by cases hv;exact .str (by show 0≤maxN;decide)⟩
instance (a:UInt8):Jt (.raw (.string ⟨[a].toArray⟩)) (.str [a]):=⟨fun g v hv=>by cases hv;exact .str (by show 1≤maxN;decide)⟩
instance (a b c d e f:UInt8):Jt (.raw (.string ⟨[a,b,c,d,e,f].toArray⟩)) (.str [a,b,c,d,e,f]):=⟨fun g v hv=>by cases hv;exact .str (by show 6≤maxN;decide)⟩
class IX (x:PV) (s:outParam Str):Prop where
 out: ∀ g v,VR g v x→v= .string (sB s)
instance (s:Str):IX (.str s) s:=⟨fun g v h=>by cases h;rfl⟩
instance (s:List UInt8):IX (.raw (.string ⟨s.toArray⟩)) s:=⟨fun g v h=>by cases h;rfl⟩
theorem wu {P:Program} {f:FuncId} {args:List PV} {X:PV} (h:B2 P f args [] (fun r L'=>Le r X∧L'= [])):Fn P f args X:=fun vs w g LF hv hi=>
 (h vs w g LF hv hi).mono fun _ _ ⟨v,x,g',L',h1,h2,h3,h4,h5,h6,h7⟩=>⟨v,X,g',L',h1,h6 _ _ h2,h3,h4,h5,rfl,h7⟩
theorem Ak {P:Program} {f:FuncId} {fn:Func} {c:Code} {rs:List ResultVar} {N:Nat} {args:List PV} {X:PV}
  (hf:P.funcs[f]? =some fn) (hn:fn.ntmps=N) (hb:fn.body=some c) (hr:fn.results=rs.toArray) (hN:Nat.ble args.length N=true)
  (h:(∀ x∈args,Bd x)→ ∀ LF,EG P N c (gj P rs (fun r L'=>Le r X∧L'= []) LF) (y4 args) LF):Fn P f args X:=wu (Bw hf hb hn hr hN h)
section
variable {P:Program} {ρ:Env} {L LF:List Res} {X:PV}
theorem Ah {t:Nat} {y:PV} (hX:Le y X) (hx:ρ t=y:=by conv=>lhs;whnf) (hs:LF.Sublist L:=by repeat(first|exact Dd _|apply List.Sublist.cons)):gj P [.tmp t] (fun r L'=>Le r X∧L'= []) LF .ret ρ L:=
 ⟨trivial,_,[],.cons (.tmp t) .nil,hs,hx ▸ hX,rfl⟩
theorem GM {t u:Nat} {x y:PV} (hX:Le (.tuple [x,y]) X) (hx:ρ t=x:=by conv=>lhs;whnf) (hy:ρ u=y:=by conv=>lhs;whnf) (hs:LF.Sublist L:=by repeat(first|exact Dd _|apply List.Sublist.cons)):gj P [.tmp t,.tmp u] (fun r L'=>Le r X∧L'= []) LF .ret ρ L:=
 ⟨trivial,_,[],.cons (.tmp t) (.cons (.tmp u) .nil),hs,by subst hx;subst hy;exact hX,rfl⟩
theorem l0 {t u s:Nat} {x y z:PV} (hX:Le (.tuple [x,y,z]) X) (hx:ρ t=x:=by conv=>lhs;whnf) (hy:ρ u=y:=by conv=>lhs;whnf) (hz:ρ s=z:=by conv=>lhs;whnf) (hs:LF.Sublist L:=by repeat(first|exact Dd _|apply List.Sublist.cons)):gj P [.tmp t,.tmp u,.tmp s] (fun r L'=>Le r X∧L'= []) LF .ret ρ L:=
 ⟨trivial,_,[],.cons (.tmp t) (.cons (.tmp u) (.cons (.tmp s) .nil)),hs,by subst hx;subst hy;subst hz;exact hX,rfl⟩
theorem FW {t T n b T':Nat} {cs:List PV} [hT:FL P T n] (h:ρ t= .raw (.pointer (some ⟨b,0,none⟩))) (hx:Le (.agg cs) X) (hm:Res.box b T' cs∈L:=by repeat(first|exact AI|apply AD)) (hn:cs.length=n:=by simp) (hs:LF.Sublist L:=by repeat(first|exact Dd _|apply List.Sublist.cons)):
  gj P [.cell t T] (fun r L'=>Le r X∧L'= []) LF .ret ρ L:=⟨trivial,_,[],.cons (.cell t T h hm hT.out hn) .nil,hs,hx,rfl⟩
theorem DX {t T n b T' u:Nat} {cs:List PV} {y:PV} [hT:FL P T n] (h:ρ t= .raw (.pointer (some ⟨b,0,none⟩))) (hx:Le (.tuple [.agg cs,y]) X) (hy:ρ u=y:=by conv=>lhs;whnf) (hm:Res.box b T' cs∈L:=by repeat(first|exact AI|apply AD)) (hn:cs.length=n:=by simp) (hs:LF.Sublist L:=by repeat(first|exact Dd _|apply List.Sublist.cons)):
  gj P [.cell t T,.tmp u] (fun r L'=>Le r X∧L'= []) LF .ret ρ L:=⟨trivial,_,[],.cons (.cell t T h hm hT.out hn) (.cons (.tmp u) .nil),hs,by subst hy;exact hx,rfl⟩
end
structure Chg where
 kind:Int
 file:Ident
 type:Int
 parent:Ident
 name:Str
 mode:Int
 data:Str
 after:Ident
 before:Ident
 lines:List Str
 over:List Ident
 deriving DecidableEq
def Chg.zero:Chg:=⟨0,Ident.zero,0,Ident.zero,[],0,[],Ident.zero,Ident.zero,[],[]⟩
def BC (c:Chg):List PV:= [.raw (.int .i64 c.kind)]++((eIdent c.file)++([.raw (.int .i64 c.type)]++((eIdent c.parent)++([.str c.name]++([.raw (.int .i64 c.mode)]++([.str c.data]++((eIdent c.after)++((eIdent c.before)++([.slice ((c.lines).map eS) .ro]++([.slice ((c.over).map eIdent) .ro]))))))))))
@[simp] theorem kP (c:Chg):(BC c).length=139:=by unfold BC;simp
instance :Kz BC 139:=⟨kP⟩
instance (c:Chg):EU (BC c):=by unfold BC;infer_instance
instance (c:Chg):Fx (.agg (BC c)) BC c:=⟨E4.agg _⟩
instance XQ (c:Chg):J1 (BC c) 0 [.raw (.int .i64 c.kind)]:=by unfold BC;exact Cd
instance rM (c:Chg):At (BC c) 0 (.raw (.int .i64 c.kind)):=GQ (XQ c)
instance nq (c:Chg) (x:Int):Et (BC c) 0 [.raw (.int .i64 x)] (BC { c with kind:=x }):=by unfold BC;exact Cr (by simp)
instance XR (c:Chg):J1 (BC c) 1 (eIdent c.file):=by unfold BC;exact Af (n:=1) (off:=0) (by simp) (Cd)
instance nH (c:Chg):Xl (BC c) 1 33 (eIdent c.file):=K9 (XR c) (by simp)
instance nr (c:Chg) (x:Ident):Et (BC c) 1 (eIdent x) (BC { c with file:=x }):=by unfold BC;exact Ae (n:=1) (off:=0) (by simp) (Cr (by simp))
instance XM (c:Chg):J1 (BC c) 34 [.raw (.int .i64 c.type)]:=by unfold BC;exact Af (n:=1) (off:=33) (by simp) (Af (n:=33) (off:=0) (by simp) (Cd))
instance rF (c:Chg):At (BC c) 34 (.raw (.int .i64 c.type)):=GQ (XM c)
instance nk (c:Chg) (x:Int):Et (BC c) 34 [.raw (.int .i64 x)] (BC { c with type:=x }):=by unfold BC;exact Ae (n:=1) (off:=33) (by simp) (Ae (n:=33) (off:=0) (by simp) (Cr (by simp)))
instance Tm (c:Chg):J1 (BC c) 35 (eIdent c.parent):=by unfold BC;exact Af (n:=1) (off:=34) (by simp) (Af (n:=33) (off:=1) (by simp) (Af (n:=1) (off:=0) (by simp) (Cd)))
instance iU (c:Chg):Xl (BC c) 35 33 (eIdent c.parent):=K9 (Tm c) (by simp)
instance jl (c:Chg) (x:Ident):Et (BC c) 35 (eIdent x) (BC { c with parent:=x }):=by unfold BC;exact Ae (n:=1) (off:=34) (by simp) (Ae (n:=33) (off:=1) (by simp) (Ae (n:=1) (off:=0) (by simp) (Cr (by simp))))
instance XO (c:Chg):J1 (BC c) 68 [.str c.name]:=by unfold BC;exact Af (n:=1) (off:=67) (by simp) (Af (n:=33) (off:=34) (by simp) (Af (n:=1) (off:=33) (by simp) (Af (n:=33) (off:=0) (by simp) (Cd))))
instance rJ (c:Chg):At (BC c) 68 (.str c.name):=GQ (XO c)
instance nn (c:Chg) (x:Str):Et (BC c) 68 [.str x] (BC { c with name:=x }):=by unfold BC;exact Ae (n:=1) (off:=67) (by simp) (Ae (n:=33) (off:=34) (by simp) (Ae (n:=1) (off:=33) (by simp) (Ae (n:=33) (off:=0) (by simp) (Cr (by simp)))))
instance XP (c:Chg):J1 (BC c) 69 [.raw (.int .i64 c.mode)]:=by unfold BC;exact Af (n:=1) (off:=68) (by simp) (Af (n:=33) (off:=35) (by simp) (Af (n:=1) (off:=34) (by simp) (Af (n:=33) (off:=1) (by simp) (Af (n:=1) (off:=0) (by simp) (Cd)))))
instance rL (c:Chg):At (BC c) 69 (.raw (.int .i64 c.mode)):=GQ (XP c)
instance np (c:Chg) (x:Int):Et (BC c) 69 [.raw (.int .i64 x)] (BC { c with mode:=x }):=by unfold BC;exact Ae (n:=1) (off:=68) (by simp) (Ae (n:=33) (off:=35) (by simp) (Ae (n:=1) (off:=34) (by simp) (Ae (n:=33) (off:=1) (by simp) (Ae (n:=1) (off:=0) (by simp) (Cr (by simp))))))
instance XT (c:Chg):J1 (BC c) 70 [.str c.data]:=by unfold BC;exact Af (n:=1) (off:=69) (by simp) (Af (n:=33) (off:=36) (by simp) (Af (n:=1) (off:=35) (by simp) (Af (n:=33) (off:=2) (by simp) (Af (n:=1) (off:=1) (by simp) (Af (n:=1) (off:=0) (by simp) (Cd))))))
instance rN (c:Chg):At (BC c) 70 (.str c.data):=GQ (XT c)
instance ns (c:Chg) (x:Str):Et (BC c) 70 [.str x] (BC { c with data:=x }):=by unfold BC;exact Ae (n:=1) (off:=69) (by simp) (Ae (n:=33) (off:=36) (by simp) (Ae (n:=1) (off:=35) (by simp) (Ae (n:=33) (off:=2) (by simp) (Ae (n:=1) (off:=1) (by simp) (Ae (n:=1) (off:=0) (by simp) (Cr (by simp)))))))
instance Uf (c:Chg):J1 (BC c) 71 (eIdent c.after):=by unfold BC;exact Af (n:=1) (off:=70) (by simp) (Af (n:=33) (off:=37) (by simp) (Af (n:=1) (off:=36) (by simp) (Af (n:=33) (off:=3) (by simp) (Af (n:=1) (off:=2) (by simp) (Af (n:=1) (off:=1) (by simp) (Af (n:=1) (off:=0) (by simp) (Cd)))))))
instance mL (c:Chg):Xl (BC c) 71 33 (eIdent c.after):=K9 (Uf c) (by simp)
instance mX (c:Chg) (x:Ident):Et (BC c) 71 (eIdent x) (BC { c with after:=x }):=by unfold BC;exact Ae (n:=1) (off:=70) (by simp) (Ae (n:=33) (off:=37) (by simp) (Ae (n:=1) (off:=36) (by simp) (Ae (n:=33) (off:=3) (by simp) (Ae (n:=1) (off:=2) (by simp) (Ae (n:=1) (off:=1) (by simp) (Ae (n:=1) (off:=0) (by simp) (Cr (by simp))))))))
instance Tn (c:Chg):J1 (BC c) 104 (eIdent c.before):=by unfold BC;exact Af (n:=1) (off:=103) (by simp) (Af (n:=33) (off:=70) (by simp) (Af (n:=1) (off:=69) (by simp) (Af (n:=33) (off:=36) (by simp) (Af (n:=1) (off:=35) (by simp) (Af (n:=1) (off:=34) (by simp) (Af (n:=1) (off:=33) (by simp) (Af (n:=33) (off:=0) (by simp) (Cd))))))))
instance iV (c:Chg):Xl (BC c) 104 33 (eIdent c.before):=K9 (Tn c) (by simp)
instance jm (c:Chg) (x:Ident):Et (BC c) 104 (eIdent x) (BC { c with before:=x }):=by unfold BC;exact Ae (n:=1) (off:=103) (by simp) (Ae (n:=33) (off:=70) (by simp) (Ae (n:=1) (off:=69) (by simp) (Ae (n:=33) (off:=36) (by simp) (Ae (n:=1) (off:=35) (by simp) (Ae (n:=1) (off:=34) (by simp) (Ae (n:=1) (off:=33) (by simp) (Ae (n:=33) (off:=0) (by simp) (Cr (by simp)))))))))
instance Ue (c:Chg):J1 (BC c) 137 [.slice ((c.lines).map eS) .ro]:=by unfold BC;exact Af (n:=1) (off:=136) (by simp) (Af (n:=33) (off:=103) (by simp) (Af (n:=1) (off:=102) (by simp) (Af (n:=33) (off:=69) (by simp) (Af (n:=1) (off:=68) (by simp) (Af (n:=1) (off:=67) (by simp) (Af (n:=1) (off:=66) (by simp) (Af (n:=33) (off:=33) (by simp) (Af (n:=33) (off:=0) (by simp) (Cd)))))))))
instance ph (c:Chg):At (BC c) 137 (.slice ((c.lines).map eS) .ro):=GQ (Ue c)
instance UW (c:Chg) (x:List Str):Et (BC c) 137 [.slice ((x).map eS) .ro] (BC { c with lines:=x }):=by unfold BC;exact Ae (n:=1) (off:=136) (by simp) (Ae (n:=33) (off:=103) (by simp) (Ae (n:=1) (off:=102) (by simp) (Ae (n:=33) (off:=69) (by simp) (Ae (n:=1) (off:=68) (by simp) (Ae (n:=1) (off:=67) (by simp) (Ae (n:=1) (off:=66) (by simp) (Ae (n:=33) (off:=33) (by simp) (Ae (n:=33) (off:=0) (by simp) (Cr (by simp))))))))))
instance ji (c:Chg):Et (BC c) 137 [.slice [] .ro] (BC { c with lines:= [] }):=UW c []
instance XN (c:Chg):J1 (BC c) 138 [.slice ((c.over).map eIdent) .ro]:=by unfold BC;exact Af (n:=1) (off:=137) (by simp) (Af (n:=33) (off:=104) (by simp) (Af (n:=1) (off:=103) (by simp) (Af (n:=33) (off:=70) (by simp) (Af (n:=1) (off:=69) (by simp) (Af (n:=1) (off:=68) (by simp) (Af (n:=1) (off:=67) (by simp) (Af (n:=33) (off:=34) (by simp) (Af (n:=33) (off:=1) (by simp) (Af (n:=1) (off:=0) (by simp) (Ir))))))))))
instance rI (c:Chg):At (BC c) 138 (.slice ((c.over).map eIdent) .ro):=GQ (XN c)
instance X3 (c:Chg) (x:List Ident):Et (BC c) 138 [.slice ((x).map eIdent) .ro] (BC { c with over:=x }):=by unfold BC;exact Ae (n:=1) (off:=137) (by simp) (Ae (n:=33) (off:=104) (by simp) (Ae (n:=1) (off:=103) (by simp) (Ae (n:=33) (off:=70) (by simp) (Ae (n:=1) (off:=69) (by simp) (Ae (n:=1) (off:=68) (by simp) (Ae (n:=1) (off:=67) (by simp) (Ae (n:=33) (off:=34) (by simp) (Ae (n:=33) (off:=1) (by simp) (Ae (n:=1) (off:=0) (by simp) (Ij (by simp)))))))))))
instance mQ (c:Chg):Et (BC c) 138 [.slice [] .ro] (BC { c with over:= [] }):=X3 c []
structure Pat where
 author:Str
 message:Str
 time:Int
 deps:List Dig
 changes:List Chg
 deriving DecidableEq
def Pat.zero:Pat:=⟨[],[],0,[],[]⟩
def CP (c:Pat):List PV:= [.str c.author]++([.str c.message]++([.raw (.int .i64 c.time)]++([.slice ((c.deps).map eDig) .ro]++([.slice ((c.changes).map BC) .ro]))))
@[simp] theorem kO (c:Pat):(CP c).length=5:=by unfold CP;simp
instance :Kz CP 5:=⟨kO⟩
instance (c:Pat):EU (CP c):=by unfold CP;infer_instance
instance Tl (c:Pat):J1 (CP c) 0 [.str c.author]:=by unfold CP;exact Cd
instance mi (c:Pat):At (CP c) 0 (.str c.author):=GQ (Tl c)
instance jk (c:Pat) (x:Str):Et (CP c) 0 [.str x] (CP { c with author:=x }):=by unfold CP;exact Cr (by simp)
instance SG (c:Pat):J1 (CP c) 1 [.str c.message]:=by unfold CP;exact Af (n:=1) (off:=0) (by simp) (Cd)
instance lY (c:Pat):At (CP c) 1 (.str c.message):=GQ (SG c)
instance XK (c:Pat):J1 (CP c) 2 [.raw (.int .i64 c.time)]:=by unfold CP;exact Af (n:=1) (off:=1) (by simp) (Af (n:=1) (off:=0) (by simp) (Cd))
instance rB (c:Pat):At (CP c) 2 (.raw (.int .i64 c.time)):=GQ (XK c)
instance nj (c:Pat) (x:Int):Et (CP c) 2 [.raw (.int .i64 x)] (CP { c with time:=x }):=by unfold CP;exact Ae (n:=1) (off:=1) (by simp) (Ae (n:=1) (off:=0) (by simp) (Cr (by simp)))
instance XL (c:Pat):J1 (CP c) 3 [.slice ((c.deps).map eDig) .ro]:=by unfold CP;exact Af (n:=1) (off:=2) (by simp) (Af (n:=1) (off:=1) (by simp) (Af (n:=1) (off:=0) (by simp) (Cd)))
instance rE (c:Pat):At (CP c) 3 (.slice ((c.deps).map eDig) .ro):=GQ (XL c)
instance SH (c:Pat):J1 (CP c) 4 [.slice ((c.changes).map BC) .ro]:=by unfold CP;exact Af (n:=1) (off:=3) (by simp) (Af (n:=1) (off:=2) (by simp) (Af (n:=1) (off:=1) (by simp) (Af (n:=1) (off:=0) (by simp) (Ir))))
instance lZ (c:Pat):At (CP c) 4 (.slice ((c.changes).map BC) .ro):=GQ (SH c)
instance gX (c:Pat) (x:List Chg):Et (CP c) 4 [.slice ((x).map BC) .ro] (CP { c with changes:=x }):=by unfold CP;exact Ae (n:=1) (off:=3) (by simp) (Ae (n:=1) (off:=2) (by simp) (Ae (n:=1) (off:=1) (by simp) (Ae (n:=1) (off:=0) (by simp) (Ij (by simp)))))
structure Sto where
 id:Dig
 patch:Pat
 deriving DecidableEq
def Sto.zero:Sto:=⟨Dig.zero,Pat.zero⟩
def eSto (c:Sto):List PV:=(eDig c.id)++((CP c.patch))
@[simp] theorem kM (c:Sto):(eSto c).length=37:=by unfold eSto;simp
instance :Kz eSto 37:=⟨kM⟩
instance (c:Sto):EU (eSto c):=by unfold eSto;infer_instance
instance :Gw eSto:=⟨fun c=>(inferInstance:EU (eSto c)).out⟩
instance (c:Sto):Fx (.agg (eSto c)) eSto c:=⟨E4.agg _⟩
instance tL (c:Sto):J1 (eSto c) 0 (eDig c.id):=by unfold eSto;exact Cd
instance sV (c:Sto) (x:Dig):Et (eSto c) 0 (eDig x) (eSto { c with id:=x }):=by unfold eSto;exact Cr (by simp)
instance mb (c:Sto):J1 (eSto c) 32 (CP c.patch):=by unfold eSto;exact Af (n:=32) (off:=0) (by simp) (Ir)
instance mU (c:Sto) (x:Pat):Et (eSto c) 32 (CP x) (eSto { c with patch:=x }):=by unfold eSto;exact Ae (n:=32) (off:=0) (by simp) (Ij (by simp))
structure Atm where
 id:Ident
 kind:Int
 file:Ident
 type:Int
 parent:Ident
 name:Str
 mode:Int
 data:Str
 text:Str
 src:Ident
 dst:Ident
 over:List Ident
 deriving DecidableEq
def Atm.zero:Atm:=⟨Ident.zero,0,Ident.zero,0,Ident.zero,[],0,[],[],Ident.zero,Ident.zero,[]⟩
def eAtm (c:Atm):List PV:=(eIdent c.id)++([.raw (.int .i64 c.kind)]++((eIdent c.file)++([.raw (.int .i64 c.type)]++((eIdent c.parent)++([.str c.name]++([.raw (.int .i64 c.mode)]++([.str c.data]++([.str c.text]++((eIdent c.src)++((eIdent c.dst)++([.slice ((c.over).map eIdent) .ro])))))))))))
@[simp] theorem kR (c:Atm):(eAtm c).length=172:=by unfold eAtm;simp
instance :Kz eAtm 172:=⟨kR⟩
instance (c:Atm):EU (eAtm c):=by unfold eAtm;infer_instance
instance :Gw eAtm:=⟨fun c=>(inferInstance:EU (eAtm c)).out⟩
instance (c:Atm):Fx (.agg (eAtm c)) eAtm c:=⟨E4.agg _⟩
instance Tq (c:Atm):J1 (eAtm c) 0 (eIdent c.id):=by unfold eAtm;exact Cd
instance rr (c:Atm):Xl (eAtm c) 0 33 (eIdent c.id):=K9 (Tq c) (by simp)
instance ak (c:Atm) (x:Ident):Et (eAtm c) 0 (eIdent x) (eAtm { c with id:=x }):=by unfold eAtm;exact Cr (by simp)
instance fF (c:Atm) (x:Dig):Et (eAtm c) 0 (eDig x) (eAtm { c with id:={ c.id with patch:=x } }):=jj (Tq c) (by infer_instance:Et (eIdent c.id) 0 (eDig x) (eIdent { c.id with patch:=x })) (ak c _)
instance XW (c:Atm):J1 (eAtm c) 33 [.raw (.int .i64 c.kind)]:=by unfold eAtm;exact Af (n:=33) (off:=0) (by simp) (Cd)
instance rR (c:Atm):At (eAtm c) 33 (.raw (.int .i64 c.kind)):=GQ (XW c)
instance nz (c:Atm) (x:Int):Et (eAtm c) 33 [.raw (.int .i64 x)] (eAtm { c with kind:=x }):=by unfold eAtm;exact Ae (n:=33) (off:=0) (by simp) (Cr (by simp))
instance XX (c:Atm):J1 (eAtm c) 34 (eIdent c.file):=by unfold eAtm;exact Af (n:=33) (off:=1) (by simp) (Af (n:=1) (off:=0) (by simp) (Cd))
instance nI (c:Atm):Xl (eAtm c) 34 33 (eIdent c.file):=K9 (XX c) (by simp)
instance o6 (c:Atm) (x:Ident):Et (eAtm c) 34 (eIdent x) (eAtm { c with file:=x }):=by unfold eAtm;exact Ae (n:=33) (off:=1) (by simp) (Ae (n:=1) (off:=0) (by simp) (Cr (by simp)))
instance XU (c:Atm):J1 (eAtm c) 67 [.raw (.int .i64 c.type)]:=by unfold eAtm;exact Af (n:=33) (off:=34) (by simp) (Af (n:=1) (off:=33) (by simp) (Af (n:=33) (off:=0) (by simp) (Cd)))
instance rP (c:Atm):At (eAtm c) 67 (.raw (.int .i64 c.type)):=GQ (XU c)
instance nu (c:Atm) (x:Int):Et (eAtm c) 67 [.raw (.int .i64 x)] (eAtm { c with type:=x }):=by unfold eAtm;exact Ae (n:=33) (off:=34) (by simp) (Ae (n:=1) (off:=33) (by simp) (Ae (n:=33) (off:=0) (by simp) (Cr (by simp))))
instance Tp (c:Atm):J1 (eAtm c) 68 (eIdent c.parent):=by unfold eAtm;exact Af (n:=33) (off:=35) (by simp) (Af (n:=1) (off:=34) (by simp) (Af (n:=33) (off:=1) (by simp) (Af (n:=1) (off:=0) (by simp) (Cd))))
instance iW (c:Atm):Xl (eAtm c) 68 33 (eIdent c.parent):=K9 (Tp c) (by simp)
instance jn (c:Atm) (x:Ident):Et (eAtm c) 68 (eIdent x) (eAtm { c with parent:=x }):=by unfold eAtm;exact Ae (n:=33) (off:=35) (by simp) (Ae (n:=1) (off:=34) (by simp) (Ae (n:=33) (off:=1) (by simp) (Ae (n:=1) (off:=0) (by simp) (Cr (by simp)))))
instance nx (c:Atm) (x:Str):Et (eAtm c) 101 [.str x] (eAtm { c with name:=x }):=by unfold eAtm;exact Ae (n:=33) (off:=68) (by simp) (Ae (n:=1) (off:=67) (by simp) (Ae (n:=33) (off:=34) (by simp) (Ae (n:=1) (off:=33) (by simp) (Ae (n:=33) (off:=0) (by simp) (Cr (by simp))))))
instance ny (c:Atm) (x:Int):Et (eAtm c) 102 [.raw (.int .i64 x)] (eAtm { c with mode:=x }):=by unfold eAtm;exact Ae (n:=33) (off:=69) (by simp) (Ae (n:=1) (off:=68) (by simp) (Ae (n:=33) (off:=35) (by simp) (Ae (n:=1) (off:=34) (by simp) (Ae (n:=33) (off:=1) (by simp) (Ae (n:=1) (off:=0) (by simp) (Cr (by simp)))))))
instance o7 (c:Atm) (x:Str):Et (eAtm c) 103 [.str x] (eAtm { c with data:=x }):=by unfold eAtm;exact Ae (n:=33) (off:=70) (by simp) (Ae (n:=1) (off:=69) (by simp) (Ae (n:=33) (off:=36) (by simp) (Ae (n:=1) (off:=35) (by simp) (Ae (n:=33) (off:=2) (by simp) (Ae (n:=1) (off:=1) (by simp) (Ae (n:=1) (off:=0) (by simp) (Cr (by simp))))))))
instance nv (c:Atm) (x:Str):Et (eAtm c) 104 [.str x] (eAtm { c with text:=x }):=by unfold eAtm;exact Ae (n:=33) (off:=71) (by simp) (Ae (n:=1) (off:=70) (by simp) (Ae (n:=33) (off:=37) (by simp) (Ae (n:=1) (off:=36) (by simp) (Ae (n:=33) (off:=3) (by simp) (Ae (n:=1) (off:=2) (by simp) (Ae (n:=1) (off:=1) (by simp) (Ae (n:=1) (off:=0) (by simp) (Cr (by simp)))))))))
instance ZL (c:Atm):J1 (eAtm c) 105 (eIdent c.src):=by unfold eAtm;exact Af (n:=33) (off:=72) (by simp) (Af (n:=1) (off:=71) (by simp) (Af (n:=33) (off:=38) (by simp) (Af (n:=1) (off:=37) (by simp) (Af (n:=33) (off:=4) (by simp) (Af (n:=1) (off:=3) (by simp) (Af (n:=1) (off:=2) (by simp) (Af (n:=1) (off:=1) (by simp) (Af (n:=1) (off:=0) (by simp) (Cd)))))))))
instance qI (c:Atm):Xl (eAtm c) 105 33 (eIdent c.src):=K9 (ZL c) (by simp)
instance qf (c:Atm) (x:Ident):Et (eAtm c) 105 (eIdent x) (eAtm { c with src:=x }):=by unfold eAtm;exact Ae (n:=33) (off:=72) (by simp) (Ae (n:=1) (off:=71) (by simp) (Ae (n:=33) (off:=38) (by simp) (Ae (n:=1) (off:=37) (by simp) (Ae (n:=33) (off:=4) (by simp) (Ae (n:=1) (off:=3) (by simp) (Ae (n:=1) (off:=2) (by simp) (Ae (n:=1) (off:=1) (by simp) (Ae (n:=1) (off:=0) (by simp) (Cr (by simp))))))))))
instance ZM (c:Atm):J1 (eAtm c) 138 (eIdent c.dst):=by unfold eAtm;exact Af (n:=33) (off:=105) (by simp) (Af (n:=1) (off:=104) (by simp) (Af (n:=33) (off:=71) (by simp) (Af (n:=1) (off:=70) (by simp) (Af (n:=33) (off:=37) (by simp) (Af (n:=1) (off:=36) (by simp) (Af (n:=1) (off:=35) (by simp) (Af (n:=1) (off:=34) (by simp) (Af (n:=1) (off:=33) (by simp) (Af (n:=33) (off:=0) (by simp) (Cd))))))))))
instance qJ (c:Atm):Xl (eAtm c) 138 33 (eIdent c.dst):=K9 (ZM c) (by simp)
instance qg (c:Atm) (x:Ident):Et (eAtm c) 138 (eIdent x) (eAtm { c with dst:=x }):=by unfold eAtm;exact Ae (n:=33) (off:=105) (by simp) (Ae (n:=1) (off:=104) (by simp) (Ae (n:=33) (off:=71) (by simp) (Ae (n:=1) (off:=70) (by simp) (Ae (n:=33) (off:=37) (by simp) (Ae (n:=1) (off:=36) (by simp) (Ae (n:=1) (off:=35) (by simp) (Ae (n:=1) (off:=34) (by simp) (Ae (n:=1) (off:=33) (by simp) (Ae (n:=33) (off:=0) (by simp) (Cr (by simp)))))))))))
instance XV (c:Atm):J1 (eAtm c) 171 [.slice ((c.over).map eIdent) .ro]:=by unfold eAtm;exact Af (n:=33) (off:=138) (by simp) (Af (n:=1) (off:=137) (by simp) (Af (n:=33) (off:=104) (by simp) (Af (n:=1) (off:=103) (by simp) (Af (n:=33) (off:=70) (by simp) (Af (n:=1) (off:=69) (by simp) (Af (n:=1) (off:=68) (by simp) (Af (n:=1) (off:=67) (by simp) (Af (n:=1) (off:=66) (by simp) (Af (n:=33) (off:=33) (by simp) (Af (n:=33) (off:=0) (by simp) (Ir)))))))))))
instance rQ (c:Atm):At (eAtm c) 171 (.slice ((c.over).map eIdent) .ro):=GQ (XV c)
instance nw (c:Atm) (x:List Ident):Et (eAtm c) 171 [.slice ((x).map eIdent) .ro] (eAtm { c with over:=x }):=by unfold eAtm;exact Ae (n:=33) (off:=138) (by simp) (Ae (n:=1) (off:=137) (by simp) (Ae (n:=33) (off:=104) (by simp) (Ae (n:=1) (off:=103) (by simp) (Ae (n:=33) (off:=70) (by simp) (Ae (n:=1) (off:=69) (by simp) (Ae (n:=1) (off:=68) (by simp) (Ae (n:=1) (off:=67) (by simp) (Ae (n:=1) (off:=66) (by simp) (Ae (n:=33) (off:=33) (by simp) (Ae (n:=33) (off:=0) (by simp) (Ij (by simp))))))))))))
structure zJ where
 left:List Dig
 asked:List Dig
 bad:List Bool
 deriving DecidableEq
def xA (c:zJ):List PV:= [.slice ((c.left).map eDig) .ro]++([.slice ((c.asked).map eDig) .ro]++([.slice ((c.bad).map eB) .ro]))
@[simp] theorem wc (c:zJ):(xA c).length=3:=by unfold xA;simp
inductive Sx where
 |mk (isList:Bool) (atom:Str) (list:List Sx)
def Sx.isList:Sx→Bool| .mk b _ _=>b
def Sx.atom:Sx→Str| .mk _ a _=>a
def Sx.list:Sx→List Sx| .mk _ _ l=>l
def Sx.zero:Sx:= .mk false [] []
mutual
def eSx:Sx→List PV
 | .mk b a l=> [.raw (.bool b),.str a,.slice (l4 l) .ro]
def l4:List Sx→List (List PV)
 | []=> []
 |x::l=>eSx x::l4 l
end
theorem dh: ∀ l:List Sx,l4 l=l.map eSx
 | []=>by simp[l4]
 |x::l=>by simp[l4,dh l]
theorem Fb (x:Sx):eSx x= [.raw (.bool x.isList),.str x.atom,.slice (x.list.map eSx) .ro]:=by
 cases x;simp[eSx,dh,Sx.isList,Sx.atom,Sx.list]
@[simp] theorem oY (x:Sx):(eSx x).length=3:=by rw[Fb];rfl
instance :Kz eSx 3:=⟨oY⟩
instance (c:Sx):EU (eSx c):=by rw[Fb];infer_instance
instance :Gw eSx:=⟨fun c=>(inferInstance:EU (eSx c)).out⟩
instance (c:Sx):Fx (.agg (eSx c)) eSx c:=⟨E4.agg _⟩
instance ma (c:Sx):J1 (eSx c) 0 [.raw (.bool c.isList)]:=⟨by rw[Fb];simp⟩
instance pd (c:Sx):At (eSx c) 0 (.raw (.bool c.isList)):=⟨by rw[Fb];simp⟩
instance qt (c:Sx):J1 (eSx c) 1 [.str c.atom]:=⟨by rw[Fb];simp⟩
instance tm (c:Sx):At (eSx c) 1 (.str c.atom):=⟨by rw[Fb];simp⟩
instance qs (c:Sx):J1 (eSx c) 2 [.slice (c.list.map eSx) .ro]:=⟨by rw[Fb];simp⟩
instance tl (c:Sx):At (eSx c) 2 (.slice (c.list.map eSx) .ro):=⟨by rw[Fb];simp⟩
instance mR (c:Sx) (x:Bool):Et (eSx c) 0 [.raw (.bool x)] (eSx (.mk x c.atom c.list)):=⟨by rw[Fb,Fb];simp[Sx.isList,Sx.atom,Sx.list]⟩
instance qe (c:Sx) (x:Str):Et (eSx c) 1 [.str x] (eSx (.mk c.isList x c.list)):=⟨by rw[Fb,Fb];simp[Sx.isList,Sx.atom,Sx.list]⟩
instance qd (c:Sx) (x:List Sx):Et (eSx c) 2 [.slice (x.map eSx) .ro] (eSx (.mk c.isList c.atom x)):=⟨by rw[Fb,Fb];simp[Sx.isList,Sx.atom,Sx.list]⟩
end Go.Q
