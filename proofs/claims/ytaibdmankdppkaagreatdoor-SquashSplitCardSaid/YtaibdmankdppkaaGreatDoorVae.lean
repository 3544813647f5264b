/- The small logic: cuts within a region; more steps. Library, no statement of its own. -/
import Derived.Test.YtaibdmankdppkaaGreatDoorVad
import Derived.RangeFuncNested
import Derived.WideKeyRuns
set_option linter.unusedSimpArgs false
set_option linter.unusedVariables false
namespace Go.Q
open Go
section
variable {P:Program} {N:Nat} {all:Array Oper} {K:Env→List Res→Prop} {fl:List Bool} {os:List Oper} {ρ:Env} {L:List Res} {Q:PPost} {c:Code} {d:Nat} {ty:TypeId} {pos:String} {af:Array Edge}
theorem KQ {K':Env→List Res→Prop} (hk: ∀ ρ L,K' ρ L→K ρ L): ∀ {os:List Oper} {fl:List Bool} {ρ:Env} {L:List Res},AU P N all K' fl os ρ L→AU P N all K fl os ρ L
 | [],_,_,_,h=>hk _ _ h
 |o::os,fl,ρ,L,h=>by
  obtain⟨hd,h⟩:=h
  refine⟨hd,?_⟩
  rcases h with ⟨hno,h⟩|⟨hy,h⟩
  ·exact .inl ⟨hno,KQ hk h⟩
  ·refine .inr ⟨hy,?_⟩
   rcases h with ⟨x,hq,h⟩|⟨hf,h⟩
   ·exact .inl ⟨x,hq,KQ hk h⟩
   ·exact .inr ⟨hf,h.mono fun x L' h=>KQ hk h⟩
theorem BG {y:Code} (E:List (Nat × PV)) (LL:List Res) (h:AU P N all (fun ρ L=>PX ρ E∧LL.Sublist L) fl os ρ L) (k:EY P N y Q (iG E) LL)
  (hK: ∀ ρ L,EY P N y Q ρ L→K ρ L:=by intro _ _ h;exact h):AU P N all K fl os ρ L:=
 KQ (fun ρ' L' ⟨h1,h2⟩=>hK _ _ (IB E h1 h2 k)) h
theorem Hs {c y:Code} (F:Prop) (E:List (Nat × PV)) (LL:List Res) (h:EY P N c (WB (fun ρ L=>F∧PX ρ E∧LL.Sublist L) Q) ρ L) (k:F→EY P N y Q (iG E) LL):EY P N c (WB (EY P N y Q) Q) ρ L:=
 TW h fun e ρ' L' hq=>by
  cases e with
  |normal=>obtain⟨h1,h2,h3⟩:=hq;exact IB E h2 h3 (k h1)
  |_=>exact hq
theorem PH {A B:Prop} (k:B) (h:OU B→A:=by
  intro hB
  repeat(first
   |refine AE ?_
   |refine oC ?_
   |refine tH ?_
   |(refine df ?_;first|refine YO (by rfl) (by rfl) (by decide) (by omega) ?_|refine YN (by rfl) (by rfl) (by decide) ?_)
   |refine DT ?_
   |refine CK (by kernel_rfl) ?_
   |refine Ib ?_
   |refine H9 ?_
   |refine KF ?_
   |refine Gd ?_
   |refine Ia (by rfl) ?_
   |refine HL (by rfl) ?_)
  exact hB.out):A:=h ⟨k⟩
theorem aW {A:Prop} {B:Nat→Prop} (k: ∀ b,B b) (h:Kq B→A:=by
  intro hB
  refine PH ?_
  first|refine Yc (by rfl) fun b=>?_|refine CA fun b=>?_
  refine PH ?_
  exact hB.out b):A:=h ⟨k⟩
theorem me {A:Prop} {B:Nat→Prop} (k: ∀ b,B b) (h:Kq B→A:=by
  intro hB
  refine aW fun b=>?_
  exact hB.out b):A:=h ⟨k⟩
theorem dJ {T n sz by_:Nat} [hE:Fu P T sz by_] {xs:List Operand} {cs:List (List PV)} {dst:Option Nat} {gd:Option (Nat × Bool)} (hn:xs.length=n) (hl:cs.length=n) (h24:n*sz≤16777216) (hm:n≤maxN)
  (hx: ∀ i (h1:i < xs.length) (h2:i < cs.length),Cw (ρ.ev xs[i]) cs[i]∧cs[i].length=sz) {Ψ:PV→List Res→Prop} (k: ∀ t',Ψ (.slice cs t') (.tok t' n sz::L)):Fk P ⟨dst,.buildSlice T n ((xs.zipIdx.map fun p=>(p.2,p.1)).toArray),ty,pos,af,gd⟩ ρ L Ψ:=by
 intro a w g ha hi
 obtain⟨E,i,z,t1,t2,t3,t4,t5,t6,t7,t8⟩:=hE.out
 have hcell: ∀ i,i < n→ ∃ us:List Value,(∀ (h1:i < xs.length),(a.eval xs[i]).cells=us.toArray)∧(∀ (h2:i < cs.length),E7 g us cs[i]):=fun i h1=>by
  obtain⟨us,e1,e2⟩:=(hx i (by omega) (by omega)).1 g _ (ha xs[i] (UW (by omega)))
  exact⟨us,fun _=>e1,fun _=>e2⟩
 let F:Nat→List Value:=fun i=>by classical exact if h:i < n then Classical.choose (hcell i h)else []
 have hF: ∀ i (h:i < n),(∀ (h1:i < xs.length),(a.eval xs[i]).cells=(F i).toArray)∧(∀ (h2:i < cs.length),E7 g (F i) cs[i]):=fun i h=>by
  have:=Mb (hcell i h)
  simp only[F,dif_pos h];exact this
 let vs:List (List Value):=(List.range n).map F
 have hvl:vs.length=n:=by simp[vs]
 have hvi: ∀ i (h:i < vs.length),vs[i]=F i:=fun i h=>by simp[vs]
 have hFl: ∀ i,i < n→(F i).length=sz:=fun i h=>by rw[((hF i h).2 (by omega)).len,(hx i (by omega) (by omega)).2]
 have hflat:E7 g vs.flatten cs.flatten:=by
  have: ∀ m,m≤n→E7 g (vs.take m).flatten (cs.take m).flatten:=by
   intro m
   induction m with
   |zero=>intro _;simp;exact .nil g
   |succ m ih=>
    intro hm'
    rw[A7 (by omega:m < vs.length),A7 (by omega:m < cs.length),C5,C5]
    refine(ih (by omega)).append ?_
    simp only[CX,NS,BJ,hvi]
    exact(hF m (by omega)).2 (by omega)
  have:=this n (Al _)
  rwa [AB (by omega),AB (by omega)]at this
 have hcs: ∀ e∈cs,e.length=sz:=fun e he=>by
  obtain⟨j,hj,rfl⟩:=Ag.1 he
  exact(hx j (by omega) hj).2
 have hparts:(((xs.zipIdx.map fun p=>(p.2,p.1)).toArray).map fun(p:Nat × Operand)=>(p.1,a.eval p.2)).toList=((xs.map a.eval).zipIdx 0).map fun p=>(p.2,p.1):=by
  simp only[FW,Cd]
  rw[qB,Cd]
  rfl
 obtain⟨j1,j2,j3⟩:=hi.lay vs.flatten E
 have hr:(execOp a.eval ⟨dst,.buildSlice T n ((xs.zipIdx.map fun p=>(p.2,p.1)).toArray),ty,pos,af,gd⟩).run P w= .ok (.value (.slice (some ⟨w.heap.size,0,none⟩) n n)) { w with heap:=w.heap.push (.cells vs.flatten.toArray E (0,0)) }:=by
  have hz: ∀ (zz:Array Value),Instr.fill (fun i=>some (i*sz,sz)) ((Array.range (n*sz)).map (zz[·% zz.size]!)) (((xs.map a.eval).zipIdx 0).map fun p=>(p.2,p.1))=some vs.flatten.toArray:=fun zz=>by
   have e:(Array.range (n*sz)).map (zz[·% zz.size]!)=((List.range (n*sz)).map (zz[·% zz.size]!)).toArray:=by
    apply NT;simp
   rw[e,MR vs (xs.map a.eval) 0 _ (by simp[hvl,hn]) (fun i h1 h2=>by
    simp only[AQ]at h1
    rw[hvi]
    simp only[B5]
    exact⟨(hF i (by omega)).1 h1,hFl i (by omega)⟩) (by simp[hvl])]
   simp
  show(do pure (Next.value (←Instr.buildSlice T n (((xs.zipIdx.map fun p=>(p.2,p.1)).toArray).map fun(p:Nat × Operand)=>(p.1,a.eval p.2)))):Sem Next).run P w=_
  simp only[Instr.buildSlice,Sem.run_bind,run_underlying t1,Result.andThen_ok,sizeOf,typeInfo,run_program,t2,Sem.run_pure,t3,hparts]
  rw[if_neg (by have:(2:Nat) ^ 24=16777216:=by decide
                omega)]
  have hzv:(zeroValue E).run P w= .ok z w:=by simp[zeroValue,typeInfo,t2,t5]
  split
  ·simp only[Sem.run_bind,Sem.run_pure,Result.andThen_ok,hz #[],newRow,run_newObj]
  ·simp only[Sem.run_bind,hzv,Sem.run_pure,Result.andThen_ok,hz z.cells,newRow,run_newObj]
 refine Oper.wq_of_run hr ?_
 have hH0: ∀ o,g.H w.heap.size o=none:=fun o=>by
  cases h:g.H w.heap.size o with
  |none=>rfl
  |some v=>have:=hi.sat _ _ _ h;simp[World.cell?]at this
 have hM0:g.M w.heap.size=none:=by
  cases h:g.M w.heap.size with
  |none=>rfl
  |some v=>exact absurd (hi.satM _ _ h).lt (Fa _)
 have hfl:vs.flatten.length=n*sz:=by
  rw[hflat.len]
  have: ∀ (l:List (List PV)),(∀ e∈l,e.length=sz)→l.flatten.length=l.length*sz:=by
   intro l
   induction l with
   |nil=>simp
   |cons e l ih=>intro h;simp only[CX,AD,h e (by simp),ih fun e' he=>h e' (by simp[he]),AN,C7];omega
  rw[this cs hcs,hl]
 refine⟨_,.slice cs (.own w.heap.size n),_,.tok (.own w.heap.size n) n sz::L,rfl,?_,⟨j1.sat,j1.satM,fun r hr=>?_,?_,j1.glob⟩,?_,?_,k _⟩
 ·have:=VR.of_cells (g:=g.lay w.heap.size 0 vs.flatten) (xs:=cs) (t:= .own w.heap.size n) (sz:=sz) (b:=w.heap.size) (off:=0) (cap:=n) hcs (by omega) ⟨by omega,by rw[hl];exact Cq h24 (by decide)⟩ (us:=vs.flatten) (hflat.mono j3) (fun j hj=>Gh.lay_in hj) (fun b' cap' e=>by cases e;exact⟨rfl,rfl,rfl⟩) (by simp)
  rw[hl]at this
  exact this
 ·rcases AG.1 hr with rfl|hr
  ·refine⟨vs.flatten.toArray,E,(0,0),by simp,by simp[hfl],Al _,fun o ho=>?_,hM0,.inl (Al _)⟩
   rw[Gh.lay_out (fun h=>by have:=h.2.2;omega)];exact hH0 o
  ·exact j1.res r hr
 ·have hb:w.heap.size∉Ak L:=fun h=>by
   obtain⟨r,hr,e⟩:=Bt.1 h
   have:=Res.holds_lt (hi.res r hr) e
   omega
  simp only[Ak,B0,Res.block]
  exact Bo.2 ⟨hb,hi.nodup⟩
 ·exact j2
 ·intro b' hb' hlt
  simp only[Ak,B0,Res.block,AG]at hb'
  rcases hb' with h|h
  ·omega
  ·exact h
theorem jS {T sz by_:Nat} [hE:Fu P T sz by_] {x0:Operand} {a0:PV} {α:Type} {f:α→List PV} {e0:α} (q0:ρ.ev x0=a0) [hC0:Fw a0 f e0] [hf:MZ f sz] (h24:1*sz≤16777216)
  (k: ∀ t,AU P N all K fl.tail os (CR ρ d (.slice ([e0].map f) t)) (.tok t [e0].length sz::L)) (hd:Nat.blt d N=true:=by rfl) (hfl:fl.headD true=true:=by rfl):AU P N all K fl (⟨some d,.buildSlice T 1 #[(0,x0)],ty,pos,af,none⟩::os) ρ L:=
 DY rfl (P7 hd) hfl (dJ (n:=1) (xs:= [x0]) (cs:= [e0].map f) rfl rfl h24 (by decide) (fun i h1 h2=>by
  match i,h1,h2 with
  |0,_,_=>exact⟨q0 ▸ hC0.out,hf.out e0⟩
  |m+1,h1,_=>exact absurd h1 (by simp only[AN,Ae];omega)) k)
theorem iU {A B:Prop} (k:B) (h:OU B→A:=by
  intro hB
  repeat(first
   |refine AE ?_
   |refine oC ?_
   |(refine df ?_;first|refine YO (by rfl) (by rfl) (by decide) (by omega) ?_|refine YN (by rfl) (by rfl) (by decide) ?_)
   |refine DT ?_
   |refine CK (by kernel_rfl) ?_
   |refine Ib ?_
   |refine H9 ?_
   |refine KF ?_
   |refine Gd ?_
   |refine GL (by decide+kernel) ?_
   |refine Ia (by rfl) ?_
   |refine HL (by rfl) ?_)
  exact hB.out):A:=h ⟨k⟩
theorem w5 {A:Prop} {B:CD→Prop} (k: ∀ t,B t) (h:Kq B→A:=by
  intro hB
  refine iU ?_
  refine jS (by(conv=>lhs;whnf);done) (hC0:=(by first|infer_instance|fail)) (hf:=(by first|infer_instance|fail)) (by decide) fun t=>?_
  refine AX ?_
  exact hB.out t):A:=h ⟨k⟩
theorem s9 {A:Prop} {B:CD→Prop} (k: ∀ t,B t) (h:Kq B→A:=by
  intro hB
  refine w5 fun t=>?_
  exact hB.out t):A:=h ⟨k⟩
theorem Bh {s:Nat} {v t:Bool} (h:ρ s= .raw (.bool v)) (e:v=t):ρ s= .raw (.bool t):=e ▸ h
end
section
variable {P:Program} {N:Nat} {all:Array Oper} {K:Env→List Res→Prop} {fl:List Bool} {os:List Oper} {ρ:Env} {L:List Res} {Q:PPost} {d:Nat} {ty:TypeId} {pos:String} {af:Array Edge}
theorem Ca {σ:Type} {c y:Code} {Q0:PPost} (F:σ→Prop) (E:σ→List (Nat × PV)) (LL:σ→List Res) (h:EY P N c (WB (fun ρ L=> ∃ s,F s∧PX ρ (E s)∧(LL s).Sublist L) Q0) ρ L) (k: ∀ s,F s→EY P N y Q (iG (E s)) (LL s))
  (hQ: ∀ ρ L,EY P N y Q ρ L→Q0 .normal ρ L:=by intro _ _ h;exact h):EY P N c Q0 ρ L:=
 TW h fun e ρ' L' hq=>by
  cases e with
  |normal=>obtain⟨s,h1,h2,h3⟩:=hq;exact hQ _ _ (IB (E s) h2 h3 (k s h1))
  |_=>exact hq
theorem sf {T T':TypeId} {x y:Operand} {m n:Int} (hx:ρ.ev x= .raw (.int .i64 m)) (hy:ρ.ev y= .raw (.int .i64 n)) (k:AU P N all K fl.tail os (CR ρ d (.raw (.int .i64 (IntKind.i64.wrap (m+n))))) L) (hd:Nat.blt d N=true:=by rfl):
  AU P N all K fl (⟨some d,.binOp .add T x y T',ty,pos,af,none⟩::os) ρ L:=Ga hx hy (fun w=>by simp[binOp,Op.intArith]) k hd
theorem ar {T T':TypeId} {x y:Operand} {m n:Int} {vx:Value} (hx:ρ.ev x= .raw vx) (hy:ρ.ev y= .raw (.int .i64 n)) (ex:vx= .int .i64 m) (k: ∀ v,v= .int .i64 (IntKind.i64.wrap (m+n))→AU P N all K fl.tail os (CR ρ d (.raw v)) L) (hd:Nat.blt d N=true:=by rfl):
  AU P N all K fl (⟨some d,.binOp .add T x y T',ty,pos,af,none⟩::os) ρ L:=sf (by rw[hx,ex]) hy (k _ rfl) hd
end
section
variable {P:Program} {N:Nat} {Q:PPost} {all:Array Oper} {K:Env→List Res→Prop}
def OB (listed:Array Bool) (k:Nat):Nat→Array Bool
 |0=>listed
 |n+1=>OB (listed.setIfInBounds k true) (k+1) n
def XG (all:Array Oper) (bar:Nat→Bool):Nat→Nat→Array Bool→Bool
 |0,_,_=>true
 |fuel+1,k,listed=>!bar k&&(Region.ready .any all listed).contains k&&Region.free .any all listed k&&XG all bar fuel (k+1) (listed.setIfInBounds k true)
theorem Z8 {bar:Nat→Bool} {m:Nat} (hsk: ∀ j oj,all[j]? =some oj→bar j=true→ah all j=true): ∀ (l:List Oper) (k:Nat) (listed:Array Bool) (ρ:Env) (L:List Res),(∀ j,j < l.length→l[j]? =all[k+j]?)→K0 all listed→(∀ j,j < k→listed.getD j true=true)→
  XG all bar l.length k listed=true→AU P N all (fun ρ L=>GP P N all bar K m (OB listed k l.length) ρ L) (List.replicate l.length false) l ρ L→GP P N all bar K (l.length+m) listed ρ L
 | [],_,_,_,_,_,_,_,_,h=>by simpa [OB,AU]using h
 |o::l,k,listed,ρ,L,hl,hc,hlow,hB,h=>by
  have h0:all[k]? =some o:=by simpa using (hl 0 (by simp)).symm
  have hl': ∀ j,j < l.length→l[j]? =all[k+1+j]?:=fun j hj=>by have:=hl (j+1) (by simpa using hj);simpa [Dx,Jt 1 j]using this
  simp only[AN,XG,BQ,AF]at hB
  obtain⟨⟨⟨hb,hr⟩,hfr⟩,hB'⟩:=hB
  have hready:k∈Region.ready .any all listed:=by simpa using hr
  have hc':=hc.set hready
  have hlow': ∀ j,j < k+1→(listed.setIfInBounds k true).getD j true=true:=fun j hj=>by
   by_cases hjk:k=j
   ·subst hjk
    have hks:k < listed.size:=by rw[hc.size];exact(BF.1 h0).1
    simp[hks]
   ·rw[getD_set_ne true hjk];exact hlow j (by omega)
  obtain⟨hd,h⟩:=h
  have: ∃ x,YQ P all o ρ L x∧AU P N all (fun ρ L=>GP P N all bar K m (OB (listed.setIfInBounds k true) (k+1) l.length) ρ L) (List.replicate l.length false) l (updo ρ o.dst x) L:=by
   rcases h with ⟨hno,h⟩|⟨hyes,h⟩
   ·exact⟨_,.inl ⟨hno,rfl⟩,h⟩
   ·rcases h with ⟨x,hq,h⟩|⟨hf,_⟩
    ·exact⟨x,.inr ⟨hyes,hq⟩,h⟩
    ·cases hf
  obtain⟨x,hy,hp⟩:=this
  have rec':=Z8 hsk l (k+1) _ _ L hl' hc' hlow' hB' hp
  have:=Tc (P:=P) (N:=N) (K:=K) (bar:=bar) h0 hd (fun j oj hoj _ hbj _=>hsk j oj hoj hbj) (l.length+m) listed ρ L hc hlow (Region.free_spec h0 hfr) hready hy rec'
  rwa [show(o::l).length+m=l.length+m+1 by simp;omega]
theorem C3 {bar:Nat→Bool} {fuel:Nat} {listed:Array Bool} {ρ:Env} {L:List Res} (is:List Nat) (hr:Region.ready .any all listed=is) (hne:is≠ [])
  (h: ∀ i∈is,∃ o,all[i]? =some o∧AU P N all (fun ρ L=>GP P N all bar K fuel (listed.setIfInBounds i true) ρ L) [bar i] [o] ρ L):GP P N all bar K (fuel+1) listed ρ L:=by
 refine⟨fun h0=>absurd (hr.symm.trans h0) hne,fun i hi=>?_⟩
 rw[hr]at hi
 obtain⟨o,h0,hd,h⟩:=h i hi
 unfold Z6
 simp only[h0]
 refine⟨hd,?_⟩
 rcases h with ⟨hno,h⟩|⟨hyes,h⟩
 ·exact .inl ⟨_,.inl ⟨hno,rfl⟩,h⟩
 ·rcases h with ⟨x,hq,h⟩|⟨hf,h⟩
  ·exact .inl ⟨x,.inr ⟨hyes,hq⟩,h⟩
  ·exact .inr ⟨hf,hyes,h⟩
theorem CN {bar:Nat→Bool} {listed:Array Bool} {ρ:Env} {L:List Res} (hr:Region.ready .any all listed= []) (h:K ρ L):GP P N all bar K 0 listed ρ L:=⟨hr,h⟩
theorem fF {id:Nat} {l:List Oper} {ρ:Env} {L:List Res} (n:Nat) (bs:List Nat) [hm:gh P]
  (hB:(Ki l.toArray N&&XG l.toArray (fun k=>bs.contains k) n 0 (Array.replicate l.length false)&&bs.all (fun j=>ah l.toArray j)&&decide (n≤l.length))=true)
  (h:AU P N l.toArray (fun ρ L=>GP P N l.toArray (fun k=>bs.contains k) (Q .normal) (l.length - n) (OB (Array.replicate l.length false) 0 n) ρ L) (List.replicate n false) (l.take n) ρ L):EY P N (.region id l.toArray true) Q ρ L:=fun ro base a w g hst=>by
 simp only[BQ,AA]at hB
 obtain⟨⟨⟨hG,hB⟩,hS⟩,hn⟩:=hB
 refine wpIn_region_any hm.out ?_
 have hi:=hst.inv
 have hst0:Eb (Ak L) w g { w with drawn:=w.drawn+1 } g:=⟨rfl,rfl,⟨rfl,Nm _⟩,Al _,fun _ _ _=>rfl,.refl g,fun _ _ _=>⟨fun _=>rfl,rfl⟩⟩
 have hi':Dt { w with drawn:=w.drawn+1 } g L:=⟨hi.sat,fun b z hz=>(hi.satM b z hz).congr rfl,fun r hr=>by have:=hi.res r hr;cases r<;>first|exact this|(rename_i t _ _;cases t<;>exact this),hi.nodup,hi.glob⟩
 have hln:(l.take n).length=n:=by rw[Ab];omega
 have:=Z8 (P:=P) (N:=N) (all:=l.toArray) (K:=Q .normal) (bar:=fun k=>bs.contains k) (m:=l.length - n) (fun j oj _ hb=>Bf.1 hS j (by simpa using hb)) (l.take n) 0 (Array.replicate l.length false) ρ L
  (fun j hj=>by rw[hln]at hj;simp[hj])
  ⟨by simp,fun j oj _ hl=>by
   have:(Array.replicate l.length false).getD j false=false:=by
    rcases BN j l.length with h|h<;>simp[h]
   rw[this]at hl;cases hl⟩ (fun j hj=>absurd hj (DB _)) (by rw[hln];exact hB) (by rw[hln];exact h)
 rw[hln,show n+(l.length - n)=l.length by omega]at this
 have k:=LS (ro:=ro) (base:=base) (Q:=Q) (w₀:=w) (g₀:=g) (L₀:=L) (fun _ _ h=>h) hG _ _ ρ L a _ g hst.agr hi' hst0 (.refl _ _) this
 simpa using k
end
theorem Eb.grow {B B':List Nat} {w w':World} {g g':Gh} (hb: ∀ b,b∈B'→b∈B) (h:Eb B' w g w' g'):Eb B w g w' g':=
 ⟨h.os,h.tape,h.output,h.size,fun k hk hn=>h.keep k hk (fun x=>hn (hb k x)),h.le,fun k hk hn=>h.new k hk (fun x=>hn (hb k x))⟩
theorem DX {L L':List Res} (h:L.Perm L'):(Ak L).Perm (Ak L'):=h.filterMap _
instance {f:Nat}:Jr (.raw (.func (.func f) #[] #[])) (.clo f []):=⟨fun g v h=>by cases h;exact .clo _ rfl (by simp)⟩
theorem ko {f:Nat} {vs cs:List PV} (h:Jw cs):Jw (.clo f vs::cs):=fun x hx=>by
 rcases AG.1 hx with rfl|h'
 ·exact⟨by simp,by simp,by simp,by simp⟩
 ·exact h x h'
instance {cs vs:List PV} {f:Nat} [h:Di cs]:Di (.clo f vs::cs):=⟨ko h.out⟩
instance {f:Nat} {vs:List PV}:E1 (.clo f vs) [.clo f vs]:=⟨.one (Di.out)⟩
section
variable {P:Program} {N:Nat} {all:Array Oper} {K:Env→List Res→Prop} {fl:List Bool} {os:List Oper} {ρ:Env} {L:List Res} {Q:PPost} {c:Code} {d:Nat} {ty:TypeId} {pos:String} {af:Array Edge}
theorem Fk.conv {o:Oper} {L':List Res} {Ψ:PV→List Res→Prop} (hg: ∀ w g,Dt w g L→ ∃ g',Dt w g' L'∧Eb (Ak L) w g w g'∧De w L L') (h:Fk P o ρ L' Ψ):Fk P o ρ L Ψ:=fun a w g ha hi=>by
 obtain⟨g',h1,h2,h3⟩:=hg w g hi
 exact(h a w g' (fun x hx=>(ha x hx).mono h2.le) h1).mono fun a' w' ⟨v,x,g'',L'',k1,k2,k3,k4,k5,k6⟩=>⟨v,x,g'',L'',k1,k2,k3,h2.trans h3 k4,h3.trans h2.size k5,k6⟩
theorem Fk.perm {o:Oper} {L':List Res} {Ψ:PV→List Res→Prop} (hp:L.Perm L') (h:Fk P o ρ L' Ψ):Fk P o ρ L Ψ:=
 h.conv fun w g hi=>⟨g,hi.perm hp,.refl _ _ _,fun b hb _=>(DX hp).symm.subset hb⟩
theorem Vc {o:Oper} {L':List Res} (hp:L.Perm L') (hf:fl.headD true=true) (h:AU P N all K fl (o::os) ρ L') (hno: ¬lp all o ρ):AU P N all K fl (o::os) ρ L:=by
 obtain⟨hd,h⟩:=h
 rcases h with ⟨hn,_⟩|⟨hy,h⟩
 ·exact absurd hn hno
 ·refine⟨hd,.inr ⟨hy,.inr ⟨hf,?_⟩⟩⟩
  rcases h with ⟨x,hq,h⟩|⟨_,h⟩
  ·exact(Fk.mono hq fun x' L'' ⟨e1,e2⟩=>by subst e1;subst e2;exact h).perm hp
  ·exact h.perm hp
theorem Dt.freeze {w:World} {g:Gh} {L':List Res} {b T:Nat} {cs:List PV} (hi:Dt w g L) (hp:L.Perm (.box b T cs::L')):
  ∃ g',Dt w g' L'∧Eb (Ak L) w g w g'∧De w L L'∧VR g' (.pointer (some ⟨b,0,none⟩)) (.pt cs 0):=by
 have hi2:=hi.perm hp
 obtain⟨vs,h1,h2,h3,h4⟩:=hi2.res _ (AI)
 have hle:=Gh.le_lay (g:=g) (b:=b) (from_:=0) (us:=vs) (fun o _=>h3 o)
 have hbl:b∈Ak L:=(DX hp).symm.subset (by simp[Ak,Res.block])
 have hnb: ∀ r∈L',r.block≠some b:=fun r hr e=>by
  have hnd:=hi2.nodup
  simp only[Ak,B0,Res.block]at hnd
  exact(Bo.1 hnd).1 (Bt.2 ⟨r,hr,e⟩)
 refine⟨g.lay b 0 vs,⟨fun b' o v hv=>?_,fun b' z hz=>hi.satM b' z hz,fun r hr=>?_,?_,hi.glob.mono hle⟩,⟨rfl,rfl,⟨rfl,Al _⟩,Al _,fun _ _ _=>rfl,hle,fun k _ hn=>⟨fun o=>Gh.lay_out (fun h=>hn (h.1 ▸ hbl)),rfl⟩⟩,fun b' hb' _=>(DX hp).symm.subset ?_,?_⟩
 ·by_cases hin:b'=b∧0≤o∧o < 0+vs.length
  ·obtain⟨rfl,_,h6⟩:=hin
   have hj:o < vs.length:=by omega
   have:=Gh.lay_in (g:=g) (b:=b') (from_:=0) hj
   rw[BM,hv]at this
   cases this
   exact HF h1 o hj
  ·rw[Gh.lay_out hin]at hv;exact hi.sat b' o v hv
 ·refine Res.holds_kept hle (hi2.res r (AL _ hr)) fun b' hb'=>⟨rfl,fun o=>Gh.lay_out (fun h=>hnb r hr (h.1 ▸ hb')),rfl⟩
 ·have hnd:=hi2.nodup
  simp only[Ak,B0,Res.block]at hnd
  exact(Bo.1 hnd).2
 ·simp only[Ak,B0,Res.block];exact AL _ hb'
 ·refine VR.pt (g:=g.lay b 0 vs) (b:=b) (o:=0) (off:=0) (cs:=cs) (fun j=>(vs[j]?).getD undef) (fun j hj=>?_) (fun j hj=>?_)
  ·have hj':j < vs.length:=by rw[h2.len];exact hj
   rw[Gh.lay_in hj'];simp[hj']
  ·have hj':j < vs.length:=by rw[h2.len];exact hj
   have:=(h2.mono hle).at_ j hj' hj
   simpa [hj']using this
@[reducible] def cC (R:PV→PV→Prop) (ρ:Env):List (Nat × PV)→Prop
 | []=>True
 | [(i,v)]=>R (ρ i) v
 |(i,v)::p::E=>R (ρ i) v∧cC R ρ (p::E)
theorem dm {R:PV→PV→Prop} {ρ:Env}: ∀ {E:List (Nat × PV)},cC R ρ E→ ∀ i,R (ρ i) (iG E i)∨iG E i= .junk
 | [],_,i=> .inr rfl
 | [(j,v)],h,i=>by
   by_cases e:i=j
   ·subst e;left;show R _ (CR _ _ _ _);rw[Ch];exact h
   ·right;show CR _ _ _ _=_;rw[Gp _ _ e]
 |(j,v)::(p::E),h,i=>by
  by_cases e:i=j
  ·subst e;left;show R _ (CR _ _ _ _);rw[Ch];exact h.1
  ·show R _ (CR _ _ _ _)∨CR _ _ _ _=_;rw[Gp _ _ e];exact dm h.2 i
theorem kD {T:TypeId} {x:Operand} {cs:List PV} {dst:Option Nat} {gd:Option (Nat × Bool)} (hx:Cw (ρ.ev x) cs) {Ψ:PV→List Res→Prop} (k: ∀ b,Ψ (.raw (.pointer (some ⟨b,0,none⟩))) (.box b T cs::L)):Fk P ⟨dst,.box T x,ty,pos,af,gd⟩ ρ L Ψ:=fun a w g ha hi=>by
 have h1:=ha x (by simp[Op.operands])
 obtain⟨vs,h2,h3⟩:=hx g _ h1
 obtain⟨i1,i2,i3⟩:=hi.alloc h3 T
 have hr:(execOp a.eval ⟨dst,.box T x,ty,pos,af,gd⟩).run P w= .ok (.value (.pointer (some ⟨w.heap.size,0,none⟩))) { w with heap:=w.heap.push (.cells vs.toArray T (0,0)) }:=by
  simp[execOp,Instr.box,newVar,newRow,h2]
 refine Oper.wq_of_run hr ?_
 exact⟨_,_,g,_,rfl,.raw _,i1,i2,i3,k _⟩
theorem sd {T:TypeId} {x:Operand} {ax:PV} {cs:List PV} (hx:ρ.ev x=ax) [hC:E1 ax cs] (k:AU P N all K fl.tail os (CR ρ d (.pt cs 0)) L) (hd:Nat.blt d N=true:=by rfl):
  AU P N all K fl (⟨some d,.box T x,ty,pos,af,none⟩::os) ρ L:=
 Bg hd (fun a w g ha hi=>by
  have h:=kD (P:=P) (T:=T) (dst:=some d) (gd:=none) (ty:=ty) (pos:=pos) (af:=af) (L:=L) (Ψ:=fun x L'=> ∃ b,x= .raw (.pointer (some ⟨b,0,none⟩))∧L'= .box b T cs::L) (hx ▸ hC.out) (fun b=>⟨b,rfl,rfl⟩) a w g ha hi
  refine h.mono ?_
  rintro a' w' ⟨v,x,g',L',rfl,hv,hi',hs,hw,b,rfl,rfl⟩
  obtain⟨g'',k1,k2,k3,k4⟩:=hi'.freeze (.refl _)
  refine⟨v,_,g'',L,rfl,?_,k1,hs.trans hw k2,hw.trans hs.size k3,rfl,rfl⟩
  rw[hv.raw_inv];exact k4) k
theorem Yr (i:Nat) {b T:Nat} {cs:List PV} {L':List Res} (hp:L.Perm (.box b T cs::L')) (hi:ρ i= .raw (.pointer (some ⟨b,0,none⟩))) (k:EY P N c Q (CR ρ i (.pt cs 0)) L'):EY P N c Q ρ L:=
 KP (fun base a w g ha hI=>by
  obtain⟨g',h1,h2,h3,h4⟩:=hI.freeze hp
  refine⟨g',⟨ha.size,ha.defers.mono h2.le,fun j=>?_⟩,h1,h2,h3⟩
  have hj:=(ha.slot j).mono h2.le
  by_cases e:j=i
  ·subst e
   rw[hi]at hj
   show VR g' _ (CR ρ j _ j)
   rw[Ch,hj.raw_inv];exact h4
  ·show VR g' _ (CR ρ i _ j)
   rw[Gp _ _ e];exact hj) k
theorem B2 (i:Nat) {b T:Nat} {cs:List PV} (k:EY P N c Q (CR ρ i (.pt cs 0)) L) (hi:ρ i= .raw (.pointer (some ⟨b,0,none⟩)):=by rfl):EY P N c Q ρ (.box b T cs::L):=Yr i (.refl _) hi k
theorem Pj {f:Nat} {xs:List Operand} {dst:Option Nat} {gd:Option (Nat × Bool)} {cs:List PV} (hx:xs.map ρ.ev=cs):gi P ⟨dst,.makeFunc (.func f) #[] xs.toArray,ty,pos,af,gd⟩ ρ L (.clo f cs):=B9 fun a w g ha hi=>by
 refine⟨.func (.func f) #[] (xs.map a.eval).toArray,by simp[execOp,Instr.makeFunc],E7.clo f ?_⟩
 subst hx
 refine⟨by simp,fun i h1 h2=>?_⟩
 simp only[B5]
 exact ha _ (by simp[Op.operands])
theorem sZ {f:Nat} {x0:Operand} {a0:PV} (q0:ρ.ev x0=a0) (k:AU P N all K fl.tail os (CR ρ d (.clo f [a0])) L) (hd:Nat.blt d N=true:=by rfl):AU P N all K fl (⟨some d,.makeFunc (.func f) #[] #[x0],ty,pos,af,none⟩::os) ρ L:=
 Bg hd (Pj (xs:= [x0]) (by simp[q0])) k
theorem sY {f:Nat} {x0 x1:Operand} {a0 a1:PV} (q0:ρ.ev x0=a0) (q1:ρ.ev x1=a1) (k:AU P N all K fl.tail os (CR ρ d (.clo f [a0,a1])) L) (hd:Nat.blt d N=true:=by rfl):AU P N all K fl (⟨some d,.makeFunc (.func f) #[] #[x0,x1],ty,pos,af,none⟩::os) ρ L:=
 Bg hd (Pj (xs:= [x0,x1]) (by simp[q0,q1])) k
theorem sX {f:Nat} {x0 x1 x2:Operand} {a0 a1 a2:PV} (q0:ρ.ev x0=a0) (q1:ρ.ev x1=a1) (q2:ρ.ev x2=a2) (k:AU P N all K fl.tail os (CR ρ d (.clo f [a0,a1,a2])) L) (hd:Nat.blt d N=true:=by rfl):AU P N all K fl (⟨some d,.makeFunc (.func f) #[] #[x0,x1,x2],ty,pos,af,none⟩::os) ρ L:=
 Bg hd (Pj (xs:= [x0,x1,x2]) (by simp[q0,q1,q2])) k
theorem bO (f:Nat) (cs:Array Value) (args:Array Value) (w:World):(Deferred.ofValue (.func (.func f) #[] cs) args).run P w= .ok { target:= .fn (.func f) cs,args:=args } w:=by
 simp[Deferred.ofValue]
theorem ku {dst:Option Nat} {x:Operand} {xs:List Operand} {ats:Array TypeId} {gd:Option (Nat × Bool)} {f:Nat} {cs:List Value} {ev:Operand→Value} {w:World} (hent: ∀ vs w,(callFunc f vs).run P w= .ok (.enter f vs) w) (hx:ev x= .func (.func f) #[] cs.toArray):
  (execOp ev ⟨dst,.call { callee:= .value x,args:=xs.toArray,argTypes:=ats },ty,pos,af,gd⟩).run P w= .ok (.enter f (xs.map ev++cs).toArray) w:=by
 simp only[execOp,resolve,hx,Sem.run_bind,bO,Result.andThen_ok,invoke,hent]
 simp
theorem Ov {dst:Option Nat} {x:Operand} {xs:List Operand} {ats:Array TypeId} {gd:Option (Nat × Bool)} {f:Nat} {cs:List PV} {L₁ LF:List Res} {Ψ:PV→List Res→Prop} {args:List PV} [hf:B1 P f]
  (hx:Le (ρ.ev x) (.clo f cs)) (hargs:xs.map ρ.ev++cs=args) (hp:L.Perm (L₁++LF)) (hc:BH P f args L₁ (fun r L'=>Ψ r (L'++LF))):
  Fk P ⟨dst,.call { callee:= .value x,args:=xs.toArray,argTypes:=ats },ty,pos,af,gd⟩ ρ L Ψ:=by
 refine Fk.perm hp fun a w g ha hi=>?_
 obtain⟨vs,h1,h2⟩:=(hx g _ (ha x (by simp[Op.operands,Call.operands]))).clo_inv
 have hvs:E7 g (xs.map a.eval++vs) args:=by
  subst hargs
  refine E7.append ⟨by simp,fun i h1 h2=>?_⟩ h2
  simp only[B5]
  exact ha _ (by simp[Op.operands,Call.operands])
 refine Oper.wq_of_run (ku hf.out h1) ?_
 refine(hc _ w g LF hvs hi).mono ?_
 rintro e w' ⟨v,x,g',L',rfl,h2,h3,h4,h5,h6⟩
 exact⟨v,x,g',L'++LF,rfl,h2,h3,h4,h5,h6⟩
theorem BH.args {f:FuncId} {ys bs:List PV} {L₁:List Res} {R:PV→List Res→Prop} (hl:ys.length=bs.length) (h: ∀ i (h1:i < ys.length) (h2:i < bs.length),Le ys[i] bs[i]) (hc:BH P f bs L₁ R):BH P f ys L₁ R:=
 fun vs w g LF hv hi=>hc vs w g LF ⟨hv.len.trans hl,fun i h1 h2=>h i (by omega) h2 g _ (hv.at_ i h1 (by omega))⟩ hi
theorem CV {x:Operand} {xs:List Operand} {xa:Array Operand} {ats:Array TypeId} {f:Nat} {cs args:List PV} (L₁ LF:List Res) [hf:B1 P f]
  (hx:Le (ρ.ev x) (.clo f cs)) (hxa:xa=xs.toArray) (hargs:xs.map ρ.ev++cs=args) (hp:L.Perm (L₁++LF)) (R:PV→List Res→Prop) (hc:BH P f args L₁ R) (k: ∀ r L',R r L'→AU P N all K fl.tail os (CR ρ d r) (L'++LF)) (hd:Nat.blt d N=true:=by rfl) (hfl:fl.headD true=true:=by rfl):
  AU P N all K fl (⟨some d,.call { callee:= .value x,args:=xa,argTypes:=ats },ty,pos,af,none⟩::os) ρ L:=by
 subst hxa
 exact DY rfl (P7 hd) hfl (Ov hx hargs hp (hc.mono fun r L' h=>k r L' h))
theorem Wu {x:Operand} {xs:List Operand} {xa:Array Operand} {ats:Array TypeId} {f:Nat} {cs args:List PV} {X:PV} [hf:B1 P f]
  (hx:Le (ρ.ev x) (.clo f cs)) (hxa:xa=xs.toArray) (hargs:xs.map ρ.ev++cs=args) (hc:Fn P f args X) (k:AU P N all K fl.tail os (CR ρ d X) L) (hd:Nat.blt d N=true:=by rfl):
  AU P N all K fl (⟨some d,.call { callee:= .value x,args:=xa,argTypes:=ats },ty,pos,af,none⟩::os) ρ L:=by
 subst hxa
 exact Bg hd (Ov hx hargs (.refl _) (L₁:= []) (hc.mono fun r L' ⟨e1,e2⟩=>by subst e1;subst e2;exact⟨rfl,rfl⟩)) k
end
theorem Eb.comp {B B₁:List Nat} {w w₁ w₂:World} {g g₁ g₂:Gh} (h:Eb B w g w₁ g₁) (k:Eb B₁ w₁ g₁ w₂ g₂) (hB: ∀ b∈B₁,b < w.heap.size→b∈B):Eb B w g w₂ g₂:=
 ⟨k.os.trans h.os,k.tape.trans h.tape,⟨k.output.1.trans h.output.1,Cq h.output.2 k.output.2⟩,Cq h.size k.size,
  fun b hb hn=>by rw[k.keep b (FV hb h.size) (fun hm=>hn (hB b hm hb)),h.keep b hb hn],h.le.trans k.le,
  fun b hb hn=>by
   obtain⟨a1,a2⟩:=k.new b (FV hb h.size) (fun hm=>hn (hB b hm hb))
   obtain⟨b1,b2⟩:=h.new b hb hn
   exact⟨fun o=>by rw[a1,b1],by rw[a2,b2]⟩⟩
theorem Eb.put {B:List Nat} {w:World} {g:Gh} {l:Nat} (o:Obj) (hl:l∈B):Eb B w g (w.putObj l o) g:=
 ⟨rfl,rfl,⟨rfl,Al _⟩,EE (by simp[World.putObj]),fun k _ hn=>World.putObj_heap_other (fun e=>hn (e ▸ hl)),.refl g,fun _ _ _=>⟨fun _=>rfl,rfl⟩⟩
theorem Dt.put {w:World} {g:Gh} {L:List Res} {l:Nat} (o:Obj) (hi:Dt w g L) (hH: ∀ o,g.H l o=none) (hM:g.M l=none) (hl:l∉Ak L):Dt (w.putObj l o) g L:=by
 have hk: ∀ k,k≠l→(w.putObj l o).heap[k]? =w.heap[k]?:=fun k hk=>World.putObj_heap_other hk
 refine⟨fun b i v h=>?_,fun b z h=>?_,fun r hr=>?_,hi.nodup,hi.glob⟩
 ·have:b≠l:=fun e=>by subst e;rw[hH]at h;cases h
  have h0:=hi.sat b i v h
  simp only[World.cell?]at h0 ⊢
  rw[hk b this];exact h0
 ·have:b≠l:=fun e=>by subst e;rw[hM]at h;cases h
  exact(hi.satM b z h).congr (hk b this)
 ·exact Res.holds_kept (.refl g) (hi.res r hr) fun b hb=>⟨hk b (fun e=>hl (Bt.2 ⟨r,hr,by rw[hb,e]⟩)),fun _=>rfl,rfl⟩
theorem Dt.putRaw {w:World} {g:Gh} {L:List Res} {l:Nat} {o:Obj} (o':Obj) (hi:Dt w g (.raw l o::L)):Dt (w.putObj l o') g (.raw l o'::L):=by
 obtain⟨h1,h2,h3⟩:=hi.res _ (AI)
 have hnd:=hi.nodup
 simp only[Ak,B0,Res.block]at hnd
 have hn:=(Bo.1 hnd).1
 have k:=(hi.sub (EL _ _)).put o' h2 h3 hn
 refine⟨k.sat,k.satM,fun r hr=>?_,hi.nodup,hi.glob⟩
 rcases AG.1 hr with rfl|hr
 ·exact⟨World.putObj_heap_same (BF.1 h1).1,h2,h3⟩
 ·exact k.res r hr
theorem Dt.addRaw {w:World} {g:Gh} {L:List Res} {l:Nat} {o:Obj} (hi:Dt w g L) (h1:w.heap[l]? =some o) (h2: ∀ o,g.H l o=none) (h3:g.M l=none) (hl:l∉Ak L):Dt w g (.raw l o::L):=
 ⟨hi.sat,hi.satM,fun r hr=>by
  rcases AG.1 hr with rfl|hr
  ·exact⟨h1,h2,h3⟩
  ·exact hi.res r hr,by simp only[Ak,B0,Res.block];exact Bo.2 ⟨hl,hi.nodup⟩,hi.glob⟩
theorem Dt.addKnow {w:World} {g:Gh} {L:List Res} {vs:List Value} {xs:List PV} (hi:Dt w g L) (h:E7 g vs xs):Dt w g (.know vs xs::L):=
 ⟨hi.sat,hi.satM,fun r hr=>by
  rcases AG.1 hr with rfl|hr
  ·exact h
  ·exact hi.res r hr,hi.nodup,hi.glob⟩
theorem Dt.lt {w:World} {g:Gh} {L:List Res} (hi:Dt w g L) {b:Nat} (hb:b∈Ak L):b < w.heap.size:=by
 obtain⟨r,hr,e⟩:=Bt.1 hb
 exact Res.holds_lt (hi.res r hr) e
theorem Dt.fresh {w:World} {g:Gh} {L:List Res} (hi:Dt w g L) {b:Nat} (hb:w.heap.size≤b):(∀ o,g.H b o=none)∧g.M b=none:=by
 constructor
 ·intro o
  cases h:g.H b o with
  |none=>rfl
  |some v=>have:=hi.sat _ _ _ h;simp[World.cell?,Bk hb]at this
 ·cases h:g.M b with
  |none=>rfl
  |some z=>exact absurd (hi.satM _ _ h).lt (by omega)
theorem Dt.allocO {w:World} {g:Gh} {L:List Res} (hi:Dt w g L) (o:Obj):Dt (w.alloc o) g L∧Eb (Ak L) w g (w.alloc o) g:=by
 have hk: ∀ k,k < w.heap.size→(w.alloc o).heap[k]? =w.heap[k]?:=fun k hk=>by
  show(w.heap.push o)[k]? =_
  rw[Hc,if_neg (by omega)]
 refine⟨⟨fun b i v h=>?_,fun b z h=>(hi.satM b z h).congr (hk b (hi.satM b z h).lt),fun r hr=>?_,hi.nodup,hi.glob⟩,⟨rfl,rfl,⟨rfl,Al _⟩,by simp,fun k hlt _=>hk k hlt,.refl g,fun _ _ _=>⟨fun _=>rfl,rfl⟩⟩⟩
 ·have h0:=hi.sat b i v h
  have hb:b < w.heap.size:=by
   rcases BN b w.heap.size with h'|h'
   ·exact h'
   ·simp[World.cell?,Bk h']at h0
  simp only[World.cell?]at h0 ⊢
  rw[hk b hb];exact h0
 ·exact Res.holds_kept (.refl g) (hi.res r hr) fun b hb=>⟨hk b (hi.lt (Bt.2 ⟨r,hr,hb⟩)),fun _=>rfl,rfl⟩
def NP (P:Program) (l:Nat) (args:List PV) (L:List Res) (R:Bool→List Res→Prop):Prop:=
 ∀ (vs:List Value) (w:World) (g:Gh) (LF:List Res),E7 g vs args→Dt w g (L++LF)→
   ∃ fn tmps assign body,(Instr.yield l vs.toArray).run P w= .ok (.round l fn tmps assign body) w∧
     RoundIn Fence.wide 0 P l fn tmps assign body w (fun e w'=> ∃ b g' L',e= .returned (.bool b)∧Dt w' g' (L'++LF)∧Eb (Ak (L++LF)) w g w' g'∧De w (L++LF) (L'++LF)∧R b L')
theorem NP.mono {P:Program} {l:Nat} {args:List PV} {L:List Res} {R R':Bool→List Res→Prop} (h:NP P l args L R) (hr: ∀ b L',R b L'→R' b L'):NP P l args L R':=fun vs w g LF hv hi=>by
 obtain⟨fn,tmps,assign,body,h1,h2⟩:=h vs w g LF hv hi
 exact⟨fn,tmps,assign,body,h1,RoundIn.mono h2 fun e w' ⟨b,g',L',k1,k2,k3,k4,k5⟩=>⟨b,g',L',k1,k2,k3,k4,hr _ _ k5⟩⟩
section
variable {P:Program} {N:Nat} {all:Array Oper} {K:Env→List Res→Prop} {fl:List Bool} {os:List Oper} {ρ:Env} {L:List Res} {Q:PPost} {c:Code} {d:Nat} {ty:TypeId} {pos:String} {af:Array Edge}
theorem fZ {dst:Option Nat} {x:Operand} {xs:List Operand} {ats:Array TypeId} {gd:Option (Nat × Bool)} {l:Nat} {L₁ LF:List Res} {Ψ:PV→List Res→Prop} {args:List PV}
  (hx:ρ.ev x= .raw (.func (.yield l) #[] #[])) (hargs:xs.map ρ.ev=args) (hp:L.Perm (L₁++LF)) (hc:NP P l args L₁ (fun b L'=>Ψ (.raw (.bool b)) (L'++LF))):
  Fk P ⟨dst,.call { callee:= .value x,args:=xs.toArray,argTypes:=ats },ty,pos,af,gd⟩ ρ L Ψ:=by
 refine Fk.perm hp fun a w g ha hi=>?_
 have h1:=Cb ha (x:=x) (by simp[Op.operands,Call.operands]) hx
 have hvs:E7 g (xs.map a.eval) args:=by
  subst hargs
  refine⟨by simp,fun i h1 h2=>?_⟩
  simp only[B5]
  exact ha _ (by simp[Op.operands,Call.operands])
 obtain⟨fn,tmps,assign,body,hy,hR⟩:=hc _ w g LF hvs hi
 have hr:(execOp a.eval ⟨dst,.call { callee:= .value x,args:=xs.toArray,argTypes:=ats },ty,pos,af,gd⟩).run P w= .ok (.round l fn tmps assign body) w:=by
  simp only[execOp,resolve,h1,Deferred.ofValue,Sem.run_bind,Sem.run_pure,Result.andThen_ok,invoke]
  simpa using hy
 refine Oper.wq_of_run hr ?_
 refine RoundIn.mono (F:=Fence.wide) (n:=0) hR ?_
 rintro e w' ⟨b,g',L',rfl,h2,h3,h4,h5⟩
 exact⟨.bool b,.raw (.bool b),g',L'++LF,rfl,.raw _,h2,h3,h4,h5⟩
theorem JT {x:Operand} {xs:List Operand} {xa:Array Operand} {ats:Array TypeId} {l:Nat} {args:List PV} (L₁ LF:List Res) (hx:ρ.ev x= .raw (.func (.yield l) #[] #[])) (hxa:xa=xs.toArray) (hargs:xs.map ρ.ev=args) (hp:L.Perm (L₁++LF))
  (R:Bool→List Res→Prop) (hc:NP P l args L₁ R) (k: ∀ b L',R b L'→AU P N all K fl.tail os (CR ρ d (.raw (.bool b))) (L'++LF)) (hd:Nat.blt d N=true:=by rfl) (hfl:fl.headD true=true:=by rfl):
  AU P N all K fl (⟨some d,.call { callee:= .value x,args:=xa,argTypes:=ats },ty,pos,af,none⟩::os) ρ L:=by
 subst hxa
 exact DY rfl (P7 hd) hfl (fZ hx hargs hp (hc.mono fun b L' h=>k b L' h))
end
def eF (P:Program) (f:Nat) (caps:List PV) {α:Type} (enc:α→List PV) (xs:List α):Prop:=
 ∀ (l:Nat) (J Jx:List α→List Res→Prop),
   (∀ pre x L,(pre++ [x]) <+:xs→J pre L→NP P l (enc x) L (fun b L'=>(b=true∧J (pre++ [x]) L')∨(b=false∧Jx (pre++ [x]) L')))→
   ∀ L,J [] L→BH P f (.raw (.func (.yield l) #[] #[])::caps) L (fun _ L'=>J xs L'∨ ∃ pre,Jx pre L')
@[reducible] def mf:Env→List Nat→List PV→Env
 |ρ,p::ps,x::xs=>mf (CR ρ p x) ps xs
 |ρ,_,_=>ρ
@[reducible] def lb {α σ:Type} (I Ix:List α→σ→Prop) (LL:σ→List Res→List Res) (LF:List Res) (pre:List α):PPost
 | .normal,_,L=> ∃ s,I pre s∧(LL s LF).Sublist L
 | .ret,_,L=> ∃ s,Ix pre s∧(LL s LF).Sublist L
 |_,_,_=>False
theorem Sr {g:Gh}: ∀ (ps:List Nat) (vs:List Value) (xs:List PV) (t:Array Value) (ρ:Env),E7 g vs xs→(∀ p∈ps,p < t.size)→(∀ i,VR g (t.getD i undef) (ρ i))→
  ((ps.zip vs).foldl (fun t (p:Nat × Value)=>t.setIfInBounds p.1 p.2) t).size=t.size∧ ∀ i,VR g (((ps.zip vs).foldl (fun t (p:Nat × Value)=>t.setIfInBounds p.1 p.2) t).getD i undef) (mf ρ ps xs i)
 | [],_,_,t,ρ,_,_,h=>⟨rfl,h⟩
 |p::ps,[],[],t,ρ,_,_,h=>⟨rfl,h⟩
 |p::ps,[],x::xs,t,ρ,hv,_,_=>by have:=hv.len;simp at this
 |p::ps,v::vs,[],t,ρ,hv,_,_=>by have:=hv.len;simp at this
 |p::ps,v::vs,x::xs,t,ρ,hv,hp,h=>by
  obtain⟨h1,h2⟩:=hv.uncons
  have:=Sr ps vs xs (t.setIfInBounds p v) (CR ρ p x) h2 (fun q hq=>by simpa using hp q (AL _ hq)) (fun i=>by
   by_cases e:i=p
   ·subst e
    have hlt:=hp i (AI)
    rw[Ch];simp[hlt];exact h1
   ·rw[Gp _ _ e]
    have:=h i
    simpa [iM (Ne.symm e)]using this)
  simpa using this
theorem VR.undef_any {g g':Gh} {x:PV} (h:VR g undef x):VR g' undef x:=by
 unfold undef at*
 cases h with
 |raw v=>exact .raw _
 |junk v=>exact .junk _
 |tuple hl h=>exact .tuple hl (fun i h1=>by simp at h1)
theorem aE {ro:Option Nat} {n:Nat} {P:Program} {f:FuncId} {args:Array Value} {w:World} {R:Ending→World→Prop} (h:Calls P f args w R):CallsIn (aQ ro) n P f args w R:=
 (callsIn_wide (n:=n)).2 h
section
variable {P:Program} {N:Nat} {ρ:Env} {L:List Res} {Q:PPost}
theorem TH {base ll D:Nat} {ro:Option Nat} {fn:FuncId} {ps:List Nat} {assign body:Code} {f:Nat} {caps:List PV} {vcaps:List Value} {α σ:Type} {enc:α→List PV} {xs:List α}
  {I Ix:List α→σ→Prop} {LL:σ→List Res→List Res} {s0:σ} {LF:List Res} {mark:List Deferred} {a:Act} {w w1:World} {g g1:Gh}
  (hit:eF P f caps enc xs) (henc: ∀ x,(enc x).length=ps.length) (hps: ∀ p∈ps,p < N)
  (hLL: ∀ s LF',LL s LF'=LL s []++LF') (h0:I [] s0)
  (hbody: ∀ pre x s LF',(pre++ [x]) <+:xs→I pre s→EY P N assign (WB (EY P N body (lb I Ix LL LF' (pre++ [x]))) (fun _ _ _=>False)) (mf ρ ps (enc x)) (LL s LF'))
  (hdone: ∀ s,I xs s→Q .normal ρ (LL s LF)) (hstop: ∀ pre s,Ix pre s→Q .ret ρ (LL s LF))
  (hi0:Dt w g (LL s0 LF)) (hcap:E7 g1 vcaps caps)
  (c1:w1.heap[ll]? =some (.loop { state:= .ready,pending:=none,fn,tmps:=a.tmps,params:=ps.toArray,assign,body,defers:=D })) (c2:w.heap.size≤ll)
  (c3:Dt w1 g1 (LL s0 LF)) (c4:Eb (Ak (LL s0 LF)) w g w1 g1) (c5:(∀ o,g1.H ll o=none)∧g1.M ll=none) (c6:Uz base g1 N { a with defers:=mark++a.defers } ρ):
  CallsIn (aQ ro) 0 P f (#[.func (.yield ll) #[] #[]]++vcaps.toArray) w1 (rangePost (aQ ro) 0 P ll (S3 base N w g (LL s0 LF) Q) { a with defers:=mark++a.defers }):=by
 obtain⟨rec,hrec⟩: ∃ rec:LoopState→Option Code→Loop,rec=fun st pe=>{ state:=st,pending:=pe,fn,tmps:=a.tmps,params:=ps.toArray,assign,body,defers:=D }:=⟨_,rfl⟩
 replace c1:w1.heap[ll]? =some (.loop (rec .ready none)):=by rw[hrec];exact c1
 let kn:Res:= .know a.tmps.toList ((List.range N).map ρ)
 have hsz:a.tmps.size=N:=c6.size
 have hkn:E7 g1 a.tmps.toList ((List.range N).map ρ):=⟨by simp[hsz],fun i h1 h2=>by
  have:=c6.slot i
  simp at h1 h2 ⊢
  simpa [h1]using this⟩
 have hbig: ∀ g',g1.le g'→ ∀ i,N≤i→VR g' (a.tmps.getD i undef) (ρ i):=fun g' _ i hi=>by
  have:=c6.slot i
  have e:a.tmps.getD i undef=undef:=by simp[Bk (show a.tmps.size≤i by omega)]
  change VR g1 (a.tmps.getD i undef) (ρ i)at this
  rw[e]at this ⊢
  exact this.undef_any
 have hbig': ∀ g' i,N≤i→VR g' (a.tmps.getD i undef) (ρ i):=fun g' i hi=>by
  have:=c6.slot i
  have e:a.tmps.getD i undef=undef:=by simp[Bk (show a.tmps.size≤i by omega)]
  change VR g1 (a.tmps.getD i undef) (ρ i)at this
  rw[e]at this ⊢
  exact this.undef_any
 have hln:ll∉Ak (LL s0 LF):=fun h=>by have:=hi0.lt h;omega
 have hiJ:Dt w1 g1 ((.raw ll (.loop (rec .ready none))::kn::LL s0 LF)++ []):=by
  rw[BJ]
  exact(c3.addKnow hkn).addRaw c1 c5.1 c5.2 hln
 have hcall:=hit ll (fun pre L'=> ∃ s,I pre s∧L'= .raw ll (.loop (rec .ready none))::kn::LL s LF) (fun pre L'=> ∃ s,Ix pre s∧L'= .raw ll (.loop (rec .done (some .ret)))::kn::LL s LF) (by
  rintro pre x L1 hpre ⟨s,hI,rfl⟩ vs' w2 g2 LF2 hv hi2
  obtain⟨hl2,hH2,hM2⟩:=hi2.res _ (AI)
  have hlt2:=(BF.1 hl2).1
  have hk2:E7 g2 a.tmps.toList ((List.range N).map ρ):=hi2.res kn (by simp)
  have hnd2:=hi2.nodup
  have hLLa: ∀ s,LL s LF++LF2=LL s (LF++LF2):=fun s=>by rw[hLL s LF,hLL s (LF++LF2),AV]
  have hi3:Dt w2 g2 (LL s (LF++LF2)):=hi2.sub (by
   rw[←hLLa]
   simp only[B3]
   exact .cons _ (.cons _ (.refl _)))
  have hln2:ll∉Ak (LL s (LF++LF2)):=by
   rw[←hLLa]
   simp only[Ak,B3,B0,Res.block]at hnd2
   exact(Bo.1 hnd2).1
  have hvl:vs'.length=ps.length:=by rw[hv.len,henc]
  have hy:=run_yield (P:=P) (args:=vs'.toArray) hl2 (by rw[hrec];simp[hvl])
  rw[hrec]at hy
  refine⟨fn,_,assign,body,hy,?_⟩
  have hfold:((ps.toArray.zip vs'.toArray).foldl (fun tmps (x:Nat × Value)=>tmps.setIfInBounds x.1 x.2) a.tmps)=(ps.zip vs').foldl (fun tmps (x:Nat × Value)=>tmps.setIfInBounds x.1 x.2) a.tmps:=by simp
  have hslot:=Sr ps vs' (enc x) a.tmps ρ hv (fun p hp=>by rw[hsz];exact hps p hp) (fun i=>by
   rcases BN i N with h'|h'
   ·have:=hk2.at_ i (by simpa [hsz]using h') (by simpa using h')
    simp at this
    simpa [hsz,h']using this
   ·exact hbig' g2 i h')
  refine roundIn_of_wpIn (F:=Fence.wide) trivial ?_
  have hb:=hbody pre x s (LF++LF2) hpre hI (some ll) w2.heap.size { tmps:=(ps.zip vs').foldl (fun tmps (x:Nat × Value)=>tmps.setIfInBounds x.1 x.2) a.tmps,defers:= [] } w2 g2
   ⟨fun l e=>by cases e;exact⟨hln2,_,hl2⟩,Al _,⟨by rw[hslot.1,hsz],.nil _ _,hslot.2⟩,hi3⟩
  rw[←hfold]at hb
  refine wpIn_mono hb ?_
  have hB: ∀ b∈Ak (LL s (LF++LF2)),b∈Ak ((.raw ll (.loop (rec .ready none))::kn::LL s LF)++LF2):=fun b hb=>by
   rw[←hLLa]at hb
   simp only[Ak,B3,B0,Res.block,kn]at hb ⊢
   exact AL _ hb
  have hlB:ll∈Ak ((.raw ll (.loop (rec .ready none))::kn::LL s LF)++LF2):=by simp[Ak,Res.block]
  rintro e a1 w3 ⟨ρ3,g3,L3,k1,k2,k3,k4,k5⟩
  cases e with
  |normal=>
   have hl3:w3.heap[ll]? =some (.loop (rec .ready none)):=(k3.keep ll hlt2 hln2).trans hl2
   obtain⟨n1,n2⟩:=k3.new ll hlt2 hln2
   have hln3:ll∉Ak L3:=fun h=>hln2 (k4 ll h hlt2)
   have hH3: ∀ o,g3.H ll o=none:=fun o=>by rw[n1,hH2]
   have hM3:g3.M ll=none:=by rw[n2,hM2]
   refine⟨_,run_beginRound hl3 (by rw[hrec]),?_⟩
   obtain⟨rb,hrb⟩: ∃ rb:Loop,rb= { rec .ready none with state:= .busy }:=⟨_,rfl⟩
   rw[←hrb]
   have hlt3:=(BF.1 hl3).1
   have hl3':(w3.putObj ll (.loop rb)).heap[ll]? =some (.loop rb):=World.putObj_heap_same hlt3
   have hsz3:(w3.putObj ll (.loop rb)).heap.size=w3.heap.size:=by simp[World.putObj]
   refine wpIn_mono (k5 (some ll) w2.heap.size a1 (w3.putObj ll (.loop rb)) g3 ⟨fun l e=>by cases e;exact⟨hln3,_,hl3'⟩,by rw[hsz3];exact k3.size,k1,k2.put _ hH3 hM3 hln3⟩) ?_
   have st3:Eb (Ak ((.raw ll (.loop (rec .ready none))::kn::LL s LF)++LF2)) w2 g2 (w3.putObj ll (.loop rb)) g3:=(k3.grow hB).comp (.put (B:= [ll]) _ (by simp)) (fun b hb _=>by simp at hb;subst hb;exact hlB)
   rintro e a4 w4 ⟨ρ4,g4,L4,m1,m2,m3,m4,m5⟩
   have hl4:w4.heap[ll]? =some (.loop rb):=(m3.keep ll (by rw[hsz3];exact hlt3) hln3).trans hl3'
   obtain⟨n3,n4⟩:=m3.new ll (by rw[hsz3];exact hlt3) hln3
   have hln4:ll∉Ak L4:=fun h=>hln3 (m4 ll h (by rw[hsz3];exact hlt3))
   have hH4: ∀ o,g4.H ll o=none:=fun o=>by rw[n3,hH3]
   have hM4:g4.M ll=none:=by rw[n4,hM3]
   have hlt4:=(BF.1 hl4).1
   have fin: ∀ (o:Obj) (s':σ),(LL s' (LF++LF2)).Sublist L4→
     Dt (w4.putObj ll o) g4 ((.raw ll o::kn::LL s' LF)++LF2)∧Eb (Ak ((.raw ll (.loop (rec .ready none))::kn::LL s LF)++LF2)) w2 g2 (w4.putObj ll o) g4∧De w2 ((.raw ll (.loop (rec .ready none))::kn::LL s LF)++LF2) ((.raw ll o::kn::LL s' LF)++LF2):=fun o s' hsub=>by
    have hin: ∀ b∈Ak (LL s' (LF++LF2)),b < w2.heap.size→b∈Ak (LL s (LF++LF2)):=fun b hb hlt=>
     k4 b (m4 b ((GN hsub).subset hb) (by rw[hsz3];exact FV hlt k3.size)) hlt
    refine⟨?_,?_,?_⟩
    ·have i4:=(m2.put o hH4 hM4 hln4).sub hsub
     have i5:=(i4.addKnow ((hk2.mono k3.le).mono m3.le)).addRaw (World.putObj_heap_same hlt4) hH4 hM4 (fun h=>hln4 ((GN hsub).subset h))
     have e:(.raw ll o::kn::LL s' LF)++LF2= .raw ll o::kn::LL s' (LF++LF2):=by simp only[B3,hLLa]
     rw[e];exact i5
    ·refine(st3.comp m3 fun b hb hlt=>?_).comp (.put (B:= [ll]) _ (by simp)) (fun b hb _=>by simp at hb;subst hb;exact hlB)
     exact hB b (k4 b hb hlt)
    ·intro b hb hlt
     simp only[B3,hLLa]at hb
     simp only[Ak,B0,Res.block,kn]at hb
     rcases AG.1 hb with rfl|hb
     ·exact hlB
     ·exact hB b (hin b hb hlt)
   cases e with
   |normal=>
    obtain⟨s',hI',hsub⟩:=m5
    have hr:=run_endRound (P:=P) none hl4
    have e1:({ rb with state:=if(none:Option Code).isNone=true then .ready else .done,pending:=none }:Loop)=rec .ready none:=by rw[hrb,hrec];rfl
    rw[e1]at hr
    obtain⟨f1,f2,f3⟩:=fin (.loop (rec .ready none)) s' hsub
    exact⟨_,_,hr,true,g4,_,rfl,f1,f2,f3,.inl ⟨rfl,s',hI',rfl⟩⟩
   |ret=>
    obtain⟨s',hI',hsub⟩:=m5
    have hr:=run_endRound (P:=P) (some .ret) hl4
    have e1:({ rb with state:=if(some Code.ret:Option Code).isNone=true then .ready else .done,pending:=some .ret }:Loop)=rec .done (some .ret):=by rw[hrb,hrec];rfl
    rw[e1]at hr
    obtain⟨f1,f2,f3⟩:=fin (.loop (rec .done (some .ret))) s' hsub
    exact⟨_,_,hr,false,g4,_,rfl,f1,f2,f3,.inr ⟨rfl,s',hI',rfl⟩⟩
   |_=>exact m5.elim
  |_=>exact k5.elim) (.raw ll (.loop (rec .ready none))::kn::LL s0 LF) ⟨s0,h0,rfl⟩ (.func (.yield ll) #[] #[]::vcaps) w1 g1 [] (.cons (.raw _) hcap) hiJ
 have eargs:(#[Value.func (.yield ll) #[] #[]]++vcaps.toArray)=(Value.func (.yield ll) #[] #[]::vcaps).toArray:=by simp
 rw[eargs]
 refine CallsIn.mono (aE hcall) ?_
 rintro e w2 ⟨v,x,g2,L2,rfl,hv,hi2,hs2,hw2,hJ⟩
 rw[BJ]at hi2 hs2 hw2
 rw[BJ]at hw2
 have W1: ∀ b∈Ak (.raw ll (.loop (rec .ready none))::kn::LL s0 LF),b < w.heap.size→b∈Ak (LL s0 LF):=fun b hb hlt=>by
  simp only[Ak,B0,Res.block,kn]at hb
  rcases AG.1 hb with rfl|hb
  ·omega
  ·exact hb
 have fin: ∀ (s:σ) (o o':Obj),L2= .raw ll o::kn::LL s LF→Dt (w2.putObj ll o') g2 (LL s LF)∧Eb (Ak (LL s0 LF)) w g (w2.putObj ll o') g2∧De w (LL s0 LF) (LL s LF):=fun s o o' e=>by
  subst e
  refine⟨(hi2.putRaw o').sub (.cons _ (.cons _ (.refl _))),(c4.comp hs2 W1).comp (.put (B:= [ll]) _ (by simp)) (fun b hb hlt=>by simp at hb;omega),fun b hb hlt=>?_⟩
  exact W1 b (hw2 b (by simp only[Ak,B0,Res.block,kn];exact AL _ hb) (FV hlt c4.size)) hlt
 rcases hJ with ⟨s,hI,e2⟩|⟨pre,s,hIx,e2⟩
 ·obtain⟨hl2,_,_⟩:=hi2.res _ (by rw[e2];exact AI)
  obtain⟨f1,f2,f3⟩:=fin s _ (.loop { rec .ready none with state:= .exhausted }) e2
  have hr:=run_endLoop (P:=P) hl2 (by rw[hrec];simp)
  exact⟨none,_,by rw[hr,hrec],ρ,g2,_,c6.mono hs2.le,f1,f2,f3,hdone s hI⟩
 ·obtain⟨hl2,_,_⟩:=hi2.res _ (by rw[e2];exact AI)
  obtain⟨f1,f2,f3⟩:=fin s _ (.loop { rec .done (some .ret)with state:= .exhausted }) e2
  have hr:=run_endLoop (P:=P) hl2 (by rw[hrec];simp)
  exact⟨some .ret,_,by rw[hr,hrec],wpIn_ret ⟨ρ,g2,_,c6.mono hs2.le,f1,f2,f3,hstop pre s hIx⟩⟩
theorem VR.ev {base:Nat} {g:Gh} {a:Act} (h:Uz base g N a ρ) (x:Operand):VR g (a.eval x) (ρ.ev x):=by
 cases x with
 |tmp t=>exact h.slot t
 |const v=>exact .raw v
 |global k=>exact .raw _
 |func f=>exact .raw _
theorem JX {g0:Operand} {pa:Array Tmp} {assign body:Code} {f:Nat} {caps:List PV} {α σ:Type} {enc:α→List PV} {xs:List α} [hf:B1 P f]
  (hit:eF P f caps enc xs) (ps:List Nat) (I Ix:List α→σ→Prop) (LL:σ→List Res→List Res) (s0:σ) (LF:List Res)
  (hg:Le (ρ.ev g0) (.clo f caps)) (hpa:pa=ps.toArray) (henc: ∀ x,(enc x).length=ps.length) (hps: ∀ p∈ps,p < N)
  (hLL: ∀ s LF',LL s LF'=LL s []++LF') (hL:(LL s0 LF).Sublist L) (h0:I [] s0)
  (hbody: ∀ pre x s LF',(pre++ [x]) <+:xs→I pre s→EY P N assign (WB (EY P N body (lb I Ix LL LF' (pre++ [x]))) (fun _ _ _=>False)) (mf ρ ps (enc x)) (LL s LF'))
  (hdone: ∀ s,I xs s→Q .normal ρ (LL s LF)) (hstop: ∀ pre s,Ix pre s→Q .ret ρ (LL s LF)):EY P N (.rangeFunc g0 pa assign body) Q ρ L:=by
 refine N3 (ρ':=ρ) (fun i=> .inl rfl) hL ?_
 subst hpa
 intro ro base a w g hs
 refine wpIn_rangeFunc (F:=aQ ro) (n:=0) fun fn _=>?_
 obtain⟨vcaps,hv1,hv2⟩:=(hg g _ (VR.ev hs.agr g0)).clo_inv
 have hd:(aQ ro).depth.isSome=true→1≤0:=fun h=>by simp[aQ,Fence.wide]at h
 have hres: ∀ (e:Act) (ll:Nat) (w:World),e.tmps=a.tmps→(resolve a.eval (rangeCall g0 ll) 0).run P w= .ok { target:= .fn (.func f) vcaps.toArray,args:= #[.func (.yield ll) #[] #[]] } w:=fun e ll w _=>by
  simp only[resolve,rangeCall,hv1,Deferred.ofValue,Sem.run_pure]
  simp[Act.eval]
 cases ro with
 |none=>
  obtain⟨i1,s1⟩:=hs.inv.allocO (.deferred (some []))
  have hD:(w.alloc (.deferred (some []))).heap[w.heap.size]? =some (.deferred (some [])):=by show(w.heap.push _)[w.heap.size]? =_;simp
  obtain⟨hH0,hM0⟩:=hs.inv.fresh (b:=w.heap.size) (Al _)
  let g1:Gh:={ g with M:=fun b=>if b=w.heap.size then some .mark else g.M b }
  have hle:g.le g1:=⟨fun _ _ _ h=>h,fun b z h=>by
   show(if b=w.heap.size then some .mark else g.M b)=_
   rw[if_neg (fun e=>by rw[e,hM0]at h;cases h)];exact h⟩
  have i2:Dt (w.alloc (.deferred (some []))) g1 (LL s0 LF):=⟨i1.sat,fun b z h=>by
   change (if b=w.heap.size then some .mark else g.M b)=some z at h
   split at h
   ·rename_i e;subst e;cases h;exact hD
   ·exact i1.satM b z h,fun r hr=>Res.holds_kept hle (i1.res r hr) fun b hb=>⟨rfl,fun _=>rfl,by
     show(if b=w.heap.size then some .mark else g.M b)=_
     rw[if_neg]
     intro e
     have:=hs.inv.lt (Bt.2 ⟨r,hr,hb⟩)
     omega⟩,i1.nodup,i1.glob.mono hle⟩
  have s2:Eb (Ak (LL s0 LF)) w g (w.alloc (.deferred (some []))) g1:=⟨s1.os,s1.tape,s1.output,s1.size,s1.keep,hle,fun k hk hn=>⟨fun _=>rfl,by
   show(if k=w.heap.size then some .mark else g.M k)=_
   rw[if_neg (by omega)]⟩⟩
  let o:Obj:= .loop { state:= .ready,pending:=none,fn,tmps:=a.tmps,params:=ps.toArray,assign,body,defers:=w.heap.size }
  obtain⟨i3,s3⟩:=i2.allocO o
  have hsz1:(w.alloc (.deferred (some []))).heap.size=w.heap.size+1:=by simp
  refine⟨w.heap.size+1,[XF w.heap.size],(w.alloc (.deferred (some []))).alloc o,_,(w.alloc (.deferred (some []))).alloc o,f,#[.func (.yield (w.heap.size+1)) #[] #[]]++vcaps.toArray,(w.alloc (.deferred (some []))).alloc o,run_enterLoop_outer _ _ _ _ _,hres a _ _ rfl,fun _ _=>trivial,?_,hd,?_⟩
  ·simp only[invoke,hf.out]
  ·refine TH (g1:=g1) (mark:= [XF w.heap.size]) (D:=w.heap.size) (fn:=fn) (enc:=enc) hit henc hps hLL h0 hbody hdone hstop hs.inv (hv2.mono hle) ?_ (by omega) i3 (s2.comp s3 (fun b hb _=>hb)) ?_ ?_
   ·have:((w.alloc (.deferred (some []))).alloc o).heap[(w.alloc (.deferred (some []))).heap.size]? =some o:=World.alloc_heap_new _ o
    rw[hsz1]at this;exact this
   ·exact i2.fresh (by rw[hsz1];exact Al _)
   ·refine⟨hs.agr.size,⟨?_⟩,fun i=>(hs.agr.slot i).mono hle⟩
    obtain⟨Ds,e1,e2,e3⟩:=hs.agr.defers.out
    refine⟨w.heap.size::Ds,by simp[e1],Bo.2 ⟨fun hm=>?_,e2⟩,fun D hD=>?_⟩
    ·have:=(e3 _ hm).2;rw[hM0]at this;cases this
    ·rcases AG.1 hD with rfl|hD
     ·exact⟨hs.low,by show(if w.heap.size=w.heap.size then some .mark else g.M w.heap.size)=_;simp⟩
     ·exact⟨(e3 D hD).1,hle.M _ _ (e3 D hD).2⟩
 |some l₀=>
  obtain⟨hn,r₀,hr₀⟩:=hs.ro l₀ rfl
  let o:Obj:= .loop { state:= .ready,pending:=none,fn,tmps:=a.tmps,params:=ps.toArray,assign,body,defers:=r₀.defers }
  obtain⟨i3,s3⟩:=hs.inv.allocO o
  refine⟨w.heap.size,[],w.alloc o,_,w.alloc o,f,#[.func (.yield w.heap.size) #[] #[]]++vcaps.toArray,w.alloc o,run_enterLoop_inner hr₀ _ _ _ _ _,hres a _ _ rfl,fun _ _=>trivial,?_,hd,?_⟩
  ·simp only[invoke,hf.out]
  ·refine TH (g1:=g) (mark:= []) (D:=r₀.defers) (fn:=fn) (enc:=enc) hit henc hps hLL h0 hbody hdone hstop hs.inv hv2 ?_ (Al _) i3 s3 ?_ ?_
   ·show(w.heap.push o)[_]? =_;simp[o]
   ·exact hs.inv.fresh (Al _)
   ·exact⟨hs.agr.size,hs.agr.defers,hs.agr.slot⟩
end
def Hx {κ:Type} [DecidableEq κ] (k:κ):List κ→Option Nat
 | []=>none
 |a::l=>if k=a then some 0 else(Hx k l).map (·+1)
def CY {κ α:Type} [DecidableEq κ] (k:κ):List (κ × α)→Option α
 | []=>none
 |(a,x)::l=>if k=a then some x else CY k l
def Dd {κ α:Type} [DecidableEq κ] (k:κ) (x:α):List (κ × α)→List (κ × α)
 | []=> [(k,x)]
 |(a,y)::l=>if k=a then(k,x)::l else(a,y)::Dd k x l
theorem HQ {κ α:Type} [DecidableEq κ] (k k':κ) (x:α): ∀ l:List (κ × α),CY k' (Dd k x l)=if k'=k then some x else CY k' l
 | []=>by simp[Dd,CY]
 |(a,y)::l=>by
  unfold Dd
  by_cases h:k=a
  ·subst h
   rw[if_pos rfl]
   simp only[CY]
   by_cases h2:k'=k<;>simp[h2]
  ·rw[if_neg h]
   simp only[CY,HQ k k' x l]
   by_cases h2:k'=a
   ·subst h2;simp[Ne.symm h]
   ·simp[h2]
theorem Gl {κ α:Type} [DecidableEq κ] (k:κ) (x:α): ∀ {l:List (κ × α)},Hx k (l.map (·.1))=none→Dd k x l=l++ [(k,x)]
 | [],_=>rfl
 |(a,y)::l,h=>by
  simp only[Aq,Hx]at h
  by_cases e:k=a
  ·simp[e]at h
  ·simp only[e,if_false,Ud]at h
   simp[Dd,e,Gl k x h]
theorem Ht {κ α:Type} [DecidableEq κ] (k:κ) (x:α): ∀ {l:List (κ × α)} {i:Nat},Hx k (l.map (·.1))=some i→ ∃ y,l[i]? =some (k,y)∧Dd k x l=l.set i (k,x)∧CY k l=some y
 | [],_,h=>by simp[Hx]at h
 |(a,y)::l,i,h=>by
  simp only[Aq,Hx]at h
  by_cases e:k=a
  ·subst e
   simp at h;subst h
   exact⟨y,rfl,by simp[Dd],by simp[CY]⟩
  ·simp only[e,if_false,BU]at h
   obtain⟨j,hj,rfl⟩:=h
   obtain⟨z,h1,h2,h3⟩:=Ht k x hj
   exact⟨z,by simpa using h1,by simp[Dd,e,h2],by simp[CY,e,h3]⟩
theorem ML {κ α:Type} [DecidableEq κ] (k:κ): ∀ {l:List (κ × α)},Hx k (l.map (·.1))=none→CY k l=none
 | [],_=>rfl
 |(a,y)::l,h=>by
  simp only[Aq,Hx]at h
  by_cases e:k=a
  ·simp[e]at h
  ·simp only[e,if_false,Ud]at h
   simp[CY,e,ML k h]
def Bb {κ α:Type} (ek:κ→PV) (ev:α→PV) (l:List (κ × α)):List (PV × PV):=l.map fun p=>(ek p.1,ev p.2)
class OW (P:Program) (T:Nat) (K E:outParam Nat):Prop where
 out:P.underlying T=some (.map K E)
class ZV (P:Program) (E:Nat) {α:Type} (ev:α→PV) (a0:outParam α):Prop where
 out: ∃ i v,P.info? E=some i∧i.zero=some v∧ ∀ g,VR g v (ev a0)
structure eG (P:Program) (K:Nat) {κ:Type} [DecidableEq κ] (ek:κ→PV):Prop where
 check: ∀ (b:Bool) (g:Gh) (v:Value) (k:κ) (w:World),VR g v (ek k)→(Instr.checkKey b 10000 K v).run P w= .ok () w
 find: ∀ (g:Gh) (v:Value) (k:κ) (es:List MapEntry) (l:List κ) (w:World),VR g v (ek k)→es.length=l.length→(∀ i (h:i < es.length) (h':i < l.length),VR g es[i].key (ek l[i]))→
  (Instr.findKey K v es).run P w= .ok ((Hx k l).bind fun i=>(es[i]?).map fun e=>(i,e.val)) w
 same: ∀ (g:Gh) (u v:Value) (k:κ),VR g u (ek k)→VR g v (ek k)→Instr.sameBits 10000 u v=true
class SR (P:Program) (K:Nat) {κ:Type} [DecidableEq κ] (ek:κ→PV):Prop where
 out:eG P K ek
def kDig (d:Dig):PV:= .agg (eDig d)
def kInt (n:Int):PV:= .raw (.int .i64 n)
def vBool (b:Bool):PV:= .raw (.bool b)
def KV {α:Type} (f:α→List PV) (l:List α):PV:= .slice (l.map f) .ro
def zD {κ α:Type} (ek:κ→PV) (ev:α→PV) (l:List (κ × α)):PV:= .fmap (Bb ek ev l)
def vInt (n:Int):PV:= .raw (.int .i64 n)
def vId (x:PV):PV:=x
theorem UG {α β:Type} {r:Option Nat} {e:α} {es:List α} {f:Nat→α→β}:((r.map (·+1)).bind fun i=>((e::es)[i]?).map (f i))=(r.bind fun i=>(es[i]?).map (f (i+1))):=by
 cases r<;>simp
theorem Zr {P:Program} {K:Nat} (hT: ∃ E i,P.underlying K=some (.array 32 E)∧P.underlying E=some (.int .u8)∧P.info? E=some i∧i.size=1) (k:Dig) (w:World): ∀ (es:List MapEntry) (l:List Dig) (n:Nat),es.length=l.length→
  (∀ i (h:i < es.length) (h':i < l.length),es[i].key= .agg (l[i].bs.map u8).toArray)→
  (Instr.findAsking K (.agg (k.bs.map u8).toArray) es n).run P w= .ok ((Hx k l).bind fun i=>(es[i]?).map fun e=>(n+i,e.val)) w
 | [],[],n,_,_=>by simp[Instr.findAsking,Hx]
 | [],_::_,_,h,_=>by simp at h
 |_::_,[],_,h,_=>by simp at h
 |e::es,a::l,n,h,hk=>by
  have h0:=hk 0 (by simp) (by simp)
  simp only[BK]at h0
  unfold Instr.findAsking
  simp only[Sem.run_bind,Op.equal,h0,Op.maxDepth,JV 9998 hT,Result.andThen_ok]
  by_cases e1:k=a
  ·subst e1
   simp[Hx]
  ·have d1:decide (k=a)=false:=by simp[e1]
   simp only[d1,BW,if_false]
   rw[Zr hT k w es l (n+1) (by simpa using h) (fun i h1 h2=>by have:=hk (i+1) (by simpa using h1) (by simpa using h2);simpa using this)]
   simp only[Hx,e1,if_false]
   rw[UG]
   congr 1
   cases Hx k l with
   |none=>rfl
   |some j=>simp only[Hg];congr 1;funext e;rw[Dx,Jt 1]
theorem QE: ∀ (l:List UInt8),(((l.map u8).zip (l.map u8)).all fun(p:Value × Value)=>Instr.sameBits 9999 p.1 p.2)=true
 | []=>rfl
 |a::l=>by
  simp only[Aq,List.zip_cons_cons,yD,BQ]
  exact⟨by simp[u8,Instr.sameBits],QE l⟩
theorem fk {P:Program} {K:Nat} [hT:Uw P K]:eG P K kDig where
 check:=fun b g v k w hv=>by
  obtain⟨E,i,h1,h2,h3,h4⟩:=hT.arr
  have hv:=Iz hv
  subst hv
  rw[show(10000:Nat)=9999+1 from rfl,Instr.checkKey]
  simp only[Sem.run_bind,run_underlying h1,Result.andThen_ok]
  simp only[Std.Legacy.Range.forIn_eq_forIn_range',Std.Legacy.Range.size,zk,Nat.add_one_sub_one,Nat.div_one]
  have each: ∀ j∈List.range' 0 32,j < 32:=fun j hj=>by simpa using hj
  generalize List.range' 0 32=is at each
  induction is with
  |nil=>simp
  |cons j is ih=>
   have hj:=each j (by simp)
   have hlt:j < k.bs.length:=by rw[k.len];exact hj
   have p0:(sizeOf E).run P w= .ok 1 w:=by unfold sizeOf typeInfo;simp[h3,h4]
   have p1:(part E (k.bs.map u8).toArray (j*1)).run P w= .ok (u8 k.bs[j]) w:=JU (QD h2) (by simp[hlt]) w
   have p2:(Instr.checkKey b 9999 E (u8 k.bs[j])).run P w= .ok () w:=by rw[show(9999:Nat)=9998+1 from rfl,Instr.checkKey];simp[run_underlying h2,u8]
   simp only[List.forIn_cons,Sem.run_bind,p0,Result.andThen_ok,p1,p2,Sem.run_pure]
   exact ih (fun y hy=>each y (by simp[hy]))
 find:=fun g v k es l w hv hl hk=>by
  obtain⟨E,i,h1,_⟩:=hT.arr
  have hv:=Iz hv
  subst hv
  rw[run_findKey_eq w (by rw[h1]),Zr hT.arr k w es l 0 hl (fun i h h'=>Iz (hk i h h'))]
  simp
 same:=fun g u v k hu hv=>by
  rw[Iz hu,Iz hv,show(10000:Nat)=9999+1 from rfl,Instr.sameBits]
  simpa using QE k.bs
instance {P:Program} {K:Nat} [Uw P K]:SR P K kDig:=⟨fk⟩
theorem Zq {k:Int} {q:IntKind}: ∀ (es:List MapEntry) (l:List Int) (n:Nat),es.length=l.length→(∀ i (h:i < es.length) (h':i < l.length),es[i].key= .int .i64 l[i])→
  Instr.findNow (.int q) (.int .i64 k) es n=some ((Hx k l).bind fun i=>(es[i]?).map fun e=>(n+i,e.val))
 | [],[],n,_,_=>by simp[Instr.findNow,Hx]
 | [],_::_,_,h,_=>by simp at h
 |_::_,[],_,h,_=>by simp at h
 |e::es,a::l,n,h,hk=>by
  have h0:=hk 0 (by simp) (by simp)
  simp only[BK]at h0
  unfold Instr.findNow
  by_cases e1:k=a
  ·subst e1
   simp[h0,Instr.sameNow,Hx]
  ·have d1:(k==a)=false:=by simp[e1]
   simp only[h0,Instr.sameNow,if_true,d1]
   rw[Zq es l (n+1) (by simpa using h) (fun i h1 h2=>by have:=hk (i+1) (by simpa using h1) (by simpa using h2);simpa using this)]
   simp only[Hx,e1,if_false]
   rw[UG]
   congr 1
   cases Hx k l with
   |none=>rfl
   |some j=>simp only[Hg];congr 1;funext e;rw[Dx,Jt 1]
theorem fj {P:Program} {K:Nat} {q:IntKind} [hT:NN P K q]:eG P K kInt where
 check:=fun b g v k w hv=>by
  rw[hv.raw_inv,show(10000:Nat)=9999+1 from rfl,Instr.checkKey]
  simp[run_underlying hT.out]
 find:=fun g v k es l w hv hl hk=>by
  rw[hv.raw_inv,MapKept.run_findKey hT.out (Zq es l 0 hl (fun i h h'=>(hk i h h').raw_inv))]
  simp
 same:=fun g u v k hu hv=>by
  rw[hu.raw_inv,hv.raw_inv];simp[Instr.sameBits]
instance {P:Program} {K:Nat} {q:IntKind} [NN P K q]:SR P K kInt:=⟨fj⟩
section
variable {P:Program} {κ α:Type} [DecidableEq κ] {ek:κ→PV} {ev:α→PV} {T K E:Nat}
theorem NA (hT:P.underlying T=some (.map K E)) (hk:eG P K ek) {a0:α} (hz: ∃ i v,P.info? E=some i∧i.zero=some v∧ ∀ g,VR g v (ev a0)) {w:World} {g:Gh} {es:Array MapEntry} {l:List (κ × α)}
  (hE:Entries g es (Bb ek ev l)) {x v:Value} {k:κ} (hx:(∃ m c,x= .map (some m)∧w.heap[m]? =some (.map es c))∨(x= .map none∧es= #[])) (hv:VR g v (ek k)) (ok:Bool):
  ∃ u,(Instr.lookup T x v ok).run P w= .ok (if ok then .tuple #[u,.bool (CY k l).isSome]else u) w∧VR g u (ev ((CY k l).getD a0)):=by
 have hlen:es.toList.length=(l.map (·.1)).length:=by have:=hE.len;simpa [Bb]using this
 have hf:=hk.find g v k es.toList (l.map (·.1)) w hv hlen (fun i h h'=>by
  have:=hE.key i (by simpa using h) (by simpa [Bb]using h')
  simpa [Bb]using this)
 cases hi:Hx k (l.map (·.1))with
 |none=>
  rw[hi]at hf
  obtain⟨i,z,z1,z2,z3⟩:=hz
  refine⟨z,?_,by rw[ML k hi];exact z3 g⟩
  unfold Instr.lookup
  rcases hx with ⟨m,c,rfl,hb⟩|⟨rfl,rfl⟩
  ·simp only[Sem.run_bind,run_underlying hT,Result.andThen_ok,MapKept.run_getObj_map hb,Sem.run_pure,hk.check _ g v k w hv,hf,SS,zeroValue,typeInfo,run_program,z1,z2,ML k hi]
   cases ok<;>simp
  ·simp only[Sem.run_bind,run_underlying hT,Result.andThen_ok,Sem.run_pure,hk.check _ g v k w hv,hf,SS,zeroValue,typeInfo,run_program,z1,z2,ML k hi]
   cases ok<;>simp
 |some i=>
  rw[hi]at hf
  obtain⟨y,h1,_,h3⟩:=Ht (α:=α) k a0 hi
  have hlt:i < l.length:=(Bj.1 h1).1
  have hlt':i < es.size:=by have:=hE.len;simp[Bb]at this;omega
  have hval:=hE.val i hlt' (by simpa [Bb]using hlt)
  have hy:l[i]=(k,y):=(Bj.1 h1).2
  simp only[Bb,B5,hy]at hval
  refine⟨es[i].val,?_,by rw[h3];exact hval⟩
  unfold Instr.lookup
  have e1:es.toList[i]? =some es[i]:=by simp[hlt']
  rcases hx with ⟨m,c,rfl,hb⟩|⟨rfl,rfl⟩
  ·simp only[Sem.run_bind,run_underlying hT,Result.andThen_ok,MapKept.run_getObj_map hb,Sem.run_pure,hk.check _ g v k w hv,hf,Hg,e1,Gz,h3]
   cases ok<;>simp
  ·simp at hlt'
end
section
variable {P:Program} {N:Nat} {all:Array Oper} {K:Env→List Res→Prop} {fl:List Bool} {os:List Oper} {ρ:Env} {L:List Res} {Q:PPost} {c:Code} {d:Nat} {ty:TypeId} {pos:String} {af:Array Edge}
variable {κ α:Type} [DecidableEq κ] {ek:κ→PV} {ev:α→PV} {T KT ET:Nat}
class OX (x:PV) (ek:κ→PV) (k:outParam κ):Prop where
 out:Le x (ek k)
instance (d:Dig):OX (.agg (eDig d)) kDig d:=⟨.refl _⟩
instance (n:Int):OX (.raw (.int .i64 n)) kInt n:=⟨.refl _⟩
theorem cX {x y:Operand} {l:List (κ × α)} {ay:PV} {k0:κ} (hx:ρ.ev x= .fmap (Bb ek ev l)) (hy:ρ.ev y=ay) [hT:OW P T KT ET] [hK:SR P KT ek] {a0:α} [hz:ZV P ET ev a0] [hk:OX ay ek k0]
  (k:AU P N all K fl.tail os (CR ρ d (ev ((CY k0 l).getD a0))) L) (hd:Nat.blt d N=true:=by rfl):AU P N all K fl (⟨some d,.lookup T x y false,ty,pos,af,none⟩::os) ρ L:=
 Bg hd (B9 fun a w g ha hi=>by
  have h1:=ha x (by simp[Op.operands]);rw[hx]at h1
  have h2:=hk.out g _ (hy ▸ ha y (by simp[Op.operands]))
  have key: ∃ es,((∃ m c,a.eval x= .map (some m)∧w.heap[m]? =some (.map es c))∨(a.eval x= .map none∧es= #[]))∧Entries g es (Bb ek ev l):=by
   generalize a.eval x=v at h1
   generalize Bb ek ev l=kvs at h1 ⊢
   cases h1 with
   |fmap hM hl hk' hv'=>obtain⟨hc,_⟩:=hi.satM _ _ hM;exact⟨_,.inl ⟨_,_,rfl,hc⟩,⟨hl,hk',hv'⟩⟩
   |nilM=>exact⟨#[],.inr ⟨rfl,rfl⟩,⟨rfl,by simp,by simp⟩⟩
  obtain⟨es,he,hE⟩:=key
  obtain⟨u,hr,hu⟩:=NA hT.out hK.out hz.out hE he h2 false
  refine⟨u,?_,hu⟩
  simp only[execOp,hr,Sem.run_bind,Result.andThen_ok,Sem.run_pure];rfl) k
theorem VM {x y:Operand} {l:List (κ × α)} {ay:PV} {k0:κ} (hx:ρ.ev x= .fmap (Bb ek ev l)) (hy:ρ.ev y=ay) [hT:OW P T KT ET] [hK:SR P KT ek] {a0:α} [hz:ZV P ET ev a0] [hk:OX ay ek k0]
  (k:AU P N all K fl.tail os (CR ρ d (.tuple [ev ((CY k0 l).getD a0),.raw (.bool (CY k0 l).isSome)])) L) (hd:Nat.blt d N=true:=by rfl):AU P N all K fl (⟨some d,.lookup T x y true,ty,pos,af,none⟩::os) ρ L:=
 Bg hd (B9 fun a w g ha hi=>by
  have h1:=ha x (by simp[Op.operands]);rw[hx]at h1
  have h2:=hk.out g _ (hy ▸ ha y (by simp[Op.operands]))
  have key: ∃ es,((∃ m c,a.eval x= .map (some m)∧w.heap[m]? =some (.map es c))∨(a.eval x= .map none∧es= #[]))∧Entries g es (Bb ek ev l):=by
   generalize a.eval x=v at h1
   generalize Bb ek ev l=kvs at h1 ⊢
   cases h1 with
   |fmap hM hl hk' hv'=>obtain⟨hc,_⟩:=hi.satM _ _ hM;exact⟨_,.inl ⟨_,_,rfl,hc⟩,⟨hl,hk',hv'⟩⟩
   |nilM=>exact⟨#[],.inr ⟨rfl,rfl⟩,⟨rfl,by simp,by simp⟩⟩
  obtain⟨es,he,hE⟩:=key
  obtain⟨u,hr,hu⟩:=NA hT.out hK.out hz.out hE he h2 true
  refine⟨_,?_,E7.tuple (.cons hu (.cons (.raw (.bool (CY k0 l).isSome)) (.nil g)))⟩
  simp only[execOp,hr,Sem.run_bind,Result.andThen_ok,Sem.run_pure];rfl) k
theorem cW {x y:Operand} {b:Nat} {l:List (κ × α)} {ay:PV} {k0:κ} (hx:ρ.ev x= .raw (.map (some b))) (hm:Res.map b (Bb ek ev l)∈L) (hy:ρ.ev y=ay) [hT:OW P T KT ET] [hK:SR P KT ek] {a0:α} [hz:ZV P ET ev a0] [hk:OX ay ek k0]
  (k:AU P N all K fl.tail os (CR ρ d (ev ((CY k0 l).getD a0))) L) (hd:Nat.blt d N=true:=by rfl):AU P N all K fl (⟨some d,.lookup T x y false,ty,pos,af,none⟩::os) ρ L:=
 Bg hd (B9 fun a w g ha hi=>by
  have h1:=Cb ha (x:=x) (by simp[Op.operands]) hx
  have h2:=hk.out g _ (hy ▸ ha y (by simp[Op.operands]))
  obtain⟨es,c,hb,hE,_⟩:=hi.res _ hm
  obtain⟨u,hr,hu⟩:=NA hT.out hK.out hz.out hE (.inl ⟨b,c,h1,hb⟩) h2 false
  refine⟨u,?_,hu⟩
  simp only[execOp,hr,Sem.run_bind,Result.andThen_ok,Sem.run_pure];rfl) k
theorem VL {x y:Operand} {b:Nat} {l:List (κ × α)} {ay:PV} {k0:κ} (hx:ρ.ev x= .raw (.map (some b))) (hm:Res.map b (Bb ek ev l)∈L) (hy:ρ.ev y=ay) [hT:OW P T KT ET] [hK:SR P KT ek] {a0:α} [hz:ZV P ET ev a0] [hk:OX ay ek k0]
  (k:AU P N all K fl.tail os (CR ρ d (.tuple [ev ((CY k0 l).getD a0),.raw (.bool (CY k0 l).isSome)])) L) (hd:Nat.blt d N=true:=by rfl):AU P N all K fl (⟨some d,.lookup T x y true,ty,pos,af,none⟩::os) ρ L:=
 Bg hd (B9 fun a w g ha hi=>by
  have h1:=Cb ha (x:=x) (by simp[Op.operands]) hx
  have h2:=hk.out g _ (hy ▸ ha y (by simp[Op.operands]))
  obtain⟨es,c,hb,hE,_⟩:=hi.res _ hm
  obtain⟨u,hr,hu⟩:=NA hT.out hK.out hz.out hE (.inl ⟨b,c,h1,hb⟩) h2 true
  refine⟨_,?_,E7.tuple (.cons hu (.cons (.raw (.bool (CY k0 l).isSome)) (.nil g)))⟩
  simp only[execOp,hr,Sem.run_bind,Result.andThen_ok,Sem.run_pure];rfl) k
theorem Oc (k: ∀ b,AU P N all K fl.tail os (CR ρ d (.raw (.map (some b)))) (.map b []::L)) (hd:Nat.blt d N=true:=by rfl) (hf:fl.headD true=true:=by rfl):
  AU P N all K fl (⟨some d,.makeMap T none,ty,pos,af,none⟩::os) ρ L:=
 DY rfl (P7 hd) hf (fun a w g ha hi=>by
  obtain⟨i1,s1⟩:=hi.allocO (.map #[] 0)
  have hr:(execOp a.eval ⟨some d,.makeMap T none,ty,pos,af,none⟩).run P w= .ok (.value (.map (some w.heap.size))) (w.alloc (.map #[] 0)):=by
   simp only[execOp,Instr.makeMap,Option.map_none,Sem.run_bind,run_newObj_alloc,Result.andThen_ok,Sem.run_pure]
  refine Oper.wq_of_run hr ?_
  obtain⟨f1,f2⟩:=hi.fresh (b:=w.heap.size) (Al _)
  refine⟨_,_,g,_,rfl,.raw _,⟨i1.sat,i1.satM,fun r hr=>?_,?_,i1.glob⟩,s1,?_,k _⟩
  ·rcases AG.1 hr with rfl|hr
   ·exact⟨#[],0,by show(w.heap.push _)[w.heap.size]? =_;simp,⟨rfl,by simp,by simp⟩,f1,f2,⟨by simp,by simp⟩⟩
   ·exact i1.res r hr
  ·simp only[Ak,B0,Res.block]
   exact Bo.2 ⟨fun h=>by have:=hi.lt h;omega,hi.nodup⟩
  ·intro b' hb' hlt
   simp only[Ak,B0,Res.block]at hb'
   rcases AG.1 hb' with rfl|hb'
   ·omega
   ·exact hb')
theorem Gx.push {es:Array MapEntry} {cl:Nat} {e:MapEntry} (h:Gx es cl) (he:e.born=cl):Gx (es.push e) (cl+1):=by
 refine⟨fun x hx=>?_,?_⟩
 ·rw[Array.toList_push,Ah,Aj]at hx
  rcases hx with hx|rfl
  ·have:=h.lt x hx;omega
  ·omega
 ·rw[Array.toList_push,Au]
  refine Ez.2 ⟨h.nd,by simp,fun a ha b hb e2=>?_⟩
  obtain⟨x,hx,rfl⟩:=AY.1 ha
  have:=h.lt x hx
  simp only[Aq,CC,Aj]at hb
  omega
theorem Gx.modify {es:Array MapEntry} {cl i:Nat} {f:MapEntry→MapEntry} (h:Gx es cl) (hf: ∀ e,(f e).born=e.born):Gx (es.modify i f) cl:=by
 have e:(es.modify i f).toList.map (·.born)=es.toList.map (·.born):=by
  refine Dc (by simp) fun k h1 h2=>?_
  simp only[B5,Xz,Eo]
  split
  ·exact hf _
  ·rfl
 refine⟨fun x hx=>?_,by rw[e];exact h.nd⟩
 have hm:x.born∈(es.modify i f).toList.map (·.born):=AY.2 ⟨x,hx,rfl⟩
 rw[e]at hm
 obtain⟨y,hy,e2⟩:=AY.1 hm
 have:=h.lt y hy
 omega
theorem Td {dst:Option Nat} {gd:Option (Nat × Bool)} [hT:OW P T KT ET] [hK:SR P KT ek] {x y z:Operand} {b:Nat} {l:List (κ × α)} {k0:κ} {x0:α} {L':List Res} {op:Op} (hop:op= .mapUpdate T x y z∨op= .insert T x y z) (hx:ρ.ev x= .raw (.map (some b))) (hp:L.Perm (.map b (Bb ek ev l)::L'))
  (hk:Le (ρ.ev y) (ek k0)) (hz:Le (ρ.ev z) (ev x0)) {Ψ:PV→List Res→Prop} (k:Ψ (.raw undef) (.map b (Bb ek ev (Dd k0 x0 l))::L')):Fk P ⟨dst,op,ty,pos,af,gd⟩ ρ L Ψ:=by
 refine Fk.perm hp fun a w g ha hi=>?_
 have hopx:x∈op.operands:=by rcases hop with rfl|rfl<;>simp[Op.operands]
 have hopy:y∈op.operands:=by rcases hop with rfl|rfl<;>simp[Op.operands]
 have hopz:z∈op.operands:=by rcases hop with rfl|rfl<;>simp[Op.operands]
 have h1:=Cb ha (x:=x) hopx hx
 have h2:=hk g _ (ha y hopy)
 have h3:=hz g _ (ha z hopz)
 obtain⟨es,cl,hb,hE,hH,hM,hS⟩:=hi.res _ (AI)
 have hlen:es.toList.length=(l.map (·.1)).length:=by have:=hE.len;simpa [Bb]using this
 have hf:=hK.out.find g (a.eval y) k0 es.toList (l.map (·.1)) w h2 hlen (fun i h h'=>by
  have:=hE.key i (by simpa using h) (by simpa [Bb]using h')
  simpa [Bb]using this)
 have hlt:b < w.heap.size:=(BF.1 hb).1
 have hnd:=hi.nodup
 simp only[Ak,B0,Res.block]at hnd
 have hrest:Dt w g L':=hi.sub (EL _ _)
 have fin: ∀ (es':Array MapEntry) (cl':Nat),Entries g es' (Bb ek ev (Dd k0 x0 l))→Gx es' cl'→(Instr.mapUpdate T (a.eval x) (a.eval y) (a.eval z)).run P w= .ok () (w.putObj b (.map es' cl'))→
   Oper.wq P ⟨dst,op,ty,pos,af,gd⟩ a w (fun a' w'=> ∃ v x g' L'',a'=a.put dst v∧VR g' v x∧Dt w' g' L''∧Eb (Ak (.map b (Bb ek ev l)::L')) w g w' g'∧De w (.map b (Bb ek ev l)::L') L''∧Ψ x L''):=fun es' cl' hE' hS' hr=>by
  have hr':(execOp a.eval ⟨dst,op,ty,pos,af,gd⟩).run P w= .ok .skip (w.putObj b (.map es' cl')):=by
   rcases hop with rfl|rfl<;>simp only[execOp,hr,Sem.run_bind,Result.andThen_ok,Sem.run_pure]
  refine Oper.wq_of_run hr' ?_
  have i2:=hrest.put (.map es' cl') hH hM (Bo.1 hnd).1
  refine⟨undef,.raw undef,g,.map b (Bb ek ev (Dd k0 x0 l))::L',rfl,.raw _,⟨i2.sat,i2.satM,fun r hr=>?_,hi.nodup,hi.glob⟩,.put _ (by simp[Ak,Res.block]),fun b' hb' _=>hb',k⟩
  rcases AG.1 hr with rfl|hr
  ·exact⟨es',cl',World.putObj_heap_same hlt,hE',hH,hM,hS'⟩
  ·exact i2.res r hr
 cases hi':Hx k0 (l.map (·.1))with
 |none=>
  rw[hi']at hf
  refine fin (es.push { key:=a.eval y,val:=a.eval z,born:=cl }) (cl+1) ?_ (hS.push rfl) ?_
  ·rw[Gl k0 x0 hi',Bb,Au]
   have hl:es.size=l.length:=by simpa [Bb]using hE.len
   refine⟨by simp[hl],fun i j1 j2=>?_,fun i j1 j2=>?_⟩
   ·by_cases hi2:i < es.size
    ·rw[Mc hi2,B7 (by simp;omega)]
     exact hE.key i hi2 (by simp[Bb];omega)
    ·have e:i=es.size:=by simp at j1;omega
     subst e
     rw[BO (by simp[hl])]
     rw[Me];simpa [hl]using h2
   ·by_cases hi2:i < es.size
    ·rw[Mc hi2,B7 (by simp;omega)]
     exact hE.val i hi2 (by simp[Bb];omega)
    ·have e:i=es.size:=by simp at j1;omega
     subst e
     rw[BO (by simp[hl])]
     rw[Me];simpa [hl]using h3
  ·unfold Instr.mapUpdate
   simp only[Sem.run_bind,run_underlying hT.out,Result.andThen_ok,h1,MapKept.run_getObj_map hb,hK.out.check false g _ k0 w h2,hf,SS,MapKept.run_setObj_map _ hb]
   rfl
 |some i=>
  rw[hi']at hf
  obtain⟨y0,e1,e2,_⟩:=Ht k0 x0 hi'
  have hl:es.size=l.length:=by simpa [Bb]using hE.len
  have hli:i < l.length:=(Bj.1 e1).1
  have hli':i < es.size:=by omega
  have hy0:l[i]=(k0,y0):=(Bj.1 e1).2
  have hkey:VR g es[i].key (ek k0):=by
   have:=hE.key i hli' (by simp[Bb];exact hli)
   simpa [Bb,hy0]using this
  have hsame:=hK.out.same g _ _ k0 hkey h2
  refine fin (es.modify i fun e=>{ e with key:=a.eval y,val:=a.eval z }) cl ?_ (hS.modify fun _=>rfl) ?_
  ·rw[e2]
   refine⟨by simp[Bb,hl],fun j j1 j2=>?_,fun j j1 j2=>?_⟩
   ·simp only[H4]at j1
    have j3:j < l.length:=by omega
    rw[Eo (by simpa using j1)]
    by_cases hj:i=j
    ·subst hj
     simp[Bb];exact h2
    ·simp only[hj,if_false]
     have:=hE.key j j1 (by simp[Bb];exact j3)
     simpa [Bb,P4 hj]using this
   ·simp only[H4]at j1
    have j3:j < l.length:=by omega
    rw[Eo (by simpa using j1)]
    by_cases hj:i=j
    ·subst hj
     simp[Bb];exact h3
    ·simp only[hj,if_false]
     have:=hE.val j j1 (by simp[Bb];exact j3)
     simpa [Bb,P4 hj]using this
  ·have hf2:(Instr.findKey KT (a.eval y) es.toList).run P w= .ok (some (i,es[i].val)) w:=by rw[hf];simp[hli']
   have hst:(Instr.keyThatStays es[i].key (a.eval y)).run P w= .ok (a.eval y) w:=by unfold Instr.keyThatStays;rw[if_pos hsame];rfl
   unfold Instr.mapUpdate
   simp only[Sem.run_bind,run_underlying hT.out,Result.andThen_ok,h1,MapKept.run_getObj_map hb,hK.out.check false g _ k0 w h2,hf2,CQ hli',Gz,CJ,hst,MapKept.run_setObj_map _ hb]
   rfl
theorem Sw [hT:OW P T KT ET] [hK:SR P KT ek] {x y z:Operand} {b:Nat} {l:List (κ × α)} {k0:κ} {x0:α} {L':List Res} (hx:ρ.ev x= .raw (.map (some b))) (hp:L.Perm (.map b (Bb ek ev l)::L')) (hk:Le (ρ.ev y) (ek k0)) (hz:Le (ρ.ev z) (ev x0))
  (k:AU P N all K fl.tail os ρ (.map b (Bb ek ev (Dd k0 x0 l))::L')) (hfl:fl.headD true=true:=by rfl):AU P N all K fl (⟨none,.mapUpdate T x y z,ty,pos,af,none⟩::os) ρ L:=
 DY rfl (fun _ e=>by cases e) hfl (Td (.inl rfl) hx hp hk hz k)
theorem jA [hT:OW P T KT ET] [hK:SR P KT ek] {x y z:Operand} {b:Nat} {l:List (κ × α)} {k0:κ} {x0:α} {L':List Res} (hx:ρ.ev x= .raw (.map (some b))) (hp:L.Perm (.map b (Bb ek ev l)::L')) (hk:Le (ρ.ev y) (ek k0)) (hz:Le (ρ.ev z) (ev x0))
  (k:AU P N all K fl.tail os ρ (.map b (Bb ek ev (Dd k0 x0 l))::L')) (hfl:fl.headD true=true:=by rfl):AU P N all K fl (⟨none,.insert T x y z,ty,pos,af,none⟩::os) ρ L:=
 DY rfl (fun _ e=>by cases e) hfl (Td (.inr rfl) hx hp hk hz k)
theorem Dt.freezeM {w:World} {g:Gh} {L':List Res} {b:Nat} {kvs:List (PV × PV)} (hi:Dt w g L) (hp:L.Perm (.map b kvs::L')):
  ∃ g',Dt w g' L'∧Eb (Ak L) w g w g'∧De w L L'∧VR g' (.map (some b)) (.fmap kvs):=by
 have hi2:=hi.perm hp
 obtain⟨es,cl,h1,h2,h3,h4,h5⟩:=hi2.res _ (AI)
 let g':Gh:={ g with M:=fun k=>if k=b then some (.map es cl)else g.M k }
 have hle:g.le g':=⟨fun _ _ _ h=>h,fun k z h=>by
  show(if k=b then some (iJ.map es cl)else g.M k)=_
  rw[if_neg (fun e=>by rw[e,h4]at h;cases h)];exact h⟩
 have hbl:b∈Ak L:=(DX hp).symm.subset (by simp[Ak,Res.block])
 have hnd:=hi2.nodup
 simp only[Ak,B0,Res.block]at hnd
 have hnb: ∀ r∈L',r.block≠some b:=fun r hr e=>(Bo.1 hnd).1 (Bt.2 ⟨r,hr,e⟩)
 refine⟨g',⟨hi.sat,fun k z hz=>?_,fun r hr=>?_,(Bo.1 hnd).2,hi.glob.mono hle⟩,⟨rfl,rfl,⟨rfl,Al _⟩,Al _,fun _ _ _=>rfl,hle,fun k _ hn=>⟨fun _=>rfl,?_⟩⟩,fun b' hb' _=>(DX hp).symm.subset ?_,?_⟩
 ·change (if k=b then some (iJ.map es cl)else g.M k)=some z at hz
  split at hz
  ·rename_i e;subst e;cases hz;exact⟨h1,h5⟩
  ·exact hi.satM k z hz
 ·refine Res.holds_kept hle (hi2.res r (AL _ hr)) fun b' hb'=>⟨rfl,fun _=>rfl,?_⟩
  show(if b'=b then some (iJ.map es cl)else g.M b')=_
  rw[if_neg (fun e=>by subst e;exact hnb r hr hb')]
 ·show(if k=b then some (iJ.map es cl)else g.M k)=_
  rw[if_neg (fun e=>by subst e;exact hn hbl)]
 ·simp only[Ak,B0,Res.block];exact AL _ hb'
 ·exact .fmap (es:=es) (clock:=cl) (by show(if b=b then some (iJ.map es cl)else g.M b)=_;simp) h2.len (fun i a c=>(h2.key i a c).mono hle) (fun i a c=>(h2.val i a c).mono hle)
def Fm (b:Nat) (kvs:List (PV × PV)) (x y:PV):Prop:=x=y∨(x= .raw (.map (some b))∧y= .fmap kvs)
theorem O9 {b:Nat} {kvs:List (PV × PV)} {L':List Res} (E:List (Nat × PV)) (hE:cC (Fm b kvs) ρ E) (hp:L.Perm (.map b kvs::L')) (k:EY P N c Q (iG E) L'):EY P N c Q ρ L:=
 KP (fun base a w g ha hi=>by
  obtain⟨g',h1,h2,h3,h4⟩:=hi.freezeM hp
  refine⟨g',⟨ha.size,ha.defers.mono h2.le,fun i=>?_⟩,h1,h2,h3⟩
  rcases dm hE i with (e|⟨e1,e2⟩)|e
  ·rw[←e];exact(ha.slot i).mono h2.le
  ·rw[e2]
   have:=(ha.slot i).mono h2.le
   rw[e1]at this
   rw[this.raw_inv];exact h4
  ·rw[e];exact .junk _) k
end
theorem iW {a b:UInt8} (h:a≠b):a < b∨b < a:=by
 have h2:a.toNat≠b.toNat:=fun e=>h (UInt8.toNat.inj e)
 rw[UInt8.lt_iff_toNat_lt,UInt8.lt_iff_toNat_lt];omega
def OJ:List UInt8→List UInt8→Int
 |x::xs,y::ys=>if x < y then -1 else if y < x then 1 else OJ xs ys
 | [],[]=>0
 | [],_::_=> -1
 |_::_,[]=>1
def ER (a b:Dig):Int:=OJ a.bs b.bs
theorem NM: ∀ a b:List UInt8,OJ a b= -1∧a < b∨OJ a b=0∧a=b∨OJ a b=1∧b < a
 | [],[]=> .inr (.inl ⟨rfl,rfl⟩)
 | [],y::ys=> .inl ⟨rfl,List.nil_lt_cons y ys⟩
 |x::xs,[]=> .inr (.inr ⟨rfl,List.nil_lt_cons x xs⟩)
 |x::xs,y::ys=>by
  unfold OJ
  by_cases h1:x < y
  ·simp[h1,Ma]
  ·by_cases h2:y < x
   ·simp[h1,h2,Ma]
   ·have e:x=y:=by
     have:=iW (a:=x) (b:=y)
     by_cases he:x=y
     ·exact he
     ·rcases this he with h|h
      ·exact absurd h h1
      ·exact absurd h h2
    subst e
    simp only[h1,if_false]
    rcases NM xs ys with ⟨h3,h4⟩|⟨h3,h4⟩|⟨h3,h4⟩
    ·exact .inl ⟨h3,by simp[Ma,h4]⟩
    ·exact .inr (.inl ⟨h3,by rw[h4]⟩)
    ·exact .inr (.inr ⟨h3,by simp[Ma,h4]⟩)
theorem Qo {a b:List UInt8}:OJ a b=0↔a=b:=by
 rcases NM a b with ⟨h1,h2⟩|⟨h1,h2⟩|⟨h1,h2⟩
 ·exact⟨fun h=>by omega,fun h=>by subst h;exact absurd h2 (Q4 a)⟩
 ·exact⟨fun _=>h2,fun _=>h1⟩
 ·exact⟨fun h=>by omega,fun h=>by subst h;exact absurd h2 (Q4 a)⟩
theorem MU {a b:List UInt8}:OJ a b < 0↔a < b:=by
 rcases NM a b with ⟨h1,h2⟩|⟨h1,h2⟩|⟨h1,h2⟩
 ·exact⟨fun _=>h2,fun _=>by omega⟩
 ·exact⟨fun h=>by omega,fun h=>by subst h2;exact absurd h (Q4 a)⟩
 ·exact⟨fun h=>by omega,fun h=>absurd (List.lt_trans h h2) (Q4 a)⟩
def Dig.lt (a b:Dig):Prop:=ER a b < 0
instance (a b:Dig):Decidable (Dig.lt a b):=by unfold Dig.lt;infer_instance
theorem Dig.lt_irrefl (a:Dig): ¬Dig.lt a a:=fun h=>Q4 a.bs (MU.1 h)
theorem Dig.lt_trans {a b c:Dig} (h:Dig.lt a b) (k:Dig.lt b c):Dig.lt a c:=MU.2 (List.lt_trans (MU.1 h) (MU.1 k))
theorem Dig.lt_asymm {a b:Dig} (h:Dig.lt a b): ¬Dig.lt b a:=fun k=>Dig.lt_irrefl a (Dig.lt_trans h k)
theorem Dig.ne_of_lt {a b:Dig} (h:Dig.lt a b):a≠b:=fun e=>by subst e;exact Dig.lt_irrefl _ h
theorem Dig.tri (a b:Dig):Dig.lt a b∨a=b∨Dig.lt b a:=by
 rcases NM a.bs b.bs with ⟨h1,h2⟩|⟨h1,h2⟩|⟨h1,h2⟩
 ·exact .inl (MU.2 h2)
 ·exact .inr (.inl (Dig.ext h2))
 ·exact .inr (.inr (MU.2 h2))
theorem MW {a b:Dig}:ER a b=0↔a=b:=⟨fun h=>Dig.ext (Qo.1 h),fun h=>by subst h;exact Qo.2 rfl⟩
theorem dx: ∀ {a b:List UInt8} {k:Nat},a.length=b.length→k < a.length→(∀ i,i < k→a.getD i 0=b.getD i 0)→a.getD k 0≠b.getD k 0→OJ a b=if a.getD k 0 < b.getD k 0 then -1 else 1
 |x::xs,y::ys,0,hl,hk,he,hn=>by
  simp only[List.getD_cons_zero]at hn ⊢
  unfold OJ
  by_cases h1:x < y
  ·simp[h1]
  ·have:=iW hn
   have h2:y < x:=this.resolve_left h1
   simp[h1,h2]
 |x::xs,y::ys,k+1,hl,hk,he,hn=>by
  have h0:=he 0 (by omega)
  simp only[List.getD_cons_zero]at h0
  subst h0
  simp only[List.getD_cons_succ]at hn ⊢
  unfold OJ
  simp only[UInt8.lt_irrefl,if_false]
  exact dx (by simpa using hl) (by simpa using hk) (fun i hi=>by have:=he (i+1) (by omega);simpa using this) hn
 | [],_,_,_,hk,_,_=>by simp at hk
 |_::_,[],_,hl,_,_,_=>by simp at hl
theorem dy {a b:Dig} {k:Nat} (hk:k < 32) (he: ∀ i,i < k→a.at i=b.at i) (hn:a.at k≠b.at k):ER a b=if a.at k < b.at k then -1 else 1:=
 dx (by rw[a.len,b.len]) (by rw[a.len];exact hk) he hn
def Ep:List Dig→Dig→List Dig
 | [],d=> [d]
 |x::xs,d=>if Dig.lt x d then x::Ep xs d else if x=d then x::xs else d::x::xs
theorem Q5: ∀ {l:List Dig} {d:Dig} {k:Nat},k≤l.length→(∀ i (h:i < l.length),i < k→Dig.lt l[i] d)→(∀ h:k < l.length,¬Dig.lt l[k] d)→
  Ep l d=if ∃ h:k < l.length,l[k]=d then l else l.take k++d::l.drop k
 | [],d,k,hk,_,_=>by simp[Ep]
 |x::xs,d,0,_,_,hk=>by
  have:=hk (by simp)
  simp only[BK]at this
  simp[Ep,this]
 |x::xs,d,k+1,hl,h1,h2=>by
  have h0:=h1 0 (by simp) (by omega)
  simp only[BK]at h0
  have ih:=Q5 (l:=xs) (d:=d) (k:=k) (by simpa using hl) (fun i h hi=>by have:=h1 (i+1) (by simpa using h) (by omega);simpa using this) (fun h=>by have:=h2 (by simpa using h);simpa using this)
  simp only[Ep,h0,if_true,ih]
  simp only[AN,yA,DJ,P3,aN]
  split<;>rfl
end Go.Q
