/- The small logic: cuts within a region; more steps. Library, no statement of its own. -/
import Derived.Test.YtaibdmankdppkaaGreatDoorYad
import Derived.RangeFuncNested
import Derived.WideKeyRuns
set_option linter.unusedSimpArgs false
set_option linter.unusedVariables false
namespace Go.Q
open Go
section
variable {P:Program} {N:Nat} {all:Array Oper} {K:Env→List Res→Prop} {fl:List Bool} {os:List Oper} {ρ:Env} {L:List Res} {Q:PPost} {c:Code} {d:Nat} {ty:TypeId} {pos:String} {af:Array Edge}
theorem KO {K':Env→List Res→Prop} (hk: ∀ ρ L,K' ρ L→K ρ L): ∀ {os:List Oper} {fl:List Bool} {ρ:Env} {L:List Res},AV P N all K' fl os ρ L→AV P N all K fl os ρ L
 | [],_,_,_,h=>hk _ _ h
 |o::os,fl,ρ,L,h=>by
  obtain⟨hd,h⟩:=h
  refine⟨hd,?_⟩
  rcases h with ⟨hno,h⟩|⟨hy,h⟩
  ·exact .inl ⟨hno,KO hk h⟩
  ·refine .inr ⟨hy,?_⟩
   rcases h with ⟨x,hq,h⟩|⟨hf,h⟩
   ·exact .inl ⟨x,hq,KO hk h⟩
   ·exact .inr ⟨hf,h.mono fun x L' h=>KO hk h⟩
theorem BZ {y:Code} (E:List (Nat × PV)) (LL:List Res) (h:AV P N all (fun ρ L=>PQ ρ E∧LL.Sublist L) fl os ρ L) (k:ER P N y Q (iY E) LL)
  (hK: ∀ ρ L,ER P N y Q ρ L→K ρ L:=by intro _ _ h;exact h):AV P N all K fl os ρ L:=
 KO (fun ρ' L' ⟨h1,h2⟩=>hK _ _ (HQ E h1 h2 k)) h
theorem KZ {c y:Code} (F:Prop) (E:List (Nat × PV)) (LL:List Res) (h:ER P N c (WM (fun ρ L=>F∧PQ ρ E∧LL.Sublist L) Q) ρ L) (k:F→ER P N y Q (iY E) LL):ER P N c (WM (ER P N y Q) Q) ρ L:=
 Th h fun e ρ' L' hq=>by
  cases e with
  |normal=>obtain⟨h1,h2,h3⟩:=hq;exact HQ E h2 h3 (k h1)
  |_=>exact hq
theorem SE {A B:Prop} (k:B) (h:OI B→A:=by
  intro hB
  repeat(first
   |refine AD ?_
   |refine og ?_
   |refine tu ?_
   |(refine eF ?_;first|refine YS (by rfl) (by rfl) (by decide) (by omega) ?_|refine YR (by rfl) (by rfl) (by decide) ?_)
   |refine DX ?_
   |refine CQ (by kernel_rfl) ?_
   |refine Ia ?_
   |refine HA ?_
   |refine KE ?_
   |refine Gj ?_
   |refine IY (by rfl) ?_
   |refine IZ (by rfl) ?_)
  exact hB.out):A:=h ⟨k⟩
theorem ai {A:Prop} {B:Nat→Prop} (k: ∀ b,B b) (h:Kl B→A:=by
  intro hB
  refine SE ?_
  first|refine Ye (by rfl) fun b=>?_|refine C6 fun b=>?_
  refine SE ?_
  exact hB.out b):A:=h ⟨k⟩
theorem nK {A:Prop} {B:Nat→Prop} (k: ∀ b,B b) (h:Kl B→A:=by
  intro hB
  refine ai fun b=>?_
  exact hB.out b):A:=h ⟨k⟩
theorem df {T n sz by_:Nat} [hE:GV P T sz by_] {xs:List Operand} {cs:List (List PV)} {dst:Option Nat} {gd:Option (Nat × Bool)} (hn:xs.length=n) (hl:cs.length=n) (h24:n*sz≤16777216) (hm:n≤maxN)
  (hx: ∀ i (h1:i < xs.length) (h2:i < cs.length),Dj (ρ.ev xs[i]) cs[i]∧cs[i].length=sz) {Ψ:PV→List Res→Prop} (k: ∀ t',Ψ (.slice cs t') (.tok t' n sz::L)):Fc P ⟨dst,.buildSlice T n ((xs.zipIdx.map fun p=>(p.2,p.1)).toArray),ty,pos,af,gd⟩ ρ L Ψ:=by
 intro a w g ha hi
 obtain⟨E,i,z,t1,t2,t3,t4,t5,t6,t7,t8⟩:=hE.out
 have hcell: ∀ i,i < n→ ∃ us:List Value,(∀ (h1:i < xs.length),(a.eval xs[i]).cells=us.toArray)∧(∀ (h2:i < cs.length),EB g us cs[i]):=fun i h1=>by
  obtain⟨us,e1,e2⟩:=(hx i (by omega) (by omega)).1 g _ (ha xs[i] (Ua (by omega)))
  exact⟨us,fun _=>e1,fun _=>e2⟩
 let F:Nat→List Value:=fun i=>by classical exact if h:i < n then Classical.choose (hcell i h)else []
 have hF: ∀ i (h:i < n),(∀ (h1:i < xs.length),(a.eval xs[i]).cells=(F i).toArray)∧(∀ (h2:i < cs.length),EB g (F i) cs[i]):=fun i h=>by
  have:=MU (hcell i h)
  simp only[F,dif_pos h];exact this
 let vs:List (List Value):=(List.range n).map F
 have hvl:vs.length=n:=by simp[vs]
 have hvi: ∀ i (h:i < vs.length),vs[i]=F i:=fun i h=>by simp[vs]
 have hFl: ∀ i,i < n→(F i).length=sz:=fun i h=>by rw[((hF i h).2 (by omega)).len,(hx i (by omega) (by omega)).2]
 have hflat:EB g vs.flatten cs.flatten:=by
  have: ∀ m,m≤n→EB g (vs.take m).flatten (cs.take m).flatten:=by
   intro m
   induction m with
   |zero=>intro _;simp;exact .nil g
   |succ m ih=>
    intro hm'
    rw[A7 (by omega:m < vs.length),A7 (by omega:m < cs.length),CJ,CJ]
    refine(ih (by omega)).append ?_
    simp only[Ck,mb,BX,hvi]
    exact(hF m (by omega)).2 (by omega)
  have:=this n (Ah _)
  rwa [AE (by omega),AE (by omega)]at this
 have hcs: ∀ e∈cs,e.length=sz:=fun e he=>by
  obtain⟨j,hj,rfl⟩:=AZ.1 he
  exact(hx j (by omega) hj).2
 have hparts:(((xs.zipIdx.map fun p=>(p.2,p.1)).toArray).map fun(p:Nat × Operand)=>(p.1,a.eval p.2)).toList=((xs.map a.eval).zipIdx 0).map fun p=>(p.2,p.1):=by
  simp only[Hn,CG]
  rw[qe,CG]
  rfl
 obtain⟨j1,j2,j3⟩:=hi.lay vs.flatten E
 have hr:(execOp a.eval ⟨dst,.buildSlice T n ((xs.zipIdx.map fun p=>(p.2,p.1)).toArray),ty,pos,af,gd⟩).run P w= .ok (.value (.slice (some ⟨w.heap.size,0,none⟩) n n)) { w with heap:=w.heap.push (.cells vs.flatten.toArray E (0,0)) }:=by
  have hz: ∀ (zz:Array Value),Instr.fill (fun i=>some (i*sz,sz)) ((Array.range (n*sz)).map (zz[·% zz.size]!)) (((xs.map a.eval).zipIdx 0).map fun p=>(p.2,p.1))=some vs.flatten.toArray:=fun zz=>by
   have e:(Array.range (n*sz)).map (zz[·% zz.size]!)=((List.range (n*sz)).map (zz[·% zz.size]!)).toArray:=by
    apply Q4;simp
   rw[e,O6 vs (xs.map a.eval) 0 _ (by simp[hvl,hn]) (fun i h1 h2=>by
    simp only[AR]at h1
    rw[hvi]
    simp only[BN]
    exact⟨(hF i (by omega)).1 h1,hFl i (by omega)⟩) (by simp[hvl])]
   simp
  show(do pure (Next.value (←Instr.buildSlice T n (((xs.zipIdx.map fun p=>(p.2,p.1)).toArray).map fun(p:Nat × Operand)=>(p.1,a.eval p.2)))):Sem Next).run P w=_
  simp only[Instr.buildSlice,Sem.run_bind,run_underlying t1,Result.andThen_ok,sizeOf,typeInfo,run_program,t2,Sem.run_pure,t3,hparts]
  rw[if_neg (by have:(2:Nat) ^ 24=16777216:=by decide
                omega)]
  have hzv:(zeroValue E).run P w= .ok z w:=by simp[zeroValue,typeInfo,t2,t5]
  split
  ·simp only[Sem.run_bind,Sem.run_pure,Result.andThen_ok,hz #[],newRow,run_newObj]
  ·simp only[Sem.run_bind,hzv,Sem.run_pure,Result.andThen_ok,hz z.cells,newRow,run_newObj]
 refine Oper.wq_of_run hr ?_
 have hH0: ∀ o,g.H w.heap.size o=none:=fun o=>by
  cases h:g.H w.heap.size o with
  |none=>rfl
  |some v=>have:=hi.sat _ _ _ h;simp[World.cell?]at this
 have hM0:g.M w.heap.size=none:=by
  cases h:g.M w.heap.size with
  |none=>rfl
  |some v=>exact absurd (hi.satM _ _ h).lt (Ff _)
 have hfl:vs.flatten.length=n*sz:=by
  rw[hflat.len]
  have: ∀ (l:List (List PV)),(∀ e∈l,e.length=sz)→l.flatten.length=l.length*sz:=by
   intro l
   induction l with
   |nil=>simp
   |cons e l ih=>intro h;simp only[Ck,AA,h e (by simp),ih fun e' he=>h e' (by simp[he]),AN,C7];omega
  rw[this cs hcs,hl]
 refine⟨_,.slice cs (.own w.heap.size n),_,.tok (.own w.heap.size n) n sz::L,rfl,?_,⟨j1.sat,j1.satM,fun r hr=>?_,?_,j1.glob⟩,?_,?_,k _⟩
 ·have:=VR.of_cells (g:=g.lay w.heap.size 0 vs.flatten) (xs:=cs) (t:= .own w.heap.size n) (sz:=sz) (b:=w.heap.size) (off:=0) (cap:=n) hcs (by omega) ⟨by omega,by rw[hl];exact CZ h24 (by decide)⟩ (us:=vs.flatten) (hflat.mono j3) (fun j hj=>Gh.lay_in hj) (fun b' cap' e=>by cases e;exact⟨rfl,rfl,rfl⟩) (by simp)
  rw[hl]at this
  exact this
 ·rcases AI.1 hr with rfl|hr
  ·refine⟨vs.flatten.toArray,E,(0,0),by simp,by simp[hfl],Ah _,fun o ho=>?_,hM0,.inl (Ah _)⟩
   rw[Gh.lay_out (fun h=>by have:=h.2.2;omega)];exact hH0 o
  ·exact j1.res r hr
 ·have hb:w.heap.size∉Al L:=fun h=>by
   obtain⟨r,hr,e⟩:=Bw.1 h
   have:=Res.holds_lt (hi.res r hr) e
   omega
  simp only[Al,Ax,Res.block]
  exact Bf.2 ⟨hb,hi.nodup⟩
 ·exact j2
 ·intro b' hb' hlt
  simp only[Al,Ax,Res.block,AI]at hb'
  rcases hb' with h|h
  ·omega
  ·exact h
theorem jh {T sz by_:Nat} [hE:GV P T sz by_] {x0:Operand} {a0:PV} {α:Type} {f:α→List PV} {e0:α} (q0:ρ.ev x0=a0) [hC0:GI a0 f e0] [hf:NX f sz] (h24:1*sz≤16777216)
  (k: ∀ t,AV P N all K fl.tail os (CV ρ d (.slice ([e0].map f) t)) (.tok t [e0].length sz::L)) (hd:Nat.blt d N=true:=by rfl) (hfl:fl.headD true=true:=by rfl):AV P N all K fl (⟨some d,.buildSlice T 1 #[(0,x0)],ty,pos,af,none⟩::os) ρ L:=
 Da rfl (PO hd) hfl (df (n:=1) (xs:= [x0]) (cs:= [e0].map f) rfl rfl h24 (by decide) (fun i h1 h2=>by
  match i,h1,h2 with
  |0,_,_=>exact⟨q0 ▸ hC0.out,hf.out e0⟩
  |m+1,h1,_=>exact absurd h1 (by simp only[AN,Af];omega)) k)
theorem il {A B:Prop} (k:B) (h:OI B→A:=by
  intro hB
  repeat(first
   |refine AD ?_
   |refine og ?_
   |(refine eF ?_;first|refine YS (by rfl) (by rfl) (by decide) (by omega) ?_|refine YR (by rfl) (by rfl) (by decide) ?_)
   |refine DX ?_
   |refine CQ (by kernel_rfl) ?_
   |refine Ia ?_
   |refine HA ?_
   |refine KE ?_
   |refine Gj ?_
   |refine GK (by decide+kernel) ?_
   |refine IY (by rfl) ?_
   |refine IZ (by rfl) ?_)
  exact hB.out):A:=h ⟨k⟩
theorem wT {A:Prop} {B:CF→Prop} (k: ∀ t,B t) (h:Kl B→A:=by
  intro hB
  refine il ?_
  refine jh (by(conv=>lhs;whnf);done) (hC0:=(by first|infer_instance|fail)) (hf:=(by first|infer_instance|fail)) (by decide) fun t=>?_
  refine AX ?_
  exact hB.out t):A:=h ⟨k⟩
theorem sf {A:Prop} {B:CF→Prop} (k: ∀ t,B t) (h:Kl B→A:=by
  intro hB
  refine wT fun t=>?_
  exact hB.out t):A:=h ⟨k⟩
theorem CD {s:Nat} {v t:Bool} (h:ρ s= .raw (.bool v)) (e:v=t):ρ s= .raw (.bool t):=e ▸ h
end
section
variable {P:Program} {N:Nat} {all:Array Oper} {K:Env→List Res→Prop} {fl:List Bool} {os:List Oper} {ρ:Env} {L:List Res} {Q:PPost} {d:Nat} {ty:TypeId} {pos:String} {af:Array Edge}
theorem Cv {σ:Type} {c y:Code} {Q0:PPost} (F:σ→Prop) (E:σ→List (Nat × PV)) (LL:σ→List Res) (h:ER P N c (WM (fun ρ L=> ∃ s,F s∧PQ ρ (E s)∧(LL s).Sublist L) Q0) ρ L) (k: ∀ s,F s→ER P N y Q (iY (E s)) (LL s))
  (hQ: ∀ ρ L,ER P N y Q ρ L→Q0 .normal ρ L:=by intro _ _ h;exact h):ER P N c Q0 ρ L:=
 Th h fun e ρ' L' hq=>by
  cases e with
  |normal=>obtain⟨s,h1,h2,h3⟩:=hq;exact hQ _ _ (HQ (E s) h2 h3 (k s h1))
  |_=>exact hq
theorem tP {T T':TypeId} {x y:Operand} {m n:Int} (hx:ρ.ev x= .raw (.int .i64 m)) (hy:ρ.ev y= .raw (.int .i64 n)) (k:AV P N all K fl.tail os (CV ρ d (.raw (.int .i64 (IntKind.i64.wrap (m+n))))) L) (hd:Nat.blt d N=true:=by rfl):
  AV P N all K fl (⟨some d,.binOp .add T x y T',ty,pos,af,none⟩::os) ρ L:=Gi hx hy (fun w=>by simp[binOp,Op.intArith]) k hd
theorem bH {T T':TypeId} {x y:Operand} {m n:Int} {vx:Value} (hx:ρ.ev x= .raw vx) (hy:ρ.ev y= .raw (.int .i64 n)) (ex:vx= .int .i64 m) (k: ∀ v,v= .int .i64 (IntKind.i64.wrap (m+n))→AV P N all K fl.tail os (CV ρ d (.raw v)) L) (hd:Nat.blt d N=true:=by rfl):
  AV P N all K fl (⟨some d,.binOp .add T x y T',ty,pos,af,none⟩::os) ρ L:=tP (by rw[hx,ex]) hy (k _ rfl) hd
end
section
variable {P:Program} {N:Nat} {Q:PPost} {all:Array Oper} {K:Env→List Res→Prop}
theorem Cw {bar:Nat→Bool} {fuel:Nat} {listed:Array Bool} {ρ:Env} {L:List Res} (is:List Nat) (hr:Region.ready .any all listed=is) (hne:is≠ [])
  (h: ∀ i∈is,∃ o,all[i]? =some o∧AV P N all (fun ρ L=>Gw P N all bar K fuel (listed.setIfInBounds i true) ρ L) [bar i] [o] ρ L):Gw P N all bar K (fuel+1) listed ρ L:=by
 refine⟨fun h0=>absurd (hr.symm.trans h0) hne,fun i hi=>?_⟩
 rw[hr]at hi
 obtain⟨o,h0,hd,h⟩:=h i hi
 unfold Z6
 simp only[h0]
 refine⟨hd,?_⟩
 rcases h with ⟨hno,h⟩|⟨hyes,h⟩
 ·exact .inl ⟨_,.inl ⟨hno,rfl⟩,h⟩
 ·rcases h with ⟨x,hq,h⟩|⟨hf,h⟩
  ·exact .inl ⟨x,.inr ⟨hyes,hq⟩,h⟩
  ·exact .inr ⟨hf,hyes,h⟩
theorem Cu {bar:Nat→Bool} {listed:Array Bool} {ρ:Env} {L:List Res} (hr:Region.ready .any all listed= []) (h:K ρ L):Gw P N all bar K 0 listed ρ L:=⟨hr,h⟩
end
theorem Ec.grow {B B':List Nat} {w w':World} {g g':Gh} (hb: ∀ b,b∈B'→b∈B) (h:Ec B' w g w' g'):Ec B w g w' g':=
 ⟨h.os,h.tape,h.output,h.size,fun k hk hn=>h.keep k hk (fun x=>hn (hb k x)),h.le,fun k hk hn=>h.new k hk (fun x=>hn (hb k x))⟩
theorem DV {L L':List Res} (h:L.Perm L'):(Al L).Perm (Al L'):=h.filterMap _
instance {f:Nat}:Jm (.raw (.func (.func f) #[] #[])) (.clo f []):=⟨fun g v h=>by cases h;exact .clo _ rfl (by simp)⟩
theorem lK {f:Nat} {vs cs:List PV} (h:KF cs):KF (.clo f vs::cs):=fun x hx=>by
 rcases AI.1 hx with rfl|h'
 ·exact⟨by simp,by simp,by simp,by simp⟩
 ·exact h x h'
instance {cs vs:List PV} {f:Nat} [h:Dv cs]:Dv (.clo f vs::cs):=⟨lK h.out⟩
instance {f:Nat} {vs:List PV}:Dy (.clo f vs) [.clo f vs]:=⟨.one (Dv.out)⟩
section
variable {P:Program} {N:Nat} {all:Array Oper} {K:Env→List Res→Prop} {fl:List Bool} {os:List Oper} {ρ:Env} {L:List Res} {Q:PPost} {c:Code} {d:Nat} {ty:TypeId} {pos:String} {af:Array Edge}
theorem Fc.conv {o:Oper} {L':List Res} {Ψ:PV→List Res→Prop} (hg: ∀ w g,Dt w g L→ ∃ g',Dt w g' L'∧Ec (Al L) w g w g'∧Db w L L') (h:Fc P o ρ L' Ψ):Fc P o ρ L Ψ:=fun a w g ha hi=>by
 obtain⟨g',h1,h2,h3⟩:=hg w g hi
 exact(h a w g' (fun x hx=>(ha x hx).mono h2.le) h1).mono fun a' w' ⟨v,x,g'',L'',k1,k2,k3,k4,k5,k6⟩=>⟨v,x,g'',L'',k1,k2,k3,h2.trans h3 k4,h3.trans h2.size k5,k6⟩
theorem Fc.perm {o:Oper} {L':List Res} {Ψ:PV→List Res→Prop} (hp:L.Perm L') (h:Fc P o ρ L' Ψ):Fc P o ρ L Ψ:=
 h.conv fun w g hi=>⟨g,hi.perm hp,.refl _ _ _,fun b hb _=>(DV hp).symm.subset hb⟩
theorem Vk {o:Oper} {L':List Res} (hp:L.Perm L') (hf:fl.headD true=true) (h:AV P N all K fl (o::os) ρ L') (hno: ¬mU all o ρ):AV P N all K fl (o::os) ρ L:=by
 obtain⟨hd,h⟩:=h
 rcases h with ⟨hn,_⟩|⟨hy,h⟩
 ·exact absurd hn hno
 ·refine⟨hd,.inr ⟨hy,.inr ⟨hf,?_⟩⟩⟩
  rcases h with ⟨x,hq,h⟩|⟨_,h⟩
  ·exact(Fc.mono hq fun x' L'' ⟨e1,e2⟩=>by subst e1;subst e2;exact h).perm hp
  ·exact h.perm hp
theorem Dt.freeze {w:World} {g:Gh} {L':List Res} {b T:Nat} {cs:List PV} (hi:Dt w g L) (hp:L.Perm (.box b T cs::L')):
  ∃ g',Dt w g' L'∧Ec (Al L) w g w g'∧Db w L L'∧VR g' (.pointer (some ⟨b,0,none⟩)) (.pt cs 0):=by
 have hi2:=hi.perm hp
 obtain⟨vs,h1,h2,h3,h4⟩:=hi2.res _ (AG)
 have hle:=Gh.le_lay (g:=g) (b:=b) (from_:=0) (us:=vs) (fun o _=>h3 o)
 have hbl:b∈Al L:=(DV hp).symm.subset (by simp[Al,Res.block])
 have hnb: ∀ r∈L',r.block≠some b:=fun r hr e=>by
  have hnd:=hi2.nodup
  simp only[Al,Ax,Res.block]at hnd
  exact(Bf.1 hnd).1 (Bw.2 ⟨r,hr,e⟩)
 refine⟨g.lay b 0 vs,⟨fun b' o v hv=>?_,fun b' z hz=>hi.satM b' z hz,fun r hr=>?_,?_,hi.glob.mono hle⟩,⟨rfl,rfl,⟨rfl,Ah _⟩,Ah _,fun _ _ _=>rfl,hle,fun k _ hn=>⟨fun o=>Gh.lay_out (fun h=>hn (h.1 ▸ hbl)),rfl⟩⟩,fun b' hb' _=>(DV hp).symm.subset ?_,?_⟩
 ·by_cases hin:b'=b∧0≤o∧o < 0+vs.length
  ·obtain⟨rfl,_,h6⟩:=hin
   have hj:o < vs.length:=by omega
   have:=Gh.lay_in (g:=g) (b:=b') (from_:=0) hj
   rw[BG,hv]at this
   cases this
   exact HJ h1 o hj
  ·rw[Gh.lay_out hin]at hv;exact hi.sat b' o v hv
 ·refine Res.holds_kept hle (hi2.res r (AH _ hr)) fun b' hb'=>⟨rfl,fun o=>Gh.lay_out (fun h=>hnb r hr (h.1 ▸ hb')),rfl⟩
 ·have hnd:=hi2.nodup
  simp only[Al,Ax,Res.block]at hnd
  exact(Bf.1 hnd).2
 ·simp only[Al,Ax,Res.block];exact AH _ hb'
 ·refine VR.pt (g:=g.lay b 0 vs) (b:=b) (o:=0) (off:=0) (cs:=cs) (fun j=>(vs[j]?).getD undef) (fun j hj=>?_) (fun j hj=>?_)
  ·have hj':j < vs.length:=by rw[h2.len];exact hj
   rw[Gh.lay_in hj'];simp[hj']
  ·have hj':j < vs.length:=by rw[h2.len];exact hj
   have:=(h2.mono hle).at_ j hj' hj
   simpa [hj']using this
@[reducible] def cd (R:PV→PV→Prop) (ρ:Env):List (Nat × PV)→Prop
 | []=>True
 | [(i,v)]=>R (ρ i) v
 |(i,v)::p::E=>R (ρ i) v∧cd R ρ (p::E)
theorem eK {R:PV→PV→Prop} {ρ:Env}: ∀ {E:List (Nat × PV)},cd R ρ E→ ∀ i,R (ρ i) (iY E i)∨iY E i= .junk
 | [],_,i=> .inr rfl
 | [(j,v)],h,i=>by
   by_cases e:i=j
   ·subst e;left;show R _ (CV _ _ _ _);rw[Cz];exact h
   ·right;show CV _ _ _ _=_;rw[Gv _ _ e]
 |(j,v)::(p::E),h,i=>by
  by_cases e:i=j
  ·subst e;left;show R _ (CV _ _ _ _);rw[Cz];exact h.1
  ·show R _ (CV _ _ _ _)∨CV _ _ _ _=_;rw[Gv _ _ e];exact eK h.2 i
theorem kV {T:TypeId} {x:Operand} {cs:List PV} {dst:Option Nat} {gd:Option (Nat × Bool)} (hx:Dj (ρ.ev x) cs) {Ψ:PV→List Res→Prop} (k: ∀ b,Ψ (.raw (.pointer (some ⟨b,0,none⟩))) (.box b T cs::L)):Fc P ⟨dst,.box T x,ty,pos,af,gd⟩ ρ L Ψ:=fun a w g ha hi=>by
 have h1:=ha x (by simp[Op.operands])
 obtain⟨vs,h2,h3⟩:=hx g _ h1
 obtain⟨i1,i2,i3⟩:=hi.alloc h3 T
 have hr:(execOp a.eval ⟨dst,.box T x,ty,pos,af,gd⟩).run P w= .ok (.value (.pointer (some ⟨w.heap.size,0,none⟩))) { w with heap:=w.heap.push (.cells vs.toArray T (0,0)) }:=by
  simp[execOp,Instr.box,newVar,newRow,h2]
 refine Oper.wq_of_run hr ?_
 exact⟨_,_,g,_,rfl,.raw _,i1,i2,i3,k _⟩
theorem tM {T:TypeId} {x:Operand} {ax:PV} {cs:List PV} (hx:ρ.ev x=ax) [hC:Dy ax cs] (k:AV P N all K fl.tail os (CV ρ d (.pt cs 0)) L) (hd:Nat.blt d N=true:=by rfl):
  AV P N all K fl (⟨some d,.box T x,ty,pos,af,none⟩::os) ρ L:=
 Bh hd (fun a w g ha hi=>by
  have h:=kV (P:=P) (T:=T) (dst:=some d) (gd:=none) (ty:=ty) (pos:=pos) (af:=af) (L:=L) (Ψ:=fun x L'=> ∃ b,x= .raw (.pointer (some ⟨b,0,none⟩))∧L'= .box b T cs::L) (hx ▸ hC.out) (fun b=>⟨b,rfl,rfl⟩) a w g ha hi
  refine h.mono ?_
  rintro a' w' ⟨v,x,g',L',rfl,hv,hi',hs,hw,b,rfl,rfl⟩
  obtain⟨g'',k1,k2,k3,k4⟩:=hi'.freeze (.refl _)
  refine⟨v,_,g'',L,rfl,?_,k1,hs.trans hw k2,hw.trans hs.size k3,rfl,rfl⟩
  rw[hv.raw_inv];exact k4) k
theorem Yr (i:Nat) {b T:Nat} {cs:List PV} {L':List Res} (hp:L.Perm (.box b T cs::L')) (hi:ρ i= .raw (.pointer (some ⟨b,0,none⟩))) (k:ER P N c Q (CV ρ i (.pt cs 0)) L'):ER P N c Q ρ L:=
 KN (fun base a w g ha hI=>by
  obtain⟨g',h1,h2,h3,h4⟩:=hI.freeze hp
  refine⟨g',⟨ha.size,ha.defers.mono h2.le,fun j=>?_⟩,h1,h2,h3⟩
  have hj:=(ha.slot j).mono h2.le
  by_cases e:j=i
  ·subst e
   rw[hi]at hj
   show VR g' _ (CV ρ j _ j)
   rw[Cz,hj.raw_inv];exact h4
  ·show VR g' _ (CV ρ i _ j)
   rw[Gv _ _ e];exact hj) k
theorem Ao (i:Nat) {b T:Nat} {cs:List PV} (k:ER P N c Q (CV ρ i (.pt cs 0)) L) (hi:ρ i= .raw (.pointer (some ⟨b,0,none⟩)):=by rfl):ER P N c Q ρ (.box b T cs::L):=Yr i (.refl _) hi k
theorem Pg {f:Nat} {xs:List Operand} {dst:Option Nat} {gd:Option (Nat × Bool)} {cs:List PV} (hx:xs.map ρ.ev=cs):iE P ⟨dst,.makeFunc (.func f) #[] xs.toArray,ty,pos,af,gd⟩ ρ L (.clo f cs):=B7 fun a w g ha hi=>by
 refine⟨.func (.func f) #[] (xs.map a.eval).toArray,by simp[execOp,Instr.makeFunc],EB.clo f ?_⟩
 subst hx
 refine⟨by simp,fun i h1 h2=>?_⟩
 simp only[BN]
 exact ha _ (by simp[Op.operands])
theorem tJ {f:Nat} {x0:Operand} {a0:PV} (q0:ρ.ev x0=a0) (k:AV P N all K fl.tail os (CV ρ d (.clo f [a0])) L) (hd:Nat.blt d N=true:=by rfl):AV P N all K fl (⟨some d,.makeFunc (.func f) #[] #[x0],ty,pos,af,none⟩::os) ρ L:=
 Bh hd (Pg (xs:= [x0]) (by simp[q0])) k
theorem tI {f:Nat} {x0 x1:Operand} {a0 a1:PV} (q0:ρ.ev x0=a0) (q1:ρ.ev x1=a1) (k:AV P N all K fl.tail os (CV ρ d (.clo f [a0,a1])) L) (hd:Nat.blt d N=true:=by rfl):AV P N all K fl (⟨some d,.makeFunc (.func f) #[] #[x0,x1],ty,pos,af,none⟩::os) ρ L:=
 Bh hd (Pg (xs:= [x0,x1]) (by simp[q0,q1])) k
theorem tH {f:Nat} {x0 x1 x2:Operand} {a0 a1 a2:PV} (q0:ρ.ev x0=a0) (q1:ρ.ev x1=a1) (q2:ρ.ev x2=a2) (k:AV P N all K fl.tail os (CV ρ d (.clo f [a0,a1,a2])) L) (hd:Nat.blt d N=true:=by rfl):AV P N all K fl (⟨some d,.makeFunc (.func f) #[] #[x0,x1,x2],ty,pos,af,none⟩::os) ρ L:=
 Bh hd (Pg (xs:= [x0,x1,x2]) (by simp[q0,q1,q2])) k
theorem bg (f:Nat) (cs:Array Value) (args:Array Value) (w:World):(Deferred.ofValue (.func (.func f) #[] cs) args).run P w= .ok { target:= .fn (.func f) cs,args:=args } w:=by
 simp[Deferred.ofValue]
theorem lS {dst:Option Nat} {x:Operand} {xs:List Operand} {ats:Array TypeId} {gd:Option (Nat × Bool)} {f:Nat} {cs:List Value} {ev:Operand→Value} {w:World} (hent: ∀ vs w,(callFunc f vs).run P w= .ok (.enter f vs) w) (hx:ev x= .func (.func f) #[] cs.toArray):
  (execOp ev ⟨dst,.call { callee:= .value x,args:=xs.toArray,argTypes:=ats },ty,pos,af,gd⟩).run P w= .ok (.enter f (xs.map ev++cs).toArray) w:=by
 simp only[execOp,resolve,hx,Sem.run_bind,bg,Result.andThen_ok,invoke,hent]
 simp
theorem Og {dst:Option Nat} {x:Operand} {xs:List Operand} {ats:Array TypeId} {gd:Option (Nat × Bool)} {f:Nat} {cs:List PV} {L₁ LF:List Res} {Ψ:PV→List Res→Prop} {args:List PV} [hf:Az P f]
  (hx:Le (ρ.ev x) (.clo f cs)) (hargs:xs.map ρ.ev++cs=args) (hp:L.Perm (L₁++LF)) (hc:BA P f args L₁ (fun r L'=>Ψ r (L'++LF))):
  Fc P ⟨dst,.call { callee:= .value x,args:=xs.toArray,argTypes:=ats },ty,pos,af,gd⟩ ρ L Ψ:=by
 refine Fc.perm hp fun a w g ha hi=>?_
 obtain⟨vs,h1,h2⟩:=(hx g _ (ha x (by simp[Op.operands,Call.operands]))).clo_inv
 have hvs:EB g (xs.map a.eval++vs) args:=by
  subst hargs
  refine EB.append ⟨by simp,fun i h1 h2=>?_⟩ h2
  simp only[BN]
  exact ha _ (by simp[Op.operands,Call.operands])
 refine Oper.wq_of_run (lS hf.out h1) ?_
 refine(hc _ w g LF hvs hi).mono ?_
 rintro e w' ⟨v,x,g',L',rfl,h2,h3,h4,h5,h6⟩
 exact⟨v,x,g',L'++LF,rfl,h2,h3,h4,h5,h6⟩
theorem BA.args {f:FuncId} {ys bs:List PV} {L₁:List Res} {R:PV→List Res→Prop} (hl:ys.length=bs.length) (h: ∀ i (h1:i < ys.length) (h2:i < bs.length),Le ys[i] bs[i]) (hc:BA P f bs L₁ R):BA P f ys L₁ R:=
 fun vs w g LF hv hi=>hc vs w g LF ⟨hv.len.trans hl,fun i h1 h2=>h i (by omega) h2 g _ (hv.at_ i h1 (by omega))⟩ hi
theorem CW {x:Operand} {xs:List Operand} {xa:Array Operand} {ats:Array TypeId} {f:Nat} {cs args:List PV} (L₁ LF:List Res) [hf:Az P f]
  (hx:Le (ρ.ev x) (.clo f cs)) (hxa:xa=xs.toArray) (hargs:xs.map ρ.ev++cs=args) (hp:L.Perm (L₁++LF)) (R:PV→List Res→Prop) (hc:BA P f args L₁ R) (k: ∀ r L',R r L'→AV P N all K fl.tail os (CV ρ d r) (L'++LF)) (hd:Nat.blt d N=true:=by rfl) (hfl:fl.headD true=true:=by rfl):
  AV P N all K fl (⟨some d,.call { callee:= .value x,args:=xa,argTypes:=ats },ty,pos,af,none⟩::os) ρ L:=by
 subst hxa
 exact Da rfl (PO hd) hfl (Og hx hargs hp (hc.mono fun r L' h=>k r L' h))
theorem X3 {x:Operand} {xs:List Operand} {xa:Array Operand} {ats:Array TypeId} {f:Nat} {cs args:List PV} {X:PV} [hf:Az P f]
  (hx:Le (ρ.ev x) (.clo f cs)) (hxa:xa=xs.toArray) (hargs:xs.map ρ.ev++cs=args) (hc:Fn P f args X) (k:AV P N all K fl.tail os (CV ρ d X) L) (hd:Nat.blt d N=true:=by rfl):
  AV P N all K fl (⟨some d,.call { callee:= .value x,args:=xa,argTypes:=ats },ty,pos,af,none⟩::os) ρ L:=by
 subst hxa
 exact Bh hd (Og hx hargs (.refl _) (L₁:= []) (hc.mono fun r L' ⟨e1,e2⟩=>by subst e1;subst e2;exact⟨rfl,rfl⟩)) k
end
theorem Ec.comp {B B₁:List Nat} {w w₁ w₂:World} {g g₁ g₂:Gh} (h:Ec B w g w₁ g₁) (k:Ec B₁ w₁ g₁ w₂ g₂) (hB: ∀ b∈B₁,b < w.heap.size→b∈B):Ec B w g w₂ g₂:=
 ⟨k.os.trans h.os,k.tape.trans h.tape,⟨k.output.1.trans h.output.1,CZ h.output.2 k.output.2⟩,CZ h.size k.size,
  fun b hb hn=>by rw[k.keep b (FZ hb h.size) (fun hm=>hn (hB b hm hb)),h.keep b hb hn],h.le.trans k.le,
  fun b hb hn=>by
   obtain⟨a1,a2⟩:=k.new b (FZ hb h.size) (fun hm=>hn (hB b hm hb))
   obtain⟨b1,b2⟩:=h.new b hb hn
   exact⟨fun o=>by rw[a1,b1],by rw[a2,b2]⟩⟩
theorem Ec.put {B:List Nat} {w:World} {g:Gh} {l:Nat} (o:Obj) (hl:l∈B):Ec B w g (w.putObj l o) g:=
 ⟨rfl,rfl,⟨rfl,Ah _⟩,EG (by simp[World.putObj]),fun k _ hn=>World.putObj_heap_other (fun e=>hn (e ▸ hl)),.refl g,fun _ _ _=>⟨fun _=>rfl,rfl⟩⟩
theorem Dt.put {w:World} {g:Gh} {L:List Res} {l:Nat} (o:Obj) (hi:Dt w g L) (hH: ∀ o,g.H l o=none) (hM:g.M l=none) (hl:l∉Al L):Dt (w.putObj l o) g L:=by
 have hk: ∀ k,k≠l→(w.putObj l o).heap[k]? =w.heap[k]?:=fun k hk=>World.putObj_heap_other hk
 refine⟨fun b i v h=>?_,fun b z h=>?_,fun r hr=>?_,hi.nodup,hi.glob⟩
 ·have:b≠l:=fun e=>by subst e;rw[hH]at h;cases h
  have h0:=hi.sat b i v h
  simp only[World.cell?]at h0 ⊢
  rw[hk b this];exact h0
 ·have:b≠l:=fun e=>by subst e;rw[hM]at h;cases h
  exact(hi.satM b z h).congr (hk b this)
 ·exact Res.holds_kept (.refl g) (hi.res r hr) fun b hb=>⟨hk b (fun e=>hl (Bw.2 ⟨r,hr,by rw[hb,e]⟩)),fun _=>rfl,rfl⟩
theorem Dt.putRaw {w:World} {g:Gh} {L:List Res} {l:Nat} {o:Obj} (o':Obj) (hi:Dt w g (.raw l o::L)):Dt (w.putObj l o') g (.raw l o'::L):=by
 obtain⟨h1,h2,h3⟩:=hi.res _ (AG)
 have hnd:=hi.nodup
 simp only[Al,Ax,Res.block]at hnd
 have hn:=(Bf.1 hnd).1
 have k:=(hi.sub (EP _ _)).put o' h2 h3 hn
 refine⟨k.sat,k.satM,fun r hr=>?_,hi.nodup,hi.glob⟩
 rcases AI.1 hr with rfl|hr
 ·exact⟨World.putObj_heap_same (BF.1 h1).1,h2,h3⟩
 ·exact k.res r hr
theorem Dt.addRaw {w:World} {g:Gh} {L:List Res} {l:Nat} {o:Obj} (hi:Dt w g L) (h1:w.heap[l]? =some o) (h2: ∀ o,g.H l o=none) (h3:g.M l=none) (hl:l∉Al L):Dt w g (.raw l o::L):=
 ⟨hi.sat,hi.satM,fun r hr=>by
  rcases AI.1 hr with rfl|hr
  ·exact⟨h1,h2,h3⟩
  ·exact hi.res r hr,by simp only[Al,Ax,Res.block];exact Bf.2 ⟨hl,hi.nodup⟩,hi.glob⟩
theorem Dt.addKnow {w:World} {g:Gh} {L:List Res} {vs:List Value} {xs:List PV} (hi:Dt w g L) (h:EB g vs xs):Dt w g (.know vs xs::L):=
 ⟨hi.sat,hi.satM,fun r hr=>by
  rcases AI.1 hr with rfl|hr
  ·exact h
  ·exact hi.res r hr,hi.nodup,hi.glob⟩
theorem Dt.lt {w:World} {g:Gh} {L:List Res} (hi:Dt w g L) {b:Nat} (hb:b∈Al L):b < w.heap.size:=by
 obtain⟨r,hr,e⟩:=Bw.1 hb
 exact Res.holds_lt (hi.res r hr) e
theorem Dt.fresh {w:World} {g:Gh} {L:List Res} (hi:Dt w g L) {b:Nat} (hb:w.heap.size≤b):(∀ o,g.H b o=none)∧g.M b=none:=by
 constructor
 ·intro o
  cases h:g.H b o with
  |none=>rfl
  |some v=>have:=hi.sat _ _ _ h;simp[World.cell?,Bo hb]at this
 ·cases h:g.M b with
  |none=>rfl
  |some z=>exact absurd (hi.satM _ _ h).lt (by omega)
theorem Dt.allocO {w:World} {g:Gh} {L:List Res} (hi:Dt w g L) (o:Obj):Dt (w.alloc o) g L∧Ec (Al L) w g (w.alloc o) g:=by
 have hk: ∀ k,k < w.heap.size→(w.alloc o).heap[k]? =w.heap[k]?:=fun k hk=>by
  show(w.heap.push o)[k]? =_
  rw[Hd,if_neg (by omega)]
 refine⟨⟨fun b i v h=>?_,fun b z h=>(hi.satM b z h).congr (hk b (hi.satM b z h).lt),fun r hr=>?_,hi.nodup,hi.glob⟩,⟨rfl,rfl,⟨rfl,Ah _⟩,by simp,fun k hlt _=>hk k hlt,.refl g,fun _ _ _=>⟨fun _=>rfl,rfl⟩⟩⟩
 ·have h0:=hi.sat b i v h
  have hb:b < w.heap.size:=by
   rcases B9 b w.heap.size with h'|h'
   ·exact h'
   ·simp[World.cell?,Bo h']at h0
  simp only[World.cell?]at h0 ⊢
  rw[hk b hb];exact h0
 ·exact Res.holds_kept (.refl g) (hi.res r hr) fun b hb=>⟨hk b (hi.lt (Bw.2 ⟨r,hr,hb⟩)),fun _=>rfl,rfl⟩
def Km (P:Program) (l:Nat) (args:List PV) (L:List Res) (R:Bool→List Res→Prop):Prop:=
 ∀ (vs:List Value) (w:World) (g:Gh) (LF:List Res),EB g vs args→Dt w g (L++LF)→
   ∃ fn tmps assign body,(Instr.yield l vs.toArray).run P w= .ok (.round l fn tmps assign body) w∧
     RoundIn Fence.wide 0 P l fn tmps assign body w (fun e w'=> ∃ b g' L',e= .returned (.bool b)∧Dt w' g' (L'++LF)∧Ec (Al (L++LF)) w g w' g'∧Db w (L++LF) (L'++LF)∧R b L')
theorem Km.mono {P:Program} {l:Nat} {args:List PV} {L:List Res} {R R':Bool→List Res→Prop} (h:Km P l args L R) (hr: ∀ b L',R b L'→R' b L'):Km P l args L R':=fun vs w g LF hv hi=>by
 obtain⟨fn,tmps,assign,body,h1,h2⟩:=h vs w g LF hv hi
 exact⟨fn,tmps,assign,body,h1,RoundIn.mono h2 fun e w' ⟨b,g',L',k1,k2,k3,k4,k5⟩=>⟨b,g',L',k1,k2,k3,k4,hr _ _ k5⟩⟩
section
variable {P:Program} {N:Nat} {all:Array Oper} {K:Env→List Res→Prop} {fl:List Bool} {os:List Oper} {ρ:Env} {L:List Res} {Q:PPost} {c:Code} {d:Nat} {ty:TypeId} {pos:String} {af:Array Edge}
theorem fm {dst:Option Nat} {x:Operand} {xs:List Operand} {ats:Array TypeId} {gd:Option (Nat × Bool)} {l:Nat} {L₁ LF:List Res} {Ψ:PV→List Res→Prop} {args:List PV}
  (hx:ρ.ev x= .raw (.func (.yield l) #[] #[])) (hargs:xs.map ρ.ev=args) (hp:L.Perm (L₁++LF)) (hc:Km P l args L₁ (fun b L'=>Ψ (.raw (.bool b)) (L'++LF))):
  Fc P ⟨dst,.call { callee:= .value x,args:=xs.toArray,argTypes:=ats },ty,pos,af,gd⟩ ρ L Ψ:=by
 refine Fc.perm hp fun a w g ha hi=>?_
 have h1:=Cd ha (x:=x) (by simp[Op.operands,Call.operands]) hx
 have hvs:EB g (xs.map a.eval) args:=by
  subst hargs
  refine⟨by simp,fun i h1 h2=>?_⟩
  simp only[BN]
  exact ha _ (by simp[Op.operands,Call.operands])
 obtain⟨fn,tmps,assign,body,hy,hR⟩:=hc _ w g LF hvs hi
 have hr:(execOp a.eval ⟨dst,.call { callee:= .value x,args:=xs.toArray,argTypes:=ats },ty,pos,af,gd⟩).run P w= .ok (.round l fn tmps assign body) w:=by
  simp only[execOp,resolve,h1,Deferred.ofValue,Sem.run_bind,Sem.run_pure,Result.andThen_ok,invoke]
  simpa using hy
 refine Oper.wq_of_run hr ?_
 refine RoundIn.mono (F:=Fence.wide) (n:=0) hR ?_
 rintro e w' ⟨b,g',L',rfl,h2,h3,h4,h5⟩
 exact⟨.bool b,.raw (.bool b),g',L'++LF,rfl,.raw _,h2,h3,h4,h5⟩
theorem HL {x:Operand} {xs:List Operand} {xa:Array Operand} {ats:Array TypeId} {l:Nat} {args:List PV} (L₁ LF:List Res) (hx:ρ.ev x= .raw (.func (.yield l) #[] #[])) (hxa:xa=xs.toArray) (hargs:xs.map ρ.ev=args) (hp:L.Perm (L₁++LF))
  (R:Bool→List Res→Prop) (hc:Km P l args L₁ R) (k: ∀ b L',R b L'→AV P N all K fl.tail os (CV ρ d (.raw (.bool b))) (L'++LF)) (hd:Nat.blt d N=true:=by rfl) (hfl:fl.headD true=true:=by rfl):
  AV P N all K fl (⟨some d,.call { callee:= .value x,args:=xa,argTypes:=ats },ty,pos,af,none⟩::os) ρ L:=by
 subst hxa
 exact Da rfl (PO hd) hfl (fm hx hargs hp (hc.mono fun b L' h=>k b L' h))
end
def Uc (P:Program) (f:Nat) (caps:List PV) {α:Type} (enc:α→List PV) (xs:List α):Prop:=
 ∀ (l:Nat) (J Jx:List α→List Res→Prop),
   (∀ pre x L,(pre++ [x]) <+:xs→J pre L→Km P l (enc x) L (fun b L'=>(b=true∧J (pre++ [x]) L')∨(b=false∧Jx (pre++ [x]) L')))→
   ∀ L,J [] L→BA P f (.raw (.func (.yield l) #[] #[])::caps) L (fun _ L'=>J xs L'∨ ∃ pre,Jx pre L')
@[reducible] def nL:Env→List Nat→List PV→Env
 |ρ,p::ps,x::xs=>nL (CV ρ p x) ps xs
 |ρ,_,_=>ρ
@[reducible] def mL {α σ:Type} (I Ix:List α→σ→Prop) (LL:σ→List Res→List Res) (LF:List Res) (pre:List α):PPost
 | .normal,_,L=> ∃ s,I pre s∧(LL s LF).Sublist L
 | .ret,_,L=> ∃ s,Ix pre s∧(LL s LF).Sublist L
 |_,_,_=>False
theorem TH {g:Gh}: ∀ (ps:List Nat) (vs:List Value) (xs:List PV) (t:Array Value) (ρ:Env),EB g vs xs→(∀ p∈ps,p < t.size)→(∀ i,VR g (t.getD i undef) (ρ i))→
  ((ps.zip vs).foldl (fun t (p:Nat × Value)=>t.setIfInBounds p.1 p.2) t).size=t.size∧ ∀ i,VR g (((ps.zip vs).foldl (fun t (p:Nat × Value)=>t.setIfInBounds p.1 p.2) t).getD i undef) (nL ρ ps xs i)
 | [],_,_,t,ρ,_,_,h=>⟨rfl,h⟩
 |p::ps,[],[],t,ρ,_,_,h=>⟨rfl,h⟩
 |p::ps,[],x::xs,t,ρ,hv,_,_=>by have:=hv.len;simp at this
 |p::ps,v::vs,[],t,ρ,hv,_,_=>by have:=hv.len;simp at this
 |p::ps,v::vs,x::xs,t,ρ,hv,hp,h=>by
  obtain⟨h1,h2⟩:=hv.uncons
  have:=TH ps vs xs (t.setIfInBounds p v) (CV ρ p x) h2 (fun q hq=>by simpa using hp q (AH _ hq)) (fun i=>by
   by_cases e:i=p
   ·subst e
    have hlt:=hp i (AG)
    rw[Cz];simp[hlt];exact h1
   ·rw[Gv _ _ e]
    have:=h i
    simpa [ie (Ne.symm e)]using this)
  simpa using this
theorem VR.undef_any {g g':Gh} {x:PV} (h:VR g undef x):VR g' undef x:=by
 unfold undef at*
 cases h with
 |raw v=>exact .raw _
 |junk v=>exact .junk _
 |tuple hl h=>exact .tuple hl (fun i h1=>by simp at h1)
theorem aF {ro:Option Nat} {n:Nat} {P:Program} {f:FuncId} {args:Array Value} {w:World} {R:Ending→World→Prop} (h:Calls P f args w R):CallsIn (aZ ro) n P f args w R:=
 (callsIn_wide (n:=n)).2 h
section
variable {P:Program} {N:Nat} {ρ:Env} {L:List Res} {Q:PPost}
theorem TR {base ll D:Nat} {ro:Option Nat} {fn:FuncId} {ps:List Nat} {assign body:Code} {f:Nat} {caps:List PV} {vcaps:List Value} {α σ:Type} {enc:α→List PV} {xs:List α}
  {I Ix:List α→σ→Prop} {LL:σ→List Res→List Res} {s0:σ} {LF:List Res} {mark:List Deferred} {a:Act} {w w1:World} {g g1:Gh}
  (hit:Uc P f caps enc xs) (henc: ∀ x,(enc x).length=ps.length) (hps: ∀ p∈ps,p < N)
  (hLL: ∀ s LF',LL s LF'=LL s []++LF') (h0:I [] s0)
  (hbody: ∀ pre x s LF',(pre++ [x]) <+:xs→I pre s→ER P N assign (WM (ER P N body (mL I Ix LL LF' (pre++ [x]))) (fun _ _ _=>False)) (nL ρ ps (enc x)) (LL s LF'))
  (hdone: ∀ s,I xs s→Q .normal ρ (LL s LF)) (hstop: ∀ pre s,Ix pre s→Q .ret ρ (LL s LF))
  (hi0:Dt w g (LL s0 LF)) (hcap:EB g1 vcaps caps)
  (c1:w1.heap[ll]? =some (.loop { state:= .ready,pending:=none,fn,tmps:=a.tmps,params:=ps.toArray,assign,body,defers:=D })) (c2:w.heap.size≤ll)
  (c3:Dt w1 g1 (LL s0 LF)) (c4:Ec (Al (LL s0 LF)) w g w1 g1) (c5:(∀ o,g1.H ll o=none)∧g1.M ll=none) (c6:VC base g1 N { a with defers:=mark++a.defers } ρ):
  CallsIn (aZ ro) 0 P f (#[.func (.yield ll) #[] #[]]++vcaps.toArray) w1 (rangePost (aZ ro) 0 P ll (SD base N w g (LL s0 LF) Q) { a with defers:=mark++a.defers }):=by
 obtain⟨rec,hrec⟩: ∃ rec:LoopState→Option Code→Loop,rec=fun st pe=>{ state:=st,pending:=pe,fn,tmps:=a.tmps,params:=ps.toArray,assign,body,defers:=D }:=⟨_,rfl⟩
 replace c1:w1.heap[ll]? =some (.loop (rec .ready none)):=by rw[hrec];exact c1
 let kn:Res:= .know a.tmps.toList ((List.range N).map ρ)
 have hsz:a.tmps.size=N:=c6.size
 have hkn:EB g1 a.tmps.toList ((List.range N).map ρ):=⟨by simp[hsz],fun i h1 h2=>by
  have:=c6.slot i
  simp at h1 h2 ⊢
  simpa [h1]using this⟩
 have hbig: ∀ g',g1.le g'→ ∀ i,N≤i→VR g' (a.tmps.getD i undef) (ρ i):=fun g' _ i hi=>by
  have:=c6.slot i
  have e:a.tmps.getD i undef=undef:=by simp[Bo (show a.tmps.size≤i by omega)]
  change VR g1 (a.tmps.getD i undef) (ρ i)at this
  rw[e]at this ⊢
  exact this.undef_any
 have hbig': ∀ g' i,N≤i→VR g' (a.tmps.getD i undef) (ρ i):=fun g' i hi=>by
  have:=c6.slot i
  have e:a.tmps.getD i undef=undef:=by simp[Bo (show a.tmps.size≤i by omega)]
  change VR g1 (a.tmps.getD i undef) (ρ i)at this
  rw[e]at this ⊢
  exact this.undef_any
 have hln:ll∉Al (LL s0 LF):=fun h=>by have:=hi0.lt h;omega
 have hiJ:Dt w1 g1 ((.raw ll (.loop (rec .ready none))::kn::LL s0 LF)++ []):=by
  rw[BX]
  exact(c3.addKnow hkn).addRaw c1 c5.1 c5.2 hln
 have hcall:=hit ll (fun pre L'=> ∃ s,I pre s∧L'= .raw ll (.loop (rec .ready none))::kn::LL s LF) (fun pre L'=> ∃ s,Ix pre s∧L'= .raw ll (.loop (rec .done (some .ret)))::kn::LL s LF) (by
  rintro pre x L1 hpre ⟨s,hI,rfl⟩ vs' w2 g2 LF2 hv hi2
  obtain⟨hl2,hH2,hM2⟩:=hi2.res _ (AG)
  have hlt2:=(BF.1 hl2).1
  have hk2:EB g2 a.tmps.toList ((List.range N).map ρ):=hi2.res kn (by simp)
  have hnd2:=hi2.nodup
  have hLLa: ∀ s,LL s LF++LF2=LL s (LF++LF2):=fun s=>by rw[hLL s LF,hLL s (LF++LF2),AU]
  have hi3:Dt w2 g2 (LL s (LF++LF2)):=hi2.sub (by
   rw[←hLLa]
   simp only[B0]
   exact .cons _ (.cons _ (.refl _)))
  have hln2:ll∉Al (LL s (LF++LF2)):=by
   rw[←hLLa]
   simp only[Al,B0,Ax,Res.block]at hnd2
   exact(Bf.1 hnd2).1
  have hvl:vs'.length=ps.length:=by rw[hv.len,henc]
  have hy:=run_yield (P:=P) (args:=vs'.toArray) hl2 (by rw[hrec];simp[hvl])
  rw[hrec]at hy
  refine⟨fn,_,assign,body,hy,?_⟩
  have hfold:((ps.toArray.zip vs'.toArray).foldl (fun tmps (x:Nat × Value)=>tmps.setIfInBounds x.1 x.2) a.tmps)=(ps.zip vs').foldl (fun tmps (x:Nat × Value)=>tmps.setIfInBounds x.1 x.2) a.tmps:=by simp
  have hslot:=TH ps vs' (enc x) a.tmps ρ hv (fun p hp=>by rw[hsz];exact hps p hp) (fun i=>by
   rcases B9 i N with h'|h'
   ·have:=hk2.at_ i (by simpa [hsz]using h') (by simpa using h')
    simp at this
    simpa [hsz,h']using this
   ·exact hbig' g2 i h')
  refine roundIn_of_wpIn (F:=Fence.wide) trivial ?_
  have hb:=hbody pre x s (LF++LF2) hpre hI (some ll) w2.heap.size { tmps:=(ps.zip vs').foldl (fun tmps (x:Nat × Value)=>tmps.setIfInBounds x.1 x.2) a.tmps,defers:= [] } w2 g2
   ⟨fun l e=>by cases e;exact⟨hln2,_,hl2⟩,Ah _,⟨by rw[hslot.1,hsz],.nil _ _,hslot.2⟩,hi3⟩
  rw[←hfold]at hb
  refine wpIn_mono hb ?_
  have hB: ∀ b∈Al (LL s (LF++LF2)),b∈Al ((.raw ll (.loop (rec .ready none))::kn::LL s LF)++LF2):=fun b hb=>by
   rw[←hLLa]at hb
   simp only[Al,B0,Ax,Res.block,kn]at hb ⊢
   exact AH _ hb
  have hlB:ll∈Al ((.raw ll (.loop (rec .ready none))::kn::LL s LF)++LF2):=by simp[Al,Res.block]
  rintro e a1 w3 ⟨ρ3,g3,L3,k1,k2,k3,k4,k5⟩
  cases e with
  |normal=>
   have hl3:w3.heap[ll]? =some (.loop (rec .ready none)):=(k3.keep ll hlt2 hln2).trans hl2
   obtain⟨n1,n2⟩:=k3.new ll hlt2 hln2
   have hln3:ll∉Al L3:=fun h=>hln2 (k4 ll h hlt2)
   have hH3: ∀ o,g3.H ll o=none:=fun o=>by rw[n1,hH2]
   have hM3:g3.M ll=none:=by rw[n2,hM2]
   refine⟨_,run_beginRound hl3 (by rw[hrec]),?_⟩
   obtain⟨rb,hrb⟩: ∃ rb:Loop,rb= { rec .ready none with state:= .busy }:=⟨_,rfl⟩
   rw[←hrb]
   have hlt3:=(BF.1 hl3).1
   have hl3':(w3.putObj ll (.loop rb)).heap[ll]? =some (.loop rb):=World.putObj_heap_same hlt3
   have hsz3:(w3.putObj ll (.loop rb)).heap.size=w3.heap.size:=by simp[World.putObj]
   refine wpIn_mono (k5 (some ll) w2.heap.size a1 (w3.putObj ll (.loop rb)) g3 ⟨fun l e=>by cases e;exact⟨hln3,_,hl3'⟩,by rw[hsz3];exact k3.size,k1,k2.put _ hH3 hM3 hln3⟩) ?_
   have st3:Ec (Al ((.raw ll (.loop (rec .ready none))::kn::LL s LF)++LF2)) w2 g2 (w3.putObj ll (.loop rb)) g3:=(k3.grow hB).comp (.put (B:= [ll]) _ (by simp)) (fun b hb _=>by simp at hb;subst hb;exact hlB)
   rintro e a4 w4 ⟨ρ4,g4,L4,m1,m2,m3,m4,m5⟩
   have hl4:w4.heap[ll]? =some (.loop rb):=(m3.keep ll (by rw[hsz3];exact hlt3) hln3).trans hl3'
   obtain⟨n3,n4⟩:=m3.new ll (by rw[hsz3];exact hlt3) hln3
   have hln4:ll∉Al L4:=fun h=>hln3 (m4 ll h (by rw[hsz3];exact hlt3))
   have hH4: ∀ o,g4.H ll o=none:=fun o=>by rw[n3,hH3]
   have hM4:g4.M ll=none:=by rw[n4,hM3]
   have hlt4:=(BF.1 hl4).1
   have fin: ∀ (o:Obj) (s':σ),(LL s' (LF++LF2)).Sublist L4→
     Dt (w4.putObj ll o) g4 ((.raw ll o::kn::LL s' LF)++LF2)∧Ec (Al ((.raw ll (.loop (rec .ready none))::kn::LL s LF)++LF2)) w2 g2 (w4.putObj ll o) g4∧Db w2 ((.raw ll (.loop (rec .ready none))::kn::LL s LF)++LF2) ((.raw ll o::kn::LL s' LF)++LF2):=fun o s' hsub=>by
    have hin: ∀ b∈Al (LL s' (LF++LF2)),b < w2.heap.size→b∈Al (LL s (LF++LF2)):=fun b hb hlt=>
     k4 b (m4 b ((GP hsub).subset hb) (by rw[hsz3];exact FZ hlt k3.size)) hlt
    refine⟨?_,?_,?_⟩
    ·have i4:=(m2.put o hH4 hM4 hln4).sub hsub
     have i5:=(i4.addKnow ((hk2.mono k3.le).mono m3.le)).addRaw (World.putObj_heap_same hlt4) hH4 hM4 (fun h=>hln4 ((GP hsub).subset h))
     have e:(.raw ll o::kn::LL s' LF)++LF2= .raw ll o::kn::LL s' (LF++LF2):=by simp only[B0,hLLa]
     rw[e];exact i5
    ·refine(st3.comp m3 fun b hb hlt=>?_).comp (.put (B:= [ll]) _ (by simp)) (fun b hb _=>by simp at hb;subst hb;exact hlB)
     exact hB b (k4 b hb hlt)
    ·intro b hb hlt
     simp only[B0,hLLa]at hb
     simp only[Al,Ax,Res.block,kn]at hb
     rcases AI.1 hb with rfl|hb
     ·exact hlB
     ·exact hB b (hin b hb hlt)
   cases e with
   |normal=>
    obtain⟨s',hI',hsub⟩:=m5
    have hr:=run_endRound (P:=P) none hl4
    have e1:({ rb with state:=if(none:Option Code).isNone=true then .ready else .done,pending:=none }:Loop)=rec .ready none:=by rw[hrb,hrec];rfl
    rw[e1]at hr
    obtain⟨f1,f2,f3⟩:=fin (.loop (rec .ready none)) s' hsub
    exact⟨_,_,hr,true,g4,_,rfl,f1,f2,f3,.inl ⟨rfl,s',hI',rfl⟩⟩
   |ret=>
    obtain⟨s',hI',hsub⟩:=m5
    have hr:=run_endRound (P:=P) (some .ret) hl4
    have e1:({ rb with state:=if(some Code.ret:Option Code).isNone=true then .ready else .done,pending:=some .ret }:Loop)=rec .done (some .ret):=by rw[hrb,hrec];rfl
    rw[e1]at hr
    obtain⟨f1,f2,f3⟩:=fin (.loop (rec .done (some .ret))) s' hsub
    exact⟨_,_,hr,false,g4,_,rfl,f1,f2,f3,.inr ⟨rfl,s',hI',rfl⟩⟩
   |_=>exact m5.elim
  |_=>exact k5.elim) (.raw ll (.loop (rec .ready none))::kn::LL s0 LF) ⟨s0,h0,rfl⟩ (.func (.yield ll) #[] #[]::vcaps) w1 g1 [] (.cons (.raw _) hcap) hiJ
 have eargs:(#[Value.func (.yield ll) #[] #[]]++vcaps.toArray)=(Value.func (.yield ll) #[] #[]::vcaps).toArray:=by simp
 rw[eargs]
 refine CallsIn.mono (aF hcall) ?_
 rintro e w2 ⟨v,x,g2,L2,rfl,hv,hi2,hs2,vk,hJ⟩
 rw[BX]at hi2 hs2 vk
 rw[BX]at vk
 have W1: ∀ b∈Al (.raw ll (.loop (rec .ready none))::kn::LL s0 LF),b < w.heap.size→b∈Al (LL s0 LF):=fun b hb hlt=>by
  simp only[Al,Ax,Res.block,kn]at hb
  rcases AI.1 hb with rfl|hb
  ·omega
  ·exact hb
 have fin: ∀ (s:σ) (o o':Obj),L2= .raw ll o::kn::LL s LF→Dt (w2.putObj ll o') g2 (LL s LF)∧Ec (Al (LL s0 LF)) w g (w2.putObj ll o') g2∧Db w (LL s0 LF) (LL s LF):=fun s o o' e=>by
  subst e
  refine⟨(hi2.putRaw o').sub (.cons _ (.cons _ (.refl _))),(c4.comp hs2 W1).comp (.put (B:= [ll]) _ (by simp)) (fun b hb hlt=>by simp at hb;omega),fun b hb hlt=>?_⟩
  exact W1 b (vk b (by simp only[Al,Ax,Res.block,kn];exact AH _ hb) (FZ hlt c4.size)) hlt
 rcases hJ with ⟨s,hI,e2⟩|⟨pre,s,hIx,e2⟩
 ·obtain⟨hl2,_,_⟩:=hi2.res _ (by rw[e2];exact AG)
  obtain⟨f1,f2,f3⟩:=fin s _ (.loop { rec .ready none with state:= .exhausted }) e2
  have hr:=run_endLoop (P:=P) hl2 (by rw[hrec];simp)
  exact⟨none,_,by rw[hr,hrec],ρ,g2,_,c6.mono hs2.le,f1,f2,f3,hdone s hI⟩
 ·obtain⟨hl2,_,_⟩:=hi2.res _ (by rw[e2];exact AG)
  obtain⟨f1,f2,f3⟩:=fin s _ (.loop { rec .done (some .ret)with state:= .exhausted }) e2
  have hr:=run_endLoop (P:=P) hl2 (by rw[hrec];simp)
  exact⟨some .ret,_,by rw[hr,hrec],wpIn_ret ⟨ρ,g2,_,c6.mono hs2.le,f1,f2,f3,hstop pre s hIx⟩⟩
theorem VR.ev {base:Nat} {g:Gh} {a:Act} (h:VC base g N a ρ) (x:Operand):VR g (a.eval x) (ρ.ev x):=by
 cases x with
 |tmp t=>exact h.slot t
 |const v=>exact .raw v
 |global k=>exact .raw _
 |func f=>exact .raw _
theorem GD {g0:Operand} {pa:Array Tmp} {assign body:Code} {f:Nat} {caps:List PV} {α σ:Type} {enc:α→List PV} {xs:List α} [hf:Az P f]
  (hit:Uc P f caps enc xs) (ps:List Nat) (I Ix:List α→σ→Prop) (LL:σ→List Res→List Res) (s0:σ) (LF:List Res)
  (hg:Le (ρ.ev g0) (.clo f caps)) (hpa:pa=ps.toArray) (henc: ∀ x,(enc x).length=ps.length) (hps: ∀ p∈ps,p < N)
  (hLL: ∀ s LF',LL s LF'=LL s []++LF') (hL:(LL s0 LF).Sublist L) (h0:I [] s0)
  (hbody: ∀ pre x s LF',(pre++ [x]) <+:xs→I pre s→ER P N assign (WM (ER P N body (mL I Ix LL LF' (pre++ [x]))) (fun _ _ _=>False)) (nL ρ ps (enc x)) (LL s LF'))
  (hdone: ∀ s,I xs s→Q .normal ρ (LL s LF)) (hstop: ∀ pre s,Ix pre s→Q .ret ρ (LL s LF)):ER P N (.rangeFunc g0 pa assign body) Q ρ L:=by
 refine My (ρ':=ρ) (fun i=> .inl rfl) hL ?_
 subst hpa
 intro ro base a w g hs
 refine wpIn_rangeFunc (F:=aZ ro) (n:=0) fun fn _=>?_
 obtain⟨vcaps,hv1,hv2⟩:=(hg g _ (VR.ev hs.agr g0)).clo_inv
 have hd:(aZ ro).depth.isSome=true→1≤0:=fun h=>by simp[aZ,Fence.wide]at h
 have hres: ∀ (e:Act) (ll:Nat) (w:World),e.tmps=a.tmps→(resolve a.eval (rangeCall g0 ll) 0).run P w= .ok { target:= .fn (.func f) vcaps.toArray,args:= #[.func (.yield ll) #[] #[]] } w:=fun e ll w _=>by
  simp only[resolve,rangeCall,hv1,Deferred.ofValue,Sem.run_pure]
  simp[Act.eval]
 cases ro with
 |none=>
  obtain⟨i1,s1⟩:=hs.inv.allocO (.deferred (some []))
  have hD:(w.alloc (.deferred (some []))).heap[w.heap.size]? =some (.deferred (some [])):=by show(w.heap.push _)[w.heap.size]? =_;simp
  obtain⟨hH0,hM0⟩:=hs.inv.fresh (b:=w.heap.size) (Ah _)
  let g1:Gh:={ g with M:=fun b=>if b=w.heap.size then some .mark else g.M b }
  have hle:g.le g1:=⟨fun _ _ _ h=>h,fun b z h=>by
   show(if b=w.heap.size then some .mark else g.M b)=_
   rw[if_neg (fun e=>by rw[e,hM0]at h;cases h)];exact h⟩
  have i2:Dt (w.alloc (.deferred (some []))) g1 (LL s0 LF):=⟨i1.sat,fun b z h=>by
   change (if b=w.heap.size then some .mark else g.M b)=some z at h
   split at h
   ·rename_i e;subst e;cases h;exact hD
   ·exact i1.satM b z h,fun r hr=>Res.holds_kept hle (i1.res r hr) fun b hb=>⟨rfl,fun _=>rfl,by
     show(if b=w.heap.size then some .mark else g.M b)=_
     rw[if_neg]
     intro e
     have:=hs.inv.lt (Bw.2 ⟨r,hr,hb⟩)
     omega⟩,i1.nodup,i1.glob.mono hle⟩
  have s2:Ec (Al (LL s0 LF)) w g (w.alloc (.deferred (some []))) g1:=⟨s1.os,s1.tape,s1.output,s1.size,s1.keep,hle,fun k hk hn=>⟨fun _=>rfl,by
   show(if k=w.heap.size then some .mark else g.M k)=_
   rw[if_neg (by omega)]⟩⟩
  let o:Obj:= .loop { state:= .ready,pending:=none,fn,tmps:=a.tmps,params:=ps.toArray,assign,body,defers:=w.heap.size }
  obtain⟨i3,s3⟩:=i2.allocO o
  have hsz1:(w.alloc (.deferred (some []))).heap.size=w.heap.size+1:=by simp
  refine⟨w.heap.size+1,[XJ w.heap.size],(w.alloc (.deferred (some []))).alloc o,_,(w.alloc (.deferred (some []))).alloc o,f,#[.func (.yield (w.heap.size+1)) #[] #[]]++vcaps.toArray,(w.alloc (.deferred (some []))).alloc o,run_enterLoop_outer _ _ _ _ _,hres a _ _ rfl,fun _ _=>trivial,?_,hd,?_⟩
  ·simp only[invoke,hf.out]
  ·refine TR (g1:=g1) (mark:= [XJ w.heap.size]) (D:=w.heap.size) (fn:=fn) (enc:=enc) hit henc hps hLL h0 hbody hdone hstop hs.inv (hv2.mono hle) ?_ (by omega) i3 (s2.comp s3 (fun b hb _=>hb)) ?_ ?_
   ·have:((w.alloc (.deferred (some []))).alloc o).heap[(w.alloc (.deferred (some []))).heap.size]? =some o:=World.alloc_heap_new _ o
    rw[hsz1]at this;exact this
   ·exact i2.fresh (by rw[hsz1];exact Ah _)
   ·refine⟨hs.agr.size,⟨?_⟩,fun i=>(hs.agr.slot i).mono hle⟩
    obtain⟨Ds,e1,e2,e3⟩:=hs.agr.defers.out
    refine⟨w.heap.size::Ds,by simp[e1],Bf.2 ⟨fun hm=>?_,e2⟩,fun D hD=>?_⟩
    ·have:=(e3 _ hm).2;rw[hM0]at this;cases this
    ·rcases AI.1 hD with rfl|hD
     ·exact⟨hs.low,by show(if w.heap.size=w.heap.size then some .mark else g.M w.heap.size)=_;simp⟩
     ·exact⟨(e3 D hD).1,hle.M _ _ (e3 D hD).2⟩
 |some l₀=>
  obtain⟨hn,r₀,hr₀⟩:=hs.ro l₀ rfl
  let o:Obj:= .loop { state:= .ready,pending:=none,fn,tmps:=a.tmps,params:=ps.toArray,assign,body,defers:=r₀.defers }
  obtain⟨i3,s3⟩:=hs.inv.allocO o
  refine⟨w.heap.size,[],w.alloc o,_,w.alloc o,f,#[.func (.yield w.heap.size) #[] #[]]++vcaps.toArray,w.alloc o,run_enterLoop_inner hr₀ _ _ _ _ _,hres a _ _ rfl,fun _ _=>trivial,?_,hd,?_⟩
  ·simp only[invoke,hf.out]
  ·refine TR (g1:=g) (mark:= []) (D:=r₀.defers) (fn:=fn) (enc:=enc) hit henc hps hLL h0 hbody hdone hstop hs.inv hv2 ?_ (Ah _) i3 s3 ?_ ?_
   ·show(w.heap.push o)[_]? =_;simp[o]
   ·exact hs.inv.fresh (Ah _)
   ·exact⟨hs.agr.size,hs.agr.defers,hs.agr.slot⟩
end
def Gy {κ:Type} [DecidableEq κ] (k:κ):List κ→Option Nat
 | []=>none
 |a::l=>if k=a then some 0 else(Gy k l).map (·+1)
def C4 {κ α:Type} [DecidableEq κ] (k:κ):List (κ × α)→Option α
 | []=>none
 |(a,x)::l=>if k=a then some x else C4 k l
def Cn {κ α:Type} [DecidableEq κ] (k:κ) (x:α):List (κ × α)→List (κ × α)
 | []=> [(k,x)]
 |(a,y)::l=>if k=a then(k,x)::l else(a,y)::Cn k x l
theorem Ei {κ α:Type} [DecidableEq κ] (k k':κ) (x:α): ∀ l:List (κ × α),C4 k' (Cn k x l)=if k'=k then some x else C4 k' l
 | []=>by simp[Cn,C4]
 |(a,y)::l=>by
  unfold Cn
  by_cases h:k=a
  ·subst h
   rw[if_pos rfl]
   simp only[C4]
   by_cases h2:k'=k<;>simp[h2]
  ·rw[if_neg h]
   simp only[C4,Ei k k' x l]
   by_cases h2:k'=a
   ·subst h2;simp[Ne.symm h]
   ·simp[h2]
theorem Gq {κ α:Type} [DecidableEq κ] (k:κ) (x:α): ∀ {l:List (κ × α)},Gy k (l.map (·.1))=none→Cn k x l=l++ [(k,x)]
 | [],_=>rfl
 |(a,y)::l,h=>by
  simp only[Ar,Gy]at h
  by_cases e:k=a
  ·simp[e]at h
  ·simp only[e,if_false,Ue]at h
   simp[Cn,e,Gq k x h]
theorem Hz {κ α:Type} [DecidableEq κ] (k:κ) (x:α): ∀ {l:List (κ × α)} {i:Nat},Gy k (l.map (·.1))=some i→ ∃ y,l[i]? =some (k,y)∧Cn k x l=l.set i (k,x)∧C4 k l=some y
 | [],_,h=>by simp[Gy]at h
 |(a,y)::l,i,h=>by
  simp only[Ar,Gy]at h
  by_cases e:k=a
  ·subst e
   simp at h;subst h
   exact⟨y,rfl,by simp[Cn],by simp[C4]⟩
  ·simp only[e,if_false,Bn]at h
   obtain⟨j,hj,rfl⟩:=h
   obtain⟨z,h1,h2,h3⟩:=Hz k x hj
   exact⟨z,by simpa using h1,by simp[Cn,e,h2],by simp[C4,e,h3]⟩
theorem JN {κ α:Type} [DecidableEq κ] (k:κ): ∀ {l:List (κ × α)},Gy k (l.map (·.1))=none→C4 k l=none
 | [],_=>rfl
 |(a,y)::l,h=>by
  simp only[Ar,Gy]at h
  by_cases e:k=a
  ·simp[e]at h
  ·simp only[e,if_false,Ue]at h
   simp[C4,e,JN k h]
def BQ {κ α:Type} (ek:κ→PV) (ev:α→PV) (l:List (κ × α)):List (PV × PV):=l.map fun p=>(ek p.1,ev p.2)
class NG (P:Program) (T:Nat) (K E:outParam Nat):Prop where
 out:P.underlying T=some (.map K E)
class ZV (P:Program) (E:Nat) {α:Type} (ev:α→PV) (a0:outParam α):Prop where
 out: ∃ i v,P.info? E=some i∧i.zero=some v∧ ∀ g,VR g v (ev a0)
structure aO (P:Program) (K:Nat) {κ:Type} [DecidableEq κ] (ek:κ→PV):Prop where
 check: ∀ (b:Bool) (g:Gh) (v:Value) (k:κ) (w:World),VR g v (ek k)→(Instr.checkKey b 10000 K v).run P w= .ok () w
 find: ∀ (g:Gh) (v:Value) (k:κ) (es:List MapEntry) (l:List κ) (w:World),VR g v (ek k)→es.length=l.length→(∀ i (h:i < es.length) (h':i < l.length),VR g es[i].key (ek l[i]))→
  (Instr.findKey K v es).run P w= .ok ((Gy k l).bind fun i=>(es[i]?).map fun e=>(i,e.val)) w
 same: ∀ (g:Gh) (u v:Value) (k:κ),VR g u (ek k)→VR g v (ek k)→Instr.sameBits 10000 u v=true
class SB (P:Program) (K:Nat) {κ:Type} [DecidableEq κ] (ek:κ→PV):Prop where
 out:aO P K ek
def kDig (d:Dig):PV:= .agg (eDig d)
def kInt (n:Int):PV:= .raw (.int .i64 n)
def vBool (b:Bool):PV:= .raw (.bool b)
def Jr {α:Type} (f:α→List PV) (l:List α):PV:= .slice (l.map f) .ro
def zT {κ α:Type} (ek:κ→PV) (ev:α→PV) (l:List (κ × α)):PV:= .fmap (BQ ek ev l)
def vInt (n:Int):PV:= .raw (.int .i64 n)
def vId (x:PV):PV:=x
theorem Ps {α β:Type} {r:Option Nat} {e:α} {es:List α} {f:Nat→α→β}:((r.map (·+1)).bind fun i=>((e::es)[i]?).map (f i))=(r.bind fun i=>(es[i]?).map (f (i+1))):=by
 cases r<;>simp
theorem Zr {P:Program} {K:Nat} (hT: ∃ E i,P.underlying K=some (.array 32 E)∧P.underlying E=some (.int .u8)∧P.info? E=some i∧i.size=1) (k:Dig) (w:World): ∀ (es:List MapEntry) (l:List Dig) (n:Nat),es.length=l.length→
  (∀ i (h:i < es.length) (h':i < l.length),es[i].key= .agg (l[i].bs.map u8).toArray)→
  (Instr.findAsking K (.agg (k.bs.map u8).toArray) es n).run P w= .ok ((Gy k l).bind fun i=>(es[i]?).map fun e=>(n+i,e.val)) w
 | [],[],n,_,_=>by simp[Instr.findAsking,Gy]
 | [],_::_,_,h,_=>by simp at h
 |_::_,[],_,h,_=>by simp at h
 |e::es,a::l,n,h,hk=>by
  have h0:=hk 0 (by simp) (by simp)
  simp only[BJ]at h0
  unfold Instr.findAsking
  simp only[Sem.run_bind,Op.equal,h0,Op.maxDepth,JR 9998 hT,Result.andThen_ok]
  by_cases e1:k=a
  ·subst e1
   simp[Gy]
  ·have d1:decide (k=a)=false:=by simp[e1]
   simp only[d1,BT,if_false]
   rw[Zr hT k w es l (n+1) (by simpa using h) (fun i h1 h2=>by have:=hk (i+1) (by simpa using h1) (by simpa using h2);simpa using this)]
   simp only[Gy,e1,if_false]
   rw[Ps]
   congr 1
   cases Gy k l with
   |none=>rfl
   |some j=>simp only[GW];congr 1;funext e;rw[E7,Jn 1]
theorem Mg: ∀ (l:List UInt8),(((l.map u8).zip (l.map u8)).all fun(p:Value × Value)=>Instr.sameBits 9999 p.1 p.2)=true
 | []=>rfl
 |a::l=>by
  simp only[Ar,List.zip_cons_cons,yQ,BW]
  exact⟨by simp[u8,Instr.sameBits],Mg l⟩
theorem gD {P:Program} {K:Nat} [hT:V7 P K]:aO P K kDig where
 check:=fun b g v k w hv=>by
  obtain⟨E,i,h1,h2,h3,h4⟩:=hT.arr
  have hv:=J0 hv
  subst hv
  rw[show(10000:Nat)=9999+1 from rfl,Instr.checkKey]
  simp only[Sem.run_bind,run_underlying h1,Result.andThen_ok]
  simp only[Std.Legacy.Range.forIn_eq_forIn_range',Std.Legacy.Range.size,iK,Nat.add_one_sub_one,Nat.div_one]
  have each: ∀ j∈List.range' 0 32,j < 32:=fun j hj=>by simpa using hj
  generalize List.range' 0 32=is at each
  induction is with
  |nil=>simp
  |cons j is ih=>
   have hj:=each j (by simp)
   have hlt:j < k.bs.length:=by rw[k.len];exact hj
   have p0:(sizeOf E).run P w= .ok 1 w:=by unfold sizeOf typeInfo;simp[h3,h4]
   have p1:(part E (k.bs.map u8).toArray (j*1)).run P w= .ok (u8 k.bs[j]) w:=Gl (Lk h2) (by simp[hlt]) w
   have p2:(Instr.checkKey b 9999 E (u8 k.bs[j])).run P w= .ok () w:=by rw[show(9999:Nat)=9998+1 from rfl,Instr.checkKey];simp[run_underlying h2,u8]
   simp only[List.forIn_cons,Sem.run_bind,p0,Result.andThen_ok,p1,p2,Sem.run_pure]
   exact ih (fun y hy=>each y (by simp[hy]))
 find:=fun g v k es l w hv hl hk=>by
  obtain⟨E,i,h1,_⟩:=hT.arr
  have hv:=J0 hv
  subst hv
  rw[run_findKey_eq w (by rw[h1]),Zr hT.arr k w es l 0 hl (fun i h h'=>J0 (hk i h h'))]
  simp
 same:=fun g u v k hu hv=>by
  rw[J0 hu,J0 hv,show(10000:Nat)=9999+1 from rfl,Instr.sameBits]
  simpa using Mg k.bs
instance {P:Program} {K:Nat} [V7 P K]:SB P K kDig:=⟨gD⟩
theorem Zq {k:Int} {q:IntKind}: ∀ (es:List MapEntry) (l:List Int) (n:Nat),es.length=l.length→(∀ i (h:i < es.length) (h':i < l.length),es[i].key= .int .i64 l[i])→
  Instr.findNow (.int q) (.int .i64 k) es n=some ((Gy k l).bind fun i=>(es[i]?).map fun e=>(n+i,e.val))
 | [],[],n,_,_=>by simp[Instr.findNow,Gy]
 | [],_::_,_,h,_=>by simp at h
 |_::_,[],_,h,_=>by simp at h
 |e::es,a::l,n,h,hk=>by
  have h0:=hk 0 (by simp) (by simp)
  simp only[BJ]at h0
  unfold Instr.findNow
  by_cases e1:k=a
  ·subst e1
   simp[h0,Instr.sameNow,Gy]
  ·have d1:(k==a)=false:=by simp[e1]
   simp only[h0,Instr.sameNow,if_true,d1]
   rw[Zq es l (n+1) (by simpa using h) (fun i h1 h2=>by have:=hk (i+1) (by simpa using h1) (by simpa using h2);simpa using this)]
   simp only[Gy,e1,if_false]
   rw[Ps]
   congr 1
   cases Gy k l with
   |none=>rfl
   |some j=>simp only[GW];congr 1;funext e;rw[E7,Jn 1]
theorem gB {P:Program} {K:Nat} {q:IntKind} [hT:NH P K q]:aO P K kInt where
 check:=fun b g v k w hv=>by
  rw[hv.raw_inv,show(10000:Nat)=9999+1 from rfl,Instr.checkKey]
  simp[run_underlying hT.out]
 find:=fun g v k es l w hv hl hk=>by
  rw[hv.raw_inv,MapKept.run_findKey hT.out (Zq es l 0 hl (fun i h h'=>(hk i h h').raw_inv))]
  simp
 same:=fun g u v k hu hv=>by
  rw[hu.raw_inv,hv.raw_inv];simp[Instr.sameBits]
instance {P:Program} {K:Nat} {q:IntKind} [NH P K q]:SB P K kInt:=⟨gB⟩
section
variable {P:Program} {κ α:Type} [DecidableEq κ] {ek:κ→PV} {ev:α→PV} {T K E:Nat}
theorem N2 (hT:P.underlying T=some (.map K E)) (hk:aO P K ek) {a0:α} (hz: ∃ i v,P.info? E=some i∧i.zero=some v∧ ∀ g,VR g v (ev a0)) {w:World} {g:Gh} {es:Array MapEntry} {l:List (κ × α)}
  (hE:Entries g es (BQ ek ev l)) {x v:Value} {k:κ} (hx:(∃ m c,x= .map (some m)∧w.heap[m]? =some (.map es c))∨(x= .map none∧es= #[])) (hv:VR g v (ek k)) (ok:Bool):
  ∃ u,(Instr.lookup T x v ok).run P w= .ok (if ok then .tuple #[u,.bool (C4 k l).isSome]else u) w∧VR g u (ev ((C4 k l).getD a0)):=by
 have hlen:es.toList.length=(l.map (·.1)).length:=by have:=hE.len;simpa [BQ]using this
 have hf:=hk.find g v k es.toList (l.map (·.1)) w hv hlen (fun i h h'=>by
  have:=hE.key i (by simpa using h) (by simpa [BQ]using h')
  simpa [BQ]using this)
 cases hi:Gy k (l.map (·.1))with
 |none=>
  rw[hi]at hf
  obtain⟨i,z,z1,z2,z3⟩:=hz
  refine⟨z,?_,by rw[JN k hi];exact z3 g⟩
  unfold Instr.lookup
  rcases hx with ⟨m,c,rfl,hb⟩|⟨rfl,rfl⟩
  ·simp only[Sem.run_bind,run_underlying hT,Result.andThen_ok,MapKept.run_getObj_map hb,Sem.run_pure,hk.check _ g v k w hv,hf,Sh,zeroValue,typeInfo,run_program,z1,z2,JN k hi]
   cases ok<;>simp
  ·simp only[Sem.run_bind,run_underlying hT,Result.andThen_ok,Sem.run_pure,hk.check _ g v k w hv,hf,Sh,zeroValue,typeInfo,run_program,z1,z2,JN k hi]
   cases ok<;>simp
 |some i=>
  rw[hi]at hf
  obtain⟨y,h1,_,h3⟩:=Hz (α:=α) k a0 hi
  have hlt:i < l.length:=(Bb.1 h1).1
  have hlt':i < es.size:=by have:=hE.len;simp[BQ]at this;omega
  have hval:=hE.val i hlt' (by simpa [BQ]using hlt)
  have hy:l[i]=(k,y):=(Bb.1 h1).2
  simp only[BQ,BN,hy]at hval
  refine⟨es[i].val,?_,by rw[h3];exact hval⟩
  unfold Instr.lookup
  have e1:es.toList[i]? =some es[i]:=by simp[hlt']
  rcases hx with ⟨m,c,rfl,hb⟩|⟨rfl,rfl⟩
  ·simp only[Sem.run_bind,run_underlying hT,Result.andThen_ok,MapKept.run_getObj_map hb,Sem.run_pure,hk.check _ g v k w hv,hf,GW,e1,Ed,h3]
   cases ok<;>simp
  ·simp at hlt'
end
section
variable {P:Program} {N:Nat} {all:Array Oper} {K:Env→List Res→Prop} {fl:List Bool} {os:List Oper} {ρ:Env} {L:List Res} {Q:PPost} {c:Code} {d:Nat} {ty:TypeId} {pos:String} {af:Array Edge}
variable {κ α:Type} [DecidableEq κ] {ek:κ→PV} {ev:α→PV} {T KT ET:Nat}
class NJ (x:PV) (ek:κ→PV) (k:outParam κ):Prop where
 out:Le x (ek k)
instance (d:Dig):NJ (.agg (eDig d)) kDig d:=⟨.refl _⟩
instance (n:Int):NJ (.raw (.int .i64 n)) kInt n:=⟨.refl _⟩
theorem Wx {x y:Operand} {l:List (κ × α)} {ay:PV} {k0:κ} (hx:ρ.ev x= .fmap (BQ ek ev l)) (hy:ρ.ev y=ay) [hT:NG P T KT ET] [hK:SB P KT ek] {a0:α} [hz:ZV P ET ev a0] [hk:NJ ay ek k0]
  (k:AV P N all K fl.tail os (CV ρ d (ev ((C4 k0 l).getD a0))) L) (hd:Nat.blt d N=true:=by rfl):AV P N all K fl (⟨some d,.lookup T x y false,ty,pos,af,none⟩::os) ρ L:=
 Bh hd (B7 fun a w g ha hi=>by
  have h1:=ha x (by simp[Op.operands]);rw[hx]at h1
  have h2:=hk.out g _ (hy ▸ ha y (by simp[Op.operands]))
  have key: ∃ es,((∃ m c,a.eval x= .map (some m)∧w.heap[m]? =some (.map es c))∨(a.eval x= .map none∧es= #[]))∧Entries g es (BQ ek ev l):=by
   generalize a.eval x=v at h1
   generalize BQ ek ev l=kvs at h1 ⊢
   cases h1 with
   |fmap hM hl hk' hv'=>obtain⟨hc,_⟩:=hi.satM _ _ hM;exact⟨_,.inl ⟨_,_,rfl,hc⟩,⟨hl,hk',hv'⟩⟩
   |nilM=>exact⟨#[],.inr ⟨rfl,rfl⟩,⟨rfl,by simp,by simp⟩⟩
  obtain⟨es,he,hE⟩:=key
  obtain⟨u,hr,hu⟩:=N2 hT.out hK.out hz.out hE he h2 false
  refine⟨u,?_,hu⟩
  simp only[execOp,hr,Sem.run_bind,Result.andThen_ok,Sem.run_pure];rfl) k
theorem VT {x y:Operand} {l:List (κ × α)} {ay:PV} {k0:κ} (hx:ρ.ev x= .fmap (BQ ek ev l)) (hy:ρ.ev y=ay) [hT:NG P T KT ET] [hK:SB P KT ek] {a0:α} [hz:ZV P ET ev a0] [hk:NJ ay ek k0]
  (k:AV P N all K fl.tail os (CV ρ d (.tuple [ev ((C4 k0 l).getD a0),.raw (.bool (C4 k0 l).isSome)])) L) (hd:Nat.blt d N=true:=by rfl):AV P N all K fl (⟨some d,.lookup T x y true,ty,pos,af,none⟩::os) ρ L:=
 Bh hd (B7 fun a w g ha hi=>by
  have h1:=ha x (by simp[Op.operands]);rw[hx]at h1
  have h2:=hk.out g _ (hy ▸ ha y (by simp[Op.operands]))
  have key: ∃ es,((∃ m c,a.eval x= .map (some m)∧w.heap[m]? =some (.map es c))∨(a.eval x= .map none∧es= #[]))∧Entries g es (BQ ek ev l):=by
   generalize a.eval x=v at h1
   generalize BQ ek ev l=kvs at h1 ⊢
   cases h1 with
   |fmap hM hl hk' hv'=>obtain⟨hc,_⟩:=hi.satM _ _ hM;exact⟨_,.inl ⟨_,_,rfl,hc⟩,⟨hl,hk',hv'⟩⟩
   |nilM=>exact⟨#[],.inr ⟨rfl,rfl⟩,⟨rfl,by simp,by simp⟩⟩
  obtain⟨es,he,hE⟩:=key
  obtain⟨u,hr,hu⟩:=N2 hT.out hK.out hz.out hE he h2 true
  refine⟨_,?_,EB.tuple (.cons hu (.cons (.raw (.bool (C4 k0 l).isSome)) (.nil g)))⟩
  simp only[execOp,hr,Sem.run_bind,Result.andThen_ok,Sem.run_pure];rfl) k
theorem Wv {x y:Operand} {b:Nat} {l:List (κ × α)} {ay:PV} {k0:κ} (hx:ρ.ev x= .raw (.map (some b))) (hm:Res.map b (BQ ek ev l)∈L) (hy:ρ.ev y=ay) [hT:NG P T KT ET] [hK:SB P KT ek] {a0:α} [hz:ZV P ET ev a0] [hk:NJ ay ek k0]
  (k:AV P N all K fl.tail os (CV ρ d (ev ((C4 k0 l).getD a0))) L) (hd:Nat.blt d N=true:=by rfl):AV P N all K fl (⟨some d,.lookup T x y false,ty,pos,af,none⟩::os) ρ L:=
 Bh hd (B7 fun a w g ha hi=>by
  have h1:=Cd ha (x:=x) (by simp[Op.operands]) hx
  have h2:=hk.out g _ (hy ▸ ha y (by simp[Op.operands]))
  obtain⟨es,c,hb,hE,_⟩:=hi.res _ hm
  obtain⟨u,hr,hu⟩:=N2 hT.out hK.out hz.out hE (.inl ⟨b,c,h1,hb⟩) h2 false
  refine⟨u,?_,hu⟩
  simp only[execOp,hr,Sem.run_bind,Result.andThen_ok,Sem.run_pure];rfl) k
theorem VS {x y:Operand} {b:Nat} {l:List (κ × α)} {ay:PV} {k0:κ} (hx:ρ.ev x= .raw (.map (some b))) (hm:Res.map b (BQ ek ev l)∈L) (hy:ρ.ev y=ay) [hT:NG P T KT ET] [hK:SB P KT ek] {a0:α} [hz:ZV P ET ev a0] [hk:NJ ay ek k0]
  (k:AV P N all K fl.tail os (CV ρ d (.tuple [ev ((C4 k0 l).getD a0),.raw (.bool (C4 k0 l).isSome)])) L) (hd:Nat.blt d N=true:=by rfl):AV P N all K fl (⟨some d,.lookup T x y true,ty,pos,af,none⟩::os) ρ L:=
 Bh hd (B7 fun a w g ha hi=>by
  have h1:=Cd ha (x:=x) (by simp[Op.operands]) hx
  have h2:=hk.out g _ (hy ▸ ha y (by simp[Op.operands]))
  obtain⟨es,c,hb,hE,_⟩:=hi.res _ hm
  obtain⟨u,hr,hu⟩:=N2 hT.out hK.out hz.out hE (.inl ⟨b,c,h1,hb⟩) h2 true
  refine⟨_,?_,EB.tuple (.cons hu (.cons (.raw (.bool (C4 k0 l).isSome)) (.nil g)))⟩
  simp only[execOp,hr,Sem.run_bind,Result.andThen_ok,Sem.run_pure];rfl) k
theorem KK (k: ∀ b,AV P N all K fl.tail os (CV ρ d (.raw (.map (some b)))) (.map b []::L)) (hd:Nat.blt d N=true:=by rfl) (hf:fl.headD true=true:=by rfl):
  AV P N all K fl (⟨some d,.makeMap T none,ty,pos,af,none⟩::os) ρ L:=
 Da rfl (PO hd) hf (fun a w g ha hi=>by
  obtain⟨i1,s1⟩:=hi.allocO (.map #[] 0)
  have hr:(execOp a.eval ⟨some d,.makeMap T none,ty,pos,af,none⟩).run P w= .ok (.value (.map (some w.heap.size))) (w.alloc (.map #[] 0)):=by
   simp only[execOp,Instr.makeMap,Option.map_none,Sem.run_bind,run_newObj_alloc,Result.andThen_ok,Sem.run_pure]
  refine Oper.wq_of_run hr ?_
  obtain⟨f1,f2⟩:=hi.fresh (b:=w.heap.size) (Ah _)
  refine⟨_,_,g,_,rfl,.raw _,⟨i1.sat,i1.satM,fun r hr=>?_,?_,i1.glob⟩,s1,?_,k _⟩
  ·rcases AI.1 hr with rfl|hr
   ·exact⟨#[],0,by show(w.heap.push _)[w.heap.size]? =_;simp,⟨rfl,by simp,by simp⟩,f1,f2,⟨by simp,by simp⟩⟩
   ·exact i1.res r hr
  ·simp only[Al,Ax,Res.block]
   exact Bf.2 ⟨fun h=>by have:=hi.lt h;omega,hi.nodup⟩
  ·intro b' hb' hlt
   simp only[Al,Ax,Res.block]at hb'
   rcases AI.1 hb' with rfl|hb'
   ·omega
   ·exact hb')
theorem H0.push {es:Array MapEntry} {cl:Nat} {e:MapEntry} (h:H0 es cl) (he:e.born=cl):H0 (es.push e) (cl+1):=by
 refine⟨fun x hx=>?_,?_⟩
 ·rw[Array.toList_push,Aj,An]at hx
  rcases hx with hx|rfl
  ·have:=h.lt x hx;omega
  ·omega
 ·rw[Array.toList_push,Ak]
  refine EH.2 ⟨h.nd,by simp,fun a ha b hb e2=>?_⟩
  obtain⟨x,hx,rfl⟩:=AQ.1 ha
  have:=h.lt x hx
  simp only[Ar,CU,An]at hb
  omega
theorem H0.modify {es:Array MapEntry} {cl i:Nat} {f:MapEntry→MapEntry} (h:H0 es cl) (hf: ∀ e,(f e).born=e.born):H0 (es.modify i f) cl:=by
 have e:(es.modify i f).toList.map (·.born)=es.toList.map (·.born):=by
  refine EA (by simp) fun k h1 h2=>?_
  simp only[BN,Y5,Ey]
  split
  ·exact hf _
  ·rfl
 refine⟨fun x hx=>?_,by rw[e];exact h.nd⟩
 have hm:x.born∈(es.modify i f).toList.map (·.born):=AQ.2 ⟨x,hx,rfl⟩
 rw[e]at hm
 obtain⟨y,hy,e2⟩:=AQ.1 hm
 have:=h.lt y hy
 omega
theorem Tm {dst:Option Nat} {gd:Option (Nat × Bool)} [hT:NG P T KT ET] [hK:SB P KT ek] {x y z:Operand} {b:Nat} {l:List (κ × α)} {k0:κ} {x0:α} {L':List Res} {op:Op} (hop:op= .mapUpdate T x y z∨op= .insert T x y z) (hx:ρ.ev x= .raw (.map (some b))) (hp:L.Perm (.map b (BQ ek ev l)::L'))
  (hk:Le (ρ.ev y) (ek k0)) (hz:Le (ρ.ev z) (ev x0)) {Ψ:PV→List Res→Prop} (k:Ψ (.raw undef) (.map b (BQ ek ev (Cn k0 x0 l))::L')):Fc P ⟨dst,op,ty,pos,af,gd⟩ ρ L Ψ:=by
 refine Fc.perm hp fun a w g ha hi=>?_
 have hopx:x∈op.operands:=by rcases hop with rfl|rfl<;>simp[Op.operands]
 have hopy:y∈op.operands:=by rcases hop with rfl|rfl<;>simp[Op.operands]
 have hopz:z∈op.operands:=by rcases hop with rfl|rfl<;>simp[Op.operands]
 have h1:=Cd ha (x:=x) hopx hx
 have h2:=hk g _ (ha y hopy)
 have h3:=hz g _ (ha z hopz)
 obtain⟨es,cl,hb,hE,hH,hM,hS⟩:=hi.res _ (AG)
 have hlen:es.toList.length=(l.map (·.1)).length:=by have:=hE.len;simpa [BQ]using this
 have hf:=hK.out.find g (a.eval y) k0 es.toList (l.map (·.1)) w h2 hlen (fun i h h'=>by
  have:=hE.key i (by simpa using h) (by simpa [BQ]using h')
  simpa [BQ]using this)
 have hlt:b < w.heap.size:=(BF.1 hb).1
 have hnd:=hi.nodup
 simp only[Al,Ax,Res.block]at hnd
 have hrest:Dt w g L':=hi.sub (EP _ _)
 have fin: ∀ (es':Array MapEntry) (cl':Nat),Entries g es' (BQ ek ev (Cn k0 x0 l))→H0 es' cl'→(Instr.mapUpdate T (a.eval x) (a.eval y) (a.eval z)).run P w= .ok () (w.putObj b (.map es' cl'))→
   Oper.wq P ⟨dst,op,ty,pos,af,gd⟩ a w (fun a' w'=> ∃ v x g' L'',a'=a.put dst v∧VR g' v x∧Dt w' g' L''∧Ec (Al (.map b (BQ ek ev l)::L')) w g w' g'∧Db w (.map b (BQ ek ev l)::L') L''∧Ψ x L''):=fun es' cl' hE' hS' hr=>by
  have hr':(execOp a.eval ⟨dst,op,ty,pos,af,gd⟩).run P w= .ok .skip (w.putObj b (.map es' cl')):=by
   rcases hop with rfl|rfl<;>simp only[execOp,hr,Sem.run_bind,Result.andThen_ok,Sem.run_pure]
  refine Oper.wq_of_run hr' ?_
  have i2:=hrest.put (.map es' cl') hH hM (Bf.1 hnd).1
  refine⟨undef,.raw undef,g,.map b (BQ ek ev (Cn k0 x0 l))::L',rfl,.raw _,⟨i2.sat,i2.satM,fun r hr=>?_,hi.nodup,hi.glob⟩,.put _ (by simp[Al,Res.block]),fun b' hb' _=>hb',k⟩
  rcases AI.1 hr with rfl|hr
  ·exact⟨es',cl',World.putObj_heap_same hlt,hE',hH,hM,hS'⟩
  ·exact i2.res r hr
 cases hi':Gy k0 (l.map (·.1))with
 |none=>
  rw[hi']at hf
  refine fin (es.push { key:=a.eval y,val:=a.eval z,born:=cl }) (cl+1) ?_ (hS.push rfl) ?_
  ·rw[Gq k0 x0 hi',BQ,Ak]
   have hl:es.size=l.length:=by simpa [BQ]using hE.len
   refine⟨by simp[hl],fun i j1 j2=>?_,fun i j1 j2=>?_⟩
   ·by_cases hi2:i < es.size
    ·rw[MW hi2,BC (by simp;omega)]
     exact hE.key i hi2 (by simp[BQ];omega)
    ·have e:i=es.size:=by simp at j1;omega
     subst e
     rw[Bk (by simp[hl])]
     rw[MX];simpa [hl]using h2
   ·by_cases hi2:i < es.size
    ·rw[MW hi2,BC (by simp;omega)]
     exact hE.val i hi2 (by simp[BQ];omega)
    ·have e:i=es.size:=by simp at j1;omega
     subst e
     rw[Bk (by simp[hl])]
     rw[MX];simpa [hl]using h3
  ·unfold Instr.mapUpdate
   simp only[Sem.run_bind,run_underlying hT.out,Result.andThen_ok,h1,MapKept.run_getObj_map hb,hK.out.check false g _ k0 w h2,hf,Sh,MapKept.run_setObj_map _ hb]
   rfl
 |some i=>
  rw[hi']at hf
  obtain⟨y0,e1,e2,_⟩:=Hz k0 x0 hi'
  have hl:es.size=l.length:=by simpa [BQ]using hE.len
  have hli:i < l.length:=(Bb.1 e1).1
  have hli':i < es.size:=by omega
  have hy0:l[i]=(k0,y0):=(Bb.1 e1).2
  have hkey:VR g es[i].key (ek k0):=by
   have:=hE.key i hli' (by simp[BQ];exact hli)
   simpa [BQ,hy0]using this
  have hsame:=hK.out.same g _ _ k0 hkey h2
  refine fin (es.modify i fun e=>{ e with key:=a.eval y,val:=a.eval z }) cl ?_ (hS.modify fun _=>rfl) ?_
  ·rw[e2]
   refine⟨by simp[BQ,hl],fun j j1 j2=>?_,fun j j1 j2=>?_⟩
   ·simp only[H6]at j1
    have j3:j < l.length:=by omega
    rw[Ey (by simpa using j1)]
    by_cases hj:i=j
    ·subst hj
     simp[BQ];exact h2
    ·simp only[hj,if_false]
     have:=hE.key j j1 (by simp[BQ];exact j3)
     simpa [BQ,P1 hj]using this
   ·simp only[H6]at j1
    have j3:j < l.length:=by omega
    rw[Ey (by simpa using j1)]
    by_cases hj:i=j
    ·subst hj
     simp[BQ];exact h3
    ·simp only[hj,if_false]
     have:=hE.val j j1 (by simp[BQ];exact j3)
     simpa [BQ,P1 hj]using this
  ·have hf2:(Instr.findKey KT (a.eval y) es.toList).run P w= .ok (some (i,es[i].val)) w:=by rw[hf];simp[hli']
   have hst:(Instr.keyThatStays es[i].key (a.eval y)).run P w= .ok (a.eval y) w:=by unfold Instr.keyThatStays;rw[if_pos hsame];rfl
   unfold Instr.mapUpdate
   simp only[Sem.run_bind,run_underlying hT.out,Result.andThen_ok,h1,MapKept.run_getObj_map hb,hK.out.check false g _ k0 w h2,hf2,CR hli',Ed,BU,hst,MapKept.run_setObj_map _ hb]
   rfl
theorem QG [hT:NG P T KT ET] [hK:SB P KT ek] {x y z:Operand} {b:Nat} {l:List (κ × α)} {k0:κ} {x0:α} {L':List Res} (hx:ρ.ev x= .raw (.map (some b))) (hp:L.Perm (.map b (BQ ek ev l)::L')) (hk:Le (ρ.ev y) (ek k0)) (hz:Le (ρ.ev z) (ev x0))
  (k:AV P N all K fl.tail os ρ (.map b (BQ ek ev (Cn k0 x0 l))::L')) (hfl:fl.headD true=true:=by rfl):AV P N all K fl (⟨none,.mapUpdate T x y z,ty,pos,af,none⟩::os) ρ L:=
 Da rfl (fun _ e=>by cases e) hfl (Tm (.inl rfl) hx hp hk hz k)
theorem jO [hT:NG P T KT ET] [hK:SB P KT ek] {x y z:Operand} {b:Nat} {l:List (κ × α)} {k0:κ} {x0:α} {L':List Res} (hx:ρ.ev x= .raw (.map (some b))) (hp:L.Perm (.map b (BQ ek ev l)::L')) (hk:Le (ρ.ev y) (ek k0)) (hz:Le (ρ.ev z) (ev x0))
  (k:AV P N all K fl.tail os ρ (.map b (BQ ek ev (Cn k0 x0 l))::L')) (hfl:fl.headD true=true:=by rfl):AV P N all K fl (⟨none,.insert T x y z,ty,pos,af,none⟩::os) ρ L:=
 Da rfl (fun _ e=>by cases e) hfl (Tm (.inr rfl) hx hp hk hz k)
theorem Dt.freezeM {w:World} {g:Gh} {L':List Res} {b:Nat} {kvs:List (PV × PV)} (hi:Dt w g L) (hp:L.Perm (.map b kvs::L')):
  ∃ g',Dt w g' L'∧Ec (Al L) w g w g'∧Db w L L'∧VR g' (.map (some b)) (.fmap kvs):=by
 have hi2:=hi.perm hp
 obtain⟨es,cl,h1,h2,h3,h4,h5⟩:=hi2.res _ (AG)
 let g':Gh:={ g with M:=fun k=>if k=b then some (.map es cl)else g.M k }
 have hle:g.le g':=⟨fun _ _ _ h=>h,fun k z h=>by
  show(if k=b then some (ib.map es cl)else g.M k)=_
  rw[if_neg (fun e=>by rw[e,h4]at h;cases h)];exact h⟩
 have hbl:b∈Al L:=(DV hp).symm.subset (by simp[Al,Res.block])
 have hnd:=hi2.nodup
 simp only[Al,Ax,Res.block]at hnd
 have hnb: ∀ r∈L',r.block≠some b:=fun r hr e=>(Bf.1 hnd).1 (Bw.2 ⟨r,hr,e⟩)
 refine⟨g',⟨hi.sat,fun k z hz=>?_,fun r hr=>?_,(Bf.1 hnd).2,hi.glob.mono hle⟩,⟨rfl,rfl,⟨rfl,Ah _⟩,Ah _,fun _ _ _=>rfl,hle,fun k _ hn=>⟨fun _=>rfl,?_⟩⟩,fun b' hb' _=>(DV hp).symm.subset ?_,?_⟩
 ·change (if k=b then some (ib.map es cl)else g.M k)=some z at hz
  split at hz
  ·rename_i e;subst e;cases hz;exact⟨h1,h5⟩
  ·exact hi.satM k z hz
 ·refine Res.holds_kept hle (hi2.res r (AH _ hr)) fun b' hb'=>⟨rfl,fun _=>rfl,?_⟩
  show(if b'=b then some (ib.map es cl)else g.M b')=_
  rw[if_neg (fun e=>by subst e;exact hnb r hr hb')]
 ·show(if k=b then some (ib.map es cl)else g.M k)=_
  rw[if_neg (fun e=>by subst e;exact hn hbl)]
 ·simp only[Al,Ax,Res.block];exact AH _ hb'
 ·exact .fmap (es:=es) (clock:=cl) (by show(if b=b then some (ib.map es cl)else g.M b)=_;simp) h2.len (fun i a c=>(h2.key i a c).mono hle) (fun i a c=>(h2.val i a c).mono hle)
def Fm (b:Nat) (kvs:List (PV × PV)) (x y:PV):Prop:=x=y∨(x= .raw (.map (some b))∧y= .fmap kvs)
theorem L7 {b:Nat} {kvs:List (PV × PV)} {L':List Res} (E:List (Nat × PV)) (hE:cd (Fm b kvs) ρ E) (hp:L.Perm (.map b kvs::L')) (k:ER P N c Q (iY E) L'):ER P N c Q ρ L:=
 KN (fun base a w g ha hi=>by
  obtain⟨g',h1,h2,h3,h4⟩:=hi.freezeM hp
  refine⟨g',⟨ha.size,ha.defers.mono h2.le,fun i=>?_⟩,h1,h2,h3⟩
  rcases eK hE i with (e|⟨e1,e2⟩)|e
  ·rw[←e];exact(ha.slot i).mono h2.le
  ·rw[e2]
   have:=(ha.slot i).mono h2.le
   rw[e1]at this
   rw[this.raw_inv];exact h4
  ·rw[e];exact .junk _) k
end
theorem ir {a b:UInt8} (h:a≠b):a < b∨b < a:=by
 have h2:a.toNat≠b.toNat:=fun e=>h (UInt8.toNat.inj e)
 rw[UInt8.lt_iff_toNat_lt,UInt8.lt_iff_toNat_lt];omega
def OB:List UInt8→List UInt8→Int
 |x::xs,y::ys=>if x < y then -1 else if y < x then 1 else OB xs ys
 | [],[]=>0
 | [],_::_=> -1
 |_::_,[]=>1
def Ep (a b:Dig):Int:=OB a.bs b.bs
theorem NF: ∀ a b:List UInt8,OB a b= -1∧a < b∨OB a b=0∧a=b∨OB a b=1∧b < a
 | [],[]=> .inr (.inl ⟨rfl,rfl⟩)
 | [],y::ys=> .inl ⟨rfl,List.nil_lt_cons y ys⟩
 |x::xs,[]=> .inr (.inr ⟨rfl,List.nil_lt_cons x xs⟩)
 |x::xs,y::ys=>by
  unfold OB
  by_cases h1:x < y
  ·simp[h1,MR]
  ·by_cases h2:y < x
   ·simp[h1,h2,MR]
   ·have e:x=y:=by
     have:=ir (a:=x) (b:=y)
     by_cases he:x=y
     ·exact he
     ·rcases this he with h|h
      ·exact absurd h h1
      ·exact absurd h h2
    subst e
    simp only[h1,if_false]
    rcases NF xs ys with ⟨h3,h4⟩|⟨h3,h4⟩|⟨h3,h4⟩
    ·exact .inl ⟨h3,by simp[MR,h4]⟩
    ·exact .inr (.inl ⟨h3,by rw[h4]⟩)
    ·exact .inr (.inr ⟨h3,by simp[MR,h4]⟩)
theorem Qw {a b:List UInt8}:OB a b=0↔a=b:=by
 rcases NF a b with ⟨h1,h2⟩|⟨h1,h2⟩|⟨h1,h2⟩
 ·exact⟨fun h=>by omega,fun h=>by subst h;exact absurd h2 (Q3 a)⟩
 ·exact⟨fun _=>h2,fun _=>h1⟩
 ·exact⟨fun h=>by omega,fun h=>by subst h;exact absurd h2 (Q3 a)⟩
theorem MJ {a b:List UInt8}:OB a b < 0↔a < b:=by
 rcases NF a b with ⟨h1,h2⟩|⟨h1,h2⟩|⟨h1,h2⟩
 ·exact⟨fun _=>h2,fun _=>by omega⟩
 ·exact⟨fun h=>by omega,fun h=>by subst h2;exact absurd h (Q3 a)⟩
 ·exact⟨fun h=>by omega,fun h=>absurd (List.lt_trans h h2) (Q3 a)⟩
def Dig.lt (a b:Dig):Prop:=Ep a b < 0
instance (a b:Dig):Decidable (Dig.lt a b):=by unfold Dig.lt;infer_instance
theorem Dig.lt_irrefl (a:Dig): ¬Dig.lt a a:=fun h=>Q3 a.bs (MJ.1 h)
theorem Dig.lt_trans {a b c:Dig} (h:Dig.lt a b) (k:Dig.lt b c):Dig.lt a c:=MJ.2 (List.lt_trans (MJ.1 h) (MJ.1 k))
theorem Dig.lt_asymm {a b:Dig} (h:Dig.lt a b): ¬Dig.lt b a:=fun k=>Dig.lt_irrefl a (Dig.lt_trans h k)
theorem Dig.ne_of_lt {a b:Dig} (h:Dig.lt a b):a≠b:=fun e=>by subst e;exact Dig.lt_irrefl _ h
theorem Dig.tri (a b:Dig):Dig.lt a b∨a=b∨Dig.lt b a:=by
 rcases NF a.bs b.bs with ⟨h1,h2⟩|⟨h1,h2⟩|⟨h1,h2⟩
 ·exact .inl (MJ.2 h2)
 ·exact .inr (.inl (Dig.ext h2))
 ·exact .inr (.inr (MJ.2 h2))
theorem ML {a b:Dig}:Ep a b=0↔a=b:=⟨fun h=>Dig.ext (Qw.1 h),fun h=>by subst h;exact Qw.2 rfl⟩
theorem eU: ∀ {a b:List UInt8} {k:Nat},a.length=b.length→k < a.length→(∀ i,i < k→a.getD i 0=b.getD i 0)→a.getD k 0≠b.getD k 0→OB a b=if a.getD k 0 < b.getD k 0 then -1 else 1
 |x::xs,y::ys,0,hl,hk,he,hn=>by
  simp only[List.getD_cons_zero]at hn ⊢
  unfold OB
  by_cases h1:x < y
  ·simp[h1]
  ·have:=ir hn
   have h2:y < x:=this.resolve_left h1
   simp[h1,h2]
 |x::xs,y::ys,k+1,hl,hk,he,hn=>by
  have h0:=he 0 (by omega)
  simp only[List.getD_cons_zero]at h0
  subst h0
  simp only[List.getD_cons_succ]at hn ⊢
  unfold OB
  simp only[UInt8.lt_irrefl,if_false]
  exact eU (by simpa using hl) (by simpa using hk) (fun i hi=>by have:=he (i+1) (by omega);simpa using this) hn
 | [],_,_,_,hk,_,_=>by simp at hk
 |_::_,[],_,hl,_,_,_=>by simp at hl
theorem eY {a b:Dig} {k:Nat} (hk:k < 32) (he: ∀ i,i < k→a.at i=b.at i) (hn:a.at k≠b.at k):Ep a b=if a.at k < b.at k then -1 else 1:=
 eU (by rw[a.len,b.len]) (by rw[a.len];exact hk) he hn
def FT:List Dig→Dig→List Dig
 | [],d=> [d]
 |x::xs,d=>if Dig.lt x d then x::FT xs d else if x=d then x::xs else d::x::xs
theorem Q6: ∀ {l:List Dig} {d:Dig} {k:Nat},k≤l.length→(∀ i (h:i < l.length),i < k→Dig.lt l[i] d)→(∀ h:k < l.length,¬Dig.lt l[k] d)→
  FT l d=if ∃ h:k < l.length,l[k]=d then l else l.take k++d::l.drop k
 | [],d,k,hk,_,_=>by simp[FT]
 |x::xs,d,0,_,_,hk=>by
  have:=hk (by simp)
  simp only[BJ]at this
  simp[FT,this]
 |x::xs,d,k+1,hl,h1,h2=>by
  have h0:=h1 0 (by simp) (by omega)
  simp only[BJ]at h0
  have ih:=Q6 (l:=xs) (d:=d) (k:=k) (by simpa using hl) (fun i h hi=>by have:=h1 (i+1) (by simpa using h) (by omega);simpa using this) (fun h=>by have:=h2 (by simpa using h);simpa using this)
  simp only[FT,h0,if_true,ih]
  simp only[AN,yP,DF,Oz,aX]
  split<;>rfl
end Go.Q
