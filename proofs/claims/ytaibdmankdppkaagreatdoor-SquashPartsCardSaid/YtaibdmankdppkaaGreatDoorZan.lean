/- Contracts of the program: slices.SortFunc on a row of identities of atoms. -/
import Derived.Test.YtaibdmankdppkaaGreatDoorZal
import Derived.Test.YtaibdmankdppkaaGreatDoorZam
import Derived.Test.YtaibdmankdppkaaGreatDoorZaf
import Derived.Test.YtaibdmankdppkaaGreatDoorZag
import Derived.Lib.Overlaps
import Derived.Laws.Externs
set_option linter.unusedSimpArgs false
set_option linter.unusedVariables false
set_option maxHeartbeats 8000000
namespace Go.Proofs
open Go Go.Q Go.Shelf Go.Sort
attribute [local irreducible] ER AU Fk
instance zu:Inhabited Ident:=⟨Ident.zero⟩
def vIdn (x:Ident):List Value:=Nr x.patch.bs++ [.int .i64 x.n]
theorem QT (x:Ident):(vIdn x).length=33:=by
 have:=FY x.patch
 unfold vDig at this
 simp[vIdn,this]
instance yr:PK eIdent vIdn:=⟨fun x=>by
 have:=(inferInstance:PK eDig vDig).out x.patch
 unfold vDig at this
 rw[eIdent,this,vIdn,Aq];rfl,fun x v hv=>by
 rcases Aj.1 hv with h|h
 ·exact(inferInstance:PK eDig vDig).one x.patch v h
 ·rw[Ah.1 h];rfl⟩
instance zf:al Tryz.prog 71 65 33 40:=⟨by
 have h2:(Tryz.prog.info? 65).map (fun i=>(i.size,i.bytes,i.zero.isSome,(i.zero.getD undef).cells.size))=some (33,40,true,33):=by kernel_rfl
 obtain⟨i,hi,e⟩:=Bl.1 h2
 simp only[Prod.mk.injEq]at e
 obtain⟨e1,e2,e3,e4⟩:=e
 obtain⟨z,hz⟩:=Fl.1 e3
 rw[hz]at e4
 exact⟨i,z,by kernel_rfl,hi,e1,e2,hz,e4,by decide,by decide⟩⟩
theorem Jr {a b:Ident}:Hr a b < 0↔Dig.lt a.patch b.patch∨(a.patch=b.patch∧a.n < b.n):=by
 unfold Hr
 by_cases h:Ec a.patch b.patch=0
 ·have e:=MW.1 h
  rw[if_neg (by simp[h])]
  constructor
  ·intro h2
   refine .inr ⟨e,?_⟩
   split at h2
   ·assumption
   ·split at h2<;>omega
  ·rintro(h2|⟨_,h2⟩)
   ·rw[e]at h2;exact absurd h2 (Dig.lt_irrefl _)
   ·rw[if_pos h2];omega
 ·rw[if_pos h]
  constructor
  ·exact fun h2=> .inl h2
  ·rintro(h2|⟨e,_⟩)
   ·exact h2
   ·exact absurd (MW.2 e) h
theorem Ident.lt_irrefl (a:Ident): ¬Hr a a < 0:=fun h=>by
 rcases Jr.1 h with h|⟨_,h⟩
 ·exact Dig.lt_irrefl _ h
 ·omega
theorem Ident.lt_trans {a b c:Ident} (h:Hr a b < 0) (k:Hr b c < 0):Hr a c < 0:=by
 refine Jr.2 ?_
 rcases Jr.1 h with h|⟨e,h⟩<;>rcases Jr.1 k with k|⟨e2,k⟩
 ·exact .inl (Dig.lt_trans h k)
 ·exact .inl (e2 ▸ h)
 ·exact .inl (e ▸ k)
 ·exact .inr ⟨e.trans e2,by omega⟩
theorem Ident.tri (a b:Ident):Hr a b < 0∨a=b∨Hr b a < 0:=by
 rcases Dig.tri a.patch b.patch with h|h|h
 ·exact .inl (Jr.2 (.inl h))
 ·rcases Int.lt_trichotomy a.n b.n with h2|h2|h2
  ·exact .inl (Jr.2 (.inr ⟨h,h2⟩))
  ·refine .inr (.inl ?_)
   cases a;cases b
   simp only at h h2
   rw[h,h2]
  ·exact .inr (.inr (Jr.2 (.inr ⟨h.symm,h2⟩)))
 ·exact .inr (.inr (Jr.2 (.inl h)))
abbrev qh (v:Value) (l:List Ident) (R:List Res):Prop:=K2 vIdn 65 33 v l R
theorem zj:SWO (ltOf Hr) where
 irrefl x:=by
  unfold ltOf
  exact Cp (fun h=>Ident.lt_irrefl x h)
 trans x y z h1 h2:=by
  unfold ltOf at*
  exact BF (Ident.lt_trans (BJ h1) (BJ h2))
 ntrans x y z h1 h2:=by
  unfold ltOf at*
  refine Cp fun h=>?_
  have h1:=Bh h1
  have h2:=Bh h2
  rcases Ident.tri x y with h'|h'|h'
  ·exact h1 h'
  ·subst h';exact h2 h
  ·rcases Ident.tri y z with h3|h3|h3
   ·exact h2 h3
   ·subst h3;exact h1 h
   ·exact Ident.lt_irrefl x (Ident.lt_trans h (Ident.lt_trans h3 h'))
def sortI (l:List Ident):List Ident:=l.mergeSort fun x y=>!(ltOf Hr) y x
theorem iL {w:World} {g:Gh} {r n E:Nat} {cur:Array Value} (hi:Dv w g []) (h1:w.heap[r]? =some (.cells cur E (0,0))) (h2: ∀ o,g.H r o=none) (h3:g.M r=none):CmpLays Tryz.prog 159 #[] vIdn 33 Hr r 0 n w:=by
 intro m os dk hdk x y
 have hI:Dv (sortWorldK vIdn 33 w r 0 m dk os) g []:=hi.laterBut h2 h3 (by simp[An]) (fun k hk hn=>Fy m dk os k hk hn)
 have hv:ED g [.agg (vIdn x).toArray,.agg (vIdn y).toArray] [.agg (eIdent x),.agg (eIdent y)]:=by
  have e: ∀ d:Ident,VR g (.agg (vIdn d).toArray) (.agg (eIdent d)):=fun d=>by
   rw[(inferInstance:PK eIdent vIdn).out]
   have:ED g (vIdn d) ((vIdn d).map PV.raw):=⟨by simp,fun i h1 h2=>by simp;exact .raw _⟩
   exact this.agg
  exact .cons (e x) (.cons (e y) (.nil g))
 have:=(XJ x y).out _ (sortWorldK vIdn 33 w r 0 m dk os) g [] hv hI
 refine Calls.mono this ?_
 rintro e w' ⟨v,x',g',L',rfl,k1,k2,k3,k4,rfl,rfl⟩
 refine⟨by rw[k1.raw_inv],?_⟩
 exact Zl k3.os k3.tape k3.output.1 k3.output.2 k3.size (fun k hk=>k3.keep k hk (by simp[An]))
theorem YP (l:List Ident) (v:Value) (R:List Res) (hv:qh v l R) (hl:l.length≤1000000):BA Tryz.prog 158 [.raw v,.raw (.func (.func 159) #[] #[])] R (fun _ L'=> ∃ v',v'=v∧qh v' (sortI l) L'):=fun vs w g LF hvs hi=>by
 obtain⟨v1,v2,rfl⟩: ∃ a b,vs= [a,b]:=by
  have:=hvs.len
  match vs,this with
  | [a,b],_=>exact⟨a,b,rfl⟩
 rw[hvs.uncons.1.raw_inv,hvs.uncons.2.uncons.1.raw_inv]
 obtain⟨o,c,rfl⟩:=hv.slice
 by_cases hne:l= []
 ·subst hne
  refine(AnyF.slices_SortFunc_none Tryz.sortI o c _ w).mono ?_
  rintro e w' ⟨rfl,rfl⟩
  exact⟨_,.raw (.tuple #[]),g,R,rfl,.raw _,hi,.refl _ _ _,.refl _ _,_,rfl,by simpa [sortI]using hv⟩
 obtain⟨_,r,cur,rest,rfl,rfl,hcur,hsz,hlc⟩:=hv.inv hne
 obtain⟨k1,k2,k3,k4,k5⟩:=hi.rawHead
 have hlt:r < w.heap.size:=(BH.1 k1).1
 have hF:(flatK vIdn 33 l.toArray).toList=l.flatMap vIdn:=R5 (by decide) QT l
 have hH:HoldsK vIdn 33 w r 0 l.toArray:=fun j hj=>by
  have hj2:j < l.length*33:=by simpa using hj
  refine⟨?_,by simp[World.frozen?,k1]⟩
  have hj3:j < cur.size:=by omega
  simp only[World.cell?,k1,CX,BQ,if_false,BC]
  rw[getElem!_pos _ j hj]
  have e1:cur.toList[j]? =(flatK vIdn 33 l.toArray).toList[j]?:=by
   rw[hcur,hF,CF (by rw[OC (f:=eIdent) (sz:=33)];exact hj2)]
  rw[Mh,Mh,CN hj]at e1
  exact e1
 refine(AnyQ.slices_SortFunc_total Tryz.sortI 33 (fun w=>?_) (fun w=>Ea.run (inferInstance:Ea Tryz.prog 65 33 40) w) vIdn QT (fun x v h=>(inferInstance:PK eIdent vIdn).one x v h) Hr zj 159 #[] r 0 c l.toArray w (fun args w=>(inferInstance:B2 Tryz.prog 159).out args w) (iL (hi.sub (List.nil_sublist _)) k1 k2 k3) hH hlt (by simp;omega) ?_).mono ?_
 ·exact(P5 (inferInstance:FA Tryz.prog 65 33).out w).1
 ·intro x y h1 h2
  unfold ltOf at h1 h2
  have h1:=Bh h1
  have h2:=Bh h2
  rcases Ident.tri x y with h'|h'|h'
  ·exact absurd h' h1
  ·exact h'
  ·exact absurd h' h2
 ·rintro e w' ⟨rfl,n,os,rfl⟩
  have hlen:(sortI l).length=l.length:=DA _
  have hFs:(flatK vIdn 33 (sortI l).toArray).toList=(sortI l).flatMap vIdn:=R5 (by decide) QT (sortI l)
  have hFz:(flatK vIdn 33 (sortI l).toArray).size=l.length*33:=by simp[hlen]
  have htk:=Pc (cur:=cur) (flatK vIdn 33 (sortI l).toArray) (by omega)
  have hrow:K2 vIdn 65 33 (.slice (some ⟨r,0,none⟩) (sortI l).length c) (sortI l) [.raw r (.cells (putCells id 0 (flatK vIdn 33 (sortI l).toArray) cur) 65 (0,0))]:=by
   refine K2.mk (rest:=(putCells id 0 (flatK vIdn 33 (sortI l).toArray) cur).toList.drop (l.length*33)) QT ?_ (by simp[putCells,hsz]) (by omega)
   rw[←hFs,←htk,hFz,Bf]
  rw[hlen]at hrow
  refine⟨_,.raw (.tuple #[]),g,[.raw r (.cells (putCells id 0 (flatK vIdn 33 (sortI l).toArray) cur) 65 (0,0))],rfl,.raw _,?_,⟨rfl,rfl,⟨rfl,mm _ _⟩,Nw n _ os,fun b hb hn=>Fy n _ os b hb (fun e=>hn (by rw[e];simp[An,Res.block])),.refl g,fun _ _ _=>⟨fun _=>rfl,rfl⟩⟩,fun b hb _=>by simpa [An,Res.block]using hb,_,rfl,hrow⟩
  exact(k5.laterBut k2 k3 k4 (fun k hk hn=>Fy n _ os k hk hn)).addRaw (PY k1 n _ os) k2 k3 k4
end Go.Proofs
namespace Go.Q
open Go
theorem QB {sz:Nat} {xs:List (List PV)} (hs: ∀ e∈xs,e.length=sz) {i:Nat} (hi:i < xs.length):xs.flatten=(xs.take i).flatten++(xs[i]++(xs.drop (i+1)).flatten)∧(xs.take i).flatten.length=i*sz:=by
 constructor
 ·conv=>lhs;rw[←Bf i xs,CG,C6 hi,Ch]
 ·rw[Dh (sz:=sz) fun e he=>hs e (Et he),Aa,DP (by omega)]
theorem Zt {sz:Nat} {xs:List (List PV)} {rest:List PV} (hs: ∀ e∈xs,e.length=sz) {i:Nat} (hi:i < xs.length):YB (xs.flatten++rest) (0+i*sz) sz xs[i]:=by
 obtain⟨h1,h2⟩:=QB hs hi
 have h3:=hs _ (AB hi)
 rw[BC,h1,AV]
 refine⟨?_,?_⟩
 ·rw[←h2,Y8,AV,←h3,vQ]
 ·simp only[AA];omega
theorem Zw {sz:Nat} {xs:List (List PV)} {rest new:List PV} (hs: ∀ e∈xs,e.length=sz) {i:Nat} (hi:i < xs.length) (hn:new.length=sz):FO (xs.flatten++rest) (0+i*sz) new ((xs.set i new).flatten++rest):=by
 obtain⟨h1,h2⟩:=QB hs hi
 have h3:=hs _ (AB hi)
 have h4:(xs.set i new).flatten=(xs.take i).flatten++(new++(xs.drop (i+1)).flatten):=by
  rw[H5,if_pos hi,CG,Ch]
 rw[BC,h1,h4]
 refine⟨?_,?_⟩
 ·have e1:((xs.take i).flatten++(xs[i]++(xs.drop (i+1)).flatten)++rest).take (i*sz)=(xs.take i).flatten:=by
   rw[AV,←h2,vQ]
  have e2:((xs.take i).flatten++(xs[i]++(xs.drop (i+1)).flatten)++rest).drop (i*sz+new.length)=(xs.drop (i+1)).flatten++rest:=by
   rw[hn,←h2,←h3,←Lg,AV,Y8,AV,Y8]
  rw[e1,e2]
  simp only[AV]
 ·simp only[AA];omega
theorem Ht.inv {E sz n c:Nat} {o:Option Addr} {xs:List (List PV)} {R:List Res} (h:Ht E sz (.slice o n c) xs R) (h0:0 < n): ∃ r rest,o=some ⟨r,0,none⟩∧R= [.box r E (xs.flatten++rest)]∧xs.length=n∧n≤c∧(∀ e∈xs,e.length=sz)∧xs.flatten.length+rest.length=c*sz:=by
 generalize hv:Value.slice o n c=v at h
 cases h with
 |nil o' ho=>injection hv with _ e2 _;omega
 |row hn hl hs hc=>injection hv with e1 e2 e3;subst e1 e2 e3;exact⟨_,_,rfl,rfl,hn,hl,hs,hc⟩
theorem Ht.freeze {E sz:Nat} {w:World} {g:Gh} {R L':List Res} {v:Value} {xs:List (List PV)} (hi:Dv w g (R++L')) (hv:Ht E sz v xs R) (hm:xs.length≤maxN∧xs.length*sz≤maxN):
  ∃ g',Dv w g' L'∧Ef (An (R++L')) w g w g'∧De w (R++L') L'∧VR g' v (.slice xs .ro):=by
 cases hv with
 |nil o ho=>exact⟨g,hi,.refl _ _ _,.refl _ _,.nilR⟩
 |row hn hl hs hc=>
  rename_i r n cap rest
  subst hn
  obtain⟨us,h1,h2⟩:=Dv.boxRaw hi
  obtain⟨k1,k2,k3,k4,k5⟩:=h2.rawHead
  have hul:us.length=xs.flatten.length+rest.length:=by rw[h1.len,AA]
  let u:=us.take xs.flatten.length
  have hu0:u.length=xs.flatten.length:=by simp only[u,Aa];omega
  have hu:ED g u xs.flatten:=⟨hu0,fun i k1 k2=>by
   have:=h1.at_ i (by omega) (by rw[AA];omega)
   rw[BM k2]at this
   simpa [u]using this⟩
  have hle:=Gh.le_lay (g:=g) (b:=r) (from_:=0) (us:=u) (fun o _=>k2 o)
  have hcell: ∀ j (h:j < u.length),w.cell? ⟨r,j,none⟩=some u[j]:=fun j h=>by
   have hj:j < us.length:=by omega
   simp only[World.cell?,k1,CX,BQ,if_false,VP]
   rw[AO hj]
   simp[u]
  refine⟨g.lay r 0 u,⟨fun b' o v hv=>?_,fun b' z hz=>hi.satM b' z hz,fun r' hr'=>?_,k5.nodup,hi.glob.mono hle⟩,⟨rfl,rfl,⟨rfl,Ak _⟩,Ak _,fun _ _ _=>rfl,hle,fun k _ hn=>⟨fun o=>Gh.lay_out (fun h=>hn (by rw[h.1];simp[An,Res.block])),rfl⟩⟩,fun b hb _=>?_,?_⟩
  ·by_cases hin:b'=r∧0≤o∧o < 0+u.length
   ·obtain⟨rfl,_,h6⟩:=hin
    have hj:o < u.length:=by omega
    have:=Gh.lay_in (g:=g) (b:=b') (from_:=0) hj
    rw[BC,hv]at this
    cases this
    exact hcell o hj
   ·rw[Gh.lay_out hin]at hv;exact hi.sat b' o v hv
  ·exact Res.holds_kept hle (k5.res r' hr') fun b' hb'=>⟨rfl,fun o=>Gh.lay_out (fun h=>k4 (Bz.2 ⟨r',hr',by rw[hb',h.1]⟩)),rfl⟩
  ·simp only[An,Dp]at hb ⊢;exact DW _ hb
  ·exact VR.of_cells (g:=g.lay r 0 u) (t:= .ro) (sz:=sz) (b:=r) (off:=0) (cap:=cap) hs hl hm (us:=u) (hu.mono hle) (fun j hj=>Gh.lay_in hj) (fun b' cap' e=>by cases e) (by simp)
section
variable {P:Program} {N:Nat} {ρ:Env} {L:List Res}
theorem Jj {E sz:Nat} {R L':List Res} {v:Value} {xs:List (List PV)} {c:Code} {Q:PPost} (i:Nat) (hv:Ht E sz v xs R) (hm:xs.length≤maxN∧xs.length*sz≤maxN) (hp:L.Perm (R++L')) (hi:ρ i= .raw v) (k:ER P N c Q (CU ρ i (.slice xs .ro)) L'):ER P N c Q ρ L:=
 KQ (fun base a w g ha hI=>by
  obtain⟨g',h1,h2,h3,h4⟩:=Ht.freeze (hI.perm hp) hv hm
  refine⟨g',⟨ha.size,ha.defers.mono h2.le,fun j=>?_⟩,h1,h2.grow (fun b hb=>(DX hp).symm.subset hb),fun b hb hlt=>(DX hp).symm.subset (h3 b hb hlt)⟩
  have hj:=(ha.slot j).mono h2.le
  by_cases e:j=i
  ·subst e
   rw[hi]at hj
   show VR g' _ (CU ρ j _ j)
   rw[DB,hj.raw_inv];exact h4
  ·show VR g' _ (CU ρ i _ j)
   rw[H6 _ _ e];exact hj) k
end
section
variable {P:Program} {N:Nat} {Q:PPost} {all:Array Oper} {K:Env→List Res→Prop}
theorem ki {bar:Nat→Bool} {j:Nat} {oi oj:Oper} {x:PV} (hj:all[j]? =some oj) (hap:oi.apart all oj=true) {K:Env→List Res→Prop} {ρ:Env} {L:List Res}
  (hy: ∀ L,YQ P all oi ρ L x) (h:ZG P N all bar j K (updo ρ oi.dst x) L):ZG P N all bar j (fun ρ' L'=>(∀ L,YQ P all oi ρ' L x)∧K (updo ρ' oi.dst x) L') ρ L:=by
 obtain⟨h1,h2,h3⟩:=Oper.apart_spec hap
 unfold ZG at*
 simp only[hj]at*
 obtain⟨hd,h⟩:=h
 have cj: ∀ s,s∈oj.looksAt all→updo ρ oi.dst x s=ρ s:=fun s hs=>Od fun d hd e=>h1 d hd (e ▸ hs)
 have ci: ∀ u,∀ L,YQ P all oi (updo ρ oj.dst u) L x:=fun u L=>(hy L).congr fun s hs=>(Od fun d hd e=>h3 d hd (e ▸ hs)).symm
 refine⟨hd,?_⟩
 rcases h with ⟨u,hu,hk⟩|⟨hb,hg,ho⟩
 ·refine .inl ⟨u,hu.congr cj,ci u,?_⟩
  rw[RV ρ u x (fun d hd e=>h2 d e hd)];exact hk
 ·refine .inr ⟨hb,hg.congr cj,(Fk.congr (Sf cj) ho).mono fun u L' hk=>⟨ci u,?_⟩⟩
  rw[RV ρ u x (fun d hd e=>h2 d e hd)];exact hk
theorem ZJ {bar:Nat→Bool} {i:Nat} {oi:Oper} {x:PV} (hi:all[i]? =some oi) (hdi: ∀ d,oi.dst=some d→d < N):
  ∀ (fuel:Nat) (listed:Array Bool) (ρ:Env) (L:List Res),Ko all listed→
    (∀ j oj,all[j]? =some oj→j≠i→listed.getD j true=false→(∀ e∈oj.after,Region.binds .any e=true→e.on≠i)→oi.apart all oj=true)→
    i∈Region.ready .any all listed→(∀ L,YQ P all oi ρ L x)→
    H8 P N all bar K fuel (listed.setIfInBounds i true) (updo ρ oi.dst x) L→H8 P N all bar K (fuel+1) listed ρ L:=by
 intro fuel
 have HZ: ∀ (listed:Array Bool) (ρ:Env) (L:List Res) (n:Nat),YQ P all oi ρ L x→H8 P N all bar K n (listed.setIfInBounds i true) (updo ρ oi.dst x) L→
   ZG P N all bar i (H8 P N all bar K n (listed.setIfInBounds i true)) ρ L:=fun listed ρ L n hy H=>by
  unfold ZG;simp only[hi];exact⟨hdi,.inl ⟨x,hy,H⟩⟩
 induction fuel with
 |zero=>
  intro listed ρ L hc _ hr hy H
  refine⟨fun h=>(by rw[h]at hr;cases hr),fun j hj=>?_⟩
  by_cases hji:j=i
  ·subst hji;exact HZ _ _ _ _ (hy L) H
  ·have:=ready_mono hj hji
   rw[H.1]at this
   cases this
 |succ fuel ih=>
  intro listed ρ L hc hfree hr hy H
  refine⟨fun h=>(by rw[h]at hr;cases hr),fun j hj=>?_⟩
  by_cases hji:j=i
  ·subst hji;exact HZ _ _ _ _ (hy L) H
  ·have h1:=H.2 j (ready_mono hj hji)
   obtain⟨hjun,oj,hoj,hall⟩:=mem_ready.1 hj
   have hiun:=(mem_ready.1 hr).1
   have hnot: ∀ e∈oj.after,Region.binds .any e=true→e.on≠i:=fun e he hb heq=>by
    have h1:=hall e he hb
    rw[heq]at h1
    rcases B8 i listed.size with h'|h'
    ·simp[h']at hiun h1;rw[hiun]at h1;cases h1
    ·simp[Bm h']at h1
   have h2:=ki hoj (hfree j oj hoj hji hjun hnot) hy h1
   have hfree': ∀ k ok,all[k]? =some ok→k≠i→(listed.setIfInBounds j true).getD k true=false→
     (∀ e∈ok.after,Region.binds .any e=true→e.on≠i)→oi.apart all ok=true:=fun k ok hk hki hun hno=>by
    refine hfree k ok hk hki ?_ hno
    by_cases hjk:j=k
    ·subst hjk;exact hjun
    ·rw[getD_set_ne true hjk]at hun;exact hun
   refine ZF (fun ρ' L' h3=>?_) h2
   obtain⟨h4,h5⟩:=h3
   refine ih (listed.setIfInBounds j true) ρ' L' (hc.set hj) hfree' (ready_mono hr (Ne.symm hji)) h4 ?_
   rw[yb _ _ hji]
   exact h5
def TK (all:Array Oper) (listed:Array Bool):Bool:=listed.size==all.size&&(List.range all.size).all fun j=>match all[j]? with
 |some oj=>!listed.getD j false||oj.after.all fun e=>!Region.binds .any e||listed.getD e.on false
 |none=>true
theorem Xv {listed:Array Bool} (h:TK all listed=true):Ko all listed:=by
 simp only[TK,BR,beq_iff_eq,Bc,Bg]at h
 obtain⟨h1,h2⟩:=h
 refine⟨h1,fun j oj hj hl e he hb=>?_⟩
 have:=h2 j (BH.1 hj).1
 simp only[hj,hl,aq,Gd,HN]at this
 have:=this e he
 simpa [hb]using this
theorem Ek {bar:Nat→Bool} {fuel:Nat} {listed:Array Bool} {ρ:Env} {L:List Res} (i:Nat) {d:Nat} {op:Op} {ty:TypeId} {pos:String} {af:Array Edge} {x:PV} (h0:all[i]? =some ⟨some d,op,ty,pos,af,none⟩)
  (hB:(TK all listed&&Region.free .any all listed i&&(Region.ready .any all listed).contains i)=true) (hd:Nat.blt d N=true)
  (hq: ∀ L,ie P ⟨some d,op,ty,pos,af,none⟩ ρ L x) (k:H8 P N all bar K fuel (listed.setIfInBounds i true) (CU ρ d x) L):H8 P N all bar K (fuel+1) listed ρ L:=by
 simp only[BR]at hB
 obtain⟨⟨h1,h2⟩,h3⟩:=hB
 exact ZJ (x:=x) h0 (Ph hd) fuel listed ρ L (Xv h1) (Region.free_spec h0 h2) (by simpa using h3) (fun L=> .inr ⟨by unfold RN;trivial,hq L⟩) k
theorem H2 {id:Nat} {l:List Oper} {ρ:Env} {L:List Res} (bs:List Nat) [hm:mW P] (hG:MO l.toArray N=true)
  (h:H8 P N l.toArray (fun k=>bs.contains k) (Q .normal) l.length (Array.replicate l.length false) ρ L):ER P N (.region id l.toArray true) Q ρ L:=fun ro base a w g hst=>by
 refine wpIn_region_any hm.out ?_
 have hi:=hst.inv
 have hst0:Ef (An L) w g { w with drawn:=w.drawn+1 } g:=⟨rfl,rfl,⟨rfl,RR _⟩,Ak _,fun _ _ _=>rfl,.refl g,fun _ _ _=>⟨fun _=>rfl,rfl⟩⟩
 have hi':Dv { w with drawn:=w.drawn+1 } g L:=⟨hi.sat,fun b z hz=>(hi.satM b z hz).congr rfl,fun r hr=>by have:=hi.res r hr;cases r<;>first|exact this|(rename_i t _ _;cases t<;>exact this),hi.nodup,hi.glob⟩
 have k:=PS (ro:=ro) (base:=base) (Q:=Q) (w₀:=w) (g₀:=g) (L₀:=L) (fun _ _ h=>h) hG _ _ ρ L a _ g hst.agr hi' hst0 (.refl _ _) h
 simpa using k
end
theorem FT {P:Program} {N:Nat} {o:Oper} {ρ:Env} {d:Nat} {x:PV} {L:List Res} (hd:o.dst=some d) (hg:o.guard=none) (h:AU P N #[] (fun ρ' L'=>ρ' d=x∧L'=L) [false] [o] ρ L):ie P o ρ L x:=by
 obtain⟨_,h⟩:=h
 rcases h with ⟨hno,_⟩|⟨_,⟨y,hq,h1,_⟩|⟨hf,_⟩⟩
 ·unfold mg at hno
  rw[hg]at hno
  exact hno.elim
 ·rw[hd]at h1
  have:y=x:=by
   rw[←h1]
   show y=CU ρ d y d
   rw[DB]
  rw[←this];exact hq
 ·cases hf
theorem Ad {P:Program} {N:Nat} {all:Array Oper} {K:Env→List Res→Prop} {bar:Nat→Bool} (fuel:Nat) {listed:Array Bool} {ρ:Env} {L:List Res} (i:Nat) {o:Oper}
  (k:AU P N all (fun ρ L=>H8 P N all bar K fuel (listed.setIfInBounds i true) ρ L) [bar i] [o] ρ L) (hr:Region.ready .any all listed= [i]:=by decide+kernel) (ho:all[i]? =some o:=by exact rfl):
  H8 P N all bar K (fuel+1) listed ρ L:=Cw [i] hr (by simp) fun j hj=>by
 simp only[AH,Ai,or_false]at hj
 subst hj
 exact⟨o,ho,k⟩
theorem B5 {P:Program} {N:Nat} {all:Array Oper} {K:Env→List Res→Prop} {bar:Nat→Bool} {fuel:Nat} {listed:Array Bool} {ρ:Env} {L:List Res} (i:Nat) {d:Nat} {op:Op} {ty:TypeId} {pos:String} {af:Array Edge} {x:PV}
  (k:H8 P N all bar K fuel (listed.setIfInBounds i true) (CU ρ d x) L) (h0:all[i]? =some ⟨some d,op,ty,pos,af,none⟩:=by exact rfl)
  (hB:(TK all listed&&Region.free .any all listed i&&(Region.ready .any all listed).contains i)=true:=by decide+kernel) (hd:Nat.blt d N=true:=by exact rfl)
  (hq: ∀ L,AU P N #[] (fun ρ' L'=>ρ' d=x∧L'=L) [false] [⟨some d,op,ty,pos,af,none⟩] ρ L:=by
   intro _
   refine wo ?_
   refine AE ?_
   exact⟨DB _ _ _,rfl⟩):H8 P N all bar K (fuel+1) listed ρ L:=
 Ek i h0 hB hd (fun L=>FT rfl rfl (hq L)) k
end Go.Q
namespace Go.Proofs
open Go Go.Q
attribute [local irreducible] ER AU H8 BA Fk
instance z6 (x:Ident) (d:Dig):C8 Tryz.prog 252 [.agg (eIdent x),.pt (eDig d) 0] (.agg (eIdent (Cq x d))):=⟨by
 refine Av Tryz.func252 Tryz.ntmps252 rfl (rs:= [.cell 3 65]) rfl rfl fun hb LF=>?_
 refine vV fun b2=>?_
 refine Bx fun b3=>?_
 refine wf ?_
 refine Ay (fun hp=>?_) (fun hp=>?_)
 ·have h0:x.patch=Dig.zero:=by simpa using hp
  refine wf ?_
  refine A6 (fun h=>?_) (fun h=>?_)
  ·refine wf ?_
   refine Fv rfl (.of_eq ?_)
   rw[Cq,if_pos ⟨h0,h⟩]
  ·refine wf ?_
   refine Fv rfl (.of_eq ?_)
   rw[Cq,if_neg (fun h'=>h h'.2)]
 ·have h0: ¬x.patch=Dig.zero:=by simpa using hp
  refine wf ?_
  refine Fv rfl (.of_eq ?_)
  rw[Cq,if_neg (fun h'=>h0 h'.1)]⟩
def iE (d:Dig) (a:Atm):Atm:={ a with id:=Cq a.id d }
def nM (d:Dig) (a:Atm):Atm:=if a.kind≠7 then { a with file:=Cq a.file d }else a
def nL (d:Dig) (a:Atm):Atm:=if a.kind=2 then { a with parent:=Cq a.parent d }else a
def nK (d:Dig) (a:Atm):Atm:=if a.kind=6 then { a with src:=Cq a.src d,dst:=Cq a.dst d }else a
def ui (d:Dig) (a:Atm):Atm:={ a with over:=sortI (a.over.map fun y=>Cq y d) }
def fP (d:Dig) (a:Atm):Atm:=ui d (nK d (nL d (nM d (iE d a))))
def En (p:Pat):List Atm × Int:=if(Kq p).2.2≠0 then([],(Kq p).2.2)else if(Ej p).2≠0 then([],(Ej p).2)else((Kq p).1.map (fP (Ej p).1),0)
theorem aL (p:Pat) (hs:E7 p=false):C8 Tryz.prog 201 [.agg (Bn p)] (.tuple [.slice ((En p).1.map eAtm) .ro,.raw (.int .i64 (En p).2)]):=⟨by
 have i0:B0 (E7 p=false):=⟨hs⟩
 refine Av Tryz.func201 Tryz.ntmps201 rfl (rs:= [.tmp 2,.tmp 3]) rfl rfl fun hb LF=>?_
 repeat(refine DZ ?_)
 refine CK (by kernel_rfl) ?_
 refine wo ?_
 refine AE ?_
 repeat(refine DZ ?_)
 refine CK (by kernel_rfl) ?_
 refine Yf (by rfl) (hl:=(by infer_instance)) ?_
 refine CQ (xs:= [.tmp 15]) [] LF (f:=81) (cs:= []) (C5 _) rfl rfl (.refl _) _ (aE p hs) fun r L' ⟨x,y,e,hor⟩=>?_
 subst e
 refine wf ?_
 refine wf ?_
 rcases hor with ⟨hne,rfl⟩|⟨he0,v,rfl,hrow,hll⟩
 ·refine AX (fun h=>?_) (fun h=>absurd h hne)
  refine wf ?_
  refine HT ?_
  rw[En,if_pos hne]
  exact .tuple2 (.ros rfl) (.refl _)
 refine AX (fun h=>absurd he0 h) (fun h=>?_)
 refine wf ?_
 refine Bx fun b7=>?_
 refine wo ?_
 refine AE ?_
 refine Al 7 ?_
 refine wf ?_
 refine AX (fun h2=>?_) (fun h2=>?_)
 ·refine N9 (fun i=> .inl rfl) (DH L' LF) ?_
  refine wf ?_
  refine HT ?_
  rw[En,if_neg (by simp[he0]),if_pos h2]
  exact .tuple2 (.ros rfl) (.refl _)
 have e1:En p=((Kq p).1.map (fP (Ej p).1),0):=by rw[En,if_neg (by simp[he0]),if_neg (by simpa using h2)]
 rw[e1]
 have hov: ∀ a∈(Kq p).1,a.over.length≤40:=fun a ha=>by
  unfold Kq at ha
  split at ha
  ·cases ha
  ·split at ha
   ·cases ha
   ·exact(Dc hs).2 a ha
 generalize (Kq p).1=l at hrow hll hov ⊢
 generalize (Ej p).1=g
 obtain⟨⟨o,cc,ev⟩,_⟩:=hrow.slice
 rw[AR]at ev
 subst ev
 refine wf ?_
 refine KY rfl ?_
 refine wf ?_
 refine Ab (σ:=Nat × List Res) (fun k=>k.1≤l.length∧Ht 125 172 (.slice o l.length cc) (((l.take k.1).map (fP g)++l.drop k.1).map eAtm) k.2) (fun k=>l.length - k.1) (fun k=> [(4,.raw (.slice o l.length cc)),(8,.clo 252 [.pt (eDig g) 0]),(32,.raw (.slice o l.length cc)),(33,.raw (.int .i64 l.length)),(34,.raw (.int .i64 k.1))]) (fun k=>k.2++LF) (0,_) ⟨by simp,by simpa using hrow⟩ ⟨rfl,rfl,rfl,rfl,rfl⟩ (.refl _) ?_
 rintro⟨k,R⟩ ⟨hk,hR⟩
 dsimp only at hk hR ⊢
 refine wf ?_
 refine A6 (fun hc=>?_) (fun hc=>?_)
 ·have hlt:k < l.length:=by omega
  obtain⟨xs,hxs⟩: ∃ xs,xs=((l.take k).map (fP g)++l.drop k).map eAtm:=⟨_,rfl⟩
  rw[←hxs]at hR
  have hlk:xs.length=l.length:=by rw[hxs];simp;omega
  have hel:xs[k]'(by omega)=eAtm l[k]:=by
   subst hxs
   rw[BK,Bu (by simp;omega),HJ]
   congr 2
   simp;omega
  obtain⟨r,rest,rfl,rfl,hn,hcl,hsz,hcc⟩:=hR.inv (by omega)
  have isub:YB (xs.flatten++rest) (0+k*172) 172 (eAtm l[k]):=by
   rw[←hel];exact Zt hsz (by omega)
  refine wf ?_
  refine Fi (k:=k) rfl rfl hlt ?_
  refine wf ?_
  refine Bx fun b10=>?_
  refine wf ?_
  refine Kd True [(4,.raw (.slice (some ⟨r,0,none⟩) l.length cc)),(8,.clo 252 [.pt (eDig g) 0]),(9,.raw (.int .i64 k)),(10,.raw (.pointer (some ⟨b10,0,none⟩))),(32,.raw (.slice (some ⟨r,0,none⟩) l.length cc)),(33,.raw (.int .i64 l.length)),(34,.raw (.int .i64 k))] (.box b10 125 (eAtm (nM g (iE g l[k]))):: .box r 125 (xs.flatten++rest)::LF) ?_ fun _=>?_
  ·refine AX (fun h=>?_) (fun h=>?_)
   ·refine wf ?_
    rw[show nM g (iE g l[k])= { iE g l[k]with file:=Cq l[k].file g } by rw[nM,if_pos (show(iE g l[k]).kind≠7 from h)];rfl]
    exact⟨trivial,⟨rfl,rfl,rfl,rfl,rfl,rfl,rfl⟩,.refl _⟩
   ·refine wf ?_
    rw[show nM g (iE g l[k])=iE g l[k] by rw[nM,if_neg (show ¬(iE g l[k]).kind≠7 from fun h'=>h' h)]]
    exact⟨trivial,⟨rfl,rfl,rfl,rfl,rfl,rfl,rfl⟩,.refl _⟩
  have o2:(nM g (iE g l[k])).over.length≤40:=by
   have h:=hov _ (AB hlt)
   unfold nM;split<;>exact h
  generalize hg2:nM g (iE g l[k])=a2 at o2 ⊢
  refine wf ?_
  refine Kd True [(4,.raw (.slice (some ⟨r,0,none⟩) l.length cc)),(8,.clo 252 [.pt (eDig g) 0]),(9,.raw (.int .i64 k)),(10,.raw (.pointer (some ⟨b10,0,none⟩))),(32,.raw (.slice (some ⟨r,0,none⟩) l.length cc)),(33,.raw (.int .i64 l.length)),(34,.raw (.int .i64 k))] (.box b10 125 (eAtm (nL g a2)):: .box r 125 (xs.flatten++rest)::LF) ?_ fun _=>?_
  ·refine A6 (fun h=>?_) (fun h=>?_)
   ·refine wf ?_
    rw[show nL g a2= { a2 with parent:=Cq a2.parent g } by rw[nL,if_pos h]]
    exact⟨trivial,⟨rfl,rfl,rfl,rfl,rfl,rfl,rfl⟩,.refl _⟩
   ·refine wf ?_
    rw[show nL g a2=a2 by rw[nL,if_neg h]]
    exact⟨trivial,⟨rfl,rfl,rfl,rfl,rfl,rfl,rfl⟩,.refl _⟩
  have o3:(nL g a2).over.length≤40:=by unfold nL;split<;>exact o2
  generalize hg3:nL g a2=a3 at o3 ⊢
  refine wf ?_
  refine Kd True [(4,.raw (.slice (some ⟨r,0,none⟩) l.length cc)),(8,.clo 252 [.pt (eDig g) 0]),(9,.raw (.int .i64 k)),(10,.raw (.pointer (some ⟨b10,0,none⟩))),(32,.raw (.slice (some ⟨r,0,none⟩) l.length cc)),(33,.raw (.int .i64 l.length)),(34,.raw (.int .i64 k))] (.box b10 125 (eAtm (nK g a3)):: .box r 125 (xs.flatten++rest)::LF) ?_ fun _=>?_
  ·refine A6 (fun h=>?_) (fun h=>?_)
   ·rw[show nK g a3= { a3 with src:=Cq a3.src g,dst:=Cq a3.dst g } by rw[nK,if_pos h]]
    refine wn ?_
    refine H2 [2,6,9,11] (by decide+kernel) ?_
    refine Ek 0 rfl (by decide+kernel) rfl (fun L'=>FT (N:=97) rfl rfl (by refine wo ?_;refine AE ?_;exact⟨DB _ _ _,rfl⟩)) ?_
    refine Ek 1 rfl (by decide+kernel) rfl (fun L'=>FT (N:=97) rfl rfl (by refine wo ?_;refine AE ?_;exact⟨DB _ _ _,rfl⟩)) ?_
    refine Ek 4 rfl (by decide+kernel) rfl (fun L'=>FT (N:=97) rfl rfl (by refine wo ?_;refine AE ?_;exact⟨DB _ _ _,rfl⟩)) ?_
    refine Ek 5 rfl (by decide+kernel) rfl (fun L'=>FT (N:=97) rfl rfl (by refine wo ?_;refine AE ?_;exact⟨DB _ _ _,rfl⟩)) ?_
    refine Cw (fuel:=7) [2,6] (by decide+kernel) (by simp) fun i hi=>?_
    simp only[AH,Ai,or_false]at hi
    rcases hi with rfl|rfl
    ·refine⟨_,rfl,?_⟩
     refine wf ?_
     refine Ek 3 rfl (by decide+kernel) rfl (fun L'=>FT (N:=97) rfl rfl (by refine wo ?_;refine AE ?_;exact⟨DB _ _ _,rfl⟩)) ?_
     refine Cw (fuel:=5) [6] (by decide+kernel) (by simp) fun i hi=>?_
     simp only[AH,Ai,or_false]at hi
     subst hi
     refine⟨_,rfl,?_⟩
     refine wf ?_
     refine Ek 7 rfl (by decide+kernel) rfl (fun L'=>FT (N:=97) rfl rfl (by refine wo ?_;refine AE ?_;exact⟨DB _ _ _,rfl⟩)) ?_
     refine Ek 8 rfl (by decide+kernel) rfl (fun L'=>FT (N:=97) rfl rfl (by refine wo ?_;refine AE ?_;exact⟨DB _ _ _,rfl⟩)) ?_
     refine Cw (fuel:=2) [9] (by decide+kernel) (by simp) fun i hi=>?_
     simp only[AH,Ai,or_false]at hi
     subst hi
     refine⟨_,rfl,?_⟩
     refine wf ?_
     refine Ek 10 rfl (by decide+kernel) rfl (fun L'=>FT (N:=97) rfl rfl (by refine wo ?_;refine AE ?_;exact⟨DB _ _ _,rfl⟩)) ?_
     refine Cw (fuel:=0) [11] (by decide+kernel) (by simp) fun i hi=>?_
     simp only[AH,Ai,or_false]at hi
     subst hi
     refine⟨_,rfl,?_⟩
     refine wf ?_
     refine Cu (by decide+kernel) ?_
     refine wf ?_
     exact⟨trivial,⟨rfl,rfl,rfl,rfl,rfl,rfl,rfl⟩,.refl _⟩
    ·refine⟨_,rfl,?_⟩
     refine wf ?_
     refine Cw (fuel:=6) [2] (by decide+kernel) (by simp) fun i hi=>?_
     simp only[AH,Ai,or_false]at hi
     subst hi
     refine⟨_,rfl,?_⟩
     refine wf ?_
     refine Ek 3 rfl (by decide+kernel) rfl (fun L'=>FT (N:=97) rfl rfl (by refine wo ?_;refine AE ?_;exact⟨DB _ _ _,rfl⟩)) ?_
     refine Ek 7 rfl (by decide+kernel) rfl (fun L'=>FT (N:=97) rfl rfl (by refine wo ?_;refine AE ?_;exact⟨DB _ _ _,rfl⟩)) ?_
     refine Ek 8 rfl (by decide+kernel) rfl (fun L'=>FT (N:=97) rfl rfl (by refine wo ?_;refine AE ?_;exact⟨DB _ _ _,rfl⟩)) ?_
     refine Cw (fuel:=2) [9] (by decide+kernel) (by simp) fun i hi=>?_
     simp only[AH,Ai,or_false]at hi
     subst hi
     refine⟨_,rfl,?_⟩
     refine wf ?_
     refine Ek 10 rfl (by decide+kernel) rfl (fun L'=>FT (N:=97) rfl rfl (by refine wo ?_;refine AE ?_;exact⟨DB _ _ _,rfl⟩)) ?_
     refine Cw (fuel:=0) [11] (by decide+kernel) (by simp) fun i hi=>?_
     simp only[AH,Ai,or_false]at hi
     subst hi
     refine⟨_,rfl,?_⟩
     refine wf ?_
     refine Cu (by decide+kernel) ?_
     refine wf ?_
     exact⟨trivial,⟨rfl,rfl,rfl,rfl,rfl,rfl,rfl⟩,.refl _⟩
   ·refine wf ?_
    rw[show nK g a3=a3 by rw[nK,if_neg h]]
    exact⟨trivial,⟨rfl,rfl,rfl,rfl,rfl,rfl,rfl⟩,.refl _⟩
  have o4:(nK g a3).over.length≤40:=by unfold nK;split<;>exact o3
  generalize hg4:nK g a3=a4 at o4 ⊢
  repeat(refine DZ ?_)
  refine CK (by kernel_rfl) ?_
  refine Lr ?_
  refine AE ?_
  rw[show Env.ev _ (Operand.const (Value.slice none 0 0))= .raw (.slice none 0 0) from rfl]
  refine wf ?_
  refine Ab (σ:=Nat × Value × List Res) (fun j=>j.1≤a4.over.length∧qh j.2.1 ((a4.over.take j.1).map fun y=>Cq y g) j.2.2) (fun j=>a4.over.length - j.1) (fun j=> [(4,.raw (.slice (some ⟨r,0,none⟩) l.length cc)),(8,.clo 252 [.pt (eDig g) 0]),(9,.raw (.int .i64 k)),(10,.raw (.pointer (some ⟨b10,0,none⟩))),(11,.raw j.2.1),(32,.raw (.slice (some ⟨r,0,none⟩) l.length cc)),(33,.raw (.int .i64 l.length)),(34,.raw (.int .i64 k)),(74,.slice (a4.over.map eIdent) .ro),(75,.raw (.int .i64 a4.over.length)),(76,.raw (.int .i64 j.1))]) (fun j=>j.2.2++(.box b10 125 (eAtm a4):: .box r 125 (xs.flatten++rest)::LF)) (0,.slice none 0 0,[]) ⟨by simp,.nil none (by simp)⟩ ⟨rfl,rfl,rfl,rfl,rfl,rfl,rfl,rfl,rfl,rfl,rfl⟩ (.refl _) ?_
  rintro⟨j,v2,R2⟩ ⟨hj,hI⟩
  dsimp only at hj hI ⊢
  refine wf ?_
  refine A6 (fun hc2=>?_) (fun hc2=>?_)
  ·have hjl:j < a4.over.length:=by omega
   refine wz fun b13=>?_
   refine Al 13 ?_
   refine wf ?_
   refine Iy (f:=eIdent) (m:= [Cq a4.over[j] g]) (R:=R2) (LF:= .box b10 125 (eAtm a4):: .box r 125 (xs.flatten++rest)::LF) (fun R'=>R'++(.box b10 125 (eAtm a4):: .box r 125 (xs.flatten++rest)::LF)) rfl rfl hI (.refl _) (fun R'=> .refl _) (by simp only[AR,Aa,AL,Af];omega) (by simp only[AR,Aa,AL,Af];omega) fun v3 R3 h3=>?_
   refine wf ?_
   refine wf ?_
   refine⟨(j+1,v3,R3),⟨by dsimp only;omega,?_⟩,by dsimp only;omega,⟨rfl,rfl,rfl,rfl,rfl,rfl,rfl,rfl,rfl,rfl,rfl⟩,.refl _⟩
   dsimp only
   rw[A7 hjl,Aq]
   exact h3
  ·rw[AF (by omega)]at hI
   refine wf ?_
   refine CQ (xs:= [.tmp 87,.func 159]) R2 (.box b10 125 (eAtm a4):: .box r 125 (xs.flatten++rest)::LF) (f:=158) (cs:= []) (C5 _) rfl rfl (.refl _) _ (YP _ _ R2 hI (by simp only[AR];omega)) fun r' L3 ⟨v3,e3,h3⟩=>?_
   subst e3
   refine wo ?_
   refine AE ?_
   repeat(refine DZ ?_)
   have hms:(sortI (a4.over.map fun y=>Cq y g)).length≤maxN∧(sortI (a4.over.map fun y=>Cq y g)).length*33≤maxN:=by
    have h1:maxN=140737488355328:=rfl
    have h2:(sortI (a4.over.map fun y=>Cq y g)).length=a4.over.length:=by rw[sortI,DA,AR]
    omega
   refine H0 (f:=eIdent) 11 h3 hms (.refl _) rfl ?_
   refine wf ?_
   have iput:FO (xs.flatten++rest) (0+k*172) (eAtm { a4 with over:=sortI (a4.over.map fun y=>Cq y g) }) ((xs.set k (eAtm (ui g a4))).flatten++rest):=Zw hsz (by omega) (by simp)
   refine Fi (k:=k) rfl rfl hlt ?_
   refine wf ?_
   have hset:xs.set k (eAtm (ui g a4))=((l.take (k+1)).map (fP g)++l.drop (k+1)).map eAtm:=by
    have hf:ui g a4=fP g l[k]:=by rw[fP,hg2,hg3,hg4]
    rw[hf,hxs]
    refine EC (by simp;omega) fun i k1 k2=>?_
    rw[mo]
    split
    ·rename_i e
     subst e
     rw[BK,BM (by simp;omega)]
     simp
    ·rename_i e
     rw[BK,BK]
     congr 1
     rcases B8 i k with h'|h'
     ·rw[BM (by simp;omega),BM (by simp;omega)]
      simp
     ·rw[Bu (by simp;omega),Bu (by simp;omega)]
      simp only[HJ,AR,Aa]
      congr 1
      omega
   have hnew: ∀ e∈xs.set k (eAtm (ui g a4)),e.length=172:=fun e he=>by
    rw[hset]at he
    obtain⟨a,_,rfl⟩:=AQ.1 he
    simp
   refine⟨(k+1,[.box r 125 ((xs.set k (eAtm (ui g a4))).flatten++rest)]),⟨by dsimp only;omega,?_⟩,by dsimp only;omega,⟨rfl,rfl,rfl,rfl,rfl⟩,.cons _ (.refl _)⟩
   dsimp only
   rw[←hset]
   refine .row (by rw[DQ,hlk]) hcl hnew ?_
   have h1:=Dh hnew
   have h2:=Dh hsz
   rw[DQ]at h1
   omega
 ·have hkk:k=l.length:=by omega
  subst hkk
  rw[EA,List.drop_length,BW]at hR
  have hmx:((l.map (fP g)).map eAtm).length≤maxN∧((l.map (fP g)).map eAtm).length*172≤maxN:=by
   have:maxN=140737488355328:=rfl
   simp only[AR];omega
  refine Jj 4 hR hmx (.refl _) rfl ?_
  refine wf ?_
  exact HT (.tuple2 (.ros rfl) (.refl _))⟩
end Go.Proofs
namespace Go.Proofs
open Go Go.Q
attribute [local irreducible] ER AU BA Fk
instance w8 (p:Pat) [hs:B0 (E7 p=false)]:C8 Tryz.prog 145 [.agg (Bn p)] (.tuple [.slice ((En p).1.map eAtm) .ro,.raw (.int .i64 (En p).2)]):=⟨by
 have i1:C8 Tryz.prog 201 [.agg (Bn p)] (.tuple [.slice ((En p).1.map eAtm) .ro,.raw (.int .i64 (En p).2)]):=aL p hs.out
 refine Av Tryz.func145 Tryz.ntmps145 rfl (rs:= [.tmp 2,.tmp 3]) rfl rfl fun hb LF=>?_
 refine wf ?_
 exact HT (.refl _)⟩
end Go.Proofs
namespace Go.Q
open Go
def Fa (X:List Value) (o:Nat) (cs:List Value):List Value:=X.take o++cs++X.drop (o+cs.length)
def LJ (cur:Array Value) (o:Nat) (cs:List Value):Prop:= ∀ j (h:j < cs.length),cur.toList[o+j]? =some cs[j]
theorem LJ.cell {w:World} {b E o:Nat} {fr:Nat × Nat} {cur:Array Value} {cs:List Value} (h:LJ cur o cs) (hb:w.heap[b]? =some (.cells cur E fr)): ∀ j (hj:j < cs.length),w.cell? ⟨b,o+j,none⟩=some cs[j]:=fun j hj=>by
 have:=h j hj
 simp only[World.cell?,hb,CX,BQ,if_false]
 simpa using this
section
variable {P:Program} {N:Nat} {all:Array Oper} {K:Env→List Res→Prop} {fl:List Bool} {os:List Oper} {ρ:Env} {L:List Res} {d:Nat} {ty:TypeId} {pos:String} {af:Array Edge}
theorem tQ {T:TypeId} {E:Nat} [hT:Ma P T E] {x:Operand} {a:Option Addr} {n c:Nat} (hx:ρ.ev x= .raw (.slice a n c)) (k:AU P N all K fl.tail os (CU ρ d (.raw (.int .i64 c))) L) (hd:Nat.blt d N=true:=by rfl):
  AU P N all K fl (⟨some d,.call { callee:= .builtin .cap,args:= #[x],argTypes:= #[T] },ty,pos,af,none⟩::os) ρ L:=
 Bk hd (B9 fun a' w g ha hi=>⟨.int .i64 c,by
  have h1:=Cc ha (x:=x) (by simp[Op.operands,Call.operands]) hx
  have he:execOp a'.eval ⟨some d,.call { callee:= .builtin .cap,args:= #[x],argTypes:= #[T] },ty,pos,af,none⟩=(do pure (.value (←Builtin.cap_ #[T] ty (#[x].map a'.eval)))):=rfl
  rw[he]
  simp[Builtin.cap_,h1,IQ hT.out,goInt],.raw _⟩) k
theorem jr {T E sz by_:Nat} [hT:Ma P T E] [hE:Ea P E sz by_] {x y:Operand} {b:Option Addr} {kk:IntKind} {n c i:Nat} (hx:ρ.ev x= .raw (.slice b n c)) (hy:ρ.ev y= .raw (.int kk (i:Int))) (hi:i≤n) (hn:n≤c)
  (k: ∀ u,AU P N all K fl.tail os (CU ρ d (.raw u)) L) (hd:Nat.blt d N=true:=by rfl):AU P N all K fl (⟨some d,.slice T x (some y) none none,ty,pos,af,none⟩::os) ρ L:=by
 let u:Value:=if c=i then .slice b (n - i) (c - i)else .slice (b.map (·.add (i*sz))) (n - i) (c - i)
 refine Bk (x:= .raw u) hd (B9 fun a w g ha hI=>?_) (k u)
 have e1:=Cc ha (x:=x) (by simp[Op.operands]) hx
 have e2:=Cc ha (x:=y) (by simp[Op.operands]) hy
 refine⟨u,?_,.raw _⟩
 have hbounds:(Instr.sliceBounds true n c (some (a.eval y)) none none).run P w= .ok (i,n,c) w:=by
  unfold Instr.sliceBounds
  simp[e2,Instr.sliceBound,asIntOf]
  omega
 show(do pure (Next.value (←Instr.sliceAt T (a.eval x) (some (a.eval y)) none none)):Sem Next).run P w=_
 simp only[Instr.sliceAt,Sem.run_bind,run_underlying hT.out,Result.andThen_ok,Instr.slice,e1,hbounds,Ea.run hE,Sem.run_pure,u]
 by_cases h:c=i
 ·cases b<;>simp[h]
 ·cases b<;>simp[h]
theorem Mr {T E sz by_:Nat} [hT:Ma P T E] [hE:Ea P E sz by_] {x:Operand} {lo hi:Option Operand} {r off n c:Nat} (i j:Nat) (hx:ρ.ev x= .raw (.slice (some ⟨r,off,none⟩) n c)) (hij:i≤j) (hj:j≤c) (hc:i < c) (hnc:n≤c)
  (hlo: ∀ o,lo=some o→ ∃ k,ρ.ev o= .raw (.int k i)) (hlo':lo=none→i=0) (hhi: ∀ o,hi=some o→ ∃ k,ρ.ev o= .raw (.int k j)) (hhi':hi=none→j=n)
  (k:AU P N all K fl.tail os (CU ρ d (.raw (.slice (some ⟨r,off+i*sz,none⟩) (j - i) (c - i)))) L) (hd:Nat.blt d N=true:=by rfl):
  AU P N all K fl (⟨some d,.slice T x lo hi none,ty,pos,af,none⟩::os) ρ L:=
 Bk hd (B9 fun a w g ha hI=>by
  have e1:=Cc ha (x:=x) (by simp[Op.operands]) hx
  have hbl: ∀ o,lo=some o→ ∃ k,a.eval o= .int k i:=fun o e=>by
   obtain⟨k,hk⟩:=hlo o e
   exact⟨k,Cc ha (by simp[Op.operands,e]) hk⟩
  have hbh: ∀ o,hi=some o→ ∃ k,a.eval o= .int k j:=fun o e=>by
   obtain⟨k,hk⟩:=hhi o e
   exact⟨k,Cc ha (by simp[Op.operands,e]) hk⟩
  have hbounds:(Instr.sliceBounds true n c (lo.map a.eval) (hi.map a.eval) none).run P w= .ok (i,j,c) w:=by
   unfold Instr.sliceBounds
   cases lo with
   |none=>
    have:=hlo' rfl;subst this
    cases hi with
    |none=>have:=hhi' rfl;subst this;simp
    |some o=>
     obtain⟨k,hk⟩:=hbh o rfl
     simp[hk,Instr.sliceBound,asIntOf]
     omega
   |some o=>
    obtain⟨k,hk⟩:=hbl o rfl
    cases hi with
    |none=>
     have:=hhi' rfl;subst this
     simp[hk,Instr.sliceBound,asIntOf]
     omega
    |some o'=>
     obtain⟨k',hk'⟩:=hbh o' rfl
     simp[hk,hk',Instr.sliceBound,asIntOf]
     rw[if_pos (by omega)]
     simp
     omega
  refine⟨.slice (some ⟨r,off+i*sz,none⟩) (j - i) (c - i),?_,.raw _⟩
  show(do pure (Next.value (←Instr.sliceAt T (a.eval x) (lo.map a.eval) (hi.map a.eval) none)):Sem Next).run P w=_
  simp only[Instr.sliceAt,Sem.run_bind,run_underlying hT.out,Result.andThen_ok,Instr.slice,e1,hbounds,Ea.run hE,Sem.run_pure]
  rw[if_neg (by omega)]
  simp[Dr]) k
theorem TB {T T₂ E sz by_:Nat} [hT:al P T E sz by_] {x y:Operand} {r o dn dc b o2 sn sc:Nat} {cur:Array Value} (cs:List Value) {L':List Res} (F:Res→List Res)
  (hx:ρ.ev x= .raw (.slice (some ⟨r,o,none⟩) dn dc)) (hy:ρ.ev y= .raw (.slice (some ⟨b,o2,none⟩) sn sc)) (hp:L.Perm (.raw r (.cells cur E (0,0))::L')) (hq: ∀ c,(c::L').Perm (F c))
  (hl:cs.length=Nat.min sn dn*sz) (hone: ∀ x∈cs,x.oneCell'=true) (hfit:o+cs.length≤cur.size)
  (hs: ∃ cur2 E2 fr,Res.raw b (.cells cur2 E2 fr)∈(Res.raw r (.cells cur E (0,0))::L')∧LJ cur2 o2 cs)
  (k:AU P N all K fl.tail os (CU ρ d (.raw (.int .i64 (Nat.min sn dn:Nat)))) (F (.raw r (.cells (Fa cur.toList o cs).toArray E (0,0))))) (hd:Nat.blt d N=true:=by rfl) (hfl:fl.headD true=true:=by rfl):
  AU P N all K fl (⟨some d,.call { callee:= .builtin .copy,args:= #[x,y],argTypes:= #[T,T₂] },ty,pos,af,none⟩::os) ρ L:=
 Dd rfl (Ph hd) hfl (Fk.perm hp fun a w g ha hi=>by
  have h1:=Cc ha (x:=x) (by simp[Op.operands,Call.operands]) hx
  have h2:=Cc ha (x:=y) (by simp[Op.operands,Call.operands]) hy
  obtain⟨i,z,t1,t2,t3,t4,t5,t6,t7,t8⟩:=hT.out
  obtain⟨k1,k2,k3,k4,k5⟩:=hi.rawHead
  obtain⟨cur2,E2,fr,hm,hc⟩:=hs
  have hb:=(hi.res _ hm).1
  have hload:(loadCells ⟨b,o2,none⟩ (Nat.min sn dn*sz)).run P w= .ok cs.toArray w:=by
   rw[←hl];exact FS (hc.cell hb)
  obtain⟨w',hrun,hb',hos,htp,hout,hsz,hk⟩:=FZ (P:=P) cs w cur.toList o 0 (by simpa using k1) (by simpa using hfit) hone
  have he:execOp a.eval ⟨some d,.call { callee:= .builtin .copy,args:= #[x,y],argTypes:= #[T,T₂] },ty,pos,af,none⟩=(do pure (.value (←Builtin.copy_ #[T,T₂] ty (#[x,y].map a.eval)))):=rfl
  have hr:(execOp a.eval ⟨some d,.call { callee:= .builtin .copy,args:= #[x,y],argTypes:= #[T,T₂] },ty,pos,af,none⟩).run P w= .ok (.value (.int .i64 (Nat.min sn dn:Nat))) w':=by
   rw[he]
   simp[Builtin.copy_,h1,h2,run_underlying t1,sizeOf,typeInfo,t2,t3,Builtin.lenOf,Builtin.firstCells,hload,hrun,goInt]
  rw[Dt]at hb'
  refine Oper.wq_of_run hr ?_
  exact⟨_,.raw _,g,_,rfl,.raw _,(hi.turnRaw hb' hk).perm (hq _),⟨hos,htp,hout,EF hsz.symm,fun b _ hn=>hk b (fun e=>hn (by simp[An,Res.block,e])),.refl g,fun _ _ _=>⟨fun _=>rfl,rfl⟩⟩,
   fun b hb _=>by
    have:=(DX (hq _)).symm.subset hb
    simpa [An,Res.block]using this,k⟩)
theorem oI {T T₂ E E₂ sz by_:Nat} [hT:al P T E sz by_] [h2:Ma P T₂ E₂] {x y:Operand} {v:Value} {n m b o2 sc:Nat} {us vs:List Value} {R LF:List Res} (F:List Res→List Res)
  (hx:ρ.ev x= .raw v) (hy:ρ.ev y= .raw (.slice (some ⟨b,o2,none⟩) m sc)) (hv:MY E sz v n us R) (hp:L.Perm (R++LF)) (hq: ∀ R',(R'++LF).Perm (F R'))
  (hvl:vs.length=m*sz) (hone: ∀ x∈vs,x.oneCell'=true) (hs: ∃ cur2 E2 fr,Res.raw b (.cells cur2 E2 fr)∈LF∧LJ cur2 o2 vs) (hb:(n+m)*by_≤140737488355328) (hm:n+m≤140737488355328)
  (k: ∀ v' R',MY E sz v' (n+m) (us++vs) R'→AU P N all K fl.tail os (CU ρ d (.raw v')) (F R')) (hd:Nat.blt d N=true:=by rfl) (hfl:fl.headD true=true:=by rfl):
  AU P N all K fl (⟨some d,.call { callee:= .builtin .append,args:= #[x,y],argTypes:= #[T,T₂] },ty,pos,af,none⟩::os) ρ L:=
 Dd rfl (Ph hd) hfl (Fk.perm hp fun a w g ha hi=>by
  have h1:=Cc ha (x:=x) (by simp[Op.operands,Call.operands]) hx
  have h3:=Cc ha (x:=y) (by simp[Op.operands,Call.operands]) hy
  obtain⟨cur2,E2,fr,hm2,hc⟩:=hs
  have hbk:=(hi.res _ (DW _ hm2)).1
  obtain⟨v',w',R',q1,q2,q3,q4,q5⟩:=WV (P:=P) (T:=T) (T₂:=T₂) (ty:=ty) (.inr ⟨_,h2.out⟩) (.slice (some ⟨b,o2,none⟩) m sc) vs hi hv (fun _=>rfl) hvl hone (fun w' e=>by
   show(loadCells _ (m*sz)).run P w'=_
   rw[←hvl]
   exact FS (hc.cell (e ▸ hbk))) hb hm
  refine Oper.wq_of_run (show(do pure (.value (←Builtin.append_ #[T,T₂] ty (#[x,y].map a.eval))):Sem Next).run P w= .ok (.value v') w' by
   simp only[Hx,Ar,CY,h1,h3,Sem.run_bind,q1,Result.andThen_ok,Sem.run_pure]) ?_
  exact⟨v',.raw v',g,F R',rfl,.raw _,q3.perm (hq R'),q4,fun b hb hlt=>q5 b ((DX (hq R')).symm.subset hb) hlt,k v' R' q2⟩)
theorem tT {T T₂ E sz by_:Nat} [hT:al P T E sz by_] {kk:IntKind} (h2:P.underlying T₂=some (.int .i64)) {x y:Operand} {r o n m c:Nat} {us:List Value} {cur:Array Value} {L':List Res}
  (hx:ρ.ev x= .raw (.slice (some ⟨r,o,none⟩) n c)) (hy:ρ.ev y= .raw (.int kk (m:Int))) (hm:Res.raw r (.cells cur E (0,0))∈L) (hl:L=L') (hu:us.length=n*sz) (hc:LJ cur o us) (h0:0 < m) (hn:c < n+m) (hb:(n+m)*by_≤140737488355328) (hbm:n+m≤140737488355328)
  (k: ∀ r' nc (zs:List Value),n+m≤nc→(us++zs).length=nc*sz→AU P N all K fl.tail os (CU ρ d (.raw (.slice (some ⟨r',0,none⟩) (n+m) nc))) (.raw r' (.cells (us++zs).toArray E (0,0))::L')) (hd:Nat.blt d N=true:=by rfl) (hfl:fl.headD true=true:=by rfl):
  AU P N all K fl (⟨some d,.call { callee:= .builtin .append,args:= #[x,y],argTypes:= #[T,T₂] },ty,pos,af,none⟩::os) ρ L:=
 Dd rfl (Ph hd) hfl (fun a w g ha hi=>by
  have h1:=Cc ha (x:=x) (by simp[Op.operands,Call.operands]) hx
  have h3:=Cc ha (x:=y) (by simp[Op.operands,Call.operands]) hy
  obtain⟨i,z,t1,t2,t3,t4,t5,t6,t7,t8⟩:=hT.out
  have hbk:=(hi.res _ hm).1
  have hload: ∀ w',w'.heap=w.heap→(loadCells ⟨r,o,none⟩ (n*sz)).run P w'= .ok us.toArray w':=fun w' e=>by
   rw[←hu];exact FS (hc.cell (e ▸ hbk))
  have hw:IntKind.i64.wrap (m:Int)=m:=by rw[IntKind.wrap_i64];omega
  have h63': ¬(9223372036854775807 < ((n:Int)+(m:Int))):=by omega
  have h48': ¬(281474976710656 < Builtin.nextslicecap (n+m) c*i.bytes):=by
   rw[t4]
   have:Builtin.nextslicecap (n+m) c*by_≤2*140737488355328:=by
    calc Builtin.nextslicecap (n+m) c*by_≤(2*(n+m))*by_:=B6 _ (IU hn)
     _=2*((n+m)*by_):=by rw[yW]
     _≤2*140737488355328:=K3 _ hb
   omega
  have h48i: ¬(281474976710656 < (m:Int)*(i.bytes:Int)):=by
   rw[←qt,t4]
   have:m*by_≤(n+m)*by_:=B6 _ (by omega)
   omega
  have hneg: ¬((m:Int) < 0):=by omega
  have hns: ¬(m*sz=0):=Nat.mul_ne_zero (by omega) t7
  have hle: ¬(n+m≤c):=by omega
  obtain⟨zs,hzs⟩: ∃ zs:List Value,zs=(Builtin.zeroCells z.cells m).toList++(Builtin.zeroCells z.cells (grownCap w (n+m) c E - (n+m))).toList:=⟨_,rfl⟩
  have hr:(execOp a.eval ⟨some d,.call { callee:= .builtin .append,args:= #[x,y],argTypes:= #[T,T₂] },ty,pos,af,none⟩).run P w= .ok (.value (.slice (some ⟨w.heap.size,0,none⟩) (n+m) (grownCap w (n+m) c E))) (w.drew.alloc (.cells (us++zs).toArray E (0,0))):=by
   have f1:=hload w.drew rfl
   show(do pure (.value (←Builtin.append_ #[T,T₂] ty (#[x,y].map a.eval))):Sem Next).run P w=_
   simp[Builtin.append_,h1,h3,run_underlying t1,run_underlying h2,sizeOf,typeInfo,zeroValue,t2,t3,t5,asInt,asIntOf,hw,hneg,h48i,hns,hle,h63',h48',Question.forced,Builtin.firstCells,f1,newRow,grownCap,hzs]
   congr 2
   apply QL
   simp[grownCap]
  have hge:=grownCap_ge w (n+m) c E
  have hlen:(us++zs).length=grownCap w (n+m) c E*sz:=by
   have e1: ∀ m,(Builtin.zeroCells z.cells m).toList.length=m*sz:=fun m=>by rw[Cb,size_zeroCells,t6]
   rw[hzs,AA,AA,e1,e1,hu,←C7,←C7]
   congr 1;omega
  obtain⟨j1,j2,j3⟩:=S8 (R:= []) (LF:=L) hi (.cells (us++zs).toArray E (0,0))
  refine Oper.wq_of_run hr ?_
  subst hl
  exact⟨_,.raw _,g,_,rfl,.raw _,j1,j2,j3,k _ _ zs hge hlen⟩)
theorem bQ {f:Nat} {fn:Func} {T B E sz by_:Nat} (hf:P.funcs[f]? =some fn) (hn:(fn.name== "runtime.NumGoroutine")=false) (hb:fn.body.isNone=true) (h1:Extern.findNext fn=none) (h2:Extern.find fn=some (Extern.SlicesOverlaps.overlaps #[T,T] #[B]))
  [hT:Ma P T E] [hE:Ea P E sz by_] {ats:Array TypeId} {x y:Operand} {rv o n c r o2 n2 c2 Ev Er:Nat} {cv cr:Array Value} {L':List Res} (hx:ρ.ev x= .raw (.slice (some ⟨rv,o,none⟩) n c)) (hy:ρ.ev y= .raw (.slice (some ⟨r,o2,none⟩) n2 c2))
  (hp:L.Perm (.raw rv (.cells cv Ev (0,0)):: .raw r (.cells cr Er (0,0))::L')) (hk:cr.size≠0) (k:AU P N all K fl.tail os (CU ρ d (.raw (.bool false))) L) (hd:Nat.blt d N=true:=by rfl):
  AU P N all K fl (⟨some d,.call { callee:= .value (.func f),args:= #[x,y],argTypes:=ats },ty,pos,af,none⟩::os) ρ L:=
 Bk hd (B9 fun a w g ha hi=>by
  have e1:=Cc ha (x:=x) (by simp[Op.operands,Call.operands]) hx
  have e2:=Cc ha (x:=y) (by simp[Op.operands,Call.operands]) hy
  have hi2:=hi.perm hp
  obtain⟨q1,_,_,q4,q5⟩:=hi2.rawHead
  obtain⟨p1,_⟩:=q5.rawHead
  have hne:rv≠r:=fun e=>q4 (by simp[An,Res.block,e])
  refine⟨.bool false,?_,.raw _⟩
  have he:execOp a.eval ⟨some d,.call { callee:= .value (.func f),args:= #[x,y],argTypes:=ats },ty,pos,af,none⟩=callFunc f (#[]++ #[x,y].map a.eval++ #[]):=rfl
  rw[he]
  have hcall:(callFunc f #[.slice (some ⟨rv,o,none⟩) n c,.slice (some ⟨r,o2,none⟩) n2 c2]).run P w= .ok (.value (.bool false)) w:=by
   rw[run_callFunc_extern hf hn hb h1 h2,Lib.run_overlaps_apart w T B E hT.out sz (Ea.run hE) ⟨rv,o,none⟩ ⟨r,o2,none⟩ n c n2 c2 hne Ev Er cv.size cr.size (by simp[World.shape?,q1]) (by simp[World.shape?,p1]) hk (by simp[World.frozen?,q1]) (by simp[World.frozen?,q1])]
   rfl
  simpa [e1,e2]using hcall) k
end
end Go.Q
namespace Go.Proofs
open Go Go.Q
attribute [local irreducible] ER AU BA Fk
instance nb:al Tryz.prog 23 59 37 120:=⟨by
 have h2:(Tryz.prog.info? 59).map (fun i=>(i.size,i.bytes,i.zero.isSome,(i.zero.getD undef).cells.size))=some (37,120,true,37):=by kernel_rfl
 obtain⟨i,hi,e⟩:=Bl.1 h2
 simp only[Prod.mk.injEq]at e
 obtain⟨e1,e2,e3,e4⟩:=e
 obtain⟨z,hz⟩:=Fl.1 e3
 rw[hz]at e4
 exact⟨i,z,by kernel_rfl,hi,e1,e2,hz,e4,by decide,by decide⟩⟩
instance yg:al Tryz.prog 22 59 37 120:=⟨by
 obtain⟨i,z,_,h⟩:=nb.out
 exact⟨i,z,by kernel_rfl,h⟩⟩
theorem JK {X cs:List Value} {o:Nat} (h:o+cs.length≤X.length):(Fa X o cs).length=X.length:=by
 unfold Fa
 simp only[AA,Aa,B4];omega
theorem Oh {X cs:List Value} {o:Nat} (h:o+cs.length≤X.length) (k:Nat):(Fa X o cs)[k]? =if k < o then X[k]? else if k < o+cs.length then cs[k - o]? else X[k]?:=by
 unfold Fa
 have h1:(X.take o).length=o:=by rw[Aa];omega
 by_cases a:k < o
 ·rw[if_pos a,AV,CF (by omega),Fp a]
 ·rw[if_neg a,AV,EI (by omega),h1]
  by_cases b:k < o+cs.length
  ·rw[if_pos b,CF (by omega)]
  ·rw[if_neg b,EI (by omega),Gp]
   congr 1;omega
theorem VV {us cv:List Value} {a:Nat} (h:a≤us.length) (k:Nat):(us.take a++cv++us.drop a)[k]? =if k < a then us[k]? else if k < a+cv.length then cv[k - a]? else us[k - cv.length]?:=by
 have h1:(us.take a).length=a:=by rw[Aa];omega
 by_cases b:k < a
 ·rw[if_pos b,AV,CF (by omega),Fp b]
 ·rw[if_neg b,AV,EI (by omega),h1]
  by_cases c:k < a+cv.length
  ·rw[if_pos c,CF (by omega)]
  ·rw[if_neg c,EI (by omega),Gp]
   congr 1;omega
theorem TP {us cv:List Value} {a:Nat} (h:a≤us.length):(us.take a++cv++us.drop a).length=us.length+cv.length:=by
 simp only[AA,Aa,B4];omega
theorem Zm {us cv zs:List Value} {a:Nat} (h:a≤us.length) (hz:cv.length+(us.length - a)≤zs.length):(Fa (Fa (us.take a++zs) a cv) (a+cv.length) (us.drop a)).take (us.length+cv.length)=us.take a++cv++us.drop a:=by
 have h1:(us.take a).length=a:=by rw[Aa];omega
 have hX:(us.take a++zs).length=a+zs.length:=by rw[AA,h1]
 have hB:(us.drop a).length=us.length - a:=B4
 have q1:a+cv.length≤(us.take a++zs).length:=by omega
 have q2:=JK q1
 have q3:a+cv.length+(us.drop a).length≤(Fa (us.take a++zs) a cv).length:=by omega
 refine iq fun k=>?_
 rw[VV h,Fh]
 by_cases hk:k < us.length+cv.length
 ·rw[if_pos hk,Oh q3,Oh q1]
  by_cases b:k < a
  ·rw[if_pos (by omega),if_pos b,if_pos b,CF (by omega),Fp b]
  ·rw[if_neg b,if_neg b]
   by_cases c:k < a+cv.length
   ·rw[if_pos c,if_pos c,if_pos c]
   ·rw[if_neg c,if_pos (by omega),if_neg c,Gp]
    congr 1;omega
 ·rw[if_neg hk,if_neg (by omega),if_neg (by omega),FW (by omega)]
theorem X0 {us cv X:List Value} {a:Nat} (h:a≤us.length) (hX:us.length+cv.length≤X.length) (ht:X.take us.length=us):(Fa (Fa X (a+cv.length) (us.drop a)) a cv).take (us.length+cv.length)=us.take a++cv++us.drop a:=by
 have hB:(us.drop a).length=us.length - a:=B4
 have q1:a+cv.length+(us.drop a).length≤X.length:=by omega
 have q2:=JK q1
 have q3:a+cv.length≤(Fa X (a+cv.length) (us.drop a)).length:=by omega
 refine iq fun k=>?_
 rw[VV h,Fh]
 by_cases hk:k < us.length+cv.length
 ·rw[if_pos hk,Oh q3,Oh q1]
  by_cases b:k < a
  ·rw[if_pos b,if_pos (by omega),if_pos b]
   conv=>rhs;rw[←ht]
   rw[Fp (by omega)]
  ·rw[if_neg b,if_neg b]
   by_cases c:k < a+cv.length
   ·rw[if_pos c,if_pos c]
   ·rw[if_neg c,if_neg c,if_neg c,if_pos (by omega),Gp]
    congr 1;omega
 ·rw[if_neg hk,if_neg (by omega),if_neg (by omega),FW (by omega)]
theorem Xx {cur:Array Value} {us:List Value} (h:cur.toList.take us.length=us) (a:Nat):LJ cur 0 (us.take a):=fun j hj=>by
 rw[Aa]at hj
 rw[BC,FI,←AO (by omega)]
 conv=>rhs;rw[←h]
 rw[Fp (by omega)]
theorem RF {cur:Array Value} {us:List Value} (h:cur.toList.take us.length=us) (a:Nat):LJ cur a (us.drop a):=fun j hj=>by
 rw[B4]at hj
 rw[HJ,←AO (by omega)]
 conv=>rhs;rw[←h]
 rw[Fp (by omega)]
theorem cH (v:Value) (n:Nat) (us:List Value) (R:List Res) (hv:MY 59 37 v n us R) (i:Nat) (hi:i≤n) (hn:n≤1000) (rv:Nat) (cv:Array Value) (hcv:cv.size=37) (h1v: ∀ x∈cv.toList,x.oneCell'=true) (h1u: ∀ x∈us,x.oneCell'=true):
  BA Tryz.prog 94 [.raw v,.raw (.int .i64 (i:Int)),.raw (.slice (some ⟨rv,0,none⟩) 1 1)] (R++ [.raw rv (.cells cv 59 (0,0))])
   (fun x L'=> ∃ v' R',x= .raw v'∧MY 59 37 v' (n+1) (us.take (i*37)++cv.toList++us.drop (i*37)) R'∧L'=R'++ [.raw rv (.cells cv 59 (0,0))]):=by
 refine C4 Tryz.func94 rfl Tryz.ntmps94 (rs:= [.tmp 6]) rfl rfl fun hb LF=>?_
 have hul:=hv.len
 have hcl:cv.toList.length=37:=by simpa using hcv
 have hcat:LJ cv 0 cv.toList:=fun j hj=>by rw[BC,AO hj]
 obtain⟨o,c,hvs⟩:=hv.slice
 have hnc:n≤c:=by cases hv<;>(injection hvs with _ _ e;omega)
 subst hvs
 refine wf ?_
 refine jr rfl rfl hi hnc fun u=>?_
 refine wf ?_
 refine KY rfl ?_
 refine wf ?_
 refine KY rfl ?_
 refine wf ?_
 refine A6 (fun h=>?_) (fun h=>?_)
 ·have hin:i=n:=by omega
  subst hin
  refine wf ?_
  refine oI (us:=us) (vs:=cv.toList) (R:=R) (LF:= .raw rv (.cells cv 59 (0,0))::LF) (fun R'=>R'++(.raw rv (.cells cv 59 (0,0))::LF)) rfl rfl hv (.of_eq (by simp)) (fun R'=> .refl _) (by omega) h1v ⟨cv,_,_,AG,hcat⟩ (by omega) (by omega) fun v' R' hv'=>?_
  refine wf ?_
  refine wf ?_
  refine⟨trivial,_,R'++ [.raw rv (.cells cv 59 (0,0))],.cons (.tmp 6) .nil,by rw[AV];exact .refl _,v',R',rfl,?_,rfl⟩
  rw[AF (by omega),DN (by omega),BW]
  exact hv'
 have hin:i < n:=by omega
 cases hv with
 |nil o ho=>omega
 |row hlc hs hu hc=>
 rename_i r cur
 have hc':cur.toList.take us.length=us:=by rw[hul];exact hc
 have hcs:cur.toList.length=c*37:=by simpa using hs
 have hia:i*37≤us.length:=by omega
 have htl:(us.take (i*37)).length=i*37:=by rw[Aa];omega
 have hdl:(us.drop (i*37)).length=(n - i)*37:=by rw[B4];omega
 refine wf ?_
 refine tQ rfl ?_
 refine wf ?_
 refine A6 (fun h2=>?_) (fun h2=>?_)
 ·refine wf ?_
  refine Mr 0 i rfl (by omega) (by omega) (by omega) hlc (fun _ e=>by cases e) (fun _=>rfl) (fun o e=>by cases e;exact⟨_,rfl⟩) (fun e=>by cases e) ?_
  refine wf ?_
  refine tT (T₂:=3) (us:=us.take (i*37)) (n:=i) (m:=n+1 - i) (c:=c) (o:=0) (cur:=cur) (by kernel_rfl) rfl (by show PV.raw (Value.int .i64 ((n:Int)+1 - i))=PV.raw (Value.int .i64 ((n+1 - i:Nat):Int));congr 2;omega) AG rfl htl (Xx hc' _) (by omega) (by omega) (by omega) (by omega) fun r' nc zs hnc hzl=>?_
  have e1:i+(n+1 - i)=n+1:=by omega
  rw[e1]at hnc ⊢
  have hz37:cv.toList.length+(us.length - i*37)≤zs.length:=by
   rw[AA,htl]at hzl
   have:(n+1)*37≤nc*37:=B6 _ hnc
   omega
  refine wf ?_
  refine wf ?_
  refine Mr i (n+1) rfl (by omega) hnc (by omega) hnc (fun o e=>by cases e;exact⟨_,rfl⟩) (fun e=>by cases e) (fun _ e=>by cases e) (fun _=>rfl) ?_
  refine wf ?_
  refine TB (r:=r') (cur:=(us.take (i*37)++zs).toArray) cv.toList (fun c=>c::([.raw r (.cells cur 59 (0,0))]++ [.raw rv (.cells cv 59 (0,0))]++LF)) rfl rfl (.refl _) (fun c=> .refl _) (by rw[show Nat.min 1 (n+1 - i)=1 by show min 1 (n+1 - i)=1;omega];omega) h1v (by simp only[Cg,AA,htl];omega) ⟨cv,_,_,AJ _ (AJ _ AG),hcat⟩ ?_
  rw[show 0+i*37=i*37 from BC _]
  rw[show(us.take (i*37)++zs).toArray.toList=us.take (i*37)++zs from rfl]
  refine AE ?_
  refine wn ?_
  refine BZ 8 ?_ ?_
  ·decide+kernel
  refine wf ?_
  refine Mr (i+1) (n+1) rfl (by omega) hnc (by omega) hnc (fun o e=>by cases e;exact⟨_,rfl⟩) (fun e=>by cases e) (fun _ e=>by cases e) (fun _=>rfl) ?_
  refine wf ?_
  refine Mr i n rfl (by omega) (by omega) (by omega) hlc (fun o e=>by cases e;exact⟨_,rfl⟩) (fun e=>by cases e) (fun _ e=>by cases e) (fun _=>rfl) ?_
  refine wf ?_
  have hsp:(Fa (us.take (i*37)++zs) (i*37) cv.toList).length=nc*37:=by
   rw[JK (by rw[AA,htl];omega),hzl]
  have hnz:(n+1)*37≤nc*37:=B6 _ hnc
  refine TB (r:=r') (cur:=(Fa (us.take (i*37)++zs) (i*37) cv.toList).toArray) (us.drop (i*37)) (fun c=>c::([.raw r (.cells cur 59 (0,0))]++ [.raw rv (.cells cv 59 (0,0))]++LF)) rfl rfl (.refl _) (fun c=> .refl _) (by rw[show Nat.min (n - i) (n+1 - (i+1))=n - i by show min (n - i) (n+1 - (i+1))=n - i;omega];exact hdl) (fun x hx=>h1u x (JX hx)) (by rw[Cg,hsp,hdl];omega) ⟨cur,_,_,AJ _ AG,by rw[BC];exact RF hc' _⟩ ?_
  rw[show 0+(i+1)*37=(i+1)*37 from BC _]
  rw[show(Fa (us.take (i*37)++zs) (i*37) cv.toList).toArray.toList=Fa (us.take (i*37)++zs) (i*37) cv.toList from rfl]
  refine wf ?_
  refine wf ?_
  refine⟨trivial,_,[.raw r' (.cells (Fa (Fa (us.take (i*37)++zs) (i*37) cv.toList) ((i+1)*37) (us.drop (i*37))).toArray 59 (0,0))]++ [.raw rv (.cells cv 59 (0,0))],.cons (.tmp 6) .nil,.cons_cons _ (.cons _ (.refl _)),_,_,rfl,.row hnc ?_ ?_ ?_,rfl⟩
  ·rw[Cg,JK (by rw[hsp,hdl];omega),hsp]
  ·rw[TP hia,hul];omega
  ·have e3:=Zm (us:=us) (cv:=cv.toList) (zs:=zs) hia hz37
   rw[hcl,hul,show i*37+37=(i+1)*37 by omega,show n*37+37=(n+1)*37 by omega]at e3
   exact e3
 have hroom:n+1≤c:=by omega
 have hnz:(n+1)*37≤c*37:=B6 _ hroom
 refine wf ?_
 refine Mr 0 (n+1) rfl (by omega) hroom (by omega) hlc (fun _ e=>by cases e) (fun _=>rfl) (fun o e=>by cases e;exact⟨_,rfl⟩) (fun e=>by cases e) ?_
 refine wf ?_
 refine Mr (i+1) (n+1) rfl (by omega) (by omega) (by omega) (by omega) (fun o e=>by cases e;exact⟨_,rfl⟩) (fun e=>by cases e) (fun _ e=>by cases e) (fun _=>rfl) ?_
 refine bQ (f:=156) (T:=22) (B:=4) (L':=LF) Tryz.func156 (by kernel_rfl) (by kernel_rfl) (by kernel_rfl) (by kernel_rfl) rfl rfl (.swap _ _ _) (by omega) ?_
 refine wo ?_
 refine AE ?_
 refine wn ?_
 refine BZ 8 ?_ ?_
 ·decide+kernel
 refine wf ?_
 refine Mr (i+1) (n+1) rfl (by omega) (by omega) (by omega) (by omega) (fun o e=>by cases e;exact⟨_,rfl⟩) (fun e=>by cases e) (fun _ e=>by cases e) (fun _=>rfl) ?_
 refine wf ?_
 refine Mr i (n+1) rfl (by omega) (by omega) (by omega) (by omega) (fun o e=>by cases e;exact⟨_,rfl⟩) (fun e=>by cases e) (fun _ e=>by cases e) (fun _=>rfl) ?_
 refine wf ?_
 refine TB (r:=r) (cur:=cur) (us.drop (i*37)) (fun c=>c::([.raw rv (.cells cv 59 (0,0))]++LF)) rfl rfl (.refl _) (fun c=> .refl _) (by rw[hdl];congr 1;show n - i=min _ _;omega) (fun x hx=>h1u x (JX hx)) (by rw[hs,hdl];omega) ⟨cur,_,_,AG,by rw[show 0+0*37+i*37=i*37 by omega];exact RF hc' _⟩ ?_
 rw[show 0+0*37+(i+1)*37=(i+1)*37 by omega]
 have hsp:(Fa cur.toList ((i+1)*37) (us.drop (i*37))).length=c*37:=by
  rw[JK (by rw[hcs,hdl];omega),hcs]
 refine AE ?_
 refine wf ?_
 refine Mr i (n+1) rfl (by omega) (by omega) (by omega) (by omega) (fun o e=>by cases e;exact⟨_,rfl⟩) (fun e=>by cases e) (fun _ e=>by cases e) (fun _=>rfl) ?_
 refine wf ?_
 refine TB (r:=r) (cur:=(Fa cur.toList ((i+1)*37) (us.drop (i*37))).toArray) cv.toList (fun c=>c::([.raw rv (.cells cv 59 (0,0))]++LF)) rfl rfl (.refl _) (fun c=> .refl _) (by rw[hcl];show 37=min 1 _*37;omega) h1v (by rw[Cg,hsp,hcl];omega) ⟨cv,_,_,AJ _ AG,hcat⟩ ?_
 rw[show 0+0*37+i*37=i*37 by omega,show(Fa cur.toList ((i+1)*37) (us.drop (i*37))).toArray.toList=Fa cur.toList ((i+1)*37) (us.drop (i*37)) from rfl]
 refine AE ?_
 refine wf ?_
 refine⟨trivial,_,[.raw r (.cells (Fa (Fa cur.toList ((i+1)*37) (us.drop (i*37))) (i*37) cv.toList).toArray 59 (0,0))]++ [.raw rv (.cells cv 59 (0,0))],.cons (.tmp 6) .nil,.refl _,_,_,rfl,.row hroom ?_ ?_ ?_,rfl⟩
 ·rw[Cg,JK (by rw[hsp,hcl];omega),hsp,il]
 ·rw[TP hia,hul];omega
 ·have e3:=X0 (us:=us) (cv:=cv.toList) (X:=cur.toList) hia (by omega) hc'
  rw[hcl,hul,show i*37+37=(i+1)*37 by omega,show n*37+37=(n+1)*37 by omega]at e3
  exact e3
end Go.Proofs
namespace Go.Q
open Go
section
variable {P:Program} {N:Nat} {all:Array Oper} {K:Env→List Res→Prop} {fl:List Bool} {os:List Oper} {ρ:Env} {L:List Res} {d:Nat} {ty:TypeId} {pos:String} {af:Array Edge}
theorem Vh {T E sz by_:Nat} [hT:al P T E sz by_] {x0:Operand} {cs:List PV} (hc:Dn (ρ.ev x0) cs) (hl:cs.length=sz) (h24:sz≤16777216)
  (k: ∀ b,AU P N all K fl.tail os (CU ρ d (.raw (.slice (some ⟨b,0,none⟩) 1 1))) (.box b E cs::L)) (hd:Nat.blt d N=true:=by rfl) (hfl:fl.headD true=true:=by rfl):AU P N all K fl (⟨some d,.buildSlice T 1 #[(0,x0)],ty,pos,af,none⟩::os) ρ L:=
 Dd rfl (Ph hd) hfl (fun a w g ha hi=>by
  obtain⟨i,z,t1,t2,t3,t4,t5,t6,t7,t8⟩:=hT.out
  obtain⟨us,e1,e2⟩:=hc g _ (ha x0 (by simp[Op.operands]))
  have hul:us.length=sz:=by rw[e2.len,hl]
  have hr:(execOp a.eval ⟨some d,.buildSlice T 1 #[(0,x0)],ty,pos,af,none⟩).run P w= .ok (.value (.slice (some ⟨w.heap.size,0,none⟩) 1 1)) { w with heap:=w.heap.push (.cells us.toArray E (0,0)) }:=by
   have hz: ∀ (zz:Array Value),Instr.fill (fun i=>some (i*sz,sz)) ((Array.range (1*sz)).map (zz[·% zz.size]!)) [(0,a.eval x0)]=some us.toArray:=fun zz=>by
    have e:(Array.range (1*sz)).map (zz[·% zz.size]!)=((List.range (1*sz)).map (zz[·% zz.size]!)).toArray:=by
     apply QL;simp
    have:=OH (sz:=sz) [us] [a.eval x0] 0 ((List.range (1*sz)).map (zz[·% zz.size]!)) rfl (fun i h1 h2=>by
     have h0:i=0:=by simp at h1;omega
     subst h0
     exact⟨e1,hul⟩) (by simp)
    rw[e]
    simpa using this
   show(do pure (Next.value (←Instr.buildSlice T 1 (#[(0,x0)].map fun(p:Nat × Operand)=>(p.1,a.eval p.2)))):Sem Next).run P w=_
   simp only[Instr.buildSlice,Sem.run_bind,run_underlying t1,Result.andThen_ok,sizeOf,typeInfo,run_program,t2,Sem.run_pure,t3]
   rw[if_neg (by have:(2:Nat) ^ 24=16777216:=by decide
                 omega)]
   have hzv:(zeroValue E).run P w= .ok z w:=by simp[zeroValue,typeInfo,t2,t5]
   split
   ·simp only[Sem.run_bind,Sem.run_pure,Result.andThen_ok,Hx,Ar,CY,hz #[],newRow,run_newObj]
   ·simp only[Sem.run_bind,hzv,Sem.run_pure,Result.andThen_ok,Hx,Ar,CY,hz z.cells,newRow,run_newObj]
  obtain⟨j1,j2,j3⟩:=hi.alloc e2 E
  refine Oper.wq_of_run hr ?_
  exact⟨_,.raw _,g,_,rfl,.raw _,j1,j2,j3,k _⟩)
end
end Go.Q
namespace Go.Proofs
open Go Go.Q
attribute [local irreducible] ER AU BA Fk
theorem SH (l:List Sto) (t:CC) (hl:l.length≤1000000):BA Tryz.prog 95 [.slice (l.map eSto) t] [] (fun r L'=> ∃ v,r= .raw v∧Ht 59 37 v (l.map eSto) L'):=by
 refine C4 Tryz.func95 rfl Tryz.ntmps95 (rs:= [.tmp 2]) rfl rfl fun hb LF=>?_
 rw[BB]
 refine wf ?_
 refine df rfl fun b hnil=>?_
 refine wf ?_
 refine AW (fun h=>?_) (fun h=>?_)
 ·have h0:l= []:=by simpa using hnil h
  subst h0
  refine DZ ?_
  refine CK (by kernel_rfl) ?_
  refine Lr ?_
  refine AE ?_
  refine wf ?_
  exact⟨trivial,_,[],.cons (.tmp 2) .nil,.refl _,_,rfl,.nil none (by simp)⟩
 refine HQ ?_
 refine DZ ?_
 refine CK (by kernel_rfl) ?_
 refine dm (vf:=fun(_:Sto)=> []) fun v0 hv0=>?_
 have hv1:Ht 59 37 v0 [] []:=by
  generalize hR:([]:List Res)=R at hv0
  generalize hn:([]:List Sto).length=n at hv0
  unfold K2 at hv0
  rw[hn]at hv0
  cases hv0 with
  |nil o ho=>exact .nil o ho
  |row _ _ _ _=>cases hR
 refine wf ?_
 refine kC (f:=eSto) (R:= []) (LF:=LF) (fun R'=>R'++LF) rfl rfl hv1 (.refl _) (fun R'=> .refl _) (by simp only[Af];omega) (by simp only[Af];omega) fun v R' hv=>?_
 refine wf ?_
 refine wf ?_
 rw[BB]at hv
 exact⟨trivial,_,R',.cons (.tmp 2) .nil,.refl _,v,rfl,hv⟩
theorem gu {α:Type} {f:α→List PV} {sz:Nat} [hf:NS f sz] (l:List α) (i:Nat) (hi:i≤l.length):(l.map f).flatten.take (i*sz)=((l.take i).map f).flatten∧(l.map f).flatten.drop (i*sz)=((l.drop i).map f).flatten:=by
 have e:(l.map f).flatten=((l.take i).map f).flatten++((l.drop i).map f).flatten:=by
  rw[←CG,←Aq,Bf]
 have hlen:((l.take i).map f).flatten.length=i*sz:=by
  rw[Dh (sz:=sz) (fun e he=>by obtain⟨a,_,rfl⟩:=AQ.1 he;exact hf.out a),AR,Aa,DP hi]
 rw[e]
 exact⟨GL hlen,qs hlen⟩
theorem UJ (v:Value) (l:List Sto) (R:List Res) (hv:Ht 59 37 v (l.map eSto) R) (i:Nat) (hi:i≤l.length) (hn:l.length≤1000) (rv:Nat) (x:Sto):
  BA Tryz.prog 94 [.raw v,.raw (.int .i64 (i:Int)),.raw (.slice (some ⟨rv,0,none⟩) 1 1)] (R++ [.box rv 59 (eSto x)])
   (fun r L'=> ∃ v' R',r= .raw v'∧Ht 59 37 v' ((l.take i++x::l.drop i).map eSto) R'∧L'=R'++ [.box rv 59 (eSto x)]):=by
 have hfl: ∀ (m:List Sto),KJ (m.map eSto).flatten:=fun m c hc=>by
  obtain⟨e,he,hce⟩:=EB.1 hc
  obtain⟨a,_,rfl⟩:=AQ.1 he
  exact(inferInstance:K8 eSto).out a c hce
 unfold BA
 intro vs w g LF hvv hI
 have hI1:Dv w g (R++([.box rv 59 (eSto x)]++LF)):=by rw[←AV];exact hI
 obtain⟨us,R₁,q1,q2,q3,q4⟩:=hv.open hI1
 have hI2:Dv w g (.box rv 59 (eSto x)::(R₁++LF)):=q3.perm Bb
 obtain⟨uv,p1,p2⟩:=Dv.boxRaw hI2
 have hI3:Dv w g ((R₁++ [.raw rv (.cells uv.toArray 59 (0,0))])++LF):=p2.perm (by rw[AV];exact Bb.symm)
 rw[AR]at q2
 have huv:uv.length=37:=by rw[p1.len];exact(inferInstance:NS eSto 37).out x
 have hbl1:An (R₁++ [.raw rv (.cells uv.toArray 59 (0,0))]++LF)=An (R++ [.box rv 59 (eSto x)]++LF):=by
  simp only[An,Dp]at q4 ⊢
  rw[q4];rfl
 have key:=cH v l.length us R₁ q2 i hi hn rv uv.toArray (by simpa using huv) (by simpa using p1.one (fun c hc=>(inferInstance:K8 eSto).out x c hc)) (q1.one (hfl l))
 unfold BA at key
 refine(key vs w g LF hvv hI3).mono ?_
 rintro e w' ⟨v',x',g',L',rfl,k2,k3,k4,k5,v2,R',rfl,k6,rfl⟩
 have k3':Dv w' g' (.raw rv (.cells uv.toArray 59 (0,0))::(R'++LF)):=k3.perm (by rw[AV];exact Bb)
 have k7:Dv w' g' (.box rv 59 (eSto x)::(R'++LF)):=Dv.rawBox k3' (by simpa using p1.mono k4.le)
 have k8:Dv w' g' (R'++([.box rv 59 (eSto x)]++LF)):=k7.perm Bb.symm
 obtain⟨f1,f2⟩:=gu (f:=eSto) (sz:=37) l i hi
 have hus:ED g' (us.take (i*37)++uv++us.drop (i*37)) ((l.take i++x::l.drop i).map eSto).flatten:=by
  have h1:=(q1.mono k4.le).take (i*37)
  have h2:=(q1.mono k4.le).drop (i*37)
  rw[f1]at h1
  rw[f2]at h2
  rw[Aq,Ar,CG,Ch,←AV]
  exact(h1.append (p1.mono k4.le)).append h2
 have hln:((l.take i++x::l.drop i).map eSto).length=l.length+1:=by
  simp only[AR,AA,Aa,AL,B4];omega
 obtain⟨R2,z1,z2,z3⟩:=Ht.close (xs:=(l.take i++x::l.drop i).map eSto) hln (fun e he=>by obtain⟨a,_,rfl⟩:=AQ.1 he;exact(inferInstance:NS eSto 37).out a) k6 hus k8
 have hbl2:An (R2++ [.box rv 59 (eSto x)]++LF)=An (R'++ [.raw rv (.cells uv.toArray 59 (0,0))]++LF):=by
  simp only[An,Dp]at z3 ⊢
  rw[z3];rfl
 refine⟨v',.raw v2,g',R2++ [.box rv 59 (eSto x)],rfl,k2,by rw[AV];exact z2,hbl1 ▸ k4,fun b hb hlt=>?_,v2,R2,rfl,z1,rfl⟩
 rw[hbl2]at hb
 rw[←hbl1]
 exact k5 b hb hlt
theorem cK (F:Nat) (cs:List PV) (p:Dig→Bool) (LR:List Res) [hF:B2 Tryz.prog F] (hp: ∀ d,BA Tryz.prog F (.agg (eDig d)::cs) LR (fun r L'=>r= .raw (.bool (p d))∧L'=LR)) (l:List Dig) (t:CC):
  BA Tryz.prog 109 [.slice (l.map eDig) t,.clo F cs] LR (fun r L'=>r= .raw (.int .i64 (FG p l))∧L'=LR):=by
 refine C4 Tryz.func109 rfl Tryz.ntmps109 (rs:= [.tmp 4]) rfl rfl fun hb LF=>?_
 have hlen:l.length≤140737488355328:=(hb (.slice (l.map eDig) t) (by simp)).slice_map
 refine wf ?_
 refine Ab (σ:=Nat) (fun k=>k≤l.length∧(l.take k).any p=false) (fun k=>l.length - k) (fun k=> [(0,.slice (l.map eDig) t),(1,.clo F cs),(7,.raw (.int .i64 l.length)),(8,.raw (.int .i64 k))]) (fun _=>LR++LF) 0 ⟨by simp,by simp⟩ ⟨rfl,rfl,rfl,rfl⟩ (.refl _) ?_
 rintro k ⟨hk,hn⟩
 refine wf ?_
 refine A6 (fun hc=>?_) (fun hc=>?_)
 ·have hlt:k < l.length:=by omega
  refine wf ?_
  refine CQ (xs:= [.tmp 15]) LR LF (f:=F) (cs:=cs) (.refl _) rfl rfl (.refl _) _ (hp l[k]) fun r L' ⟨e1,e2⟩=>?_
  subst e1 e2
  refine wf ?_
  refine wf ?_
  refine AW (fun h=>?_) (fun h=>?_)
  ·refine wf ?_
   have e:l.any p=true:=Bw.2 ⟨l[k],AB hlt,h⟩
   exact⟨trivial,_,_,.cons (.tmp 4) .nil,.refl _,by rw[FG,if_pos e,IM hlt hn h];rfl,rfl⟩
  ·refine wf ?_
   refine⟨k+1,⟨by omega,?_⟩,by dsimp only;omega,⟨rfl,rfl,rfl,rfl⟩,.refl _⟩
   rw[A7 hlt,Ei,hn]
   simp[h]
 ·refine wf ?_
  rw[AF (by omega)]at hn
  exact⟨trivial,_,_,.cons (.tmp 4) .nil,.refl _,by rw[FG,if_neg (by simp[hn])];rfl,rfl⟩
theorem VI (F:Nat) (cs:List PV) (p:Dig→Bool) (LR:List Res) [hF:B2 Tryz.prog F] (hp: ∀ d,BA Tryz.prog F (.agg (eDig d)::cs) LR (fun r L'=>r= .raw (.bool (p d))∧L'=LR)) (l:List Dig) (t:CC):
  BA Tryz.prog 47 [.slice (l.map eDig) t,.clo F cs] LR (fun r L'=>r= .raw (.bool (l.any p))∧L'=LR):=by
 refine C4 Tryz.func47 rfl Tryz.ntmps47 (rs:= [.tmp 4]) rfl rfl fun hb LF=>?_
 refine wf ?_
 refine CQ (xs:= [.tmp 5,.tmp 6]) LR LF (f:=109) (cs:= []) (C5 _) rfl rfl (.refl _) _ (cK F cs p LR hp l t) fun r L' ⟨e1,e2⟩=>?_
 subst e1 e2
 refine wf ?_
 refine wf ?_
 refine⟨trivial,_,_,.cons (.tmp 4) .nil,.refl _,?_,rfl⟩
 show PV.raw (.bool (decide (0≤FG p l)))=_
 cases h:l.any p<;>simp[FG,h]
theorem cJ (F:Nat) (cs:List PV) (p:Sto→Bool) (LR:List Res) [hF:B2 Tryz.prog F] (hp: ∀ d,BA Tryz.prog F (.agg (eSto d)::cs) LR (fun r L'=>r= .raw (.bool (p d))∧L'=LR)) (l:List Sto) (t:CC):
  BA Tryz.prog 51 [.slice (l.map eSto) t,.clo F cs] LR (fun r L'=>r= .raw (.int .i64 (FG p l))∧L'=LR):=by
 refine C4 Tryz.func51 rfl Tryz.ntmps51 (rs:= [.tmp 4]) rfl rfl fun hb LF=>?_
 have hlen:l.length≤140737488355328:=(hb (.slice (l.map eSto) t) (by simp)).slice_map
 refine wf ?_
 refine Ab (σ:=Nat) (fun k=>k≤l.length∧(l.take k).any p=false) (fun k=>l.length - k) (fun k=> [(0,.slice (l.map eSto) t),(1,.clo F cs),(7,.raw (.int .i64 l.length)),(8,.raw (.int .i64 k))]) (fun _=>LR++LF) 0 ⟨by simp,by simp⟩ ⟨rfl,rfl,rfl,rfl⟩ (.refl _) ?_
 rintro k ⟨hk,hn⟩
 refine wf ?_
 refine A6 (fun hc=>?_) (fun hc=>?_)
 ·have hlt:k < l.length:=by omega
  refine wf ?_
  refine CQ (xs:= [.tmp 15]) LR LF (f:=F) (cs:=cs) (.refl _) rfl rfl (.refl _) _ (hp l[k]) fun r L' ⟨e1,e2⟩=>?_
  subst e1 e2
  refine wf ?_
  refine wf ?_
  refine AW (fun h=>?_) (fun h=>?_)
  ·refine wf ?_
   have e:l.any p=true:=Bw.2 ⟨l[k],AB hlt,h⟩
   exact⟨trivial,_,_,.cons (.tmp 4) .nil,.refl _,by rw[FG,if_pos e,IM hlt hn h];rfl,rfl⟩
  ·refine wf ?_
   refine⟨k+1,⟨by omega,?_⟩,by dsimp only;omega,⟨rfl,rfl,rfl,rfl⟩,.refl _⟩
   rw[A7 hlt,Ei,hn]
   simp[h]
 ·refine wf ?_
  rw[AF (by omega)]at hn
  exact⟨trivial,_,_,.cons (.tmp 4) .nil,.refl _,by rw[FG,if_neg (by simp[hn])];rfl,rfl⟩
theorem Zj {α:Type} (p:α→Bool) (l:List α) (x:α):FG p (l++ [x])=if l.any p=true then FG p l else if p x=true then(l.length:Int)else -1:=by
 unfold FG
 rw[Ei,List.findIdx_append]
 by_cases h:l.any p=true
 ·have h2:l.findIdx p < l.length:=Ic.2 (Bw.1 h)
  rw[if_pos h,if_pos h,if_pos h2,if_pos (by simp[h])]
 ·have h2: ¬l.findIdx p < l.length:=fun h'=>h (Bw.2 (Ic.1 h'))
  rw[if_neg h,if_neg h2]
  cases hx:p x with
  |true=>simp[h,hx]
  |false=>simp[h,hx]
def Ng (out:List Dig) (x:Sto):Bool:=decide (¬x.id∈out∧DI out (B7 x.patch)=true)
theorem Q7 {α:Type} (p:α→Bool) (l:List α): -1≤FG p l∧FG p l < l.length∧(l.any p=true→0≤FG p l):=by
 unfold FG
 by_cases h:l.any p=true
 ·rw[if_pos h]
  have:=Ic.2 (Bw.1 h)
  exact⟨by omega,by omega,fun _=>by omega⟩
 ·rw[if_neg h]
  exact⟨by omega,by omega,fun h'=>absurd h' h⟩
theorem SS {s:List Sto} (h:HB (ids s)) (out:List Dig):L6 s out=FG (Ng out) s:=by
 have key: ∀ n,n≤s.length→(List.range n).foldl (Gk s out) (-1)=FG (Ng out) (s.take n):=fun n=>by
  induction n with
  |zero=>intro _;rfl
  |succ n ih=>
   intro hn
   have hlt:n < s.length:=by omega
   have e0:s.getD n Sto.zero=s[n]:=by simp[List.getD,hlt]
   rw[Bt,ih (by omega),A7 hlt,Zj,Gk,e0]
   obtain⟨r1,r2,r3⟩:=Q7 (Ng out) (s.take n)
   rw[Aa]at r2
   by_cases ha:(s.take n).any (Ng out)=true
   ·have r3:=r3 ha
    generalize FG (Ng out) (s.take n)=k at*
    rw[if_pos ha,if_neg]
    rintro⟨_,h2⟩
    rcases h2 with h2|h2
    ·omega
    ·have hk:k.toNat < s.length:=by omega
     have e1:s.getD k.toNat Sto.zero=s[k.toNat]:=by simp[List.getD,hk]
     rw[e1]at h2
     have:=Ax.1 h k.toNat n (by simpa [ids]using hk) (by simpa [ids]using hlt) (by omega)
     simp only[ids,BK]at this
     exact Dig.lt_asymm this h2
   ·have hk:FG (Ng out) (s.take n)= -1:=by unfold FG;rw[if_neg ha]
    rw[if_neg ha,hk]
    by_cases he: ¬s[n].id∈out∧DI out (B7 s[n].patch)=true
    ·rw[if_pos ⟨he,.inl (by omega)⟩,if_pos (by simpa [Ng]using he),Aa,DP (by omega)]
    ·rw[if_neg (fun h'=>he h'.1),if_neg (by simpa [Ng]using he)]
 have:=key s.length (Ak _)
 rwa [EA]at this
theorem pV {s:List Sto} (h:HB (ids s)) {x:Sto} (hx:x∈s):CB x.id (gr s)=some (B7 x.patch):=by
 have key: ∀ n,n≤s.length→ ∀ i (hi:i < s.length),i < n→CB s[i].id (gr (s.take n))=some (B7 s[i].patch):=fun n=>by
  induction n with
  |zero=>intro _ i _ h';omega
  |succ n ih=>
   intro hn i hi hin
   have hlt:n < s.length:=by omega
   rw[eP hlt,GA]
   by_cases e:i=n
   ·subst e;rw[if_pos rfl]
   ·have hp:=Ax.1 h i n (by simpa [ids]using hi) (by simpa [ids]using hlt) (by omega)
    simp only[ids,BK]at hp
    rw[if_neg (fun e'=>Dig.lt_irrefl _ (e' ▸ hp))]
    exact ih (by omega) i hi (by omega)
 obtain⟨i,hi,rfl⟩:=AY.1 hx
 have:=key s.length (Ak _) i hi hi
 rwa [EA]at this
theorem bq (m:Nat) (done:List (Dig × Bool)) (d:Dig):BA Tryz.prog 80 [.agg (eDig d),.pt [.raw (.map (some m))] 0] [.map m (BO kDig vBool done)] (fun r L'=>r= .raw (.bool (!(CB d done).getD false))∧L'= [.map m (BO kDig vBool done)]):=by
 refine C4 Tryz.func80 rfl Tryz.ntmps80 (rs:= [.tmp 3]) rfl rfl fun hb LF=>?_
 refine wf ?_
 exact⟨trivial,_,_,.cons (.tmp 3) .nil,.refl _,rfl,rfl⟩
def Ue (G:List (Dig × List Dig)) (done:List (Dig × Bool)) (x:Sto):Bool:=!(CB x.id done).getD false&&!(((CB x.id G).getD []).any fun d=>!(CB d done).getD false)
theorem fx (m:Nat) (G:List (Dig × List Dig)) (done:List (Dig × Bool)) (x:Sto):BA Tryz.prog 79 [.agg (eSto x),.pt [.raw (.map (some m))] 0,.pt [.fmap (BO kDig (JJ eDig) G)] 0] [.map m (BO kDig vBool done)] (fun r L'=>r= .raw (.bool (Ue G done x))∧L'= [.map m (BO kDig vBool done)]):=by
 refine C4 Tryz.func79 rfl Tryz.ntmps79 (rs:= [.tmp 4]) rfl rfl fun hb LF=>?_
 refine wf ?_
 refine Ay (fun hp=>?_) (fun hp=>?_)
 ·have h0:(CB x.id done).getD false=false:=by simpa using hp
  refine wf ?_
  refine CQ (xs:= [.tmp 14,.tmp 15]) [.map m (BO kDig vBool done)] LF (f:=47) (cs:= []) (C5 _) rfl rfl (.refl _) _ (VI 80 [.pt [.raw (.map (some m))] 0] (fun d=>!(CB d done).getD false) [.map m (BO kDig vBool done)] (bq m done) ((CB x.id G).getD []) .ro) fun r L' ⟨e1,e2⟩=>?_
  subst e1 e2
  refine wf ?_
  refine wf ?_
  exact⟨trivial,_,_,.cons (.tmp 4) .nil,.refl _,by rw[Ue,h0];rfl,rfl⟩
 ·have h0:(CB x.id done).getD false=true:=by simpa using hp
  refine wf ?_
  exact⟨trivial,_,_,.cons (.tmp 4) .nil,.refl _,by rw[Ue,h0];rfl,rfl⟩
theorem cN {α:Type} {p q:α→Bool}: ∀ {l:List α},(∀ x∈l,p x=q x)→FG p l=FG q l:=fun {l} h=>by
 have h1:l.any p=l.any q:=by
  rw[Iu,Bw,Bw]
  exact⟨fun⟨x,hx,e⟩=>⟨x,hx,(h x hx) ▸ e⟩,fun⟨x,hx,e⟩=>⟨x,hx,(h x hx).symm ▸ e⟩⟩
 have h2:l.findIdx p=l.findIdx q:=by
  clear h1
  induction l with
  |nil=>rfl
  |cons x l ih=>
   rw[JB,JB,h x (by simp),ih fun y hy=>h y (AJ _ hy)]
 unfold FG
 rw[h1,h2]
theorem qE {s:List Sto} (h:HB (ids s)) {done:List (Dig × Bool)} {out:List Dig} (hm:Wc done out) {x:Sto} (hx:x∈s):Ue (gr s) done x=Ng out x:=by
 unfold Ue Ng
 rw[hm x.id,pV h hx,Bj]
 have e:((B7 x.patch).any fun d=>!(CB d done).getD false)=!DI out (B7 x.patch):=by
  rw[DI,zX]
  congr 1
  funext d
  rw[hm d]
 rw[e,Bool.not_not]
 by_cases h1:x.id∈out<;>simp[h1]
theorem Rs (s:List Sto) (t:CC) (hg:Gw s) (ha:HB (ids s)):C8 Tryz.prog 28 [.slice (s.map eSto) t] (.slice ((CT s).map eDig) .ro):=⟨by
 have h8:=hg.1
 have i1:B0 (Gw s):=⟨hg⟩
 refine Av Tryz.func28 Tryz.ntmps28 rfl (rs:= [.tmp 2]) rfl rfl fun hb LF=>?_
 refine wf ?_
 refine Bx fun b3=>?_
 refine wo ?_
 refine AE ?_
 refine Al 3 ?_
 refine wf ?_
 refine KN fun m=>?_
 refine wf ?_
 refine Bx fun b4=>?_
 refine wo ?_
 refine AE ?_
 refine Al 4 ?_
 refine wf ?_
 refine EO 32 ?_
 refine E3 (.swap _ _ _) ?_
 refine Ab (σ:=Nat × List Dig × CC × List (Dig × Bool)) (fun k=>k.1≤s.length∧k.2.1.length=k.1∧Wc k.2.2.2 k.2.1∧CT s=O4 s (s.length - k.1) k.2.1) (fun k=>s.length - k.1) (fun k=> [(0,.slice (s.map eSto) t),(3,.pt [.fmap (BO kDig (JJ eDig) (gr s))] 0),(4,.pt [.raw (.map (some m))] 0),(5,.slice (k.2.1.map eDig) k.2.2.1),(11,.raw (.int .i64 s.length)),(12,.raw (.int .i64 k.1))]) (fun k=> .map m (BO kDig vBool k.2.2.2):: .tok k.2.2.1 k.2.1.length 32::LF) (0,[],.nil,[]) ⟨by simp,rfl,fun d=>by simp[CB],rfl⟩ ⟨rfl,rfl,rfl,rfl,rfl,rfl⟩ (.refl _) ?_
 rintro⟨k,out,u,done⟩ ⟨hk,hol,hmo,hro⟩
 dsimp only at hk hol hmo hro ⊢
 refine wf ?_
 refine A6 (fun hc=>?_) (fun hc=>?_)
 ·have hlt:k < s.length:=by omega
  have hpk:FG (Ue (gr s) done) s=L6 s out:=by rw[SS ha,cN fun x hx=>qE ha hmo hx]
  have hrs:O4 s (s.length - k) out=if L6 s out < 0 then out else O4 s (s.length - (k+1)) (out++ [(s.getD (L6 s out).toNat Sto.zero).id]):=by
   rw[show s.length - k=(s.length - (k+1))+1 by omega,O4]
  have hrr:=LQ (s:=s) (out:=out) s.length
  change -1≤L6 s out∧L6 s out < s.length at hrr
  refine wf ?_
  refine CQ (xs:= [.tmp 14,.tmp 15]) [.map m (BO kDig vBool done)] (.tok u out.length 32::LF) (f:=51) (cs:= []) (C5 _) rfl rfl (.refl _) _ (cJ 79 [.pt [.raw (.map (some m))] 0,.pt [.fmap (BO kDig (JJ eDig) (gr s))] 0] (Ue (gr s) done) [.map m (BO kDig vBool done)] (fx m (gr s) done) s t) fun r L' ⟨e1,e2⟩=>?_
  subst e1 e2
  rw[hpk,B3,BB]
  generalize hpp:L6 s out=i at hrr hrs ⊢
  refine wf ?_
  refine wf ?_
  refine A6 (fun hi=>?_) (fun hi=>?_)
  ·refine wf ?_
   refine B1 (.ros ?_)
   rw[hro,hrs,if_pos (by omega)]
  ·obtain⟨j,rfl⟩: ∃ j:Nat,i=(j:Int):=⟨i.toNat,by omega⟩
   have hj:j < s.length:=by omega
   rw[if_neg hi,Dz,show s.getD j Sto.zero=s[j] by simp[List.getD,hj]]at hrs
   refine wn ?_
   refine BZ 6 ?_ ?_
   ·decide+kernel
   refine wf ?_
   refine dR fun u'=>?_
   refine⟨(k+1,out++ [s[j].id],u',DD s[j].id true done),⟨by dsimp only;omega,by dsimp only;rw[AA,hol];rfl,hmo.add _,by dsimp only;rw[hro,hrs]⟩,by dsimp only;omega,⟨rfl,rfl,rfl,rfl,rfl,rfl⟩,.refl _⟩
 ·have hkk:k=s.length:=by omega
  refine wf ?_
  refine B1 (.ros ?_)
  rw[hro,show s.length - k=0 by omega,O4]⟩
end Go.Proofs
namespace Go.Proofs
open Go Go.Q
structure SN (s:List Sto) (r:Dig→Nat):Prop where
 asc:HB (ids s)
 close: ∀ x∈s,∀ d∈B7 x.patch,d∈ids s
 rank: ∀ x∈s,∀ d∈B7 x.patch,r d < r x.id
theorem SN.pick {s:List Sto} {r:Dig→Nat} (h:SN s r) {out:List Dig} (hlt:out.length < s.length):0≤L6 s out:=by
 rw[SS h.asc]
 refine(Q7 (Ng out) s).2.2 ?_
 have hmiss: ∃ x∈s,x.id∉out:=Cd fun hn=>by
  have hall: ∀ d∈ids s,d∈out:=fun d hd=>by
   obtain⟨x,hx,rfl⟩:=AQ.1 hd
   exact Cd fun h'=>hn ⟨x,hx,h'⟩
  have:=El h.asc.nodup (m:=out) hall
  rw[Hj]at this;omega
 have key: ∀ n,∀ x∈s,x.id∉out→r x.id=n→ ∃ y∈s,Ng out y=true:=fun n=>by
  induction n using Nat.strongRecOn with
  |_ n ih=>
   intro x hx hxo hn
   by_cases ha: ∀ d∈B7 x.patch,d∈out
   ·exact⟨x,hx,BF ⟨hxo,Bc.2 fun d hd=>BF (ha d hd)⟩⟩
   ·obtain⟨d,hd,hdo⟩: ∃ d∈B7 x.patch,d∉out:=Cd fun hn=>ha fun d hd=>Cd fun h'=>hn ⟨d,hd,h'⟩
    obtain⟨y,hy,rfl⟩:=AQ.1 (h.close x hx d hd)
    exact ih (r y.id) (hn ▸ h.rank x hx _ hd) y hy hdo rfl
 obtain⟨x,hx,hxo⟩:=hmiss
 obtain⟨y,hy,he⟩:=key _ x hx hxo rfl
 exact Bw.2 ⟨y,hy,he⟩
theorem SN.order {s:List Sto} {r:Dig→Nat} (h:SN s r):(CT s).length=s.length:=by
 have key: ∀ n out,out.length+n=s.length→(O4 s n out).length=s.length:=fun n=>by
  induction n with
  |zero=>intro out ho;rw[O4];omega
  |succ n ih=>
   intro out ho
   have hp:=h.pick (out:=out) (by omega)
   rw[O4,if_neg (by omega)]
   exact ih _ (by rw[AA,Au];omega)
 exact key _ [] (by simp)
theorem Ui {s:List Sto} (v:BP s):KH s=0:=by
 have h8:=v.close.1.1
 have h1:Aw (FE s) (List.range s.length)=0:=DK fun i hi=>by
  have hi':i < s.length:=by simpa using hi
  have e0:s.getD i Sto.zero=s[i]:=by simp[List.getD,hi']
  obtain⟨a1,a2⟩:=v.id s[i] (AB hi')
  rw[dN,FE,e0,if_neg (by simp[a1]),if_neg (by simp[a2]),if_neg]
  rintro⟨h1,h2⟩
  have hi0:0 < i:=by omega
  have e1:s.getD (i - 1) Sto.zero=s[i - 1]'(by omega):=by
   have h':i - 1 < s.length:=by omega
   simp[List.getD,h']
  have hp:=Ax.1 v.asc (i - 1) i (by simp[ids];omega) (by simpa [ids]using hi') (by omega)
  simp only[ids,BK]at hp
  rw[e1,a2]at h2
  have hp:Ec (s[i - 1]'(by omega)).id s[i].id < 0:=hp
  omega
 have h2:s.all (fun x=>DI (ids s) (B7 x.patch))=true:=Bc.2 fun x hx=>Bc.2 fun d hd=>BF (v.close.2 x hx d hd)
 have h3:=v.order
 unfold KH
 rw[if_neg (by omega),if_neg (by simp[h1]),if_neg (by simp[h2]),if_neg (by omega)]
 exact DK fun i hi=>v.refs _ (AB hi)
theorem JV {s:List Sto} {C:List Dig} {x:Sto}:x∈Hp s C↔x∈s∧x.id∈C:=by simp[Hp]
theorem XP {s:List Sto} {C:List Dig} {d:Dig}:d∈ids (Hp s C)↔d∈ids s∧d∈C:=by
 constructor
 ·intro h
  obtain⟨x,hx,rfl⟩:=AQ.1 h
  obtain⟨h1,h2⟩:=JV.1 hx
  exact⟨AQ.2 ⟨x,h1,rfl⟩,h2⟩
 ·rintro⟨h1,h2⟩
  obtain⟨x,hx,rfl⟩:=AQ.1 h1
  exact AQ.2 ⟨x,JV.2 ⟨hx,h2⟩,rfl⟩
theorem XX (s:List Sto) (C:List Dig):(ids (Hp s C)).Sublist (ids s):=(List.filter_sublist).map _
theorem S9 {C:List Dig} {d:Dig} (hd:d∈C): ∀ s:List Sto,getS (Hp s C) d=getS s d
 | []=>rfl
 |x::s=>by
  by_cases hx:x.id=d
  ·have e:Hp (x::s) C=x::Hp s C:=by
    unfold Hp;rw[GH (by simpa using hx ▸ hd)]
   rw[e,getS,getS,if_pos hx,if_pos hx]
  ·have e2:getS (x::s) d=getS s d:=by rw[getS,if_neg hx]
   by_cases hc:x.id∈C
   ·have e:Hp (x::s) C=x::Hp s C:=by
     unfold Hp;rw[GH (by simpa using hc)]
    rw[e,e2,getS,if_neg hx,S9 hd s]
   ·have e:Hp (x::s) C=Hp s C:=by
     unfold Hp;rw[Eu (by simpa using hc)]
    rw[e,e2,S9 hd s]
theorem Jc {p:Pat} (hid:(Ej p).2=0) {c:Chg} (hc:c∈p.changes) {y:Ident} (hy:y∈Ks c) (ho:FP y=true):y.patch∈B7 p:=by
 have he: ¬(CV p).2≠0:=fun h=>by rw[Ej,if_pos h]at hid;exact h hid
 rw[B7,if_neg he,Oz]
 exact .inr ⟨c,hc,AQ.2 ⟨y,GN.2 ⟨hy,ho⟩,rfl⟩⟩
theorem My {s t:List Sto} {p:Pat} {id:Dig} (hid:(Ej p).2=0) (h: ∀ d∈B7 p,getS s d=getS t d):Fb s p id=Fb t p id:=by
 refine GZ fun c hc=>?_
 have hat: ∀ y∈Ks c,FP y=true→Ih s y=Ih t y:=fun y hy ho=>by
  unfold Ih J0
  rw[h _ (Jc hid hc hy ho)]
 have e1:Ji s c=Ji t c:=by
  unfold Ji
  split
  ·rename_i h;rw[hat _ (by simp[Ks]) h]
  ·rfl
 have e2:MC s c=MC t c:=by
  unfold MC
  split
  ·rename_i h;rw[hat _ (by simp[Ks]) h]
  ·rfl
 have e3: ∀ y∈Ks c,HC s y c.file id=HC t y c.file id:=fun y hy=>by
  unfold HC
  split
  ·rfl
  ·rename_i h
   rw[hat y hy (by simpa using fun h'=>h (.inl h'))]
 have e4:Aw (O8 s c id) c.over=Aw (O8 t c id) c.over:=GZ fun y hy=>by
  unfold O8
  split
  ·rfl
  ·rename_i h
   rw[hat y (by simp[Ks,hy]) (by simpa using h)]
 unfold L7
 rw[e1,e2,e3 _ (by simp[Ks]),e3 _ (by simp[Ks]),e4]
theorem BP.keep {s:List Sto} (v:BP s) {C:List Dig} (hC: ∀ x∈s,x.id∈C→ ∀ d∈B7 x.patch,d∈C):BP (Hp s C):=by
 have hlen:(Hp s C).length≤s.length:=Eb _ _
 have hcl: ∀ x∈Hp s C,∀ d∈B7 x.patch,d∈ids (Hp s C):=fun x hx d hd=>by
  obtain⟨h1,h2⟩:=JV.1 hx
  exact XP.2 ⟨v.close.2 x h1 d hd,hC x h1 h2 d hd⟩
 have hasc:HB (ids (Hp s C)):=List.Pairwise.sublist (XX s C) v.asc
 refine⟨⟨⟨Cz hlen v.close.1.1,fun x hx=>v.close.1.2 x (JV.1 hx).1⟩,hcl⟩,fun x hx=>v.id x (JV.1 hx).1,hasc,?_,fun x hx=>?_⟩
 ·have hr:SN (Hp s C) (Qc s):=⟨hasc,hcl,fun x hx d hd=>v.rank (JV.1 hx).1 hd⟩
  exact EF hr.order.symm
 ·obtain⟨h1,h2⟩:=JV.1 hx
  rw[My (v.id x h1).1 fun d hd=>S9 (hC x h1 h2 d hd) s]
  exact v.refs x h1
end Go.Proofs
