/- The small logic: rows of one's own with elements of any form; a row lent to a callee that only reads. Library, no statement of its own. -/
import Derived.Test.YtaibdmankdppkaaGreatDoorVaf
import Derived.Test.YtaibdmankdppkaaGreatDoorVag
import Derived.Laws.MakeOwn
import Derived.Test.YtaibdmankdppkaaGreatDoorVad
import Derived.Test.YtaibdmankdppkaaGreatDoorVae
set_option linter.unusedSimpArgs false
set_option linter.unusedVariables false
set_option maxHeartbeats 8000000
namespace Go.Q
open Go
theorem Dt.lendRow {w:World} {g:Gh} {r E sz cap:Nat} {xs:List (List PV)} {rest:List PV} {LF:List Res} (hi:Dt w g (.box r E (xs.flatten++rest)::LF)) (hs: ∀ e∈xs,e.length=sz) (hc:xs.length≤cap) (hm:xs.length≤maxN∧xs.length*sz≤maxN):
  ∃ g',g.le g'∧Dt w g' []∧VR g' (.slice (some ⟨r,0,none⟩) xs.length cap) (.slice xs .ro):=by
 obtain⟨us,h1,h2,h3,h4⟩:=hi.res _ (AI)
 have hlen:us.length=(xs.flatten++rest).length:=h2.len
 let u:=us.take xs.flatten.length
 have hul:u.length=xs.flatten.length:=by
  simp only[u,Ab,hlen,AD];omega
 have hu:E7 g u xs.flatten:=⟨hul,fun i k1 k2=>by
  have:=h2.at_ i (by rw[hlen,AD];omega) (by rw[AD];omega)
  rw[B7 k2]at this
  simpa [u]using this⟩
 have hle:=Gh.le_lay (g:=g) (b:=r) (from_:=0) (us:=u) (fun o _=>h3 o)
 have hcell: ∀ j (h:j < u.length),w.cell? ⟨r,j,none⟩=some u[j]:=fun j h=>by
  have hj:j < us.length:=by rw[hlen,AD];omega
  simp only[World.cell?,h1,CW,BW,if_false,V7]
  rw[AW hj]
  simp[u]
 refine⟨g.lay r 0 u,hle,⟨fun b o v hv=>?_,hi.satM,by simp,by simp[Ak],hi.glob.mono hle⟩,?_⟩
 ·by_cases hin:b=r∧0≤o∧o < 0+u.length
  ·obtain⟨rfl,_,h5⟩:=hin
   have hj:o < u.length:=by omega
   have:=Gh.lay_in (g:=g) (b:=b) (from_:=0) hj
   rw[BM,hv]at this
   cases this
   exact hcell o hj
  ·rw[Gh.lay_out hin]at hv
   exact hi.sat b o v hv
 ·exact VR.of_cells (g:=g.lay r 0 u) (t:= .ro) (sz:=sz) (b:=r) (off:=0) (cap:=cap) hs hc hm (us:=u) (hu.mono hle) (fun j hj=>Gh.lay_in hj) (fun b' cap' e=>by cases e) (by simp)
theorem E7.repl {g g':Gh} {vs:List Value} {ps bs:List PV} {a b:PV} (hv:E7 g vs (ps++a::bs)) (hle:g.le g') (h: ∀ v,VR g v a→VR g' v b):E7 g' vs (ps++b::bs):=
 ⟨by rw[hv.len];simp,fun i k1 k2=>by
  have h0:=hv.at_ i k1 (by simpa using k2)
  by_cases hi1:i < ps.length
  ·rw[B7 hi1]at h0 ⊢;exact h0.mono hle
  ·rw[BO (by omega)]at h0 ⊢
   by_cases hi2:i - ps.length=0
   ·have e1: ∀ (a:PV),(a::bs)[i - ps.length]'(by simp[hi2])=a:=fun a=>by simp[hi2]
    rw[e1]at h0 ⊢
    exact h _ h0
   ·obtain⟨m,hm'⟩: ∃ m,i - ps.length=m+1:=⟨i - ps.length - 1,by omega⟩
    simp only[hm',DJ]at h0 ⊢
    exact h0.mono hle⟩
theorem BH.lend {P:Program} {f:Nat} {X:Value} {r E sz n cap:Nat} {xs:List (List PV)} {rest:List PV} (ps bs:List PV) (hs: ∀ e∈xs,e.length=sz) (hn:xs.length=n) (hc:n≤cap) (hm:n≤maxN∧n*sz≤maxN)
  (h:Fn P f (ps++ .slice xs .ro::bs) (.raw X)):BH P f (ps++ .raw (.slice (some ⟨r,0,none⟩) n cap)::bs) [.box r E (xs.flatten++rest)] (fun x L'=>x= .raw X∧L'= [.box r E (xs.flatten++rest)]):=by
 intro vs w g LF hv hi
 subst hn
 obtain⟨g',hle,hi',hsl⟩:=hi.lendRow hs hc hm
 have hv':E7 g' vs (ps++ .slice xs .ro::bs):=hv.repl hle fun v hv=>by rw[hv.raw_inv];exact hsl
 refine(h vs w g' [] hv' (by simpa using hi')).mono ?_
 rintro e w' ⟨v,x,g'',L',rfl,k2,k3,k4,k5,rfl,rfl⟩
 have hk: ∀ k,k < w.heap.size→w'.heap[k]? =w.heap[k]?:=fun k hk=>k4.keep k hk (by simp[Ak])
 exact⟨v,.raw X,g,_,rfl,by rw[k2.raw_inv];exact .raw _,hi.later hk,⟨k4.os,k4.tape,k4.output,k4.size,fun k h _=>hk k h,.refl g,fun _ _ _=>⟨fun _=>rfl,rfl⟩⟩,.refl _ _,rfl,rfl⟩
theorem Dt.boxRaw {w:World} {g:Gh} {r E:Nat} {cs:List PV} {LF:List Res} (hi:Dt w g (.box r E cs::LF)): ∃ us:List Value,E7 g us cs∧Dt w g (.raw r (.cells us.toArray E (0,0))::LF):=by
 obtain⟨us,h1,h2,h3,h4⟩:=hi.res _ (AI)
 refine⟨us,h2,hi.sat,hi.satM,fun x hx=>?_,hi.nodup,hi.glob⟩
 rcases AG.1 hx with rfl|hx
 ·exact⟨h1,h3,h4⟩
 ·exact hi.res x (AL _ hx)
theorem Dt.rawBox {w:World} {g:Gh} {r E:Nat} {cur:Array Value} {cs:List PV} {LF:List Res} (hi:Dt w g (.raw r (.cells cur E (0,0))::LF)) (h:E7 g cur.toList cs):Dt w g (.box r E cs::LF):=by
 obtain⟨h1,h3,h4⟩:=hi.res _ (AI)
 refine⟨hi.sat,hi.satM,fun x hx=>?_,hi.nodup,hi.glob⟩
 rcases AG.1 hx with rfl|hx
 ·exact⟨cur.toList,by simpa using h1,h,h3,h4⟩
 ·exact hi.res x (AL _ hx)
inductive Fv (E sz:Nat):Value→List (List PV)→List Res→Prop
 |nil (o:Option Addr) (ho: ∀ a,o=some a→a.spot=none):Fv E sz (.slice o 0 0) [] []
 |row {r n cap:Nat} {xs:List (List PV)} {rest:List PV} (hn:xs.length=n) (hl:n≤cap) (hs: ∀ e∈xs,e.length=sz) (hc:xs.flatten.length+rest.length=cap*sz):Fv E sz (.slice (some ⟨r,0,none⟩) n cap) xs [.box r E (xs.flatten++rest)]
theorem Fv.slice {E sz:Nat} {v:Value} {xs:List (List PV)} {R:List Res} (h:Fv E sz v xs R):(∃ o c,v= .slice o xs.length c)∧ ∀ e∈xs,e.length=sz:=by
 cases h with
 |nil o ho=>exact⟨⟨_,_,rfl⟩,by simp⟩
 |row hn hl hs hc=>subst hn;exact⟨⟨_,_,rfl⟩,hs⟩
theorem Fv.open {E sz:Nat} {v:Value} {xs:List (List PV)} {R LF:List Res} {w:World} {g:Gh} (h:Fv E sz v xs R) (hi:Dt w g (R++LF)): ∃ us R₁,E7 g us xs.flatten∧MX E sz v xs.length us R₁∧Dt w g (R₁++LF)∧Ak R₁=Ak R:=by
 cases h with
 |nil o ho=>exact⟨[],[],.nil g,.nil o ho,hi,rfl⟩
 |row hn hl hs hc=>
  rename_i r n cap rest
  subst hn
  obtain⟨us,h1,h2⟩:=Dt.boxRaw hi
  have hfl:=Cv hs
  have hul:us.length=xs.flatten.length+rest.length:=by rw[h1.len,AD]
  refine⟨us.take (xs.length*sz),_,⟨by rw[Ab,hul,hfl];omega,fun i k1 k2=>?_⟩,.row hl (by rw[Cn,hul,hc]) (by rw[Ab,hul,hfl];omega) (by simp),h2,rfl⟩
  have:=h1.at_ i (by rw[hul];omega) (by rw[AD];omega)
  rw[B7 k2]at this
  simpa using this
theorem Fv.close {E sz:Nat} {v:Value} {xs:List (List PV)} {us:List Value} {R LF:List Res} {w:World} {g:Gh} {n:Nat} (hn:xs.length=n) (hs: ∀ e∈xs,e.length=sz) (h:MX E sz v n us R) (hu:E7 g us xs.flatten) (hi:Dt w g (R++LF)): ∃ R',Fv E sz v xs R'∧Dt w g (R'++LF)∧Ak R'=Ak R:=by
 have hfl:=Cv hs
 cases h with
 |nil o ho=>
  have hx:xs= []:=BA hn
  subst hx
  exact⟨[],.nil o ho,hi,rfl⟩
 |row hl hc hu' hcur=>
  subst hn
  rename_i r cap cur
  have hcl:cur.toList.length=cap*sz:=by simpa using hc
  have hle:xs.length*sz≤cap*sz:=B8 _ hl
  have hv:E7 g cur.toList (xs.flatten++(cur.toList.drop (xs.length*sz)).map .raw):=by
   conv=>lhs;rw[←C6 (xs.length*sz) cur.toList]
   rw[hcur]
   exact hu.append (E7.raws g _)
  exact⟨_,.row rfl hl hs (by rw[AQ,B4,hcl,hfl];omega),Dt.rawBox hi hv,rfl⟩
theorem Fv.lend {P:Program} {f E sz:Nat} {X v:Value} {xs:List (List PV)} {R:List Res} (hr:Fv E sz v xs R) (ps bs:List PV) (hm:xs.length≤maxN∧xs.length*sz≤maxN) (h:Fn P f (ps++ .slice xs .ro::bs) (.raw X)):
  BH P f (ps++ .raw v::bs) R (fun x L'=>x= .raw X∧L'=R):=by
 cases hr with
 |nil o ho=>
  intro vs w g LF hv hi
  exact h vs w g LF (hv.repl (.refl g) fun v hv=>by rw[hv.raw_inv];exact .nilR) hi
 |row hn hl hs hc=>
  subst hn
  exact BH.lend ps bs hs rfl hl hm h
section
variable {P:Program} {N:Nat} {all:Array Oper} {K:Env→List Res→Prop} {fl:List Bool} {os:List Oper} {ρ:Env} {L:List Res} {d:Nat} {ty:TypeId} {pos:String} {af:Array Edge}
theorem TB {T T₂ E E₂ sz by_:Nat} {α:Type} {f:α→List PV} [hT:Y2 P T E sz by_] [h2:Lp P T₂ E₂] [hf:MZ f sz] [hff:Js f] {x y:Operand} {v:Value} {xs:List (List PV)} {m:List α} {t:CD} {R LF:List Res} (F:List Res→List Res)
  (hx:ρ.ev x= .raw v) (hy:ρ.ev y= .slice (m.map f) t) (hv:Fv E sz v xs R) (hp:L.Perm (R++LF)) (hq: ∀ R',(R'++LF).Perm (F R')) (hb:(xs.length+m.length)*by_≤140737488355328) (hm:xs.length+m.length≤140737488355328)
  (k: ∀ v' R',Fv E sz v' (xs++m.map f) R'→AU P N all K fl.tail os (CR ρ d (.raw v')) (F R')) (hd:Nat.blt d N=true:=by rfl) (hfl:fl.headD true=true:=by rfl):
  AU P N all K fl (⟨some d,.call { callee:= .builtin .append,args:= #[x,y],argTypes:= #[T,T₂] },ty,pos,af,none⟩::os) ρ L:=
 DY rfl (P7 hd) hfl (Fk.perm hp fun a w g ha hi=>by
  have h1:=Cb ha (x:=x) (by simp[Op.operands,Call.operands]) hx
  have h3:=ha y (by simp[Op.operands,Call.operands])
  rw[hy]at h3
  have hms: ∀ e∈m.map f,e.length=sz:=fun e he=>by obtain⟨a,_,rfl⟩:=AY.1 he;exact hf.out a
  obtain⟨base,cap,e,_,_,hnone,_,_,us,hus,hcell⟩:=h3.slice_cells (sz:=sz) hms
  rw[AQ]at e
  have hvl:us.length=m.length*sz:=by rw[hus.len,Cv hms,AQ]
  obtain⟨us0,R₁,q1,q2,q3,q4⟩:=hv.open hi
  have hone: ∀ x∈us,x.oneCell'=true:=hus.one (fun c hc=>by
   obtain⟨e,he,hce⟩:=Db.1 hc
   obtain⟨a,_,rfl⟩:=AY.1 he
   exact hff.out a c hce)
  obtain⟨v',w',R',p1,p2,p3,p4,p5⟩:=W8 (P:=P) (T:=T) (T₂:=T₂) (ty:=ty) (.inr ⟨_,h2.out⟩) (.slice base m.length cap) us q3 q2 (fun _=>rfl) hvl hone (fun w' hs'=>by
   cases base with
   |none=>
    have h0:=(hnone rfl).1
    have hm0:m= []:=by simpa using h0
    have:us= []:=BA (by rw[hvl,hm0];simp)
    rw[this];rfl
   |some ad=>
    obtain⟨b,o,s⟩:=ad
    obtain⟨hsp,hH⟩:=hcell _ rfl
    show(loadCells _ (m.length*sz)).run P w'=_
    rw[←hvl]
    exact Iu (hsp.imp_left fun h=>WV hus h.1) fun j hj=>hs' _ _ _ (hH j hj)) hb hm
  obtain⟨R₂,z1,z2,z3⟩:=Fv.close (xs:=xs++m.map f) (n:=xs.length+m.length) (by simp) (fun e he=>(Ah.1 he).elim (hv.slice.2 e) (hms e)) p2 (by rw[C5];exact q1.append hus) p3
  have hbl: ∀ (A B:List Res),Ak A=Ak B→Ak (A++LF)=Ak (B++LF):=fun A B h=>by
   simp only[Ak,Dp]at h ⊢;rw[h]
  refine Oper.wq_of_run (show(do pure (.value (←Builtin.append_ #[T,T₂] ty (#[x,y].map a.eval))):Sem Next).run P w= .ok (.value v') w' by
   simp only[FW,Aq,CC,h1,e,Sem.run_bind,p1,Result.andThen_ok,Sem.run_pure]) ?_
  refine⟨_,.raw v',g,F R₂,rfl,.raw _,z2.perm (hq R₂),?_,?_,k v' R₂ z1⟩
  ·rw[←hbl _ _ q4];exact p4
  ·intro b hb' hlt
   rw[←hbl _ _ q4]
   have hb2:b∈Ak (R'++LF):=by rw[←hbl _ _ z3];exact((hq R₂).filterMap _).symm.subset hb'
   exact p5 b hb2 hlt)
end
theorem Pv {sz:Nat} {xs:List (List PV)} (hs: ∀ e∈xs,e.length=sz) {i:Nat} (hi:i < xs.length):xs.flatten=(xs.take i).flatten++(xs[i]++(xs.drop (i+1)).flatten)∧(xs.take i).flatten.length=i*sz:=by
 constructor
 ·conv=>lhs;rw[←C6 i xs,C5,Br hi,CX]
 ·rw[Cv (sz:=sz) fun e he=>hs e (El he),Ab,Cp (by omega)]
theorem MQ {sz:Nat} {xs:List (List PV)} {rest:List PV} (hs: ∀ e∈xs,e.length=sz) {i:Nat} (hi:i < xs.length):PA (xs.flatten++rest) (0+i*sz) sz xs[i]:=by
 obtain⟨h1,h2⟩:=Pv hs hi
 have h3:=hs _ (AH hi)
 rw[BM,h1,AV]
 refine⟨?_,?_⟩
 ·rw[←h2,Ln,AV,←h3,List.take_left]
 ·simp only[AD];omega
theorem Qh {sz:Nat} {xs:List (List PV)} {rest new:List PV} (hs: ∀ e∈xs,e.length=sz) {i:Nat} (hi:i < xs.length) (hn:new.length=sz):Eg (xs.flatten++rest) (0+i*sz) new ((xs.set i new).flatten++rest):=by
 obtain⟨h1,h2⟩:=Pv hs hi
 have h3:=hs _ (AH hi)
 have h4:(xs.set i new).flatten=(xs.take i).flatten++(new++(xs.drop (i+1)).flatten):=by
  rw[Gm,if_pos hi,C5,CX]
 rw[BM,h1,h4]
 refine⟨?_,?_⟩
 ·have e1:((xs.take i).flatten++(xs[i]++(xs.drop (i+1)).flatten)++rest).take (i*sz)=(xs.take i).flatten:=by
   rw[AV,←h2,List.take_left]
  have e2:((xs.take i).flatten++(xs[i]++(xs.drop (i+1)).flatten)++rest).drop (i*sz+new.length)=(xs.drop (i+1)).flatten++rest:=by
   rw[hn,←h2,←h3,←GY,AV,Ln,AV,Ln]
  rw[e1,e2]
  simp only[AV]
 ·simp only[AD];omega
theorem Fv.inv {E sz n c:Nat} {o:Option Addr} {xs:List (List PV)} {R:List Res} (h:Fv E sz (.slice o n c) xs R) (h0:0 < n): ∃ r rest,o=some ⟨r,0,none⟩∧R= [.box r E (xs.flatten++rest)]∧xs.length=n∧n≤c∧(∀ e∈xs,e.length=sz)∧xs.flatten.length+rest.length=c*sz:=by
 generalize hv:Value.slice o n c=v at h
 cases h with
 |nil o' ho=>injection hv with _ e2 _;omega
 |row hn hl hs hc=>injection hv with e1 e2 e3;subst e1 e2 e3;exact⟨_,_,rfl,rfl,hn,hl,hs,hc⟩
theorem Fv.freeze {E sz:Nat} {w:World} {g:Gh} {R L':List Res} {v:Value} {xs:List (List PV)} (hi:Dt w g (R++L')) (hv:Fv E sz v xs R) (hm:xs.length≤maxN∧xs.length*sz≤maxN):
  ∃ g',Dt w g' L'∧Eb (Ak (R++L')) w g w g'∧De w (R++L') L'∧VR g' v (.slice xs .ro):=by
 cases hv with
 |nil o ho=>exact⟨g,hi,.refl _ _ _,.refl _ _,.nilR⟩
 |row hn hl hs hc=>
  rename_i r n cap rest
  subst hn
  obtain⟨us,h1,h2⟩:=Dt.boxRaw hi
  obtain⟨k1,k2,k3,k4,k5⟩:=h2.rawHead
  have hul:us.length=xs.flatten.length+rest.length:=by rw[h1.len,AD]
  let u:=us.take xs.flatten.length
  have hu0:u.length=xs.flatten.length:=by simp only[u,Ab];omega
  have hu:E7 g u xs.flatten:=⟨hu0,fun i k1 k2=>by
   have:=h1.at_ i (by omega) (by rw[AD];omega)
   rw[B7 k2]at this
   simpa [u]using this⟩
  have hle:=Gh.le_lay (g:=g) (b:=r) (from_:=0) (us:=u) (fun o _=>k2 o)
  have hcell: ∀ j (h:j < u.length),w.cell? ⟨r,j,none⟩=some u[j]:=fun j h=>by
   have hj:j < us.length:=by omega
   simp only[World.cell?,k1,CW,BW,if_false,V7]
   rw[AW hj]
   simp[u]
  refine⟨g.lay r 0 u,⟨fun b' o v hv=>?_,fun b' z hz=>hi.satM b' z hz,fun r' hr'=>?_,k5.nodup,hi.glob.mono hle⟩,⟨rfl,rfl,⟨rfl,Al _⟩,Al _,fun _ _ _=>rfl,hle,fun k _ hn=>⟨fun o=>Gh.lay_out (fun h=>hn (by rw[h.1];simp[Ak,Res.block])),rfl⟩⟩,fun b hb _=>?_,?_⟩
  ·by_cases hin:b'=r∧0≤o∧o < 0+u.length
   ·obtain⟨rfl,_,h6⟩:=hin
    have hj:o < u.length:=by omega
    have:=Gh.lay_in (g:=g) (b:=b') (from_:=0) hj
    rw[BM,hv]at this
    cases this
    exact hcell o hj
   ·rw[Gh.lay_out hin]at hv;exact hi.sat b' o v hv
  ·exact Res.holds_kept hle (k5.res r' hr') fun b' hb'=>⟨rfl,fun o=>Gh.lay_out (fun h=>k4 (Bt.2 ⟨r',hr',by rw[hb',h.1]⟩)),rfl⟩
  ·simp only[Ak,Dp]at hb ⊢;exact Dm _ hb
  ·exact VR.of_cells (g:=g.lay r 0 u) (t:= .ro) (sz:=sz) (b:=r) (off:=0) (cap:=cap) hs hl hm (us:=u) (hu.mono hle) (fun j hj=>Gh.lay_in hj) (fun b' cap' e=>by cases e) (by simp)
section
variable {P:Program} {N:Nat} {ρ:Env} {L:List Res}
theorem IZ {E sz:Nat} {R L':List Res} {v:Value} {xs:List (List PV)} {c:Code} {Q:PPost} (i:Nat) (hv:Fv E sz v xs R) (hm:xs.length≤maxN∧xs.length*sz≤maxN) (hp:L.Perm (R++L')) (hi:ρ i= .raw v) (k:EY P N c Q (CR ρ i (.slice xs .ro)) L'):EY P N c Q ρ L:=
 KP (fun base a w g ha hI=>by
  obtain⟨g',h1,h2,h3,h4⟩:=Fv.freeze (hI.perm hp) hv hm
  refine⟨g',⟨ha.size,ha.defers.mono h2.le,fun j=>?_⟩,h1,h2.grow (fun b hb=>(DX hp).symm.subset hb),fun b hb hlt=>(DX hp).symm.subset (h3 b hb hlt)⟩
  have hj:=(ha.slot j).mono h2.le
  by_cases e:j=i
  ·subst e
   rw[hi]at hj
   show VR g' _ (CR ρ j _ j)
   rw[Ch,hj.raw_inv];exact h4
  ·show VR g' _ (CR ρ i _ j)
   rw[Gp _ _ e];exact hj) k
end
section
variable {P:Program} {N:Nat} {all:Array Oper} {K:Env→List Res→Prop} {fl:List Bool} {os:List Oper} {ρ:Env} {L:List Res}
variable {d:Nat} {ty:TypeId} {pos:String} {af:Array Edge}
theorem kK (u:Value) (n:Nat):madeCells #[u] (n*1)=(List.replicate n u).toArray:=by
 refine Array.ext (by simp[madeCells]) fun i h1 h2=>?_
 simp[madeCells,Nat.mod_one]
theorem j9 {T E by_:Nat} {z:PV} [hT:Lp P T E] [hE:EZ P E 1 by_] [hZ:Ck P E [z]] {x y:Operand} {k k':IntKind} {n:Nat} (hx:ρ.ev x= .raw (.int k (n:Int))) (hy:ρ.ev y= .raw (.int k' (n:Int))) (hb:by_*n≤140737488355328) (hn:n≤140737488355328)
  (kk: ∀ b,AU P N all K fl.tail os (CR ρ d (.raw (.slice (some ⟨b,0,none⟩) n n))) (.box b E (List.replicate n z)::L)) (hd:Nat.blt d N=true:=by rfl) (hf:fl.headD true=true:=by rfl):
  AU P N all K fl (⟨some d,.makeSlice T x y,ty,pos,af,none⟩::os) ρ L:=
 DY rfl (P7 hd) hf (fun a w g ha hi=>by
  have h1:=Cb ha (x:=x) (by simp[Op.operands]) hx
  have h2:=Cb ha (x:=y) (by simp[Op.operands]) hy
  obtain⟨i,e1,e2,e3⟩:=hE.out
  obtain⟨i',v,us,q1,q2,q3,q4⟩:=hZ.out
  rw[e1]at q1
  obtain rfl:=DM q1
  obtain⟨u,rfl⟩: ∃ u,us= [u]:=by
   have:=(q4 g).len
   match us,this with
   | [u],_=>exact⟨u,rfl⟩
  have hu:=(q4 g).uncons.1
  have hv:E7 g (List.replicate n u) (List.replicate n z):=⟨by simp,fun i k1 k2=>by
   rw[zm,zm];exact hu⟩
  obtain⟨i1,i2,i3⟩:=hi.alloc hv E
  have hr:(execOp a.eval ⟨some d,.makeSlice T x y,ty,pos,af,none⟩).run P w= .ok (.value (.slice (some ⟨w.heap.size,0,none⟩) n n)) { w with heap:=w.heap.push (.cells (List.replicate n u).toArray E (0,0)) }:=by
   have hbb:(i.bytes:Int)*(n:Int)≤281474976710656:=by
    rw[e3,←qG];omega
   have hm:=run_make (P:=P) w T E i v hT.out e1 q2 k k' n n (by omega) (by omega) hbb (by omega)
   rw[q3,e2,Dy]at hm
   have hm2:madeCells [u].toArray (n*1)=(List.replicate n u).toArray:=kK u n
   rw[hm2]at hm
   simp only[execOp,h1,h2,Sem.run_bind,hm,Result.andThen_ok,Sem.run_pure]
   rfl
  refine Oper.wq_of_run hr ?_
  exact⟨_,_,g,_,rfl,.raw _,i1,i2,i3,kk _⟩)
theorem wE {α:Type} {vf:α→List Value} {T E sz by_:Nat} {z:List PV} [hT:Lp P T E] [hE:EZ P E sz by_] [hZ:Ck P E z] {x y:Operand} {k k':IntKind} {c:Nat} (hx:ρ.ev x= .raw (.int k 0)) (hy:ρ.ev y= .raw (.int k' (c:Int))) (hb:by_*c≤140737488355328) (hn:c≤140737488355328)
  (kk: ∀ v R,JQ vf E sz v [] R→AU P N all K fl.tail os (CR ρ d (.raw v)) (R++L)) (hd:Nat.blt d N=true:=by rfl) (hf:fl.headD true=true:=by rfl):
  AU P N all K fl (⟨some d,.makeSlice T x y,ty,pos,af,none⟩::os) ρ L:=
 DY rfl (P7 hd) hf (fun a w g ha hi=>by
  have h1:=Cb ha (x:=x) (by simp[Op.operands]) hx
  have h2:=Cb ha (x:=y) (by simp[Op.operands]) hy
  obtain⟨i,e1,e2,e3⟩:=hE.out
  obtain⟨i',v,us,q1,q2,q3,q4⟩:=hZ.out
  rw[e1]at q1
  obtain rfl:=DM q1
  obtain⟨i1,s1⟩:=hi.allocO (.cells (madeCells v.cells (c*sz)) E (0,0))
  obtain⟨f1,f2⟩:=hi.fresh (b:=w.heap.size) (Al _)
  have hnew:w.heap.size∉Ak L:=fun h=>by have:=hi.lt h;omega
  have i2:=i1.addRaw (l:=w.heap.size) (o:= .cells (madeCells v.cells (c*sz)) E (0,0)) (by show(w.heap.push _)[w.heap.size]? =_;simp) f1 f2 hnew
  have hr:(execOp a.eval ⟨some d,.makeSlice T x y,ty,pos,af,none⟩).run P w= .ok (.value (.slice (some ⟨w.heap.size,0,none⟩) 0 c)) (w.alloc (.cells (madeCells v.cells (c*sz)) E (0,0))):=by
   have hbb:(i.bytes:Int)*(c:Int)≤281474976710656:=by
    rw[e3,←qG];omega
   have hm:=run_make (P:=P) w T E i v hT.out e1 q2 k k' 0 c (by omega) (by omega) hbb (by omega)
   rw[e2,Dy]at hm
   simp only[execOp,h1,h2,Sem.run_bind,hm,Result.andThen_ok,Sem.run_pure]
   rfl
  refine Oper.wq_of_run hr ?_
  refine⟨_,_,g,_,rfl,.raw _,i2,?_,?_,kk _ [.raw w.heap.size (.cells (madeCells v.cells (c*sz)) E (0,0))] ?_⟩
  ·exact s1
  ·intro b hb hlt'
   rcases AG.1 (show b∈w.heap.size::Ak L from by simpa [Ak,Res.block]using hb)with rfl|hb
   ·omega
   ·exact hb
  ·unfold JQ
   exact .row (by simp) (by rw[size_madeCells]) (by simp) (by simp))
theorem ep {T E sz by_:Nat} [hT:Y2 P T E sz by_] {x0 x1 x2 x3:Operand} {c0 c1 c2 c3:List PV} (h0:Cw (ρ.ev x0) c0) (h1:Cw (ρ.ev x1) c1) (h2:Cw (ρ.ev x2) c2) (h3:Cw (ρ.ev x3) c3) (hl:c0.length=sz∧c1.length=sz∧c2.length=sz∧c3.length=sz) (h24:4*sz≤16777216)
  (k: ∀ b,AU P N all K fl.tail os (CR ρ d (.raw (.slice (some ⟨b,0,none⟩) 4 4))) (.box b E ([c0,c1,c2,c3].flatten++ [])::L)) (hd:Nat.blt d N=true:=by rfl) (hfl:fl.headD true=true:=by rfl):AU P N all K fl (⟨some d,.buildSlice T 4 #[(0,x0),(1,x1),(2,x2),(3,x3)],ty,pos,af,none⟩::os) ρ L:=
 DY rfl (P7 hd) hfl (fun a w g ha hi=>by
  obtain⟨i,z,t1,t2,t3,t4,t5,t6,t7,t8⟩:=hT.out
  obtain⟨u0,e0,v0⟩:=h0 g _ (ha x0 (by simp[Op.operands]))
  obtain⟨u1,e1,v1⟩:=h1 g _ (ha x1 (by simp[Op.operands]))
  obtain⟨u2,e2,v2⟩:=h2 g _ (ha x2 (by simp[Op.operands]))
  obtain⟨u3,e3,v3⟩:=h3 g _ (ha x3 (by simp[Op.operands]))
  obtain⟨l0,l1,l2,l3⟩:=hl
  have n0:=v0.len
  have n1:=v1.len
  have n2:=v2.len
  have n3:=v3.len
  have hv:E7 g [u0,u1,u2,u3].flatten ([c0,c1,c2,c3].flatten++ []):=by
   rw[BJ]
   simp only[CX,NS]
   exact v0.append (v1.append (v2.append (v3.append (.nil g))))
  have hr:(execOp a.eval ⟨some d,.buildSlice T 4 #[(0,x0),(1,x1),(2,x2),(3,x3)],ty,pos,af,none⟩).run P w= .ok (.value (.slice (some ⟨w.heap.size,0,none⟩) 4 4)) { w with heap:=w.heap.push (.cells [u0,u1,u2,u3].flatten.toArray E (0,0)) }:=by
   have hz: ∀ (zz:Array Value),Instr.fill (fun i=>some (i*sz,sz)) ((Array.range (4*sz)).map (zz[·% zz.size]!)) [(0,a.eval x0),(1,a.eval x1),(2,a.eval x2),(3,a.eval x3)]=some [u0,u1,u2,u3].flatten.toArray:=fun zz=>by
    have e:(Array.range (4*sz)).map (zz[·% zz.size]!)=((List.range (4*sz)).map (zz[·% zz.size]!)).toArray:=by
     apply NT;simp
    have:=MR (sz:=sz) [u0,u1,u2,u3] [a.eval x0,a.eval x1,a.eval x2,a.eval x3] 0 ((List.range (4*sz)).map (zz[·% zz.size]!)) rfl (fun i h1 h2=>by
     match i,h1,h2 with
     |0,_,_=>exact⟨e0,by show u0.length=sz;omega⟩
     |1,_,_=>exact⟨e1,by show u1.length=sz;omega⟩
     |2,_,_=>exact⟨e2,by show u2.length=sz;omega⟩
     |3,_,_=>exact⟨e3,by show u3.length=sz;omega⟩
     |m+4,h1,_=>exact absurd h1 (by simp)) (by simp)
    rw[e]
    have e5:((List.range (4*sz)).map (zz[·% zz.size]!)).drop (0*sz+ [u0,u1,u2,u3].length*sz)= []:=Bu (by simp)
    simpa using this
   show(do pure (Next.value (←Instr.buildSlice T 4 (#[(0,x0),(1,x1),(2,x2),(3,x3)].map fun(p:Nat × Operand)=>(p.1,a.eval p.2)))):Sem Next).run P w=_
   simp only[Instr.buildSlice,Sem.run_bind,run_underlying t1,Result.andThen_ok,sizeOf,typeInfo,run_program,t2,Sem.run_pure,t3]
   rw[if_neg (by have:(2:Nat) ^ 24=16777216:=by decide
                 omega)]
   have hzv:(zeroValue E).run P w= .ok z w:=by simp[zeroValue,typeInfo,t2,t5]
   split
   ·simp only[Sem.run_bind,Sem.run_pure,Result.andThen_ok,FW,Aq,CC,hz #[],newRow,run_newObj]
   ·simp only[Sem.run_bind,hzv,Sem.run_pure,Result.andThen_ok,FW,Aq,CC,hz z.cells,newRow,run_newObj]
  obtain⟨j1,j2,j3⟩:=hi.alloc hv E
  refine Oper.wq_of_run hr ?_
  exact⟨_,.raw _,g,_,rfl,.raw _,j1,j2,j3,k _⟩)
theorem ZI {o:Oper} {Ψ Ψ':PV→List Res→Prop} (h:Fk P o ρ L Ψ) (k: ∀ x L',Ψ x L'→ ∃ L'',L'.Perm L''∧Ψ' x L''):Fk P o ρ L Ψ':=
 fun a w g ha hi=>(h a w g ha hi).mono fun _ _ ⟨v,x,g',L',h1,h2,h3,h4,h5,h6⟩=>by
  obtain⟨L'',q1,q2⟩:=k _ _ h6
  exact⟨v,x,g',L'',h1,h2,h3.perm q1,h4,fun b hb hlt=>h5 b ((DX q1).symm.subset hb) hlt,q2⟩
theorem Bw {x:Operand} {xs:List Operand} {xa:Array Operand} {ats:Array TypeId} {f:Nat} {cs args:List PV} (L₁ LF:List Res) [hf:B1 P f] (F:List Res→List Res)
  (hx:Le (ρ.ev x) (.clo f cs)) (hxa:xa=xs.toArray) (hargs:xs.map ρ.ev++cs=args) (hp:L.Perm (L₁++LF)) (R:PV→List Res→Prop) (hc:BH P f args L₁ R) (hq: ∀ L',(L'++LF).Perm (F L')) (k: ∀ r L',R r L'→AU P N all K fl.tail os (CR ρ d r) (F L')) (hd:Nat.blt d N=true:=by rfl) (hfl:fl.headD true=true:=by rfl):
  AU P N all K fl (⟨some d,.call { callee:= .value x,args:=xa,argTypes:=ats },ty,pos,af,none⟩::os) ρ L:=by
 subst hxa
 exact DY rfl (P7 hd) hfl (ZI (Ov hx hargs hp (Ψ:=fun r L''=> ∃ L',L''=L'++LF∧R r L') (hc.mono fun r L' h=>⟨L',rfl,h⟩)) fun r L'' ⟨L',e,h⟩=>⟨F L',e ▸ hq L',k r L' h⟩)
theorem L6 {x:Operand} {xs:List Operand} {xa:Array Operand} {ats:Array TypeId} {f:Nat} {cs args:List PV} (L₁ LF:List Res) (X:PV) [hf:B1 P f]
  (hx:Le (ρ.ev x) (.clo f cs)) (hxa:xa=xs.toArray) (hargs:xs.map ρ.ev++cs=args) (hp:L.Perm (L₁++LF)) (hc:BH P f args L₁ (fun r L'=>r=X∧L'=L₁)) (k:AU P N all K fl.tail os (CR ρ d X) L) (hd:Nat.blt d N=true:=by rfl):
  AU P N all K fl (⟨some d,.call { callee:= .value x,args:=xa,argTypes:=ats },ty,pos,af,none⟩::os) ρ L:=by
 subst hxa
 exact Bg hd (ZI (Ov hx hargs hp (Ψ:=fun r L''=>r=X∧L''=L₁++LF) (hc.mono fun r L' ⟨e1,e2⟩=>⟨e1,by rw[e2]⟩)) fun r L'' ⟨e1,e2⟩=>⟨L,e2 ▸ hp.symm,e1,rfl⟩) k
end
end Go.Q
namespace Go.Proofs
open Go Go.Q
attribute [local irreducible] EY AU BH Fk
instance uj (a b:Dig):C9 Tryz.prog 87 [.agg (eDig a),.agg (eDig b)] (.raw (.int .i64 (ER a b))):=⟨by
 refine Av Tryz.func87 Tryz.ntmps87 rfl (rs:= [.tmp 4]) rfl rfl fun hb LF=>?_
 refine Cy fun p=>?_
 refine Et fun q=>?_
 refine AZ (σ:=Nat) (fun k=>k≤32∧ ∀ i,i < k→a.at i=b.at i) (fun k=>32 - k) (fun k=> [(2,.raw (.pointer (some ⟨p,0,none⟩))),(3,.raw (.pointer (some ⟨q,0,none⟩))),(5,.raw (.int .i64 k))]) (fun _=> .box q 31 (eDig b):: .box p 31 (eDig a)::LF) 0 ⟨by simp,by simp⟩ ⟨rfl,rfl,rfl⟩ (.refl _) ?_
 rintro k ⟨hk,he⟩
 refine AX ?_
 refine A6 (fun hc=>?_) (fun hc=>?_)
 ·refine AX ?_
  refine A6 (fun h1=>?_) (fun h1=>?_)
  ·refine AX ?_
   refine Aw (.of_eq ?_)
   have h2:a.at k < b.at k:=by rw[UInt8.lt_iff_toNat_lt];omega
   rw[dy (by omega) he (fun e=>by rw[e]at h2;exact UInt8.lt_irrefl _ h2),if_pos h2]
  ·refine AX ?_
   refine A6 (fun h2=>?_) (fun h2=>?_)
   ·refine AX ?_
    refine Aw (.of_eq ?_)
    have h3: ¬a.at k < b.at k:=by rw[UInt8.lt_iff_toNat_lt];omega
    rw[dy (by omega) he (fun e=>by rw[e]at h2;omega),if_neg h3]
   ·refine AX ?_
    refine⟨k+1,⟨by omega,fun i hi=>?_⟩,by dsimp only;omega,⟨rfl,rfl,rfl⟩,.refl _⟩
    rcases BN i k with h'|h'
    ·exact he i h'
    ·have:i=k:=by omega
     subst this
     exact UInt8.toNat.inj (by omega)
 ·refine AX ?_
  refine Aw (.of_eq ?_)
  rw[MW.2 (Dig.ext_at fun i hi=>he i (by omega))]⟩
instance yG (a:Dig):C9 Tryz.prog 132 [.agg (eDig a)] (.raw (.bool (decide (a=Dig.zero)))):=⟨by
 refine Av Tryz.func132 Tryz.ntmps132 rfl (rs:= [.tmp 2]) rfl rfl fun hb LF=>?_
 refine Cy fun p=>?_
 exact⟨trivial,_,[],.cons (.tmp 2) .nil,.cons _ (.refl _),.refl _,rfl⟩⟩
instance xz (l m:List Dig) (t u:CD):C9 Tryz.prog 53 [.slice (l.map eDig) t,.slice (m.map eDig) u] (.raw (.bool (decide (l=m)))):=⟨by
 refine Av Tryz.func53 Tryz.ntmps53 rfl (rs:= [.tmp 4]) rfl rfl fun hb LF=>?_
 have hlen:l.length≤140737488355328:=(hb (.slice (l.map eDig) t) (by simp)).slice_map
 refine AX ?_
 refine AR (fun h1=>?_) (fun h1=>?_)
 ·refine AX ?_
  refine Aw (.of_eq ?_)
  have: ¬l=m:=fun e=>h1 (by rw[e])
  simp[this]
 ·refine AX ?_
  have hl:l.length=m.length:=by omega
  refine AZ (σ:=Nat) (fun k=>k≤l.length∧l.take k=m.take k) (fun k=>l.length - k) (fun k=> [(0,.slice (l.map eDig) t),(1,.slice (m.map eDig) u),(5,.raw (.int .i64 k))]) (fun _=>LF) 0 ⟨by simp,by simp⟩ ⟨rfl,rfl,rfl⟩ (.refl _) ?_
  rintro k ⟨hk,he⟩
  refine AX ?_
  refine A6 (fun hc=>?_) (fun hc=>?_)
  ·refine AX ?_
   refine AR (fun h2=>?_) (fun h2=>?_)
   ·refine AX ?_
    refine Aw (.of_eq ?_)
    have: ¬l=m:=fun e=>h2 (by simp[e])
    simp[this]
   ·refine AX ?_
    refine⟨k+1,⟨by omega,?_⟩,by dsimp only;omega,⟨rfl,rfl,rfl⟩,.refl _⟩
    rw[A7 (by omega),A7 (by omega),he,h2]
  ·refine AX ?_
   refine Aw (.of_eq ?_)
   have:l=m:=by
    rw[AB (by omega),AB (by omega)]at he
    exact he
   simp[this]⟩
instance zh (l:List Dig) (d:Dig) (t:CD):C9 Tryz.prog 49 [.slice (l.map eDig) t,.agg (eDig d)] (.raw (.bool (decide (d∈l)))):=⟨by
 refine Av Tryz.func49 Tryz.ntmps49 rfl (rs:= [.tmp 4]) rfl rfl fun hb LF=>?_
 have hlen:l.length≤140737488355328:=(hb (.slice (l.map eDig) t) (by simp)).slice_map
 refine Cy fun b=>?_
 refine AZ (σ:=Nat) (fun k=>k≤l.length∧ ∀ i (h:i < l.length),i < k→d≠l[i]) (fun k=>l.length - k) (fun k=> [(0,.slice (l.map eDig) t),(3,.raw (.pointer (some ⟨b,0,none⟩))),(5,.raw (.int .i64 k))]) (fun _=> .box b 31 (eDig d)::LF) 0 ⟨by simp,by simp⟩ ⟨rfl,rfl,rfl⟩ (.refl _) ?_
 rintro k ⟨hk,hne⟩
 refine AX ?_
 refine A6 (fun hc=>?_) (fun hc=>?_)
 ·refine AX ?_
  refine A6 (fun he=>?_) (fun he=>?_)
  ·refine AX ?_;refine Aw (.of_eq ?_)
   have:d∈l:=he ▸ AH _
   simp[this]
  ·refine AX ?_
   refine⟨k+1,⟨by omega,fun i h hi=>?_⟩,by dsimp only;omega,⟨rfl,rfl,rfl⟩,.refl _⟩
   rcases BN i k with h'|h'
   ·exact hne i h h'
   ·have:i=k:=by omega
    subst this;exact fun e=>he e.symm
 ·refine AX ?_;refine Aw (.of_eq ?_)
  have: ¬d∈l:=fun h=>by
   obtain⟨i,hi,e⟩:=Ag.1 h
   exact hne i hi (by omega) e.symm
  simp[this]⟩
def Da (l m:List Dig):Bool:=m.all (fun x=>decide (x∈l))
instance zc (l m:List Dig) (t u:CD):C9 Tryz.prog 89 [.slice (l.map eDig) t,.slice (m.map eDig) u] (.raw (.bool (Da l m))):=⟨by
 refine Av Tryz.func89 Tryz.ntmps89 rfl (rs:= [.tmp 4]) rfl rfl fun hb LF=>?_
 have hlen:m.length≤140737488355328:=(hb (.slice (m.map eDig) u) (by simp)).slice_map
 refine AX ?_
 refine AZ (σ:=Nat) (fun k=>k≤m.length∧ ∀ i (h:i < m.length),i < k→m[i]∈l) (fun k=>m.length - k) (fun k=> [(0,.slice (l.map eDig) t),(1,.slice (m.map eDig) u),(5,.raw (.int .i64 k))]) (fun _=>LF) 0 ⟨by simp,by simp⟩ ⟨rfl,rfl,rfl⟩ (.refl _) ?_
 rintro k ⟨hk,hne⟩
 refine AX ?_
 refine A6 (fun hc=>?_) (fun hc=>?_)
 ·refine AX ?_
  refine AR (fun he=>?_) (fun he=>?_)
  ·refine AX ?_;refine Aw (.of_eq ?_)
   have:Da l m=false:=by
    unfold Da;rw[J5];exact⟨_,AH _,by simpa using he⟩
   rw[this]
  ·refine AX ?_
   refine⟨k+1,⟨by omega,fun i h hi=>?_⟩,by dsimp only;omega,⟨rfl,rfl,rfl⟩,.refl _⟩
   rcases BN i k with h'|h'
   ·exact hne i h h'
   ·have:i=k:=by omega
    subst this;exact he
 ·refine AX ?_;refine Aw (.of_eq ?_)
  have:Da l m=true:=by
   unfold Da;rw[Bf];intro x hx
   obtain⟨i,hi,rfl⟩:=Ag.1 hx
   simpa using hne i hi (by omega)
  rw[this]⟩
def ids (s:List Sto):List Dig:=s.map (·.id)
instance zf (s:List Sto) (t:CD):C9 Tryz.prog 88 [.slice (s.map eSto) t] (.slice ((ids s).map eDig) .ro):=⟨by
 refine Av Tryz.func88 Tryz.ntmps88 rfl (rs:= [.tmp 2]) rfl rfl fun hb LF=>?_
 have hlen:s.length*37≤140737488355328:=(hb (.slice (s.map eSto) t) (by simp)).slice_cells
 refine AX ?_
 refine EC 32 ?_
 refine AZ (σ:=Nat × CD) (fun k=>k.1≤s.length) (fun k=>s.length - k.1) (fun k=> [(0,.slice (s.map eSto) t),(3,.slice ((ids (s.take k.1)).map eDig) k.2),(4,.raw (.int .i64 k.1))]) (fun k=> .tok k.2 (ids (s.take k.1)).length 32::LF) (0,.nil) (by simp) ⟨rfl,rfl,rfl⟩ (.refl _) ?_
 rintro⟨k,u⟩ hk
 dsimp only at hk
 refine AX ?_
 refine A6 (fun hc=>?_) (fun hc=>?_)
 ·have hl:(ids (s.take k)).length=k:=by simp[ids];omega
  refine Gu fun v=>?_
  have e:ids (s.take (k+1))=ids (s.take k)++ [s[k].id]:=by
   rw[A7 (by omega)];simp only[ids,Au,Aq,CC]
  refine⟨(k+1,v),by dsimp only;omega,by dsimp only;omega,⟨rfl,by dsimp only;rw[e];rfl,rfl⟩,by dsimp only;rw[e];exact .refl _⟩
 ·refine AX ?_
  refine Aw (.ros ?_)
  rw[AB (by omega)]⟩
def getS:List Sto→Dig→Option Pat
 | [],_=>none
 |x::s,d=>if x.id=d then some x.patch else getS s d
theorem fw {s:List Sto} {d:Dig} (h: ∀ i (h:i < s.length),s[i].id≠d):getS s d=none:=by
 induction s with
 |nil=>rfl
 |cons x s ih=>
  have h0:=h 0 (by simp)
  simp only[BK]at h0
  simp only[getS,h0,if_false]
  exact ih fun i hi=>by have:=h (i+1) (by simpa using hi);simpa using this
theorem fv {s:List Sto} {d:Dig} {k:Nat} (hk:k < s.length) (h: ∀ i (h:i < s.length),i < k→s[i].id≠d) (he:s[k].id=d):getS s d=some s[k].patch:=by
 induction s generalizing k with
 |nil=>simp at hk
 |cons x s ih=>
  cases k with
  |zero=>simp only[BK]at he ⊢;simp[getS,he]
  |succ k=>
   have h0:=h 0 (by simp) (by omega)
   simp only[BK]at h0
   simp only[getS,h0,if_false,DJ]
   exact ih (by simpa using hk) (fun i hi hik=>by have:=h (i+1) (by simpa using hi) (by omega);simpa using this) (by simpa using he)
def zN (o:Option Pat):PV:= .tuple [.agg (Ba (o.getD Pat.zero)),.raw (.bool o.isSome)]
instance ln (s:List Sto) (d:Dig) (t:CD):C9 Tryz.prog 40 [.slice (s.map eSto) t,.agg (eDig d)] (zN (getS s d)):=⟨by
 refine Av Tryz.func40 Tryz.ntmps40 rfl (rs:= [.cell 4 40,.tmp 5]) rfl rfl fun hb LF=>?_
 have hlen:s.length≤140737488355328:=(hb (.slice (s.map eSto) t) (by simp)).slice_map
 refine Cy fun b=>?_
 refine Et fun r=>?_
 refine AZ (σ:=Nat) (fun k=>k≤s.length∧ ∀ i (h:i < s.length),i < k→s[i].id≠d) (fun k=>s.length - k) (fun k=> [(0,.slice (s.map eSto) t),(3,.raw (.pointer (some ⟨b,0,none⟩))),(4,.raw (.pointer (some ⟨r,0,none⟩))),(6,.raw (.int .i64 k))]) (fun _=> .box r 40 (Ba Pat.zero):: .box b 31 (eDig d)::LF) 0 ⟨by simp,by simp⟩ ⟨rfl,rfl,rfl,rfl⟩ (.refl _) ?_
 rintro k ⟨hk,hne⟩
 refine AX ?_
 refine A6 (fun hc=>?_) (fun hc=>?_)
 ·refine AX ?_
  refine A6 (fun he=>?_) (fun he=>?_)
  ·refine AX ?_
   refine LK rfl (.of_eq ?_)
   rw[fv (by omega) hne he];rfl
  ·refine AX ?_
   refine⟨k+1,⟨by omega,fun i h hi=>?_⟩,by dsimp only;omega,⟨rfl,rfl,rfl,rfl⟩,.refl _⟩
   rcases BN i k with h'|h'
   ·exact hne i h h'
   ·have:i=k:=by omega
    subst this;exact he
 ·refine AX ?_
  refine LK rfl (.of_eq ?_)
  rw[fw fun i h=>hne i h (by omega)];rfl⟩
instance yt (l:List Dig) (d:Dig) (t:CD) [hs:Ay (l.length≤1000000)]:C9 Tryz.prog 72 [.slice (l.map eDig) t,.agg (eDig d)] (.slice ((Ep l d).map eDig) .ro):=⟨by
 refine Av Tryz.func72 Tryz.ntmps72 rfl (rs:= [.tmp 4]) rfl rfl fun hb LF=>?_
 have hlen:l.length≤1000000:=hs.out
 refine Cy fun b=>?_
 refine AZ (σ:=Nat) (fun k=>k≤l.length∧ ∀ i (h:i < l.length),i < k→Dig.lt l[i] d) (fun k=>l.length - k) (fun k=> [(0,.slice (l.map eDig) t),(3,.raw (.pointer (some ⟨b,0,none⟩))),(5,.raw (.int .i64 k))]) (fun _=> .box b 31 (eDig d)::LF) 0 ⟨by simp,by simp⟩ ⟨rfl,rfl,rfl⟩ (.refl _) ?_
 rintro k ⟨hk,hne⟩
 refine AX ?_
 refine Ao (fun hp=>?_) (fun hp=>?_)
 ·have hc:(k:Int) < l.length:=BP hp
  refine Bq ?_
  refine A6 (fun h1=>?_) (fun h1=>?_)
  ·refine AX ?_
   refine⟨k+1,⟨by omega,fun i h hi=>?_⟩,by dsimp only;omega,⟨rfl,rfl,rfl⟩,.refl _⟩
   rcases BN i k with h'|h'
   ·exact hne i h h'
   ·have:i=k:=by omega
    subst this;exact h1
  ·refine AX ?_
   refine A6 (fun h2=>?_) (fun h2=>?_)
   ·refine AX ?_
    refine Aw (.ros ?_)
    rw[Q5 hk hne (fun _=>h1),if_pos ⟨by omega,h2⟩]
   ·refine Gu fun t1=>?_
    refine GD fun t2=>?_
    refine GD fun t3=>?_
    refine Aw (.ros ?_)
    rw[Q5 hk hne (fun _=>h1),if_neg (fun⟨_,e⟩=>h2 e)]
    simp
 ·have hc: ¬(k:Int) < l.length:=Bl hp
  refine Bq ?_
  refine GD fun t1=>?_
  refine GD fun t2=>?_
  refine GD fun t3=>?_
  refine Aw (.ros ?_)
  rw[Q5 hk hne (fun h=>absurd (show(k:Int) < l.length by omega) hc),if_neg (fun⟨h,_⟩=>hc (by omega))]
  simp⟩
def TI (k:Int):Int:=if k=7 then 0 else k
def IX (k:Int):Bool:=decide (k=5)||decide (k=6)
def FT (x:Ident):Bool:=!decide (x.patch=Dig.zero)
def rDirectory (x:Atm):Bool:=decide (x.kind=1)&&decide (x.type=4)
def Dk (x:Ident) (n:Int):Bool:=if x.patch=Dig.zero then decide (0≤x.n)&&decide (x.n < n)else decide (0≤x.n)&&decide (x.n < 100000)
def EK (k:Int) (x:Atm):Bool:=if x.kind≠1 then false else if IX k then decide (x.type=1)else !decide (k=4)||decide (x.type=2)||decide (x.type=3)
def Jf (f:Ident) (x:Atm):Bool:=decide (x.kind=5)&&decide (x.file=f)
instance yY:C9 Tryz.prog 298 [] (.agg (eIdent Ident.zero)):=⟨by
 refine Av Tryz.func298 Tryz.ntmps298 rfl (rs:= [.cell 0 65]) rfl rfl fun hb LF=>?_
 refine Cy fun b=>?_
 exact Fi rfl (.refl _)⟩
instance yv:C9 Tryz.prog 119 [] (.agg (eIdent ⟨Dig.zero,-1⟩)):=⟨by
 refine Av Tryz.func119 Tryz.ntmps119 rfl (rs:= [.cell 0 65]) rfl rfl fun hb LF=>?_
 refine Cy fun b=>?_
 exact Fi rfl (.refl _)⟩
instance yH (k:Int):C9 Tryz.prog 263 [.raw (.int .i64 k)] (.raw (.int .i64 (TI k))):=⟨by
 refine Av Tryz.func263 Tryz.ntmps263 rfl (rs:= [.tmp 2]) rfl rfl fun hb LF=>?_
 refine AX ?_
 refine A6 (fun h=>?_) (fun h=>?_)
 ·refine AX ?_
  refine Aw (.of_eq ?_)
  simp[TI,h]
 ·refine AX ?_
  refine Aw (.of_eq ?_)
  simp[TI,h]⟩
instance yO (k:Int):C9 Tryz.prog 261 [.raw (.int .i64 k)] (.raw (.bool (IX k))):=⟨by
 refine Av Tryz.func261 Tryz.ntmps261 rfl (rs:= [.tmp 2]) rfl rfl fun hb LF=>?_
 refine AX ?_
 refine Ao (fun hp=>?_) (fun hp=>?_)
 ·refine Bq ?_
  refine Aw (.of_eq ?_)
  simp_all[IX]
 ·refine Bq ?_
  refine Aw (.of_eq ?_)
  simp_all[IX]⟩
instance xA (x:Ident):C9 Tryz.prog 206 [.agg (eIdent x)] (.raw (.bool (FT x))):=⟨by
 refine Av Tryz.func206 Tryz.ntmps206 rfl (rs:= [.tmp 2]) rfl rfl fun hb LF=>?_
 refine Cy fun b=>?_
 refine Aw (.of_eq ?_)
 rfl⟩
instance pH (x:Atm):C9 Tryz.prog 209 [.agg (eAtm x)] (.raw (.bool (rDirectory x))):=⟨by
 refine Av Tryz.func209 Tryz.ntmps209 rfl (rs:= [.tmp 2]) rfl rfl fun hb LF=>?_
 refine Cy fun b=>?_
 refine Ao (fun hp=>?_) (fun hp=>?_)
 ·refine Bq ?_
  refine Aw (.of_eq ?_)
  simp_all[rDirectory]
 ·refine Bq ?_
  refine Aw (.of_eq ?_)
  simp_all[rDirectory]⟩
instance uW (x:Ident) (n:Int):C9 Tryz.prog 300 [.agg (eIdent x),.raw (.int .i64 n)] (.raw (.bool (Dk x n))):=⟨by
 refine Av Tryz.func300 Tryz.ntmps300 rfl (rs:= [.tmp 4]) rfl rfl fun hb LF=>?_
 refine Cy fun b=>?_
 refine A6 (fun h=>?_) (fun h=>?_)
 ·refine AX ?_
  refine Ao (fun hp=>?_) (fun hp=>?_)
  ·refine Bq ?_
   refine Aw (.of_eq ?_)
   simp_all[Dk]<;>omega
  ·refine Bq ?_
   refine Aw (.of_eq ?_)
   simp_all[Dk]<;>omega
 ·refine AX ?_
  refine Ao (fun hp=>?_) (fun hp=>?_)
  ·refine Bq ?_
   refine Aw (.of_eq ?_)
   simp_all[Dk]<;>omega
  ·refine Bq ?_
   refine Aw (.of_eq ?_)
   simp_all[Dk]<;>omega⟩
instance rn (k:Int) (x:Atm):C9 Tryz.prog 208 [.raw (.int .i64 k),.agg (eAtm x)] (.raw (.bool (EK k x))):=⟨by
 refine Av Tryz.func208 Tryz.ntmps208 rfl (rs:= [.tmp 4]) rfl rfl fun hb LF=>?_
 refine Cy fun b=>?_
 refine AR (fun h=>?_) (fun h=>?_)
 ·refine AX ?_
  refine Aw (.of_eq ?_)
  simp[EK,h]
 ·refine AX ?_
  refine AO (fun h2=>?_) (fun h2=>?_)
  ·refine AX ?_
   refine Aw (.of_eq ?_)
   simp[EK,h,h2]
  ·refine AX ?_
   refine Ao (fun hp=>?_) (fun hp=>?_)
   ·refine Bq ?_
    refine Aw (.of_eq ?_)
    simp_all[EK]
   ·refine Bq ?_
    refine Ao (fun hq=>?_) (fun hq=>?_)
    ·refine Bq ?_
     refine Aw (.of_eq ?_)
     simp_all[EK]
    ·refine Bq ?_
     refine Aw (.of_eq ?_)
     simp_all[EK]⟩
instance uf (f:Ident) (x:Atm):C9 Tryz.prog 262 [.agg (eIdent f),.agg (eAtm x)] (.raw (.bool (Jf f x))):=⟨by
 refine Av Tryz.func262 Tryz.ntmps262 rfl (rs:= [.tmp 4]) rfl rfl fun hb LF=>?_
 refine Cy fun b=>?_
 refine Et fun b2=>?_
 refine Ao (fun hp=>?_) (fun hp=>?_)
 ·refine Bq ?_
  refine Aw (.of_eq ?_)
  simp_all[Jf]
 ·refine Bq ?_
  refine Aw (.of_eq ?_)
  simp_all[Jf]⟩
def HH (k:Int) (f:Ident) (x:Atm):Bool:=decide (TI k=0)||decide (x.kind=TI k)&&decide (x.file=f)
def J6 (x:Ident) (own:List Atm) (fits:Bool):Int:=if Dk x own.length=false then 7 else if x.patch=Dig.zero∧fits=false then 8 else 0
def ME (own:List Atm) (x:Ident):Atm:=if x.patch=Dig.zero∧0≤x.n then own.getD x.n.toNat Atm.zero else Atm.zero
def HJ (x:Ident) (d:Dig):Ident:=if 0≤x.n∧x.patch=Dig.zero then { x with patch:=d }else x
def E0 (x:Ident) (d:Dig):Ident:=if x.patch=Dig.zero∧0≤x.n then { x with patch:=d }else x
instance rm (k:Int) (f:Ident) (x:Atm):C9 Tryz.prog 211 [.raw (.int .i64 k),.agg (eIdent f),.agg (eAtm x)] (.raw (.bool (HH k f x))):=⟨by
 refine Av Tryz.func211 Tryz.ntmps211 rfl (rs:= [.tmp 6]) rfl rfl fun hb LF=>?_
 refine Cy fun b=>?_
 refine Et fun b2=>?_
 refine Ao (fun hp=>?_) (fun hp=>?_)
 ·refine Bq ?_
  refine Aw (.of_eq ?_)
  simp_all[HH]
 ·refine Bq ?_
  refine Ao (fun hq=>?_) (fun hq=>?_)
  ·refine Bq ?_
   refine Aw (.of_eq ?_)
   simp_all[HH]
  ·refine Bq ?_
   refine Aw (.of_eq ?_)
   simp_all[HH]⟩
instance zO (x:Ident) (own:List Atm) (t:CD) (fits:Bool):C9 Tryz.prog 278 [.agg (eIdent x),.slice (own.map eAtm) t,.raw (.bool fits)] (.raw (.int .i64 (J6 x own fits))):=⟨by
 refine Av Tryz.func278 Tryz.ntmps278 rfl (rs:= [.tmp 6]) rfl rfl fun hb LF=>?_
 refine Cy fun b=>?_
 refine AO (fun h=>?_) (fun h=>?_)
 ·refine AX ?_
  refine Aw (.of_eq ?_)
  simp_all[J6]
 ·refine AX ?_
  refine Ao (fun hp=>?_) (fun hp=>?_)
  ·refine Bq ?_
   refine AO (fun h2=>?_) (fun h2=>?_)
   ·refine AX ?_
    refine Aw (.of_eq ?_)
    simp_all[J6]
   ·refine AX ?_
    refine Aw (.of_eq ?_)
    simp_all[J6]
  ·refine Bq ?_
   refine Aw (.of_eq ?_)
   simp_all[J6]⟩
instance zS (own:List Atm) (t:CD) (x:Ident):C9 Tryz.prog 279 [.slice (own.map eAtm) t,.agg (eIdent x)] (.agg (eAtm (ME own x))):=⟨by
 refine Av Tryz.func279 Tryz.ntmps279 rfl (rs:= [.cell 4 125]) rfl rfl fun hb LF=>?_
 refine Cy fun b=>?_
 refine Et fun b2=>?_
 refine Ao (fun hp=>?_) (fun hp=>?_)
 ·refine Bq ?_
  refine Ao (fun hq=>?_) (fun hq=>?_)
  ·refine Bq ?_
   refine A6 (fun h=>?_) (fun h=>?_)
   ·have h0:0≤x.n:=BP hq
    refine AX ?_
    refine Fi rfl (.of_eq ?_)
    have:x.n.toNat < own.length:=by omega
    simp_all[ME]
   ·refine AX ?_
    refine Fi rfl (.of_eq ?_)
    have h0:0≤x.n:=BP hq
    have: ¬x.n.toNat < own.length:=by omega
    simp_all[ME]
  ·refine Bq ?_
   refine Fi rfl (.of_eq ?_)
   have h0: ¬0≤x.n:=Bl hq
   simp[ME,h0]
 ·refine Bq ?_
  refine Fi rfl (.of_eq ?_)
  simp_all[ME]⟩
instance rM (x:Ident) (d:Dig):C9 Tryz.prog 212 [.agg (eIdent x),.agg (eDig d)] (.agg (eIdent (HJ x d))):=⟨by
 refine Av Tryz.func212 Tryz.ntmps212 rfl (rs:= [.cell 4 65]) rfl rfl fun hb LF=>?_
 refine Cy fun b=>?_
 refine Et fun b2=>?_
 refine Et fun b3=>?_
 refine Ao (fun hp=>?_) (fun hp=>?_)
 ·refine Bq ?_
  refine A6 (fun h=>?_) (fun h=>?_)
  ·refine AX ?_
   refine Fi rfl (.of_eq ?_)
   simp_all[HJ]
  ·refine AX ?_
   refine Fi rfl (.of_eq ?_)
   simp_all[HJ]
 ·refine Bq ?_
  refine Fi rfl (.of_eq ?_)
  have h0: ¬0≤x.n:=Bl hp
  simp[HJ,h0]⟩
instance w0 (x:Ident) (d:Dig):C9 Tryz.prog 294 [.agg (eIdent x),.agg (eDig d)] (.agg (eIdent (E0 x d))):=⟨by
 refine Av Tryz.func294 Tryz.ntmps294 rfl (rs:= [.cell 4 65]) rfl rfl fun hb LF=>?_
 refine Cy fun b=>?_
 refine Et fun b2=>?_
 refine Et fun b3=>?_
 refine Ao (fun hp=>?_) (fun hp=>?_)
 ·refine Bq ?_
  refine A6 (fun h=>?_) (fun h=>?_)
  ·refine AX ?_
   refine Fi rfl (.of_eq ?_)
   simp_all[E0]
  ·refine AX ?_
   refine Fi rfl (.of_eq ?_)
   simp[E0,h]
 ·refine Bq ?_
  refine Fi rfl (.of_eq ?_)
  simp_all[E0]⟩
def Hf (a b:Ident):Int:=if ER a.patch b.patch≠0 then ER a.patch b.patch else if a.n < b.n then -1 else if b.n < a.n then 1 else 0
instance rr (a b:Ident):C9 Tryz.prog 182 [.agg (eIdent a),.agg (eIdent b)] (.raw (.int .i64 (Hf a b))):=⟨by
 refine Av Tryz.func182 Tryz.ntmps182 rfl (rs:= [.tmp 4]) rfl rfl fun hb LF=>?_
 refine Cy fun p=>?_
 refine Et fun q=>?_
 refine AR (fun h=>?_) (fun h=>?_)
 ·refine AX ?_
  refine Aw (.of_eq ?_)
  simp[Hf,h]
 ·refine AX ?_
  refine A6 (fun h1=>?_) (fun h1=>?_)
  ·refine AX ?_
   refine Aw (.of_eq ?_)
   simp[Hf,h,h1]
  ·refine AX ?_
   refine A6 (fun h2=>?_) (fun h2=>?_)
   ·refine AX ?_
    refine Aw (.of_eq ?_)
    simp[Hf,h,h1,h2]
   ·refine AX ?_
    refine Aw (.of_eq ?_)
    simp[Hf,h,h1,h2]⟩
def Ph (l:List Ident):Bool:=(List.range (l.length - 1)).all fun i=>decide (Hf (l.getD i Ident.zero) (l.getD (i+1) Ident.zero) < 0)
instance qA (l:List Ident) (t:CD):C9 Tryz.prog 277 [.slice (l.map eIdent) t] (.raw (.bool (Ph l))):=⟨by
 refine Av Tryz.func277 Tryz.ntmps277 rfl (rs:= [.tmp 2]) rfl rfl fun hb LF=>?_
 have hlen:l.length≤140737488355328:=(hb (.slice (l.map eIdent) t) (by simp)).slice_map
 refine AX ?_
 refine AZ (σ:=Nat) (fun k=>1≤k∧ ∀ i,i+1 < k→i+1 < l.length→Hf (l.getD i Ident.zero) (l.getD (i+1) Ident.zero) < 0) (fun k=>l.length - k) (fun k=> [(0,.slice (l.map eIdent) t),(3,.raw (.int .i64 k))]) (fun _=>LF) 1 ⟨by simp,fun i h=>by omega⟩ ⟨rfl,rfl⟩ (.refl _) ?_
 rintro k ⟨hk,he⟩
 refine AX ?_
 refine A6 (fun hc=>?_) (fun hc=>?_)
 ·obtain⟨j,rfl⟩: ∃ j,k=j+1:=⟨k - 1,by omega⟩
  refine AX ?_
  have e:((↑(j+1):Int) - 1).toNat=j:=by omega
  have hj:j+1 < l.length:=by omega
  refine A6 (fun h1=>?_) (fun h1=>?_)
  ·refine AX ?_
   refine Aw (.of_eq ?_)
   simp only[e]at h1
   have:Ph l=false:=by
    unfold Ph
    rw[J5]
    refine⟨j,BZ.2 (by omega),?_⟩
    simp only[AA,Ct,AW hj,AW (show j < l.length by omega),CJ]
    omega
   rw[this]
  ·refine AX ?_
   simp only[e]at h1
   refine⟨j+1+1,⟨by omega,fun i h2 h3=>?_⟩,by dsimp only;omega,⟨rfl,rfl⟩,.refl _⟩
   rcases BN (i+1) (j+1)with h'|h'
   ·exact he i h' h3
   ·have:i=j:=by omega
    subst this
    simp only[Ct,AW hj,AW (show i < l.length by omega),CJ]
    omega
 ·refine AX ?_
  refine Aw (.of_eq ?_)
  have:Ph l=true:=by
   unfold Ph
   rw[Bf]
   intro i hi
   rw[BZ]at hi
   exact BC (he i (by omega) (by omega))
  rw[this]⟩
instance ub (l m:List Ident) (t u:CD):C9 Tryz.prog 112 [.slice (l.map eIdent) t,.slice (m.map eIdent) u] (.raw (.bool (decide (l=m)))):=⟨by
 refine Av Tryz.func112 Tryz.ntmps112 rfl (rs:= [.tmp 4]) rfl rfl fun hb LF=>?_
 have hlen:l.length≤140737488355328:=(hb (.slice (l.map eIdent) t) (by simp)).slice_map
 refine AX ?_
 refine AR (fun h1=>?_) (fun h1=>?_)
 ·refine AX ?_
  refine Aw (.of_eq ?_)
  have: ¬l=m:=fun e=>h1 (by rw[e])
  simp[this]
 ·refine AX ?_
  have hl:l.length=m.length:=by omega
  refine AZ (σ:=Nat) (fun k=>k≤l.length∧l.take k=m.take k) (fun k=>l.length - k) (fun k=> [(0,.slice (l.map eIdent) t),(1,.slice (m.map eIdent) u),(5,.raw (.int .i64 k))]) (fun _=>LF) 0 ⟨by simp,by simp⟩ ⟨rfl,rfl,rfl⟩ (.refl _) ?_
  rintro k ⟨hk,he⟩
  refine AX ?_
  refine A6 (fun hc=>?_) (fun hc=>?_)
  ·refine AX ?_
   refine AR (fun h2=>?_) (fun h2=>?_)
   ·refine AX ?_
    refine Aw (.of_eq ?_)
    have: ¬l=m:=fun e=>h2 (by simp[e])
    simp[this]
   ·refine AX ?_
    refine⟨k+1,⟨by omega,?_⟩,by dsimp only;omega,⟨rfl,rfl,rfl⟩,.refl _⟩
    rw[A7 (by omega),A7 (by omega),he,h2]
  ·refine AX ?_
   refine Aw (.of_eq ?_)
   have:l=m:=by
    rw[AB (by omega),AB (by omega)]at he
    exact he
   simp[this]⟩
instance xx (l m:List Str) (t u:CD):C9 Tryz.prog 111 [.slice (l.map eS) t,.slice (m.map eS) u] (.raw (.bool (decide (l=m)))):=⟨by
 refine Av Tryz.func111 Tryz.ntmps111 rfl (rs:= [.tmp 4]) rfl rfl fun hb LF=>?_
 have hlen:l.length≤140737488355328:=(hb (.slice (l.map eS) t) (by simp)).slice_map
 refine AX ?_
 refine AR (fun h1=>?_) (fun h1=>?_)
 ·refine AX ?_
  refine Aw (.of_eq ?_)
  have: ¬l=m:=fun e=>h1 (by rw[e])
  simp[this]
 ·refine AX ?_
  have hl:l.length=m.length:=by omega
  refine AZ (σ:=Nat) (fun k=>k≤l.length∧l.take k=m.take k) (fun k=>l.length - k) (fun k=> [(0,.slice (l.map eS) t),(1,.slice (m.map eS) u),(5,.raw (.int .i64 k))]) (fun _=>LF) 0 ⟨by simp,by simp⟩ ⟨rfl,rfl,rfl⟩ (.refl _) ?_
  rintro k ⟨hk,he⟩
  refine AX ?_
  refine A6 (fun hc=>?_) (fun hc=>?_)
  ·refine AX ?_
   refine AR (fun h2=>?_) (fun h2=>?_)
   ·refine AX ?_
    refine Aw (.of_eq ?_)
    have: ¬l=m:=fun e=>h2 (by simp[e])
    simp[this]
   ·refine AX ?_
    refine⟨k+1,⟨by omega,?_⟩,by dsimp only;omega,⟨rfl,rfl,rfl⟩,.refl _⟩
    rw[A7 (by omega),A7 (by omega),he,h2]
  ·refine AX ?_
   refine Aw (.of_eq ?_)
   have:l=m:=by
    rw[AB (by omega),AB (by omega)]at he
    exact he
   simp[this]⟩
theorem uH (a b:Chg):decide (a=b)=(decide (a.kind=b.kind)&&decide (a.file=b.file)&&decide (a.type=b.type)&&decide (a.parent=b.parent)&&decide (a.name=b.name)&&decide (a.mode=b.mode)&&decide (a.data=b.data)&&decide (a.after=b.after)&&decide (a.before=b.before)&&decide (a.lines=b.lines)&&decide (a.over=b.over)):=by
 cases a;cases b;rw[H0];simp[and_assoc]
instance mU (a b:Chg):C9 Tryz.prog 54 [.agg (eChg a),.agg (eChg b)] (.raw (.bool (decide (a=b)))):=⟨by
 refine Av Tryz.func54 Tryz.ntmps54 rfl (rs:= [.tmp 4]) rfl rfl fun hb LF=>?_
 rw[uH]
 refine Cy fun p=>?_
 refine Et fun q=>?_
 iterate 10
  refine Ao (fun hp=>?_) (fun hp=>by
   refine Bq ?_
   refine Aw (.of_eq ?_)
   simp_all)
  refine Bq ?_
 refine Aw (.of_eq ?_)
 simp_all⟩
theorem o9 {a b:Pat} (h1:a.author=b.author) (h2:a.message=b.message) (h3:a.time=b.time) (h4:a.deps=b.deps) (h5:a.changes=b.changes):a=b:=by
 cases a;cases b;simp_all
instance xy (a b:Pat):C9 Tryz.prog 18 [.agg (Ba a),.agg (Ba b)] (.raw (.bool (decide (a=b)))):=⟨by
 refine Av Tryz.func18 Tryz.ntmps18 rfl (rs:= [.tmp 4]) rfl rfl fun hb LF=>?_
 have hlen:a.changes.length≤140737488355328:=((hb (.agg (Ba a)) (by simp)).agg_at (c:= .slice (a.changes.map eChg) .ro) (by simp[Ba])).slice_map
 have no: ∀ {q:Prop},(a=b→ ¬q)→q→Le (.raw (.bool false)) (.raw (.bool (decide (a=b)))):=fun h hq=> .of_eq (by rw[CG (fun e=>h e hq)])
 refine Cy fun p=>?_
 refine Et fun q=>?_
 iterate 4
  refine Ao (fun hp=>by
   refine Bq ?_
   refine Aw (no (fun e=>?_) hp)
   simp[e]) (fun hp=>?_)
  refine Bq ?_
 refine AR (fun h=>?_) (fun h=>?_)
 ·refine AX ?_
  refine Aw (no (fun e=>?_) h)
  simp[e]
 ·refine AX ?_
  have hl:a.changes.length=b.changes.length:=by omega
  refine AZ (σ:=Nat) (fun k=>k≤a.changes.length∧a.changes.take k=b.changes.take k) (fun k=>a.changes.length - k) (fun k=> [(2,.raw (.pointer (some ⟨p,0,none⟩))),(3,.raw (.pointer (some ⟨q,0,none⟩))),(5,.raw (.int .i64 k))]) (fun _=> .box q 40 (Ba b):: .box p 40 (Ba a)::LF) 0 ⟨by simp,by simp⟩ ⟨rfl,rfl,rfl⟩ (.refl _) ?_
  rintro k ⟨hk,he⟩
  refine AX ?_
  refine A6 (fun hc=>?_) (fun hc=>?_)
  ·refine AX ?_
   refine AR (fun h2=>?_) (fun h2=>?_)
   ·refine AX ?_
    refine Aw (no (fun e=>?_) h2)
    simp[e]
   ·refine AX ?_
    refine⟨k+1,⟨by omega,?_⟩,by dsimp only;omega,⟨rfl,rfl,rfl⟩,.refl _⟩
    rw[A7 (by omega),A7 (by omega),he,h2]
  ·refine AX ?_
   refine Aw (.of_eq ?_)
   have h5:a.changes=b.changes:=by
    rw[AB (by omega),AB (by omega)]at he
    exact he
   have:a=b:=by
    apply o9<;>simp_all
   simp[this]⟩
theorem mu {a b:Sto} (h1:a.id=b.id) (h2:a.patch=b.patch):a=b:=by
 cases a;cases b;simp_all
instance ua (l m:List Sto) (t u:CD):C9 Tryz.prog 14 [.slice (l.map eSto) t,.slice (m.map eSto) u] (.raw (.bool (decide (l=m)))):=⟨by
 refine Av Tryz.func14 Tryz.ntmps14 rfl (rs:= [.tmp 4]) rfl rfl fun hb LF=>?_
 have hlen:l.length≤140737488355328:=(hb (.slice (l.map eSto) t) (by simp)).slice_map
 refine AX ?_
 refine AR (fun h1=>?_) (fun h1=>?_)
 ·refine AX ?_
  refine Aw (.of_eq ?_)
  have: ¬l=m:=fun e=>h1 (by rw[e])
  simp[this]
 ·refine AX ?_
  have hl:l.length=m.length:=by omega
  refine AZ (σ:=Nat) (fun k=>k≤l.length∧l.take k=m.take k) (fun k=>l.length - k) (fun k=> [(0,.slice (l.map eSto) t),(1,.slice (m.map eSto) u),(5,.raw (.int .i64 k))]) (fun _=>LF) 0 ⟨by simp,by simp⟩ ⟨rfl,rfl,rfl⟩ (.refl _) ?_
  rintro k ⟨hk,he⟩
  refine AX ?_
  refine A6 (fun hc=>?_) (fun hc=>?_)
  ·refine AX ?_
   refine Ao (fun hp=>?_) (fun hp=>?_)
   ·refine Bq ?_
    refine Aw (.of_eq ?_)
    have: ¬l=m:=fun e=>by simp[e]at hp
    simp[this]
   ·refine Bq ?_
    refine AR (fun h2=>?_) (fun h2=>?_)
    ·refine AX ?_
     refine Aw (.of_eq ?_)
     have: ¬l=m:=fun e=>h2 (by simp[e])
     simp[this]
    ·refine AX ?_
     refine⟨k+1,⟨by omega,?_⟩,by dsimp only;omega,⟨rfl,rfl,rfl⟩,.refl _⟩
     have h3:l[k]=m[k]:=mu (by simpa using hp) h2
     rw[A7 (by omega),A7 (by omega),he,h3]
  ·refine AX ?_
   refine Aw (.of_eq ?_)
   have:l=m:=by
    rw[AB (by omega),AB (by omega)]at he
    exact he
   simp[this]⟩
def Ha (s:List Sto) (l:List Dig):List Sto:=s.filter fun x=>decide (x.id∈l)
theorem Ih {α:Type} {l:List α} {q:α→Bool} (h: ∀ i (h:i < l.length),q l[i]=true):l.all q=true:=by
 rw[Bf];intro x hx
 obtain⟨i,hi,rfl⟩:=Ag.1 hx
 exact h i hi
theorem HT {α:Type} {l:List α} {q:α→Bool} {k:Nat} (hk:k < l.length) (h:q l[k]=false):l.all q=false:=by
 rw[J5];exact⟨_,AH hk,by simp[h]⟩
theorem KM {α:Type} {l:List α} {q:α→Bool} {k:Nat} (he: ∀ i (h:i < l.length),i < k→q l[i]=true) (hk:k < l.length) (h:q l[k]=true): ∀ i (h:i < l.length),i < k+1→q l[i]=true:=fun i hi hik=>by
 rcases BN i k with h'|h'
 ·exact he i hi h'
 ·have:i=k:=by omega
  subst this;exact h
def Oo (m n:Int) (c:UInt8):Bool:=!decide ((c.toNat:Int)=m)&&!decide ((c.toNat:Int)=n)
def Pg (s:Str) (m n:Int):Bool:=s.all (Oo m n)
instance xo (s:Str) (m n:Int):C9 Tryz.prog 305 [.str s,.raw (.int .u8 m),.raw (.int .u8 n)] (.raw (.bool (Pg s m n))):=⟨by
 refine Av Tryz.func305 Tryz.ntmps305 rfl (rs:= [.tmp 6]) rfl rfl fun hb LF=>?_
 have hlen:s.length≤140737488355328:=(hb (.str s) (by simp)).str_len
 refine AX ?_
 refine AZ (σ:=Nat) (fun k=>k≤s.length∧ ∀ i (h:i < s.length),i < k→Oo m n s[i]=true) (fun k=>s.length - k) (fun k=> [(0,.str s),(1,.raw (.int .u8 m)),(2,.raw (.int .u8 n)),(7,.raw (.int .i64 k))]) (fun _=>LF) 0 ⟨by simp,by simp⟩ ⟨rfl,rfl,rfl,rfl⟩ (.refl _) ?_
 rintro k ⟨hk,he⟩
 refine AX ?_
 refine A6 (fun hc=>?_) (fun hc=>?_)
 ·have hlt:k < s.length:=by omega
  refine AX ?_
  repeat' (first|(refine A6 (fun h=>?_) (fun h=>?_)<;>refine AX ?_)|(refine AR (fun h=>?_) (fun h=>?_)<;>refine AX ?_)|(refine AO (fun h=>?_) (fun h=>?_)<;>refine AX ?_)|(refine Ao (fun h=>?_) (fun h=>?_)<;>(have h2:=h;(try simp only[AA,A8,AF,AJ]at h2);refine Bq ?_)))
  all_goals first
   |(refine⟨k+1,⟨by omega,KM he hlt ?_⟩,by dsimp only;omega,⟨rfl,rfl,rfl,rfl⟩,.refl _⟩;simp_all[Oo];done)
   |(refine Aw (.of_eq ?_);have:Oo m n s[k]=false:=by simp_all[Oo]
     rw[Pg,HT hlt this])
 ·refine AX ?_
  refine Aw (.of_eq ?_)
  rw[Pg,Ih fun i h=>he i h (by omega)]⟩
def JD (s:Str):Bool:=decide ((s.length:Int)≤1000)&&Pg s 10 0
instance xw (s:Str):C9 Tryz.prog 299 [.str s] (.raw (.bool (JD s))):=⟨by
 refine Av Tryz.func299 Tryz.ntmps299 rfl (rs:= [.tmp 2]) rfl rfl fun hb LF=>?_
 refine AX ?_
 repeat' (first|(refine A6 (fun h=>?_) (fun h=>?_)<;>refine AX ?_)|(refine AR (fun h=>?_) (fun h=>?_)<;>refine AX ?_)|(refine AO (fun h=>?_) (fun h=>?_)<;>refine AX ?_)|(refine Ao (fun h=>?_) (fun h=>?_)<;>(have h2:=h;(try simp only[AA,A8,AF,AJ]at h2);refine Bq ?_)))
 all_goals (refine Aw (.of_eq ?_);first|(simp_all[JD];done)|grind [JD])⟩
def Ka (c:UInt8):Bool:=(decide (97≤(c.toNat:Int))&&decide ((c.toNat:Int)≤122))||(decide (65≤(c.toNat:Int))&&decide ((c.toNat:Int)≤90))||(decide (48≤(c.toNat:Int))&&decide ((c.toNat:Int)≤57))||decide ((c.toNat:Int)=46)||decide ((c.toNat:Int)=95)||decide ((c.toNat:Int)=45)
def Je (s:Str):Bool:=s.all Ka&&decide (1≤(s.length:Int))&&decide ((s.length:Int)≤40)&&!decide (s= [46])&&!decide (s= [46,46])
instance yw (s:Str):C9 Tryz.prog 161 [.str s] (.raw (.bool (Je s))):=⟨by
 refine Av Tryz.func161 Tryz.ntmps161 rfl (rs:= [.tmp 2]) rfl rfl fun hb LF=>?_
 have hlen:s.length≤140737488355328:=(hb (.str s) (by simp)).str_len
 refine AX ?_
 refine AZ (σ:=Nat) (fun k=>k≤s.length∧ ∀ i (h:i < s.length),i < k→Ka s[i]=true) (fun k=>s.length - k) (fun k=> [(0,.str s),(3,.raw (.int .i64 k))]) (fun _=>LF) 0 ⟨by simp,by simp⟩ ⟨rfl,rfl⟩ (.refl _) ?_
 rintro k ⟨hk,he⟩
 refine AX ?_
 refine A6 (fun hc=>?_) (fun hc=>?_)
 ·have hlt:k < s.length:=by omega
  refine AX ?_
  repeat' (first|(refine A6 (fun h=>?_) (fun h=>?_)<;>refine AX ?_)|(refine AR (fun h=>?_) (fun h=>?_)<;>refine AX ?_)|(refine AO (fun h=>?_) (fun h=>?_)<;>refine AX ?_)|(refine Ao (fun h=>?_) (fun h=>?_)<;>(have h2:=h;(try simp only[AA,A8,AF,AJ]at h2);refine Bq ?_)))
  all_goals first
   |(refine⟨k+1,⟨by omega,KM he hlt ?_⟩,by dsimp only;omega,⟨rfl,rfl⟩,.refl _⟩;clear he hc;grind [Ka])
   |(refine Aw (.of_eq ?_);have:Ka s[k]=false:=by clear he hc;grind [Ka]
     rw[Je,HT hlt this];rfl)
 ·have hall:s.all Ka=true:=Ih fun i h=>he i h (by omega)
  refine AX ?_
  repeat' (first|(refine A6 (fun h=>?_) (fun h=>?_)<;>refine AX ?_)|(refine AR (fun h=>?_) (fun h=>?_)<;>refine AX ?_)|(refine AO (fun h=>?_) (fun h=>?_)<;>refine AX ?_)|(refine Ao (fun h=>?_) (fun h=>?_)<;>(have h2:=h;(try simp only[AA,A8,AF,AJ]at h2);refine Bq ?_)))
  all_goals (refine Aw (.of_eq ?_);first|(simp_all[Je];done)|grind [Je])⟩
def Mw (l:List Str):Int:=if(l.length:Int)=0 then 1 else if 2000 < (l.length:Int)then 4 else if l.all JD then 0 else 3
instance xP (l:List Str) (t:CD):C9 Tryz.prog 276 [.slice (l.map eS) t] (.raw (.int .i64 (Mw l))):=⟨by
 refine Av Tryz.func276 Tryz.ntmps276 rfl (rs:= [.tmp 2]) rfl rfl fun hb LF=>?_
 have hlen:l.length≤140737488355328:=(hb (.slice (l.map eS) t) (by simp)).slice_map
 refine AX ?_
 refine A6 (fun h1=>?_) (fun h1=>?_)
 ·refine AX ?_
  refine Aw (.of_eq ?_)
  simp[Mw,h1]
 refine AX ?_
 refine A6 (fun h2=>?_) (fun h2=>?_)
 ·refine AX ?_
  refine Aw (.of_eq ?_)
  simp only[Mw,h1,h2,if_true,if_false]
 refine AX ?_
 refine AZ (σ:=Nat) (fun k=>k≤l.length∧ ∀ i (h:i < l.length),i < k→JD l[i]=true) (fun k=>l.length - k) (fun k=> [(0,.slice (l.map eS) t),(3,.raw (.int .i64 k))]) (fun _=>LF) 0 ⟨by simp,by simp⟩ ⟨rfl,rfl⟩ (.refl _) ?_
 rintro k ⟨hk,he⟩
 refine AX ?_
 refine A6 (fun hc=>?_) (fun hc=>?_)
 ·have hlt:k < l.length:=by omega
  refine AX ?_
  refine AO (fun h=>?_) (fun h=>?_)
  ·refine AX ?_
   refine Aw (.of_eq ?_)
   simp only[Mw,h1,h2,if_false]
   rw[HT hlt (by simpa using h)];rfl
  ·refine AX ?_
   exact⟨k+1,⟨by omega,KM he hlt (by simpa using h)⟩,by dsimp only;omega,⟨rfl,rfl⟩,.refl _⟩
 ·refine AX ?_
  refine Aw (.of_eq ?_)
  simp only[Mw,h1,h2,if_false]
  rw[Ih fun i h=>he i h (by omega)];rfl⟩
def Hp (c:Chg):Chg:=
 { kind:=c.kind,file:=if 2≤c.kind∧c.kind≤6 then Ident.zero else c.file,type:=if c.kind=1 then 0 else c.type,parent:=if c.kind=2 then Ident.zero else c.parent,name:=if c.kind=2 then []else c.name,
   mode:=if c.kind=3 then 0 else c.mode,data:=if c.kind=4 then []else c.data,after:=if c.kind=5∨c.kind=6 then Ident.zero else c.after,before:=if c.kind=5∨c.kind=6 then Ident.zero else c.before,
   lines:=if c.kind=5 then []else c.lines,over:=if c.kind≠1∧c.kind≠5 then []else c.over }
instance yU (c:Chg):C9 Tryz.prog 275 [.agg (eChg c)] (.agg (eChg (Hp c))):=⟨by
 refine Av Tryz.func275 Tryz.ntmps275 rfl (rs:= [.cell 2 73]) rfl rfl fun hb LF=>?_
 refine Cy fun b=>?_
 refine Et fun b2=>?_
 repeat' (first|(refine A6 (fun h=>?_) (fun h=>?_)<;>((try dsimp only at h);first|(exfalso;omega;done)|refine AX ?_))|(refine AR (fun h=>?_) (fun h=>?_)<;>((try dsimp only at h);first|(exfalso;omega;done)|refine AX ?_))|(refine AO (fun h=>?_) (fun h=>?_)<;>((try dsimp only at h);first|(exfalso;omega;done)|refine AX ?_))|(refine Ao (fun h=>?_) (fun h=>?_)<;>(have h2:=h;(try simp only[AA,A8,AF,AJ]at h2);first|(exfalso;omega;done)|refine Bq ?_)))
 all_goals (refine Fi rfl (.of_eq (congrArg (fun c=>PV.agg (eChg c)) ?_));simp only[Hp,Chg.mk.injEq];and_intros<;>first|trivial|rfl|(split<;>first|rfl|(exfalso;omega)))⟩
def Fg (c:Chg):Bool:=decide (c.file=Ident.zero)&&decide (c.type=0)&&decide (c.parent=Ident.zero)&&decide (c.name= [])&&decide (c.mode=0)&&decide (c.data= [])&&decide (c.after=Ident.zero)&&decide (c.before=Ident.zero)&&decide ((c.lines.length:Int)=0)&&decide ((c.over.length:Int)=0)
instance xk (c:Chg):C9 Tryz.prog 274 [.agg (eChg c)] (.raw (.bool (Fg c))):=⟨by
 refine Av Tryz.func274 Tryz.ntmps274 rfl (rs:= [.tmp 2]) rfl rfl fun hb LF=>?_
 refine Cy fun b=>?_
 iterate 9
  refine Ao (fun hp=>?_) (fun hp=>by
   refine Bq ?_
   refine Aw (.of_eq ?_)
   simp_all[Fg])
  refine Bq ?_
 refine Aw (.of_eq ?_)
 simp_all[Fg]⟩
def C0 (c:Chg):Int:=
 if c.kind < 1∨7 < c.kind then 8 else
 if Fg (Hp c)=false then 1 else
 if c.kind=1∧(c.type < 1∨4 < c.type)then 8 else
 if c.kind=2∧Je c.name=false then 5 else
 if c.kind=3∧(c.mode < 0∨511 < c.mode)then 2 else
 if 65536 < (c.data.length:Int)then 4 else
 if c.kind=5 then Mw c.lines else
 if c.kind=7∧(c.over.length:Int)=0 then 1 else
 if 400 < (c.over.length:Int)then 4 else
 if Ph c.over=false then 9 else 0
instance vP (c:Chg):C9 Tryz.prog 216 [.agg (eChg c)] (.raw (.int .i64 (C0 c))):=⟨by
 refine Av Tryz.func216 Tryz.ntmps216 rfl (rs:= [.tmp 2]) rfl rfl fun hb LF=>?_
 refine Cy fun b=>?_
 refine BG [(10,.raw (.bool (decide (c.kind < 1∨7 < c.kind)))),(1,.raw (.pointer (some ⟨b,0,none⟩)))] (.box b 73 (eChg c)::LF) ?_ ?_
 ·repeat' (first|(refine A6 (fun h=>?_) (fun h=>?_)<;>refine AX ?_)|(refine AR (fun h=>?_) (fun h=>?_)<;>refine AX ?_)|(refine AO (fun h=>?_) (fun h=>?_)<;>refine AX ?_)|(refine Ao (fun h=>?_) (fun h=>?_)<;>(have h2:=h;(try simp only[AA,A8,AF,AJ]at h2);refine Bq ?_)))
  all_goals (refine⟨⟨Bh (by rfl) ?_,rfl⟩,.refl _⟩;first|(simp_all;done)|(simp_all;omega)|grind)
 refine AX ?_
 refine A6 (fun h1=>?_) (fun h1=>?_)
 ·refine AX ?_
  refine Aw (.of_eq ?_)
  rw[C0,if_pos h1]
 refine AX ?_
 refine AO (fun h2=>?_) (fun h2=>?_)
 ·refine AX ?_
  refine Aw (.of_eq ?_)
  simp only[AF]at h2
  rw[C0,if_neg h1,if_pos h2]
 replace h2: ¬Fg (Hp c)=false:=by simpa using h2
 refine AX ?_
 refine BG [(27,.raw (.bool (decide (c.kind=1∧(c.type < 1∨4 < c.type))))),(1,.raw (.pointer (some ⟨b,0,none⟩)))] (.box b 73 (eChg c)::LF) ?_ ?_
 ·repeat' (first|(refine A6 (fun h=>?_) (fun h=>?_)<;>refine AX ?_)|(refine AR (fun h=>?_) (fun h=>?_)<;>refine AX ?_)|(refine AO (fun h=>?_) (fun h=>?_)<;>refine AX ?_)|(refine Ao (fun h=>?_) (fun h=>?_)<;>(have h2:=h;(try simp only[AA,A8,AF,AJ]at h2);refine Bq ?_)))
  all_goals (refine⟨⟨Bh (by rfl) ?_,rfl⟩,.refl _⟩;first|(simp_all;done)|(simp_all;omega)|grind)
 refine AX ?_
 refine A6 (fun h3=>?_) (fun h3=>?_)
 ·refine AX ?_
  refine Aw (.of_eq ?_)
  rw[C0,if_neg h1,if_neg h2,if_pos h3]
 refine AX ?_
 refine BG [(36,.raw (.bool (decide (c.kind=2∧Je c.name=false)))),(1,.raw (.pointer (some ⟨b,0,none⟩)))] (.box b 73 (eChg c)::LF) ?_ ?_
 ·repeat' (first|(refine A6 (fun h=>?_) (fun h=>?_)<;>refine AX ?_)|(refine AR (fun h=>?_) (fun h=>?_)<;>refine AX ?_)|(refine AO (fun h=>?_) (fun h=>?_)<;>refine AX ?_)|(refine Ao (fun h=>?_) (fun h=>?_)<;>(have h2:=h;(try simp only[AA,A8,AF,AJ]at h2);refine Bq ?_)))
  all_goals (refine⟨⟨Bh (by rfl) ?_,rfl⟩,.refl _⟩;first|(simp_all;done)|(simp_all;omega)|grind)
 refine AX ?_
 refine A6 (fun h4=>?_) (fun h4=>?_)
 ·refine AX ?_
  refine Aw (.of_eq ?_)
  rw[C0,if_neg h1,if_neg h2,if_neg h3,if_pos h4]
 refine AX ?_
 refine BG [(49,.raw (.bool (decide (c.kind=3∧(c.mode < 0∨511 < c.mode))))),(1,.raw (.pointer (some ⟨b,0,none⟩)))] (.box b 73 (eChg c)::LF) ?_ ?_
 ·repeat' (first|(refine A6 (fun h=>?_) (fun h=>?_)<;>refine AX ?_)|(refine AR (fun h=>?_) (fun h=>?_)<;>refine AX ?_)|(refine AO (fun h=>?_) (fun h=>?_)<;>refine AX ?_)|(refine Ao (fun h=>?_) (fun h=>?_)<;>(have h2:=h;(try simp only[AA,A8,AF,AJ]at h2);refine Bq ?_)))
  all_goals (refine⟨⟨Bh (by rfl) ?_,rfl⟩,.refl _⟩;first|(simp_all;done)|(simp_all;omega)|grind)
 refine AX ?_
 refine A6 (fun h5=>?_) (fun h5=>?_)
 ·refine AX ?_
  refine Aw (.of_eq ?_)
  rw[C0,if_neg h1,if_neg h2,if_neg h3,if_neg h4,if_pos h5]
 refine AX ?_
 refine A6 (fun h6=>?_) (fun h6=>?_)
 ·refine AX ?_
  refine Aw (.of_eq ?_)
  rw[C0,if_neg h1,if_neg h2,if_neg h3,if_neg h4,if_neg h5,if_pos h6]
 refine AX ?_
 refine A6 (fun h7=>?_) (fun h7=>?_)
 ·refine AX ?_
  refine Aw (.of_eq ?_)
  rw[C0,if_neg h1,if_neg h2,if_neg h3,if_neg h4,if_neg h5,if_neg h6,if_pos h7]
 refine AX ?_
 refine BG [(68,.raw (.bool (decide (c.kind=7∧(c.over.length:Int)=0)))),(1,.raw (.pointer (some ⟨b,0,none⟩)))] (.box b 73 (eChg c)::LF) ?_ ?_
 ·repeat' (first|(refine A6 (fun h=>?_) (fun h=>?_)<;>refine AX ?_)|(refine AR (fun h=>?_) (fun h=>?_)<;>refine AX ?_)|(refine AO (fun h=>?_) (fun h=>?_)<;>refine AX ?_)|(refine Ao (fun h=>?_) (fun h=>?_)<;>(have h2:=h;(try simp only[AA,A8,AF,AJ]at h2);refine Bq ?_)))
  all_goals (refine⟨⟨Bh (by rfl) ?_,rfl⟩,.refl _⟩;first|(simp_all;done)|(simp_all;omega)|grind)
 refine AX ?_
 refine A6 (fun h8=>?_) (fun h8=>?_)
 ·refine AX ?_
  refine Aw (.of_eq ?_)
  rw[C0,if_neg h1,if_neg h2,if_neg h3,if_neg h4,if_neg h5,if_neg h6,if_neg h7,if_pos h8]
 refine AX ?_
 refine A6 (fun h9=>?_) (fun h9=>?_)
 ·refine AX ?_
  refine Aw (.of_eq ?_)
  rw[C0,if_neg h1,if_neg h2,if_neg h3,if_neg h4,if_neg h5,if_neg h6,if_neg h7,if_neg h8,if_pos h9]
 refine AX ?_
 refine AO (fun h=>?_) (fun h=>?_)
 ·refine AX ?_
  refine Aw (.of_eq ?_)
  simp only[AF]at h
  rw[C0,if_neg h1,if_neg h2,if_neg h3,if_neg h4,if_neg h5,if_neg h6,if_neg h7,if_neg h8,if_neg h9,if_pos h]
 ·refine AX ?_
  refine Aw (.of_eq ?_)
  replace h: ¬Ph c.over=false:=by simpa using h
  rw[C0,if_neg h1,if_neg h2,if_neg h3,if_neg h4,if_neg h5,if_neg h6,if_neg h7,if_neg h8,if_neg h9,if_neg h]⟩
def Az {α:Type} (f:α→Int):List α→Int
 | []=>0
 |x::l=>if f x=0 then Az f l else f x
theorem E3 {α:Type} {f:α→Int}: ∀ {l:List α},(∀ i (h:i < l.length),f l[i]=0)→Az f l=0
 | [],_=>rfl
 |x::l,h=>by
  have h0:=h 0 (by simp)
  simp only[BK]at h0
  rw[Az,if_pos h0]
  exact E3 fun i hi=>by have:=h (i+1) (by simpa using hi);simpa using this
theorem DW {α:Type} {f:α→Int}: ∀ {l:List α} {k:Nat} (hk:k < l.length),(∀ i (h:i < l.length),i < k→f l[i]=0)→f l[k]≠0→Az f l=f l[k]
 |x::l,0,hk,_,hn=>by simp only[BK]at hn ⊢;rw[Az,if_neg hn]
 |x::l,k+1,hk,h,hn=>by
  have h0:=h 0 (by simp) (by omega)
  simp only[BK]at h0
  simp only[DJ]at hn ⊢
  rw[Az,if_pos h0]
  exact DW (by simpa using hk) (fun i hi hik=>by have:=h (i+1) (by simpa using hi) (by omega);simpa using this) hn
theorem E9 {α:Type} {l:List α} {f:α→Int} {k:Nat} (he: ∀ i (h:i < l.length),i < k→f l[i]=0) (hk:k < l.length) (h:f l[k]=0): ∀ i (h:i < l.length),i < k+1→f l[i]=0:=fun i hi hik=>by
 rcases BN i k with h'|h'
 ·exact he i hi h'
 ·have:i=k:=by omega
  subst this;exact h
def rRoot:Ident:=⟨Dig.zero,-1⟩
def K4 (c:Chg) (own:List Atm):Int:=if 2≤c.kind∧c.kind≤6 then J6 c.file own (EK c.kind (ME own c.file))else 0
def Lz (c:Chg) (own:List Atm):Int:=if c.kind=2∧c.parent≠rRoot then J6 c.parent own (rDirectory (ME own c.parent))else 0
def QK (c:Chg) (own:List Atm) (x:Ident):Int:=J6 x own (decide (x=c.file)||Jf c.file (ME own x))
def O2 (c:Chg) (own:List Atm) (x:Ident):Int:=J6 x own (HH c.kind c.file (ME own x))
def IJ (c:Chg) (own:List Atm):Int:=if IX c.kind=true then Az (QK c own) [c.after,c.before]else 0
def Ey (c:Chg) (own:List Atm):Int:=
 if K4 c own≠0 then K4 c own else if Lz c own≠0 then Lz c own else if IJ c own≠0 then IJ c own else
 if Az (O2 c own) c.over≠0 then Az (O2 c own) c.over else if c.kind=2∧c.parent=c.file then 20 else
 if(IX c.kind=true∧c.after=c.before)∧(c.kind=6∨c.after≠c.file)then 1 else 0
instance mC (c:Chg) (own:List Atm) (t:CD):C9 Tryz.prog 217 [.agg (eChg c),.slice (own.map eAtm) t] (.raw (.int .i64 (Ey c own))):=⟨by
 refine Av Tryz.func217 Tryz.ntmps217 rfl (rs:= [.tmp 4]) rfl rfl fun hb LF=>?_
 have hlen:c.over.length≤140737488355328:=((hb (.agg (eChg c)) (by simp)).agg_at (c:= .slice (c.over.map eIdent) .ro) (by simp[eChg])).slice_map
 refine Cy fun b=>?_
 refine BG [(20,.raw (.bool (decide (2≤c.kind∧c.kind≤6)))),(1,.slice (own.map eAtm) t),(2,.raw (.pointer (some ⟨b,0,none⟩)))] (.box b 73 (eChg c)::LF) ?_ ?_
 ·repeat' (first|(refine A6 (fun h=>?_) (fun h=>?_)<;>refine AX ?_)|(refine AR (fun h=>?_) (fun h=>?_)<;>refine AX ?_)|(refine AO (fun h=>?_) (fun h=>?_)<;>refine AX ?_)|(refine Ao (fun h=>?_) (fun h=>?_)<;>(have h2:=h;(try simp only[AA,A8,AF,AJ]at h2);refine Bq ?_)))
  all_goals (refine⟨⟨Bh (by rfl) ?_,rfl,rfl⟩,.refl _⟩;first|(simp_all;done)|(simp_all;omega)|grind)
 refine AX ?_
 refine Hs (K4 c own=0) [(1,.slice (own.map eAtm) t),(2,.raw (.pointer (some ⟨b,0,none⟩)))] (.box b 73 (eChg c)::LF) ?_ fun hF=>?_
 ·refine A6 (fun h=>?_) (fun h=>?_)
  ·refine AX ?_
   have e:K4 c own=J6 c.file own (EK c.kind (ME own c.file)):=by rw[K4,if_pos h]
   refine AR (fun h'=>?_) (fun h'=>?_)
   ·refine AX ?_
    refine Aw (.of_eq ?_)
    rw[Ey,if_pos (by rw[e];exact h'),e]
   ·refine AX ?_
    exact⟨e.trans h',⟨rfl,rfl⟩,.refl _⟩
  ·refine AX ?_
   exact⟨by rw[K4,if_neg h],⟨rfl,rfl⟩,.refl _⟩
 refine AX ?_
 refine BG [(43,.raw (.bool (decide (c.kind=2∧c.parent≠rRoot)))),(1,.slice (own.map eAtm) t),(2,.raw (.pointer (some ⟨b,0,none⟩)))] (.box b 73 (eChg c)::LF) ?_ ?_
 ·repeat' (first|(refine A6 (fun h=>?_) (fun h=>?_)<;>refine AX ?_)|(refine AR (fun h=>?_) (fun h=>?_)<;>refine AX ?_)|(refine AO (fun h=>?_) (fun h=>?_)<;>refine AX ?_)|(refine Ao (fun h=>?_) (fun h=>?_)<;>(have h2:=h;(try simp only[AA,A8,AF,AJ]at h2);refine Bq ?_)))
  all_goals (refine⟨⟨Bh (by rfl) ?_,rfl,rfl⟩,.refl _⟩;simp_all[rRoot])
 refine AX ?_
 refine Hs (Lz c own=0) [(1,.slice (own.map eAtm) t),(2,.raw (.pointer (some ⟨b,0,none⟩)))] (.box b 73 (eChg c)::LF) ?_ fun hP=>?_
 ·refine A6 (fun h=>?_) (fun h=>?_)
  ·refine Cy fun b2=>?_
   have e:Lz c own=J6 c.parent own (rDirectory (ME own c.parent)):=by rw[Lz,if_pos h]
   refine Ao (fun hp=>?_) (fun hp=>?_)
   ·refine Bq ?_
    have e2:rDirectory (ME own c.parent)=decide ((ME own c.parent).type=4):=by rw[rDirectory,hp,EJ]
    rw[e2]at e
    refine AR (fun h'=>?_) (fun h'=>?_)
    ·refine AX ?_
     refine Aw (.of_eq ?_)
     rw[Ey,if_neg (by simp[hF]),if_pos (by rw[e];exact h'),e]
    ·refine AX ?_
     exact⟨e.trans h',⟨rfl,rfl⟩,.cons _ (.refl _)⟩
   ·refine Bq ?_
    have e2:rDirectory (ME own c.parent)=false:=by rw[rDirectory,hp,Xy]
    rw[e2]at e
    refine AR (fun h'=>?_) (fun h'=>?_)
    ·refine AX ?_
     refine Aw (.of_eq ?_)
     rw[Ey,if_neg (by simp[hF]),if_pos (by rw[e];exact h'),e]
    ·refine AX ?_
     exact⟨e.trans h',⟨rfl,rfl⟩,.cons _ (.refl _)⟩
  ·refine AX ?_
   exact⟨by rw[Lz,if_neg h],⟨rfl,rfl⟩,.refl _⟩
 refine AX ?_
 refine Hs (IJ c own=0) [(1,.slice (own.map eAtm) t),(2,.raw (.pointer (some ⟨b,0,none⟩)))] (.box b 73 (eChg c)::LF) ?_ fun hE=>?_
 ·refine AO (fun h=>?_) (fun h=>?_)
  ·refine AX ?_
   have e:IJ c own=Az (QK c own) [c.after,c.before]:=by rw[IJ,if_pos h]
   generalize hends: [c.after,c.before]=ends at e
   have hl2:ends.length=2:=by rw[←hends];rfl
   refine AZ (σ:=Nat) (fun k=>k≤2∧ ∀ i (h:i < ends.length),i < k→QK c own ends[i]=0) (fun k=>2 - k) (fun k=> [(1,.slice (own.map eAtm) t),(2,.raw (.pointer (some ⟨b,0,none⟩))),(8,.slice (ends.map eIdent) .ro),(9,.raw (.int .i64 k))]) (fun _=> .box b 73 (eChg c)::LF) 0 ⟨by simp,by simp⟩ ⟨rfl,rfl,by rw[←hends];rfl,rfl⟩ (.refl _) ?_
   rintro k ⟨hk,he⟩
   refine AX ?_
   refine A6 (fun hc=>?_) (fun hc=>?_)
   ·have hlt:k < ends.length:=by omega
    refine AX ?_
    refine Ao (fun hp=>?_) (fun hp=>?_)
    ·refine Bq ?_
     have e2:QK c own ends[k]=J6 ends[k] own true:=by rw[QK,hp,Bool.true_or]
     refine AR (fun h'=>?_) (fun h'=>?_)
     ·refine AX ?_
      refine Aw (.of_eq ?_)
      have e3:IJ c own=J6 ends[k] own true:=by rw[e,DW hlt he (by rw[e2];exact h'),e2]
      rw[Ey,if_neg (by simp[hF]),if_neg (by simp[hP]),if_pos (by rw[e3];exact h'),e3]
     ·refine AX ?_
      exact⟨k+1,⟨by omega,E9 he hlt (e2.trans h')⟩,by dsimp only;omega,⟨rfl,rfl,rfl,rfl⟩,.refl _⟩
    ·refine Bq ?_
     have e2:QK c own ends[k]=J6 ends[k] own (Jf c.file (ME own ends[k])):=by rw[QK,hp,Fc]
     refine AR (fun h'=>?_) (fun h'=>?_)
     ·refine AX ?_
      refine Aw (.of_eq ?_)
      have e3:IJ c own=J6 ends[k] own (Jf c.file (ME own ends[k])):=by rw[e,DW hlt he (by rw[e2];exact h'),e2]
      rw[Ey,if_neg (by simp[hF]),if_neg (by simp[hP]),if_pos (by rw[e3];exact h'),e3]
     ·refine AX ?_
      exact⟨k+1,⟨by omega,E9 he hlt (e2.trans h')⟩,by dsimp only;omega,⟨rfl,rfl,rfl,rfl⟩,.refl _⟩
   ·refine AX ?_
    exact⟨by rw[e,E3 fun i h=>he i h (by omega)],⟨rfl,rfl⟩,.refl _⟩
  ·refine AX ?_
   exact⟨by rw[IJ,if_neg (by simp[h])],⟨rfl,rfl⟩,.refl _⟩
 refine AX ?_
 refine AZ (σ:=Nat) (fun k=>k≤c.over.length∧ ∀ i (h:i < c.over.length),i < k→O2 c own c.over[i]=0) (fun k=>c.over.length - k) (fun k=> [(1,.slice (own.map eAtm) t),(2,.raw (.pointer (some ⟨b,0,none⟩))),(11,.raw (.int .i64 k))]) (fun _=> .box b 73 (eChg c)::LF) 0 ⟨by simp,by simp⟩ ⟨rfl,rfl,rfl⟩ (.refl _) ?_
 rintro k ⟨hk,he⟩
 refine AX ?_
 refine A6 (fun hc=>?_) (fun hc=>?_)
 ·have hlt:k < c.over.length:=by omega
  refine AX ?_
  refine AR (fun h'=>?_) (fun h'=>?_)
  ·refine AX ?_
   refine Aw (.of_eq ?_)
   have e3:Az (O2 c own) c.over=O2 c own c.over[k]:=DW hlt he h'
   rw[Ey,if_neg (by simp[hF]),if_neg (by simp[hP]),if_neg (by simp[hE]),if_pos (by rw[e3];exact h'),e3];rfl
  ·refine AX ?_
   exact⟨k+1,⟨by omega,E9 he hlt h'⟩,by dsimp only;omega,⟨rfl,rfl,rfl⟩,.refl _⟩
 have hO:Az (O2 c own) c.over=0:=E3 fun i h=>he i h (by omega)
 refine AX ?_
 refine BG [(140,.raw (.bool (decide (c.kind=2∧c.parent=c.file)))),(2,.raw (.pointer (some ⟨b,0,none⟩)))] (.box b 73 (eChg c)::LF) ?_ ?_
 ·repeat' (first|(refine A6 (fun h=>?_) (fun h=>?_)<;>refine AX ?_)|(refine AR (fun h=>?_) (fun h=>?_)<;>refine AX ?_)|(refine AO (fun h=>?_) (fun h=>?_)<;>refine AX ?_)|(refine Ao (fun h=>?_) (fun h=>?_)<;>(have h2:=h;(try simp only[AA,A8,AF,AJ]at h2);refine Bq ?_)))
  all_goals (refine⟨⟨Bh (by rfl) ?_,rfl⟩,.refl _⟩;first|(simp_all;done)|(simp_all;omega)|grind)
 refine AX ?_
 refine A6 (fun h1=>?_) (fun h1=>?_)
 ·refine AX ?_
  refine Aw (.of_eq ?_)
  rw[Ey,if_neg (by simp[hF]),if_neg (by simp[hP]),if_neg (by simp[hE]),if_neg (by simp[hO]),if_pos h1]
 refine AX ?_
 refine BG [(162,.raw (.bool (decide ((IX c.kind=true∧c.after=c.before)∧(c.kind=6∨c.after≠c.file))))),(2,.raw (.pointer (some ⟨b,0,none⟩)))] (.box b 73 (eChg c)::LF) ?_ ?_
 ·repeat' (first|(refine A6 (fun h=>?_) (fun h=>?_)<;>refine AX ?_)|(refine AR (fun h=>?_) (fun h=>?_)<;>refine AX ?_)|(refine AO (fun h=>?_) (fun h=>?_)<;>refine AX ?_)|(refine Ao (fun h=>?_) (fun h=>?_)<;>(have h2:=h;(try simp only[AA,A8,AF,AJ]at h2);refine Bq ?_)))
  all_goals (refine⟨⟨Bh (by rfl) ?_,rfl⟩,.refl _⟩;first|(simp_all;done)|(simp_all;omega)|grind)
 refine AX ?_
 refine A6 (fun h2=>?_) (fun h2=>?_)
 ·refine AX ?_
  refine Aw (.of_eq ?_)
  rw[Ey,if_neg (by simp[hF]),if_neg (by simp[hP]),if_neg (by simp[hE]),if_neg (by simp[hO]),if_neg h1,if_pos h2]
 ·refine AX ?_
  refine Aw (.of_eq ?_)
  rw[Ey,if_neg (by simp[hF]),if_neg (by simp[hP]),if_neg (by simp[hE]),if_neg (by simp[hO]),if_neg h1,if_neg h2]⟩
def HZ (l:List Dig) (i:Nat):Int:=if l.getD i Dig.zero=Dig.zero then 1 else if 0 < (i:Int)∧0≤ER (l.getD (i - 1) Dig.zero) (l.getD i Dig.zero)then 9 else 0
def Im (l:List Dig):Int:=if 100 < (l.length:Int)then 4 else Az (HZ l) (List.range l.length)
instance ym (l:List Dig) (t:CD):C9 Tryz.prog 162 [.slice (l.map eDig) t] (.raw (.int .i64 (Im l))):=⟨by
 refine Av Tryz.func162 Tryz.ntmps162 rfl (rs:= [.tmp 2]) rfl rfl fun hb LF=>?_
 have hlen:l.length≤140737488355328:=(hb (.slice (l.map eDig) t) (by simp)).slice_map
 refine AX ?_
 refine A6 (fun h1=>?_) (fun h1=>?_)
 ·refine AX ?_
  refine Aw (.of_eq ?_)
  rw[Im,if_pos h1]
 refine AX ?_
 refine AZ (σ:=Nat) (fun k=>k≤l.length∧ ∀ i (h:i < (List.range l.length).length),i < k→HZ l (List.range l.length)[i]=0) (fun k=>l.length - k) (fun k=> [(0,.slice (l.map eDig) t),(3,.raw (.int .i64 k))]) (fun _=>LF) 0 ⟨by simp,by simp⟩ ⟨rfl,rfl⟩ (.refl _) ?_
 rintro k ⟨hk,he⟩
 refine AX ?_
 refine A6 (fun hc=>?_) (fun hc=>?_)
 ·have hlt:k < l.length:=by omega
  have hltr:k < (List.range l.length).length:=by simpa using hlt
  have ek:(List.range l.length)[k]=k:=by simp
  have e0:l.getD k Dig.zero=l[k]:=by simp[List.getD,hlt]
  refine AX ?_
  refine A6 (fun h2=>?_) (fun h2=>?_)
  ·refine AX ?_
   refine Aw (.of_eq ?_)
   have e:HZ l (List.range l.length)[k]=1:=by rw[ek,HZ,e0,if_pos h2]
   rw[Im,if_neg h1,DW hltr he (by rw[e];decide),e]
  refine AX ?_
  refine Ao (fun hp=>?_) (fun hp=>?_)
  ·have hp':0 < (k:Int):=BP hp
   refine Bq ?_
   have e1:l.getD (k - 1) Dig.zero=l[((k:Int) - 1).toNat]:=by
    have:((k:Int) - 1).toNat=k - 1:=by omega
    simp only[this]
    have h':k - 1 < l.length:=by omega
    simp[List.getD,h']
   refine A6 (fun h3=>?_) (fun h3=>?_)
   ·refine AX ?_
    refine Aw (.of_eq ?_)
    have e:HZ l (List.range l.length)[k]=9:=by rw[ek,HZ,e0,e1,if_neg h2,if_pos ⟨hp',h3⟩]
    rw[Im,if_neg h1,DW hltr he (by rw[e];decide),e]
   ·refine AX ?_
    have e:HZ l (List.range l.length)[k]=0:=by rw[ek,HZ,e0,e1,if_neg h2,if_neg (fun h=>h3 h.2)]
    exact⟨k+1,⟨by omega,E9 he hltr e⟩,by dsimp only;omega,⟨rfl,rfl⟩,.refl _⟩
  ·have hp': ¬0 < (k:Int):=Bl hp
   refine Bq ?_
   have e:HZ l (List.range l.length)[k]=0:=by rw[ek,HZ,e0,if_neg h2,if_neg (fun h=>hp' h.1)]
   exact⟨k+1,⟨by omega,E9 he hltr e⟩,by dsimp only;omega,⟨rfl,rfl⟩,.refl _⟩
 ·refine AX ?_
  refine Aw (.of_eq ?_)
  rw[Im,if_neg h1,E3 fun i h=>he i h (by simp at h;omega)]⟩
def Fe (c:Chg) (first:Int) (i:Nat):Atm:={ Atm.zero with id:=⟨Dig.zero,first+i⟩,kind:=5,file:=c.file,text:=c.lines.getD i [] }
def Eu (c:Chg) (first:Int) (i:Nat):Atm:={ Atm.zero with id:=⟨Dig.zero,first+c.lines.length+i⟩,kind:=6,file:=c.file,src:=if 0 < (i:Int)then⟨Dig.zero,first+i - 1⟩else c.after,dst:=if(i:Int) < c.lines.length then⟨Dig.zero,first+i⟩else c.before }
def Df (c:Chg) (first:Int):List Atm:=
 if c.kind=1 then [{ Atm.zero with id:=⟨Dig.zero,first⟩,kind:=1,file:=⟨Dig.zero,first⟩,type:=c.type }]else
 if c.kind=2 then [{ Atm.zero with id:=⟨Dig.zero,first⟩,kind:=2,file:=c.file,parent:=c.parent,name:=c.name,over:=c.over }]else
 if c.kind=3 then [{ Atm.zero with id:=⟨Dig.zero,first⟩,kind:=3,file:=c.file,mode:=c.mode,over:=c.over }]else
 if c.kind=4 then [{ Atm.zero with id:=⟨Dig.zero,first⟩,kind:=4,file:=c.file,data:=c.data,over:=c.over }]else
 if c.kind=6 then [{ Atm.zero with id:=⟨Dig.zero,first⟩,kind:=6,file:=c.file,src:=c.after,dst:=c.before,over:=c.over }]else
 if c.kind=7 then [{ Atm.zero with id:=⟨Dig.zero,first⟩,kind:=7,over:=c.over }]else
 (List.range c.lines.length).map (Fe c first)++(List.range (c.lines.length+1)).map (Eu c first)
theorem MB (c:Chg) (first:Int):(Df c first).length≤2*c.lines.length+1:=by
 unfold Df
 repeat' split
 all_goals first|(simp only[AN,Ae];omega)|(simp only[AD,AQ,Fy];omega)
instance yx (c:Chg) (first:Int) [hs:Ay (c.lines.length≤2000∧0≤first∧first≤1000000000)]:C9 Tryz.prog 32 [.agg (eChg c),.raw (.int .i64 first)] (.slice ((Df c first).map eAtm) .ro):=⟨by
 refine Av Tryz.func32 Tryz.ntmps32 rfl (rs:= [.tmp 4]) rfl rfl fun hb LF=>?_
 obtain⟨hl,hf0,hf1⟩:=hs.out
 refine Cy fun b=>?_
 refine Et fun b2=>?_
 refine A6 (fun h1=>?_) (fun h1=>?_)
 ·refine AX ?_
  refine Aw (.of_eq ?_)
  rw[Df,if_pos h1];rfl
 refine AX ?_
 refine A6 (fun h2=>?_) (fun h2=>?_)
 ·refine AX ?_
  refine Aw (.of_eq ?_)
  rw[Df,if_neg h1,if_pos h2];rfl
 refine AX ?_
 refine A6 (fun h3=>?_) (fun h3=>?_)
 ·refine AX ?_
  refine Aw (.of_eq ?_)
  rw[Df,if_neg h1,if_neg h2,if_pos h3];rfl
 refine AX ?_
 refine A6 (fun h4=>?_) (fun h4=>?_)
 ·refine AX ?_
  refine Aw (.of_eq ?_)
  rw[Df,if_neg h1,if_neg h2,if_neg h3,if_pos h4];rfl
 refine AX ?_
 refine A6 (fun h6=>?_) (fun h6=>?_)
 ·refine AX ?_
  refine Aw (.of_eq ?_)
  rw[Df,if_neg h1,if_neg h2,if_neg h3,if_neg h4,if_pos h6];rfl
 refine AX ?_
 refine A6 (fun h7=>?_) (fun h7=>?_)
 ·refine AX ?_
  refine Aw (.of_eq ?_)
  rw[Df,if_neg h1,if_neg h2,if_neg h3,if_neg h4,if_neg h6,if_pos h7];rfl
 refine AX ?_
 refine EC 172 ?_
 refine AZ (σ:=Nat × CD) (fun k=>k.1≤c.lines.length) (fun k=>c.lines.length - k.1) (fun k=> [(1,.raw (.int .i64 first)),(2,.raw (.pointer (some ⟨b,0,none⟩))),(6,.slice (((List.range k.1).map (Fe c first)).map eAtm) k.2),(7,.raw (.int .i64 c.lines.length)),(8,.raw (.int .i64 k.1))]) (fun k=> .tok k.2 ((List.range k.1).map (Fe c first)).length 172:: .box b 73 (eChg c)::LF) (0,.nil) (by simp) ⟨rfl,rfl,rfl,rfl,rfl⟩ (.cons_cons _ (.cons _ (.refl _))) ?_
 rintro⟨k,v⟩ hk
 dsimp only at hk
 refine AX ?_
 refine A6 (fun hc=>?_) (fun hc=>?_)
 ·have hlt:k < c.lines.length:=by omega
  have hll:((List.range k).map (Fe c first)).length=k:=by simp
  generalize hB:(List.range k).map (Fe c first)=B at hll ⊢
  refine PH ?_
  refine BX 14 ?_ ?_
  ·decide+kernel
  refine GD fun v'=>?_
  have e:(List.range (k+1)).map (Fe c first)=(List.range k).map (Fe c first)++ [Fe c first k]:=by rw[EI,Au];rfl
  rw[hB]at e
  have e2:Fe c first k= { Atm.zero with id:=⟨Dig.zero,first+k⟩,kind:=5,file:=c.file,text:=c.lines[k] }:=by simp[Fe,List.getD,hlt]
  rw[e2]at e
  refine⟨(k+1,v'),by dsimp only;omega,by dsimp only;omega,⟨rfl,rfl,by dsimp only;rw[e];rfl,rfl,rfl⟩,by dsimp only;rw[e];exact .refl _⟩
 have hkk:k=c.lines.length:=by omega
 subst hkk
 refine AX ?_
 generalize hA:(List.range c.lines.length).map (Fe c first)=A
 have hAl:A.length=c.lines.length:=by rw[←hA];simp
 refine AZ (σ:=Nat × CD) (fun k=>k.1≤c.lines.length+1) (fun k=>c.lines.length+1 - k.1) (fun k=> [(1,.raw (.int .i64 first)),(2,.raw (.pointer (some ⟨b,0,none⟩))),(6,.slice ((A++(List.range k.1).map (Eu c first)).map eAtm) k.2),(7,.raw (.int .i64 c.lines.length)),(9,.raw (.int .i64 k.1))]) (fun k=> .tok k.2 (A++(List.range k.1).map (Eu c first)).length 172:: .box b 73 (eChg c)::LF) (0,v) (by simp) ⟨rfl,rfl,by simp only[qC,CC,BJ];rfl,rfl,rfl⟩ (by simp only[qC,CC,BJ];exact .refl _) ?_
 rintro⟨k,v⟩ hk
 dsimp only at hk
 refine AX ?_
 refine A6 (fun hc=>?_) (fun hc=>?_)
 ·have hll:(A++(List.range k).map (Eu c first)).length=c.lines.length+k:=by simp[hAl]
  have e:A++(List.range (k+1)).map (Eu c first)=(A++(List.range k).map (Eu c first))++ [Eu c first k]:=by rw[EI,Au,AV];rfl
  generalize hB:A++(List.range k).map (Eu c first)=B at hll e ⊢
  refine Cy fun b3=>?_
  refine A6 (fun h8=>?_) (fun h8=>?_)
  ·refine AX ?_
   refine A6 (fun h9=>?_) (fun h9=>?_)
   ·refine Gu fun v'=>?_
    have e2:Eu c first k= { Atm.zero with id:=⟨Dig.zero,first+c.lines.length+k⟩,kind:=6,file:=c.file,src:=⟨Dig.zero,first+k - 1⟩,dst:=⟨Dig.zero,first+k⟩ }:=by rw[Eu,if_pos h8,if_pos h9]
    rw[e2]at e
    refine⟨(k+1,v'),by dsimp only;omega,by dsimp only;omega,⟨rfl,rfl,by dsimp only;rw[e];rfl,rfl,rfl⟩,by dsimp only;rw[e];exact .cons _ (.refl _)⟩
   ·refine Gu fun v'=>?_
    have e2:Eu c first k= { Atm.zero with id:=⟨Dig.zero,first+c.lines.length+k⟩,kind:=6,file:=c.file,src:=⟨Dig.zero,first+k - 1⟩,dst:=c.before }:=by rw[Eu,if_pos h8,if_neg h9]
    rw[e2]at e
    refine⟨(k+1,v'),by dsimp only;omega,by dsimp only;omega,⟨rfl,rfl,by dsimp only;rw[e];rfl,rfl,rfl⟩,by dsimp only;rw[e];exact .cons _ (.refl _)⟩
  ·refine AX ?_
   refine A6 (fun h9=>?_) (fun h9=>?_)
   ·refine Gu fun v'=>?_
    have e2:Eu c first k= { Atm.zero with id:=⟨Dig.zero,first+c.lines.length+k⟩,kind:=6,file:=c.file,src:=c.after,dst:=⟨Dig.zero,first+k⟩ }:=by rw[Eu,if_neg h8,if_pos h9]
    rw[e2]at e
    refine⟨(k+1,v'),by dsimp only;omega,by dsimp only;omega,⟨rfl,rfl,by dsimp only;rw[e];rfl,rfl,rfl⟩,by dsimp only;rw[e];exact .cons _ (.refl _)⟩
   ·refine Gu fun v'=>?_
    have e2:Eu c first k= { Atm.zero with id:=⟨Dig.zero,first+c.lines.length+k⟩,kind:=6,file:=c.file,src:=c.after,dst:=c.before }:=by rw[Eu,if_neg h8,if_neg h9]
    rw[e2]at e
    refine⟨(k+1,v'),by dsimp only;omega,by dsimp only;omega,⟨rfl,rfl,by dsimp only;rw[e];rfl,rfl,rfl⟩,by dsimp only;rw[e];exact .cons _ (.refl _)⟩
 ·refine AX ?_
  refine Aw (.ros ?_)
  have hkk:k=c.lines.length+1:=by omega
  subst hkk
  rw[Df,if_neg h1,if_neg h2,if_neg h3,if_neg h4,if_neg h6,if_neg h7,hA]⟩
end Go.Proofs
