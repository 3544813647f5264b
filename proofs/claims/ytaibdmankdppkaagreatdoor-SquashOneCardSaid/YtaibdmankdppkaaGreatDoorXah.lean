/- The small logic: rows of one's own with elements of any form; a row lent to a callee that only reads. Library, no statement of its own. -/
import Derived.Test.YtaibdmankdppkaaGreatDoorXaf
import Derived.Test.YtaibdmankdppkaaGreatDoorXag
import Derived.Laws.MakeOwn
import Derived.Test.YtaibdmankdppkaaGreatDoorXad
import Derived.Test.YtaibdmankdppkaaGreatDoorXae
set_option linter.unusedSimpArgs false
set_option linter.unusedVariables false
set_option maxHeartbeats 8000000
namespace Go.Q
open Go
theorem Du.lendRow {w:World} {g:Gh} {r E sz cap:Nat} {xs:List (List PV)} {rest:List PV} {LF:List Res} (hi:Du w g (.box r E (xs.flatten++rest)::LF)) (hs: ∀ e∈xs,e.length=sz) (hc:xs.length≤cap) (hm:xs.length≤maxN∧xs.length*sz≤maxN):
  ∃ g',g.le g'∧Du w g' []∧VR g' (.slice (some ⟨r,0,none⟩) xs.length cap) (.slice xs .ro):=by
 obtain⟨us,h1,h2,h3,h4⟩:=hi.res _ (AF)
 have hlen:us.length=(xs.flatten++rest).length:=h2.len
 let u:=us.take xs.flatten.length
 have hul:u.length=xs.flatten.length:=by
  simp only[u,AZ,hlen,AA];omega
 have hu:EB g u xs.flatten:=⟨hul,fun i k1 k2=>by
  have:=h2.at_ i (by rw[hlen,AA];omega) (by rw[AA];omega)
  rw[BN k2]at this
  simpa [u]using this⟩
 have hle:=Gh.le_lay (g:=g) (b:=r) (from_:=0) (us:=u) (fun o _=>h3 o)
 have hcell: ∀ j (h:j < u.length),w.cell? ⟨r,j,none⟩=some u[j]:=fun j h=>by
  have hj:j < us.length:=by rw[hlen,AA];omega
  simp only[World.cell?,h1,CW,BX,if_false,UU]
  rw[AW hj]
  simp[u]
 refine⟨g.lay r 0 u,hle,⟨fun b o v hv=>?_,hi.satM,by simp,by simp[Aj],hi.glob.mono hle⟩,?_⟩
 ·by_cases hin:b=r∧0≤o∧o < 0+u.length
  ·obtain⟨rfl,_,h5⟩:=hin
   have hj:o < u.length:=by omega
   have:=Gh.lay_in (g:=g) (b:=b) (from_:=0) hj
   rw[BL,hv]at this
   cases this
   exact hcell o hj
  ·rw[Gh.lay_out hin]at hv
   exact hi.sat b o v hv
 ·exact VR.of_cells (g:=g.lay r 0 u) (t:= .ro) (sz:=sz) (b:=r) (off:=0) (cap:=cap) hs hc hm (us:=u) (hu.mono hle) (fun j hj=>Gh.lay_in hj) (fun b' cap' e=>by cases e) (by simp)
theorem EB.repl {g g':Gh} {vs:List Value} {ps bs:List PV} {a b:PV} (hv:EB g vs (ps++a::bs)) (hle:g.le g') (h: ∀ v,VR g v a→VR g' v b):EB g' vs (ps++b::bs):=
 ⟨by rw[hv.len];simp,fun i k1 k2=>by
  have h0:=hv.at_ i k1 (by simpa using k2)
  by_cases hi1:i < ps.length
  ·rw[BN hi1]at h0 ⊢;exact h0.mono hle
  ·rw[Bt (by omega)]at h0 ⊢
   by_cases hi2:i - ps.length=0
   ·have e1: ∀ (a:PV),(a::bs)[i - ps.length]'(by simp[hi2])=a:=fun a=>by simp[hi2]
    rw[e1]at h0 ⊢
    exact h _ h0
   ·obtain⟨m,hm'⟩: ∃ m,i - ps.length=m+1:=⟨i - ps.length - 1,by omega⟩
    simp only[hm',DA]at h0 ⊢
    exact h0.mono hle⟩
theorem BG.lend {P:Program} {f:Nat} {X:Value} {r E sz n cap:Nat} {xs:List (List PV)} {rest:List PV} (ps bs:List PV) (hs: ∀ e∈xs,e.length=sz) (hn:xs.length=n) (hc:n≤cap) (hm:n≤maxN∧n*sz≤maxN)
  (h:Fn P f (ps++ .slice xs .ro::bs) (.raw X)):BG P f (ps++ .raw (.slice (some ⟨r,0,none⟩) n cap)::bs) [.box r E (xs.flatten++rest)] (fun x L'=>x= .raw X∧L'= [.box r E (xs.flatten++rest)]):=by
 intro vs w g LF hv hi
 subst hn
 obtain⟨g',hle,hi',hsl⟩:=hi.lendRow hs hc hm
 have hv':EB g' vs (ps++ .slice xs .ro::bs):=hv.repl hle fun v hv=>by rw[hv.raw_inv];exact hsl
 refine(h vs w g' [] hv' (by simpa using hi')).mono ?_
 rintro e w' ⟨v,x,g'',L',rfl,k2,k3,k4,k5,rfl,rfl⟩
 have hk: ∀ k,k < w.heap.size→w'.heap[k]? =w.heap[k]?:=fun k hk=>k4.keep k hk (by simp[Aj])
 exact⟨v,.raw X,g,_,rfl,by rw[k2.raw_inv];exact .raw _,hi.later hk,⟨k4.os,k4.tape,k4.output,k4.size,fun k h _=>hk k h,.refl g,fun _ _ _=>⟨fun _=>rfl,rfl⟩⟩,.refl _ _,rfl,rfl⟩
theorem Du.boxRaw {w:World} {g:Gh} {r E:Nat} {cs:List PV} {LF:List Res} (hi:Du w g (.box r E cs::LF)): ∃ us:List Value,EB g us cs∧Du w g (.raw r (.cells us.toArray E (0,0))::LF):=by
 obtain⟨us,h1,h2,h3,h4⟩:=hi.res _ (AF)
 refine⟨us,h2,hi.sat,hi.satM,fun x hx=>?_,hi.nodup,hi.glob⟩
 rcases AH.1 hx with rfl|hx
 ·exact⟨h1,h3,h4⟩
 ·exact hi.res x (AI _ hx)
theorem Du.rawBox {w:World} {g:Gh} {r E:Nat} {cur:Array Value} {cs:List PV} {LF:List Res} (hi:Du w g (.raw r (.cells cur E (0,0))::LF)) (h:EB g cur.toList cs):Du w g (.box r E cs::LF):=by
 obtain⟨h1,h3,h4⟩:=hi.res _ (AF)
 refine⟨hi.sat,hi.satM,fun x hx=>?_,hi.nodup,hi.glob⟩
 rcases AH.1 hx with rfl|hx
 ·exact⟨cur.toList,by simpa using h1,h,h3,h4⟩
 ·exact hi.res x (AI _ hx)
inductive Hf (E sz:Nat):Value→List (List PV)→List Res→Prop
 |nil (o:Option Addr) (ho: ∀ a,o=some a→a.spot=none):Hf E sz (.slice o 0 0) [] []
 |row {r n cap:Nat} {xs:List (List PV)} {rest:List PV} (hn:xs.length=n) (hl:n≤cap) (hs: ∀ e∈xs,e.length=sz) (hc:xs.flatten.length+rest.length=cap*sz):Hf E sz (.slice (some ⟨r,0,none⟩) n cap) xs [.box r E (xs.flatten++rest)]
theorem Hf.slice {E sz:Nat} {v:Value} {xs:List (List PV)} {R:List Res} (h:Hf E sz v xs R):(∃ o c,v= .slice o xs.length c)∧ ∀ e∈xs,e.length=sz:=by
 cases h with
 |nil o ho=>exact⟨⟨_,_,rfl⟩,by simp⟩
 |row hn hl hs hc=>subst hn;exact⟨⟨_,_,rfl⟩,hs⟩
theorem Hf.open {E sz:Nat} {v:Value} {xs:List (List PV)} {R LF:List Res} {w:World} {g:Gh} (h:Hf E sz v xs R) (hi:Du w g (R++LF)): ∃ us R₁,EB g us xs.flatten∧MI E sz v xs.length us R₁∧Du w g (R₁++LF)∧Aj R₁=Aj R:=by
 cases h with
 |nil o ho=>exact⟨[],[],.nil g,.nil o ho,hi,rfl⟩
 |row hn hl hs hc=>
  rename_i r n cap rest
  subst hn
  obtain⟨us,h1,h2⟩:=Du.boxRaw hi
  have hfl:=Df hs
  have hul:us.length=xs.flatten.length+rest.length:=by rw[h1.len,AA]
  refine⟨us.take (xs.length*sz),_,⟨by rw[AZ,hul,hfl];omega,fun i k1 k2=>?_⟩,.row hl (by rw[Cd,hul,hc]) (by rw[AZ,hul,hfl];omega) (by simp),h2,rfl⟩
  have:=h1.at_ i (by rw[hul];omega) (by rw[AA];omega)
  rw[BN k2]at this
  simpa using this
theorem Hf.close {E sz:Nat} {v:Value} {xs:List (List PV)} {us:List Value} {R LF:List Res} {w:World} {g:Gh} {n:Nat} (hn:xs.length=n) (hs: ∀ e∈xs,e.length=sz) (h:MI E sz v n us R) (hu:EB g us xs.flatten) (hi:Du w g (R++LF)): ∃ R',Hf E sz v xs R'∧Du w g (R'++LF)∧Aj R'=Aj R:=by
 have hfl:=Df hs
 cases h with
 |nil o ho=>
  have hx:xs= []:=BO hn
  subst hx
  exact⟨[],.nil o ho,hi,rfl⟩
 |row hl hc hu' hcur=>
  subst hn
  rename_i r cap cur
  have hcl:cur.toList.length=cap*sz:=by simpa using hc
  have hle:xs.length*sz≤cap*sz:=B8 _ hl
  have hv:EB g cur.toList (xs.flatten++(cur.toList.drop (xs.length*sz)).map .raw):=by
   conv=>lhs;rw[←C7 (xs.length*sz) cur.toList]
   rw[hcur]
   exact hu.append (EB.raws g _)
  exact⟨_,.row rfl hl hs (by rw[AR,BB,hcl,hfl];omega),Du.rawBox hi hv,rfl⟩
theorem Hf.lend {P:Program} {f E sz:Nat} {X v:Value} {xs:List (List PV)} {R:List Res} (hr:Hf E sz v xs R) (ps bs:List PV) (hm:xs.length≤maxN∧xs.length*sz≤maxN) (h:Fn P f (ps++ .slice xs .ro::bs) (.raw X)):
  BG P f (ps++ .raw v::bs) R (fun x L'=>x= .raw X∧L'=R):=by
 cases hr with
 |nil o ho=>
  intro vs w g LF hv hi
  exact h vs w g LF (hv.repl (.refl g) fun v hv=>by rw[hv.raw_inv];exact .nilR) hi
 |row hn hl hs hc=>
  subst hn
  exact BG.lend ps bs hs rfl hl hm h
section
variable {P:Program} {N:Nat} {all:Array Oper} {K:Env→List Res→Prop} {fl:List Bool} {os:List Oper} {ρ:Env} {L:List Res} {d:Nat} {ty:TypeId} {pos:String} {af:Array Edge}
theorem ic {T T₂ E E₂ sz by_:Nat} {α:Type} {f:α→List PV} [hT:Zb P T E sz by_] [h2:ML P T₂ E₂] [hf:NR f sz] [hff:K2 f] {x y:Operand} {v:Value} {xs:List (List PV)} {m:List α} {t:CN} {R LF:List Res} (F:List Res→List Res)
  (hx:ρ.ev x= .raw v) (hy:ρ.ev y= .slice (m.map f) t) (hv:Hf E sz v xs R) (hp:L.Perm (R++LF)) (hq: ∀ R',(R'++LF).Perm (F R')) (hb:(xs.length+m.length)*by_≤140737488355328) (hm:xs.length+m.length≤140737488355328)
  (k: ∀ v' R',Hf E sz v' (xs++m.map f) R'→AQ P N all K fl.tail os (CT ρ d (.raw v')) (F R')) (hd:Nat.blt d N=true:=by rfl) (hfl:fl.headD true=true:=by rfl):
  AQ P N all K fl (⟨some d,.call { callee:= .builtin .append,args:= #[x,y],argTypes:= #[T,T₂] },ty,pos,af,none⟩::os) ρ L:=
 Dd rfl (PA hd) hfl (Fu.perm hp fun a w g ha hi=>by
  have h1:=Ca ha (x:=x) (by simp[Op.operands,Call.operands]) hx
  have h3:=ha y (by simp[Op.operands,Call.operands])
  rw[hy]at h3
  have hms: ∀ e∈m.map f,e.length=sz:=fun e he=>by obtain⟨a,_,rfl⟩:=AO.1 he;exact hf.out a
  obtain⟨base,cap,e,_,_,hnone,_,_,us,hus,hcell⟩:=h3.slice_cells (sz:=sz) hms
  rw[AR]at e
  have hvl:us.length=m.length*sz:=by rw[hus.len,Df hms,AR]
  obtain⟨us0,R₁,q1,q2,q3,q4⟩:=hv.open hi
  have hone: ∀ x∈us,x.oneCell'=true:=hus.one (fun c hc=>by
   obtain⟨e,he,hce⟩:=EA.1 hc
   obtain⟨a,_,rfl⟩:=AO.1 he
   exact hff.out a c hce)
  obtain⟨v',w',R',p1,p2,p3,p4,p5⟩:=Vg (P:=P) (T:=T) (T₂:=T₂) (ty:=ty) (.inr ⟨_,h2.out⟩) (.slice base m.length cap) us q3 q2 (fun _=>rfl) hvl hone (fun w' hs'=>by
   cases base with
   |none=>
    have h0:=(hnone rfl).1
    have hm0:m= []:=by simpa using h0
    have:us= []:=BO (by rw[hvl,hm0];simp)
    rw[this];rfl
   |some ad=>
    obtain⟨b,o,s⟩:=ad
    obtain⟨hsp,hH⟩:=hcell _ rfl
    show(loadCells _ (m.length*sz)).run P w'=_
    rw[←hvl]
    exact Iu (hsp.imp_left fun h=>Vv hus h.1) fun j hj=>hs' _ _ _ (hH j hj)) hb hm
  obtain⟨R₂,z1,z2,z3⟩:=Hf.close (xs:=xs++m.map f) (n:=xs.length+m.length) (by simp) (fun e he=>(Ai.1 he).elim (hv.slice.2 e) (hms e)) p2 (by rw[CF];exact q1.append hus) p3
  have hbl: ∀ (A B:List Res),Aj A=Aj B→Aj (A++LF)=Aj (B++LF):=fun A B h=>by
   simp only[Aj,Dn]at h ⊢;rw[h]
  refine Oper.wq_of_run (show(do pure (.value (←Builtin.append_ #[T,T₂] ty (#[x,y].map a.eval))):Sem Next).run P w= .ok (.value v') w' by
   simp only[Hh,Aq,CG,h1,e,Sem.run_bind,p1,Result.andThen_ok,Sem.run_pure]) ?_
  refine⟨_,.raw v',g,F R₂,rfl,.raw _,z2.perm (hq R₂),?_,?_,k v' R₂ z1⟩
  ·rw[←hbl _ _ q4];exact p4
  ·intro b hb' hlt
   rw[←hbl _ _ q4]
   have hb2:b∈Aj (R'++LF):=by rw[←hbl _ _ z3];exact((hq R₂).filterMap _).symm.subset hb'
   exact p5 b hb2 hlt)
end
theorem PZ {sz:Nat} {xs:List (List PV)} (hs: ∀ e∈xs,e.length=sz) {i:Nat} (hi:i < xs.length):xs.flatten=(xs.take i).flatten++(xs[i]++(xs.drop (i+1)).flatten)∧(xs.take i).flatten.length=i*sz:=by
 constructor
 ·conv=>lhs;rw[←C7 i xs,CF,CP hi,Cf]
 ·rw[Df (sz:=sz) fun e he=>hs e (Ek he),AZ,Cy (by omega)]
theorem Z7 {sz:Nat} {xs:List (List PV)} {rest:List PV} (hs: ∀ e∈xs,e.length=sz) {i:Nat} (hi:i < xs.length):XX (xs.flatten++rest) (0+i*sz) sz xs[i]:=by
 obtain⟨h1,h2⟩:=PZ hs hi
 have h3:=hs _ (AJ hi)
 rw[BL,h1,AV]
 refine⟨?_,?_⟩
 ·rw[←h2,XU,AV,←h3,List.take_left]
 ·simp only[AA];omega
theorem ZA {sz:Nat} {xs:List (List PV)} {rest new:List PV} (hs: ∀ e∈xs,e.length=sz) {i:Nat} (hi:i < xs.length) (hn:new.length=sz):FB (xs.flatten++rest) (0+i*sz) new ((xs.set i new).flatten++rest):=by
 obtain⟨h1,h2⟩:=PZ hs hi
 have h3:=hs _ (AJ hi)
 have h4:(xs.set i new).flatten=(xs.take i).flatten++(new++(xs.drop (i+1)).flatten):=by
  rw[Gu,if_pos hi,CF,Cf]
 rw[BL,h1,h4]
 refine⟨?_,?_⟩
 ·have e1:((xs.take i).flatten++(xs[i]++(xs.drop (i+1)).flatten)++rest).take (i*sz)=(xs.take i).flatten:=by
   rw[AV,←h2,List.take_left]
  have e2:((xs.take i).flatten++(xs[i]++(xs.drop (i+1)).flatten)++rest).drop (i*sz+new.length)=(xs.drop (i+1)).flatten++rest:=by
   rw[hn,←h2,←h3,←LV,AV,XU,AV,XU]
  rw[e1,e2]
  simp only[AV]
 ·simp only[AA];omega
theorem Hf.inv {E sz n c:Nat} {o:Option Addr} {xs:List (List PV)} {R:List Res} (h:Hf E sz (.slice o n c) xs R) (h0:0 < n): ∃ r rest,o=some ⟨r,0,none⟩∧R= [.box r E (xs.flatten++rest)]∧xs.length=n∧n≤c∧(∀ e∈xs,e.length=sz)∧xs.flatten.length+rest.length=c*sz:=by
 generalize hv:Value.slice o n c=v at h
 cases h with
 |nil o' ho=>injection hv with _ e2 _;omega
 |row hn hl hs hc=>injection hv with e1 e2 e3;subst e1 e2 e3;exact⟨_,_,rfl,rfl,hn,hl,hs,hc⟩
theorem Hf.freeze {E sz:Nat} {w:World} {g:Gh} {R L':List Res} {v:Value} {xs:List (List PV)} (hi:Du w g (R++L')) (hv:Hf E sz v xs R) (hm:xs.length≤maxN∧xs.length*sz≤maxN):
  ∃ g',Du w g' L'∧Ee (Aj (R++L')) w g w g'∧De w (R++L') L'∧VR g' v (.slice xs .ro):=by
 cases hv with
 |nil o ho=>exact⟨g,hi,.refl _ _ _,.refl _ _,.nilR⟩
 |row hn hl hs hc=>
  rename_i r n cap rest
  subst hn
  obtain⟨us,h1,h2⟩:=Du.boxRaw hi
  obtain⟨k1,k2,k3,k4,k5⟩:=h2.rawHead
  have hul:us.length=xs.flatten.length+rest.length:=by rw[h1.len,AA]
  let u:=us.take xs.flatten.length
  have hu0:u.length=xs.flatten.length:=by simp only[u,AZ];omega
  have hu:EB g u xs.flatten:=⟨hu0,fun i k1 k2=>by
   have:=h1.at_ i (by omega) (by rw[AA];omega)
   rw[BN k2]at this
   simpa [u]using this⟩
  have hle:=Gh.le_lay (g:=g) (b:=r) (from_:=0) (us:=u) (fun o _=>k2 o)
  have hcell: ∀ j (h:j < u.length),w.cell? ⟨r,j,none⟩=some u[j]:=fun j h=>by
   have hj:j < us.length:=by omega
   simp only[World.cell?,k1,CW,BX,if_false,UU]
   rw[AW hj]
   simp[u]
  refine⟨g.lay r 0 u,⟨fun b' o v hv=>?_,fun b' z hz=>hi.satM b' z hz,fun r' hr'=>?_,k5.nodup,hi.glob.mono hle⟩,⟨rfl,rfl,⟨rfl,Ak _⟩,Ak _,fun _ _ _=>rfl,hle,fun k _ hn=>⟨fun o=>Gh.lay_out (fun h=>hn (by rw[h.1];simp[Aj,Res.block])),rfl⟩⟩,fun b hb _=>?_,?_⟩
  ·by_cases hin:b'=r∧0≤o∧o < 0+u.length
   ·obtain⟨rfl,_,h6⟩:=hin
    have hj:o < u.length:=by omega
    have:=Gh.lay_in (g:=g) (b:=b') (from_:=0) hj
    rw[BL,hv]at this
    cases this
    exact hcell o hj
   ·rw[Gh.lay_out hin]at hv;exact hi.sat b' o v hv
  ·exact Res.holds_kept hle (k5.res r' hr') fun b' hb'=>⟨rfl,fun o=>Gh.lay_out (fun h=>k4 (Bw.2 ⟨r',hr',by rw[hb',h.1]⟩)),rfl⟩
  ·simp only[Aj,Dn]at hb ⊢;exact ED _ hb
  ·exact VR.of_cells (g:=g.lay r 0 u) (t:= .ro) (sz:=sz) (b:=r) (off:=0) (cap:=cap) hs hl hm (us:=u) (hu.mono hle) (fun j hj=>Gh.lay_in hj) (fun b' cap' e=>by cases e) (by simp)
section
variable {P:Program} {N:Nat} {ρ:Env} {L:List Res}
theorem Je {E sz:Nat} {R L':List Res} {v:Value} {xs:List (List PV)} {c:Code} {Q:PPost} (i:Nat) (hv:Hf E sz v xs R) (hm:xs.length≤maxN∧xs.length*sz≤maxN) (hp:L.Perm (R++L')) (hi:ρ i= .raw v) (k:ER P N c Q (CT ρ i (.slice xs .ro)) L'):ER P N c Q ρ L:=
 JF (fun base a w g ha hI=>by
  obtain⟨g',h1,h2,h3,h4⟩:=Hf.freeze (hI.perm hp) hv hm
  refine⟨g',⟨ha.size,ha.defers.mono h2.le,fun j=>?_⟩,h1,h2.grow (fun b hb=>(DR hp).symm.subset hb),fun b hb hlt=>(DR hp).symm.subset (h3 b hb hlt)⟩
  have hj:=(ha.slot j).mono h2.le
  by_cases e:j=i
  ·subst e
   rw[hi]at hj
   show VR g' _ (CT ρ j _ j)
   rw[Cu,hj.raw_inv];exact h4
  ·show VR g' _ (CT ρ i _ j)
   rw[GX _ _ e];exact hj) k
end
section
variable {P:Program} {N:Nat} {all:Array Oper} {K:Env→List Res→Prop} {fl:List Bool} {os:List Oper} {ρ:Env} {L:List Res}
variable {d:Nat} {ty:TypeId} {pos:String} {af:Array Edge}
theorem jc (u:Value) (n:Nat):madeCells #[u] (n*1)=(List.replicate n u).toArray:=by
 refine Array.ext (by simp[madeCells]) fun i h1 h2=>?_
 simp[madeCells,Nat.mod_one]
theorem pf {T E by_:Nat} {z:PV} [hT:ML P T E] [hE:Ed P E 1 by_] [hZ:Cq P E [z]] {x y:Operand} {k k':IntKind} {n:Nat} (hx:ρ.ev x= .raw (.int k (n:Int))) (hy:ρ.ev y= .raw (.int k' (n:Int))) (hb:by_*n≤140737488355328) (hn:n≤140737488355328)
  (kk: ∀ b,AQ P N all K fl.tail os (CT ρ d (.raw (.slice (some ⟨b,0,none⟩) n n))) (.box b E (List.replicate n z)::L)) (hd:Nat.blt d N=true:=by rfl) (hf:fl.headD true=true:=by rfl):
  AQ P N all K fl (⟨some d,.makeSlice T x y,ty,pos,af,none⟩::os) ρ L:=
 Dd rfl (PA hd) hf (fun a w g ha hi=>by
  have h1:=Ca ha (x:=x) (by simp[Op.operands]) hx
  have h2:=Ca ha (x:=y) (by simp[Op.operands]) hy
  obtain⟨i,e1,e2,e3⟩:=hE.out
  obtain⟨i',v,us,q1,q2,q3,q4⟩:=hZ.out
  rw[e1]at q1
  obtain rfl:=DF q1
  obtain⟨u,rfl⟩: ∃ u,us= [u]:=by
   have:=(q4 g).len
   match us,this with
   | [u],_=>exact⟨u,rfl⟩
  have hu:=(q4 g).uncons.1
  have hv:EB g (List.replicate n u) (List.replicate n z):=⟨by simp,fun i k1 k2=>by
   rw[yl,yl];exact hu⟩
  obtain⟨i1,i2,i3⟩:=hi.alloc hv E
  have hr:(execOp a.eval ⟨some d,.makeSlice T x y,ty,pos,af,none⟩).run P w= .ok (.value (.slice (some ⟨w.heap.size,0,none⟩) n n)) { w with heap:=w.heap.push (.cells (List.replicate n u).toArray E (0,0)) }:=by
   have hbb:(i.bytes:Int)*(n:Int)≤281474976710656:=by
    rw[e3,←pG];omega
   have hm:=run_make (P:=P) w T E i v hT.out e1 q2 k k' n n (by omega) (by omega) hbb (by omega)
   rw[q3,e2,E0]at hm
   have hm2:madeCells [u].toArray (n*1)=(List.replicate n u).toArray:=jc u n
   rw[hm2]at hm
   simp only[execOp,h1,h2,Sem.run_bind,hm,Result.andThen_ok,Sem.run_pure]
   rfl
  refine Oper.wq_of_run hr ?_
  exact⟨_,_,g,_,rfl,.raw _,i1,i2,i3,kk _⟩)
theorem v7 {α:Type} {vf:α→List Value} {T E sz by_:Nat} {z:List PV} [hT:ML P T E] [hE:Ed P E sz by_] [hZ:Cq P E z] {x y:Operand} {k k':IntKind} {c:Nat} (hx:ρ.ev x= .raw (.int k 0)) (hy:ρ.ev y= .raw (.int k' (c:Int))) (hb:by_*c≤140737488355328) (hn:c≤140737488355328)
  (kk: ∀ v R,Js vf E sz v [] R→AQ P N all K fl.tail os (CT ρ d (.raw v)) (R++L)) (hd:Nat.blt d N=true:=by rfl) (hf:fl.headD true=true:=by rfl):
  AQ P N all K fl (⟨some d,.makeSlice T x y,ty,pos,af,none⟩::os) ρ L:=
 Dd rfl (PA hd) hf (fun a w g ha hi=>by
  have h1:=Ca ha (x:=x) (by simp[Op.operands]) hx
  have h2:=Ca ha (x:=y) (by simp[Op.operands]) hy
  obtain⟨i,e1,e2,e3⟩:=hE.out
  obtain⟨i',v,us,q1,q2,q3,q4⟩:=hZ.out
  rw[e1]at q1
  obtain rfl:=DF q1
  obtain⟨i1,s1⟩:=hi.allocO (.cells (madeCells v.cells (c*sz)) E (0,0))
  obtain⟨f1,f2⟩:=hi.fresh (b:=w.heap.size) (Ak _)
  have hnew:w.heap.size∉Aj L:=fun h=>by have:=hi.lt h;omega
  have i2:=i1.addRaw (l:=w.heap.size) (o:= .cells (madeCells v.cells (c*sz)) E (0,0)) (by show(w.heap.push _)[w.heap.size]? =_;simp) f1 f2 hnew
  have hr:(execOp a.eval ⟨some d,.makeSlice T x y,ty,pos,af,none⟩).run P w= .ok (.value (.slice (some ⟨w.heap.size,0,none⟩) 0 c)) (w.alloc (.cells (madeCells v.cells (c*sz)) E (0,0))):=by
   have hbb:(i.bytes:Int)*(c:Int)≤281474976710656:=by
    rw[e3,←pG];omega
   have hm:=run_make (P:=P) w T E i v hT.out e1 q2 k k' 0 c (by omega) (by omega) hbb (by omega)
   rw[e2,E0]at hm
   simp only[execOp,h1,h2,Sem.run_bind,hm,Result.andThen_ok,Sem.run_pure]
   rfl
  refine Oper.wq_of_run hr ?_
  refine⟨_,_,g,_,rfl,.raw _,i2,?_,?_,kk _ [.raw w.heap.size (.cells (madeCells v.cells (c*sz)) E (0,0))] ?_⟩
  ·exact s1
  ·intro b hb hlt'
   rcases AH.1 (show b∈w.heap.size::Aj L from by simpa [Aj,Res.block]using hb)with rfl|hb
   ·omega
   ·exact hb
  ·unfold Js
   exact .row (by simp) (by rw[size_madeCells]) (by simp) (by simp))
theorem Yb {o:Oper} {Ψ Ψ':PV→List Res→Prop} (h:Fu P o ρ L Ψ) (k: ∀ x L',Ψ x L'→ ∃ L'',L'.Perm L''∧Ψ' x L''):Fu P o ρ L Ψ':=
 fun a w g ha hi=>(h a w g ha hi).mono fun _ _ ⟨v,x,g',L',h1,h2,h3,h4,h5,h6⟩=>by
  obtain⟨L'',q1,q2⟩:=k _ _ h6
  exact⟨v,x,g',L'',h1,h2,h3.perm q1,h4,fun b hb hlt=>h5 b ((DR q1).symm.subset hb) hlt,q2⟩
theorem Bx {x:Operand} {xs:List Operand} {xa:Array Operand} {ats:Array TypeId} {f:Nat} {cs args:List PV} (L₁ LF:List Res) [hf:B5 P f] (F:List Res→List Res)
  (hx:Le (ρ.ev x) (.clo f cs)) (hxa:xa=xs.toArray) (hargs:xs.map ρ.ev++cs=args) (hp:L.Perm (L₁++LF)) (R:PV→List Res→Prop) (hc:BG P f args L₁ R) (hq: ∀ L',(L'++LF).Perm (F L')) (k: ∀ r L',R r L'→AQ P N all K fl.tail os (CT ρ d r) (F L')) (hd:Nat.blt d N=true:=by rfl) (hfl:fl.headD true=true:=by rfl):
  AQ P N all K fl (⟨some d,.call { callee:= .value x,args:=xa,argTypes:=ats },ty,pos,af,none⟩::os) ρ L:=by
 subst hxa
 exact Dd rfl (PA hd) hfl (Yb (Oa hx hargs hp (Ψ:=fun r L''=> ∃ L',L''=L'++LF∧R r L') (hc.mono fun r L' h=>⟨L',rfl,h⟩)) fun r L'' ⟨L',e,h⟩=>⟨F L',e ▸ hq L',k r L' h⟩)
theorem Q7 {x:Operand} {xs:List Operand} {xa:Array Operand} {ats:Array TypeId} {f:Nat} {cs args:List PV} (L₁ LF:List Res) (X:PV) [hf:B5 P f]
  (hx:Le (ρ.ev x) (.clo f cs)) (hxa:xa=xs.toArray) (hargs:xs.map ρ.ev++cs=args) (hp:L.Perm (L₁++LF)) (hc:BG P f args L₁ (fun r L'=>r=X∧L'=L₁)) (k:AQ P N all K fl.tail os (CT ρ d X) L) (hd:Nat.blt d N=true:=by rfl):
  AQ P N all K fl (⟨some d,.call { callee:= .value x,args:=xa,argTypes:=ats },ty,pos,af,none⟩::os) ρ L:=by
 subst hxa
 exact Bh hd (Yb (Oa hx hargs hp (Ψ:=fun r L''=>r=X∧L''=L₁++LF) (hc.mono fun r L' ⟨e1,e2⟩=>⟨e1,by rw[e2]⟩)) fun r L'' ⟨e1,e2⟩=>⟨L,e2 ▸ hp.symm,e1,rfl⟩) k
end
end Go.Q
namespace Go.Proofs
open Go Go.Q
attribute [local irreducible] ER AQ BG Fu
instance tb (a b:Dig):C9 Tryz.prog 87 [.agg (eDig a),.agg (eDig b)] (.raw (.int .i64 (Ea a b))):=⟨by
 refine Au Tryz.func87 Tryz.ntmps87 rfl (rs:= [.tmp 4]) rfl rfl fun hb LF=>?_
 refine DC fun p=>?_
 refine FK fun q=>?_
 refine Ab (σ:=Nat) (fun k=>k≤32∧ ∀ i,i < k→a.at i=b.at i) (fun k=>32 - k) (fun k=> [(2,.raw (.pointer (some ⟨p,0,none⟩))),(3,.raw (.pointer (some ⟨q,0,none⟩))),(5,.raw (.int .i64 k))]) (fun _=> .box q 31 (eDig b):: .box p 31 (eDig a)::LF) 0 ⟨by simp,by simp⟩ ⟨rfl,rfl,rfl⟩ (.refl _) ?_
 rintro k ⟨hk,he⟩
 refine AY ?_
 refine A6 (fun hc=>?_) (fun hc=>?_)
 ·refine AY ?_
  refine A6 (fun h1=>?_) (fun h1=>?_)
  ·refine AY ?_
   refine Az (.of_eq ?_)
   have h2:a.at k < b.at k:=by rw[UInt8.lt_iff_toNat_lt];omega
   rw[dK (by omega) he (fun e=>by rw[e]at h2;exact UInt8.lt_irrefl _ h2),if_pos h2]
  ·refine AY ?_
   refine A6 (fun h2=>?_) (fun h2=>?_)
   ·refine AY ?_
    refine Az (.of_eq ?_)
    have h3: ¬a.at k < b.at k:=by rw[UInt8.lt_iff_toNat_lt];omega
    rw[dK (by omega) he (fun e=>by rw[e]at h2;omega),if_neg h3]
   ·refine AY ?_
    refine⟨k+1,⟨by omega,fun i hi=>?_⟩,by dsimp only;omega,⟨rfl,rfl,rfl⟩,.refl _⟩
    rcases BP i k with h'|h'
    ·exact he i h'
    ·have:i=k:=by omega
     subst this
     exact UInt8.toNat.inj (by omega)
 ·refine AY ?_
  refine Az (.of_eq ?_)
  rw[MH.2 (Dig.ext_at fun i hi=>he i (by omega))]⟩
instance xI (a:Dig):C9 Tryz.prog 132 [.agg (eDig a)] (.raw (.bool (decide (a=Dig.zero)))):=⟨by
 refine Au Tryz.func132 Tryz.ntmps132 rfl (rs:= [.tmp 2]) rfl rfl fun hb LF=>?_
 refine DC fun p=>?_
 exact⟨trivial,_,[],.cons (.tmp 2) .nil,.cons _ (.refl _),.refl _,rfl⟩⟩
instance wu (l m:List Dig) (t u:CN):C9 Tryz.prog 53 [.slice (l.map eDig) t,.slice (m.map eDig) u] (.raw (.bool (decide (l=m)))):=⟨by
 refine Au Tryz.func53 Tryz.ntmps53 rfl (rs:= [.tmp 4]) rfl rfl fun hb LF=>?_
 have hlen:l.length≤140737488355328:=(hb (.slice (l.map eDig) t) (by simp)).slice_map
 refine AY ?_
 refine AX (fun h1=>?_) (fun h1=>?_)
 ·refine AY ?_
  refine Az (.of_eq ?_)
  have: ¬l=m:=fun e=>h1 (by rw[e])
  simp[this]
 ·refine AY ?_
  have hl:l.length=m.length:=by omega
  refine Ab (σ:=Nat) (fun k=>k≤l.length∧l.take k=m.take k) (fun k=>l.length - k) (fun k=> [(0,.slice (l.map eDig) t),(1,.slice (m.map eDig) u),(5,.raw (.int .i64 k))]) (fun _=>LF) 0 ⟨by simp,by simp⟩ ⟨rfl,rfl,rfl⟩ (.refl _) ?_
  rintro k ⟨hk,he⟩
  refine AY ?_
  refine A6 (fun hc=>?_) (fun hc=>?_)
  ·refine AY ?_
   refine AX (fun h2=>?_) (fun h2=>?_)
   ·refine AY ?_
    refine Az (.of_eq ?_)
    have: ¬l=m:=fun e=>h2 (by simp[e])
    simp[this]
   ·refine AY ?_
    refine⟨k+1,⟨by omega,?_⟩,by dsimp only;omega,⟨rfl,rfl,rfl⟩,.refl _⟩
    rw[A7 (by omega),A7 (by omega),he,h2]
  ·refine AY ?_
   refine Az (.of_eq ?_)
   have:l=m:=by
    rw[AE (by omega),AE (by omega)]at he
    exact he
   simp[this]⟩
instance yd (l:List Dig) (d:Dig) (t:CN):C9 Tryz.prog 49 [.slice (l.map eDig) t,.agg (eDig d)] (.raw (.bool (decide (d∈l)))):=⟨by
 refine Au Tryz.func49 Tryz.ntmps49 rfl (rs:= [.tmp 4]) rfl rfl fun hb LF=>?_
 have hlen:l.length≤140737488355328:=(hb (.slice (l.map eDig) t) (by simp)).slice_map
 refine DC fun b=>?_
 refine Ab (σ:=Nat) (fun k=>k≤l.length∧ ∀ i (h:i < l.length),i < k→d≠l[i]) (fun k=>l.length - k) (fun k=> [(0,.slice (l.map eDig) t),(3,.raw (.pointer (some ⟨b,0,none⟩))),(5,.raw (.int .i64 k))]) (fun _=> .box b 31 (eDig d)::LF) 0 ⟨by simp,by simp⟩ ⟨rfl,rfl,rfl⟩ (.refl _) ?_
 rintro k ⟨hk,hne⟩
 refine AY ?_
 refine A6 (fun hc=>?_) (fun hc=>?_)
 ·refine AY ?_
  refine A6 (fun he=>?_) (fun he=>?_)
  ·refine AY ?_;refine Az (.of_eq ?_)
   have:d∈l:=he ▸ AJ _
   simp[this]
  ·refine AY ?_
   refine⟨k+1,⟨by omega,fun i h hi=>?_⟩,by dsimp only;omega,⟨rfl,rfl,rfl⟩,.refl _⟩
   rcases BP i k with h'|h'
   ·exact hne i h h'
   ·have:i=k:=by omega
    subst this;exact fun e=>he e.symm
 ·refine AY ?_;refine Az (.of_eq ?_)
  have: ¬d∈l:=fun h=>by
   obtain⟨i,hi,e⟩:=Ad.1 h
   exact hne i hi (by omega) e.symm
  simp[this]⟩
def DM (l m:List Dig):Bool:=m.all (fun x=>decide (x∈l))
instance yY (l m:List Dig) (t u:CN):C9 Tryz.prog 89 [.slice (l.map eDig) t,.slice (m.map eDig) u] (.raw (.bool (DM l m))):=⟨by
 refine Au Tryz.func89 Tryz.ntmps89 rfl (rs:= [.tmp 4]) rfl rfl fun hb LF=>?_
 have hlen:m.length≤140737488355328:=(hb (.slice (m.map eDig) u) (by simp)).slice_map
 refine AY ?_
 refine Ab (σ:=Nat) (fun k=>k≤m.length∧ ∀ i (h:i < m.length),i < k→m[i]∈l) (fun k=>m.length - k) (fun k=> [(0,.slice (l.map eDig) t),(1,.slice (m.map eDig) u),(5,.raw (.int .i64 k))]) (fun _=>LF) 0 ⟨by simp,by simp⟩ ⟨rfl,rfl,rfl⟩ (.refl _) ?_
 rintro k ⟨hk,hne⟩
 refine AY ?_
 refine A6 (fun hc=>?_) (fun hc=>?_)
 ·refine AY ?_
  refine AX (fun he=>?_) (fun he=>?_)
  ·refine AY ?_;refine Az (.of_eq ?_)
   have:DM l m=false:=by
    unfold DM;rw[J3];exact⟨_,AJ _,by simpa using he⟩
   rw[this]
  ·refine AY ?_
   refine⟨k+1,⟨by omega,fun i h hi=>?_⟩,by dsimp only;omega,⟨rfl,rfl,rfl⟩,.refl _⟩
   rcases BP i k with h'|h'
   ·exact hne i h h'
   ·have:i=k:=by omega
    subst this;exact he
 ·refine AY ?_;refine Az (.of_eq ?_)
  have:DM l m=true:=by
   unfold DM;rw[BT];intro x hx
   obtain⟨i,hi,rfl⟩:=Ad.1 hx
   simpa using hne i hi (by omega)
  rw[this]⟩
def ids (s:List Sto):List Dig:=s.map (·.id)
instance yb (s:List Sto) (t:CN):C9 Tryz.prog 88 [.slice (s.map eSto) t] (.slice ((ids s).map eDig) .ro):=⟨by
 refine Au Tryz.func88 Tryz.ntmps88 rfl (rs:= [.tmp 2]) rfl rfl fun hb LF=>?_
 have hlen:s.length*37≤140737488355328:=(hb (.slice (s.map eSto) t) (by simp)).slice_cells
 refine AY ?_
 refine EL 32 ?_
 refine Ab (σ:=Nat × CN) (fun k=>k.1≤s.length) (fun k=>s.length - k.1) (fun k=> [(0,.slice (s.map eSto) t),(3,.slice ((ids (s.take k.1)).map eDig) k.2),(4,.raw (.int .i64 k.1))]) (fun k=> .tok k.2 (ids (s.take k.1)).length 32::LF) (0,.nil) (by simp) ⟨rfl,rfl,rfl⟩ (.refl _) ?_
 rintro⟨k,u⟩ hk
 dsimp only at hk
 refine AY ?_
 refine A6 (fun hc=>?_) (fun hc=>?_)
 ·have hl:(ids (s.take k)).length=k:=by simp[ids];omega
  refine Hn fun v=>?_
  have e:ids (s.take (k+1))=ids (s.take k)++ [s[k].id]:=by
   rw[A7 (by omega)];simp only[ids,An,Aq,CG]
  refine⟨(k+1,v),by dsimp only;omega,by dsimp only;omega,⟨rfl,by dsimp only;rw[e];rfl,rfl⟩,by dsimp only;rw[e];exact .refl _⟩
 ·refine AY ?_
  refine Az (.ros ?_)
  rw[AE (by omega)]⟩
def getS:List Sto→Dig→Option Pat
 | [],_=>none
 |x::s,d=>if x.id=d then some x.patch else getS s d
theorem fG {s:List Sto} {d:Dig} (h: ∀ i (h:i < s.length),s[i].id≠d):getS s d=none:=by
 induction s with
 |nil=>rfl
 |cons x s ih=>
  have h0:=h 0 (by simp)
  simp only[BM]at h0
  simp only[getS,h0,if_false]
  exact ih fun i hi=>by have:=h (i+1) (by simpa using hi);simpa using this
theorem fE {s:List Sto} {d:Dig} {k:Nat} (hk:k < s.length) (h: ∀ i (h:i < s.length),i < k→s[i].id≠d) (he:s[k].id=d):getS s d=some s[k].patch:=by
 induction s generalizing k with
 |nil=>simp at hk
 |cons x s ih=>
  cases k with
  |zero=>simp only[BM]at he ⊢;simp[getS,he]
  |succ k=>
   have h0:=h 0 (by simp) (by omega)
   simp only[BM]at h0
   simp only[getS,h0,if_false,DA]
   exact ih (by simpa using hk) (fun i hi hik=>by have:=h (i+1) (by simpa using hi) (by omega);simpa using this) (by simpa using he)
def yN (o:Option Pat):PV:= .tuple [.agg (Ba (o.getD Pat.zero)),.raw (.bool o.isSome)]
instance ye (s:List Sto) (d:Dig) (t:CN):C9 Tryz.prog 40 [.slice (s.map eSto) t,.agg (eDig d)] (yN (getS s d)):=⟨by
 refine Au Tryz.func40 Tryz.ntmps40 rfl (rs:= [.cell 4 40,.tmp 5]) rfl rfl fun hb LF=>?_
 have hlen:s.length≤140737488355328:=(hb (.slice (s.map eSto) t) (by simp)).slice_map
 refine DC fun b=>?_
 refine FK fun r=>?_
 refine Ab (σ:=Nat) (fun k=>k≤s.length∧ ∀ i (h:i < s.length),i < k→s[i].id≠d) (fun k=>s.length - k) (fun k=> [(0,.slice (s.map eSto) t),(3,.raw (.pointer (some ⟨b,0,none⟩))),(4,.raw (.pointer (some ⟨r,0,none⟩))),(6,.raw (.int .i64 k))]) (fun _=> .box r 40 (Ba Pat.zero):: .box b 31 (eDig d)::LF) 0 ⟨by simp,by simp⟩ ⟨rfl,rfl,rfl,rfl⟩ (.refl _) ?_
 rintro k ⟨hk,hne⟩
 refine AY ?_
 refine A6 (fun hc=>?_) (fun hc=>?_)
 ·refine AY ?_
  refine A6 (fun he=>?_) (fun he=>?_)
  ·refine AY ?_
   refine L6 rfl (.of_eq ?_)
   rw[fE (by omega) hne he];rfl
  ·refine AY ?_
   refine⟨k+1,⟨by omega,fun i h hi=>?_⟩,by dsimp only;omega,⟨rfl,rfl,rfl,rfl⟩,.refl _⟩
   rcases BP i k with h'|h'
   ·exact hne i h h'
   ·have:i=k:=by omega
    subst this;exact he
 ·refine AY ?_
  refine L6 rfl (.of_eq ?_)
  rw[fG fun i h=>hne i h (by omega)];rfl⟩
instance xx (l:List Dig) (d:Dig) (t:CN) [hs:B4 (l.length≤1000000)]:C9 Tryz.prog 72 [.slice (l.map eDig) t,.agg (eDig d)] (.slice ((FU l d).map eDig) .ro):=⟨by
 refine Au Tryz.func72 Tryz.ntmps72 rfl (rs:= [.tmp 4]) rfl rfl fun hb LF=>?_
 have hlen:l.length≤1000000:=hs.out
 refine DC fun b=>?_
 refine Ab (σ:=Nat) (fun k=>k≤l.length∧ ∀ i (h:i < l.length),i < k→Dig.lt l[i] d) (fun k=>l.length - k) (fun k=> [(0,.slice (l.map eDig) t),(3,.raw (.pointer (some ⟨b,0,none⟩))),(5,.raw (.int .i64 k))]) (fun _=> .box b 31 (eDig d)::LF) 0 ⟨by simp,by simp⟩ ⟨rfl,rfl,rfl⟩ (.refl _) ?_
 rintro k ⟨hk,hne⟩
 refine AY ?_
 refine Ar (fun hp=>?_) (fun hp=>?_)
 ·have hc:(k:Int) < l.length:=BF hp
  refine C8 ?_
  refine A6 (fun h1=>?_) (fun h1=>?_)
  ·refine AY ?_
   refine⟨k+1,⟨by omega,fun i h hi=>?_⟩,by dsimp only;omega,⟨rfl,rfl,rfl⟩,.refl _⟩
   rcases BP i k with h'|h'
   ·exact hne i h h'
   ·have:i=k:=by omega
    subst this;exact h1
  ·refine AY ?_
   refine A6 (fun h2=>?_) (fun h2=>?_)
   ·refine AY ?_
    refine Az (.ros ?_)
    rw[Pq hk hne (fun _=>h1),if_pos ⟨by omega,h2⟩]
   ·refine Hn fun t1=>?_
    refine IJ fun t2=>?_
    refine IJ fun t3=>?_
    refine Az (.ros ?_)
    rw[Pq hk hne (fun _=>h1),if_neg (fun⟨_,e⟩=>h2 e)]
    simp
 ·have hc: ¬(k:Int) < l.length:=Bm hp
  refine C8 ?_
  refine IJ fun t1=>?_
  refine IJ fun t2=>?_
  refine IJ fun t3=>?_
  refine Az (.ros ?_)
  rw[Pq hk hne (fun h=>absurd (show(k:Int) < l.length by omega) hc),if_neg (fun⟨h,_⟩=>hc (by omega))]
  simp⟩
def QB (k:Int):Int:=if k=7 then 0 else k
def IW (k:Int):Bool:=decide (k=5)||decide (k=6)
def EH (x:Ident):Bool:=!decide (x.patch=Dig.zero)
def rDirectory (x:Atm):Bool:=decide (x.kind=1)&&decide (x.type=4)
def Dj (x:Ident) (n:Int):Bool:=if x.patch=Dig.zero then decide (0≤x.n)&&decide (x.n < n)else decide (0≤x.n)&&decide (x.n < 100000)
def EK (k:Int) (x:Atm):Bool:=if x.kind≠1 then false else if IW k then decide (x.type=1)else !decide (k=4)||decide (x.type=2)||decide (x.type=3)
def Im (f:Ident) (x:Atm):Bool:=decide (x.kind=5)&&decide (x.file=f)
instance xb:C9 Tryz.prog 298 [] (.agg (eIdent Ident.zero)):=⟨by
 refine Au Tryz.func298 Tryz.ntmps298 rfl (rs:= [.cell 0 65]) rfl rfl fun hb LF=>?_
 refine DC fun b=>?_
 exact Fq rfl (.refl _)⟩
instance xz:C9 Tryz.prog 119 [] (.agg (eIdent ⟨Dig.zero,-1⟩)):=⟨by
 refine Au Tryz.func119 Tryz.ntmps119 rfl (rs:= [.cell 0 65]) rfl rfl fun hb LF=>?_
 refine DC fun b=>?_
 exact Fq rfl (.refl _)⟩
instance xJ (k:Int):C9 Tryz.prog 263 [.raw (.int .i64 k)] (.raw (.int .i64 (QB k))):=⟨by
 refine Au Tryz.func263 Tryz.ntmps263 rfl (rs:= [.tmp 2]) rfl rfl fun hb LF=>?_
 refine AY ?_
 refine A6 (fun h=>?_) (fun h=>?_)
 ·refine AY ?_
  refine Az (.of_eq ?_)
  simp[QB,h]
 ·refine AY ?_
  refine Az (.of_eq ?_)
  simp[QB,h]⟩
instance xP (k:Int):C9 Tryz.prog 261 [.raw (.int .i64 k)] (.raw (.bool (IW k))):=⟨by
 refine Au Tryz.func261 Tryz.ntmps261 rfl (rs:= [.tmp 2]) rfl rfl fun hb LF=>?_
 refine AY ?_
 refine Ar (fun hp=>?_) (fun hp=>?_)
 ·refine C8 ?_
  refine Az (.of_eq ?_)
  simp_all[IW]
 ·refine C8 ?_
  refine Az (.of_eq ?_)
  simp_all[IW]⟩
instance vc (x:Ident):C9 Tryz.prog 206 [.agg (eIdent x)] (.raw (.bool (EH x))):=⟨by
 refine Au Tryz.func206 Tryz.ntmps206 rfl (rs:= [.tmp 2]) rfl rfl fun hb LF=>?_
 refine DC fun b=>?_
 refine Az (.of_eq ?_)
 rfl⟩
instance oG (x:Atm):C9 Tryz.prog 209 [.agg (eAtm x)] (.raw (.bool (rDirectory x))):=⟨by
 refine Au Tryz.func209 Tryz.ntmps209 rfl (rs:= [.tmp 2]) rfl rfl fun hb LF=>?_
 refine DC fun b=>?_
 refine Ar (fun hp=>?_) (fun hp=>?_)
 ·refine C8 ?_
  refine Az (.of_eq ?_)
  simp_all[rDirectory]
 ·refine C8 ?_
  refine Az (.of_eq ?_)
  simp_all[rDirectory]⟩
instance tN (x:Ident) (n:Int):C9 Tryz.prog 300 [.agg (eIdent x),.raw (.int .i64 n)] (.raw (.bool (Dj x n))):=⟨by
 refine Au Tryz.func300 Tryz.ntmps300 rfl (rs:= [.tmp 4]) rfl rfl fun hb LF=>?_
 refine DC fun b=>?_
 refine A6 (fun h=>?_) (fun h=>?_)
 ·refine AY ?_
  refine Ar (fun hp=>?_) (fun hp=>?_)
  ·refine C8 ?_
   refine Az (.of_eq ?_)
   simp_all[Dj]<;>omega
  ·refine C8 ?_
   refine Az (.of_eq ?_)
   simp_all[Dj]<;>omega
 ·refine AY ?_
  refine Ar (fun hp=>?_) (fun hp=>?_)
  ·refine C8 ?_
   refine Az (.of_eq ?_)
   simp_all[Dj]<;>omega
  ·refine C8 ?_
   refine Az (.of_eq ?_)
   simp_all[Dj]<;>omega⟩
instance qn (k:Int) (x:Atm):C9 Tryz.prog 208 [.raw (.int .i64 k),.agg (eAtm x)] (.raw (.bool (EK k x))):=⟨by
 refine Au Tryz.func208 Tryz.ntmps208 rfl (rs:= [.tmp 4]) rfl rfl fun hb LF=>?_
 refine DC fun b=>?_
 refine AX (fun h=>?_) (fun h=>?_)
 ·refine AY ?_
  refine Az (.of_eq ?_)
  simp[EK,h]
 ·refine AY ?_
  refine AU (fun h2=>?_) (fun h2=>?_)
  ·refine AY ?_
   refine Az (.of_eq ?_)
   simp[EK,h,h2]
  ·refine AY ?_
   refine Ar (fun hp=>?_) (fun hp=>?_)
   ·refine C8 ?_
    refine Az (.of_eq ?_)
    simp_all[EK]
   ·refine C8 ?_
    refine Ar (fun hq=>?_) (fun hq=>?_)
    ·refine C8 ?_
     refine Az (.of_eq ?_)
     simp_all[EK]
    ·refine C8 ?_
     refine Az (.of_eq ?_)
     simp_all[EK]⟩
instance tW (f:Ident) (x:Atm):C9 Tryz.prog 262 [.agg (eIdent f),.agg (eAtm x)] (.raw (.bool (Im f x))):=⟨by
 refine Au Tryz.func262 Tryz.ntmps262 rfl (rs:= [.tmp 4]) rfl rfl fun hb LF=>?_
 refine DC fun b=>?_
 refine FK fun b2=>?_
 refine Ar (fun hp=>?_) (fun hp=>?_)
 ·refine C8 ?_
  refine Az (.of_eq ?_)
  simp_all[Im]
 ·refine C8 ?_
  refine Az (.of_eq ?_)
  simp_all[Im]⟩
def GK (k:Int) (f:Ident) (x:Atm):Bool:=decide (QB k=0)||decide (x.kind=QB k)&&decide (x.file=f)
def J4 (x:Ident) (own:List Atm) (fits:Bool):Int:=if Dj x own.length=false then 7 else if x.patch=Dig.zero∧fits=false then 8 else 0
def Lp (own:List Atm) (x:Ident):Atm:=if x.patch=Dig.zero∧0≤x.n then own.getD x.n.toNat Atm.zero else Atm.zero
def FA (x:Ident) (d:Dig):Ident:=if 0≤x.n∧x.patch=Dig.zero then { x with patch:=d }else x
def Dw (x:Ident) (d:Dig):Ident:=if x.patch=Dig.zero∧0≤x.n then { x with patch:=d }else x
instance qm (k:Int) (f:Ident) (x:Atm):C9 Tryz.prog 211 [.raw (.int .i64 k),.agg (eIdent f),.agg (eAtm x)] (.raw (.bool (GK k f x))):=⟨by
 refine Au Tryz.func211 Tryz.ntmps211 rfl (rs:= [.tmp 6]) rfl rfl fun hb LF=>?_
 refine DC fun b=>?_
 refine FK fun b2=>?_
 refine Ar (fun hp=>?_) (fun hp=>?_)
 ·refine C8 ?_
  refine Az (.of_eq ?_)
  simp_all[GK]
 ·refine C8 ?_
  refine Ar (fun hq=>?_) (fun hq=>?_)
  ·refine C8 ?_
   refine Az (.of_eq ?_)
   simp_all[GK]
  ·refine C8 ?_
   refine Az (.of_eq ?_)
   simp_all[GK]⟩
instance yO (x:Ident) (own:List Atm) (t:CN) (fits:Bool):C9 Tryz.prog 278 [.agg (eIdent x),.slice (own.map eAtm) t,.raw (.bool fits)] (.raw (.int .i64 (J4 x own fits))):=⟨by
 refine Au Tryz.func278 Tryz.ntmps278 rfl (rs:= [.tmp 6]) rfl rfl fun hb LF=>?_
 refine DC fun b=>?_
 refine AU (fun h=>?_) (fun h=>?_)
 ·refine AY ?_
  refine Az (.of_eq ?_)
  simp_all[J4]
 ·refine AY ?_
  refine Ar (fun hp=>?_) (fun hp=>?_)
  ·refine C8 ?_
   refine AU (fun h2=>?_) (fun h2=>?_)
   ·refine AY ?_
    refine Az (.of_eq ?_)
    simp_all[J4]
   ·refine AY ?_
    refine Az (.of_eq ?_)
    simp_all[J4]
  ·refine C8 ?_
   refine Az (.of_eq ?_)
   simp_all[J4]⟩
instance yS (own:List Atm) (t:CN) (x:Ident):C9 Tryz.prog 279 [.slice (own.map eAtm) t,.agg (eIdent x)] (.agg (eAtm (Lp own x))):=⟨by
 refine Au Tryz.func279 Tryz.ntmps279 rfl (rs:= [.cell 4 125]) rfl rfl fun hb LF=>?_
 refine DC fun b=>?_
 refine FK fun b2=>?_
 refine Ar (fun hp=>?_) (fun hp=>?_)
 ·refine C8 ?_
  refine Ar (fun hq=>?_) (fun hq=>?_)
  ·refine C8 ?_
   refine A6 (fun h=>?_) (fun h=>?_)
   ·have h0:0≤x.n:=BF hq
    refine AY ?_
    refine Fq rfl (.of_eq ?_)
    have:x.n.toNat < own.length:=by omega
    simp_all[Lp]
   ·refine AY ?_
    refine Fq rfl (.of_eq ?_)
    have h0:0≤x.n:=BF hq
    have: ¬x.n.toNat < own.length:=by omega
    simp_all[Lp]
  ·refine C8 ?_
   refine Fq rfl (.of_eq ?_)
   have h0: ¬0≤x.n:=Bm hq
   simp[Lp,h0]
 ·refine C8 ?_
  refine Fq rfl (.of_eq ?_)
  simp_all[Lp]⟩
instance qT (x:Ident) (d:Dig):C9 Tryz.prog 212 [.agg (eIdent x),.agg (eDig d)] (.agg (eIdent (FA x d))):=⟨by
 refine Au Tryz.func212 Tryz.ntmps212 rfl (rs:= [.cell 4 65]) rfl rfl fun hb LF=>?_
 refine DC fun b=>?_
 refine FK fun b2=>?_
 refine FK fun b3=>?_
 refine Ar (fun hp=>?_) (fun hp=>?_)
 ·refine C8 ?_
  refine A6 (fun h=>?_) (fun h=>?_)
  ·refine AY ?_
   refine Fq rfl (.of_eq ?_)
   simp_all[FA]
  ·refine AY ?_
   refine Fq rfl (.of_eq ?_)
   simp_all[FA]
 ·refine C8 ?_
  refine Fq rfl (.of_eq ?_)
  have h0: ¬0≤x.n:=Bm hp
  simp[FA,h0]⟩
instance um (x:Ident) (d:Dig):C9 Tryz.prog 294 [.agg (eIdent x),.agg (eDig d)] (.agg (eIdent (Dw x d))):=⟨by
 refine Au Tryz.func294 Tryz.ntmps294 rfl (rs:= [.cell 4 65]) rfl rfl fun hb LF=>?_
 refine DC fun b=>?_
 refine FK fun b2=>?_
 refine FK fun b3=>?_
 refine Ar (fun hp=>?_) (fun hp=>?_)
 ·refine C8 ?_
  refine A6 (fun h=>?_) (fun h=>?_)
  ·refine AY ?_
   refine Fq rfl (.of_eq ?_)
   simp_all[Dw]
  ·refine AY ?_
   refine Fq rfl (.of_eq ?_)
   simp[Dw,h]
 ·refine C8 ?_
  refine Fq rfl (.of_eq ?_)
  simp_all[Dw]⟩
def Hc (a b:Ident):Int:=if Ea a.patch b.patch≠0 then Ea a.patch b.patch else if a.n < b.n then -1 else if b.n < a.n then 1 else 0
instance qq (a b:Ident):C9 Tryz.prog 182 [.agg (eIdent a),.agg (eIdent b)] (.raw (.int .i64 (Hc a b))):=⟨by
 refine Au Tryz.func182 Tryz.ntmps182 rfl (rs:= [.tmp 4]) rfl rfl fun hb LF=>?_
 refine DC fun p=>?_
 refine FK fun q=>?_
 refine AX (fun h=>?_) (fun h=>?_)
 ·refine AY ?_
  refine Az (.of_eq ?_)
  simp[Hc,h]
 ·refine AY ?_
  refine A6 (fun h1=>?_) (fun h1=>?_)
  ·refine AY ?_
   refine Az (.of_eq ?_)
   simp[Hc,h,h1]
  ·refine AY ?_
   refine A6 (fun h2=>?_) (fun h2=>?_)
   ·refine AY ?_
    refine Az (.of_eq ?_)
    simp[Hc,h,h1,h2]
   ·refine AY ?_
    refine Az (.of_eq ?_)
    simp[Hc,h,h1,h2]⟩
def PK (l:List Ident):Bool:=(List.range (l.length - 1)).all fun i=>decide (Hc (l.getD i Ident.zero) (l.getD (i+1) Ident.zero) < 0)
instance pA (l:List Ident) (t:CN):C9 Tryz.prog 277 [.slice (l.map eIdent) t] (.raw (.bool (PK l))):=⟨by
 refine Au Tryz.func277 Tryz.ntmps277 rfl (rs:= [.tmp 2]) rfl rfl fun hb LF=>?_
 have hlen:l.length≤140737488355328:=(hb (.slice (l.map eIdent) t) (by simp)).slice_map
 refine AY ?_
 refine Ab (σ:=Nat) (fun k=>1≤k∧ ∀ i,i+1 < k→i+1 < l.length→Hc (l.getD i Ident.zero) (l.getD (i+1) Ident.zero) < 0) (fun k=>l.length - k) (fun k=> [(0,.slice (l.map eIdent) t),(3,.raw (.int .i64 k))]) (fun _=>LF) 1 ⟨by simp,fun i h=>by omega⟩ ⟨rfl,rfl⟩ (.refl _) ?_
 rintro k ⟨hk,he⟩
 refine AY ?_
 refine A6 (fun hc=>?_) (fun hc=>?_)
 ·obtain⟨j,rfl⟩: ∃ j,k=j+1:=⟨k - 1,by omega⟩
  refine AY ?_
  have e:((↑(j+1):Int) - 1).toNat=j:=by omega
  have hj:j+1 < l.length:=by omega
  refine A6 (fun h1=>?_) (fun h1=>?_)
  ·refine AY ?_
   refine Az (.of_eq ?_)
   simp only[e]at h1
   have:PK l=false:=by
    unfold PK
    rw[J3]
    refine⟨j,BW.2 (by omega),?_⟩
    simp only[AB,Cr,AW hj,AW (show j < l.length by omega),Br]
    omega
   rw[this]
  ·refine AY ?_
   simp only[e]at h1
   refine⟨j+1+1,⟨by omega,fun i h2 h3=>?_⟩,by dsimp only;omega,⟨rfl,rfl⟩,.refl _⟩
   rcases BP (i+1) (j+1)with h'|h'
   ·exact he i h' h3
   ·have:i=j:=by omega
    subst this
    simp only[Cr,AW hj,AW (show i < l.length by omega),Br]
    omega
 ·refine AY ?_
  refine Az (.of_eq ?_)
  have:PK l=true:=by
   unfold PK
   rw[BT]
   intro i hi
   rw[BW]at hi
   exact BK (he i (by omega) (by omega))
  rw[this]⟩
instance tS (l m:List Ident) (t u:CN):C9 Tryz.prog 112 [.slice (l.map eIdent) t,.slice (m.map eIdent) u] (.raw (.bool (decide (l=m)))):=⟨by
 refine Au Tryz.func112 Tryz.ntmps112 rfl (rs:= [.tmp 4]) rfl rfl fun hb LF=>?_
 have hlen:l.length≤140737488355328:=(hb (.slice (l.map eIdent) t) (by simp)).slice_map
 refine AY ?_
 refine AX (fun h1=>?_) (fun h1=>?_)
 ·refine AY ?_
  refine Az (.of_eq ?_)
  have: ¬l=m:=fun e=>h1 (by rw[e])
  simp[this]
 ·refine AY ?_
  have hl:l.length=m.length:=by omega
  refine Ab (σ:=Nat) (fun k=>k≤l.length∧l.take k=m.take k) (fun k=>l.length - k) (fun k=> [(0,.slice (l.map eIdent) t),(1,.slice (m.map eIdent) u),(5,.raw (.int .i64 k))]) (fun _=>LF) 0 ⟨by simp,by simp⟩ ⟨rfl,rfl,rfl⟩ (.refl _) ?_
  rintro k ⟨hk,he⟩
  refine AY ?_
  refine A6 (fun hc=>?_) (fun hc=>?_)
  ·refine AY ?_
   refine AX (fun h2=>?_) (fun h2=>?_)
   ·refine AY ?_
    refine Az (.of_eq ?_)
    have: ¬l=m:=fun e=>h2 (by simp[e])
    simp[this]
   ·refine AY ?_
    refine⟨k+1,⟨by omega,?_⟩,by dsimp only;omega,⟨rfl,rfl,rfl⟩,.refl _⟩
    rw[A7 (by omega),A7 (by omega),he,h2]
  ·refine AY ?_
   refine Az (.of_eq ?_)
   have:l=m:=by
    rw[AE (by omega),AE (by omega)]at he
    exact he
   simp[this]⟩
instance wm (l m:List Str) (t u:CN):C9 Tryz.prog 111 [.slice (l.map eS) t,.slice (m.map eS) u] (.raw (.bool (decide (l=m)))):=⟨by
 refine Au Tryz.func111 Tryz.ntmps111 rfl (rs:= [.tmp 4]) rfl rfl fun hb LF=>?_
 have hlen:l.length≤140737488355328:=(hb (.slice (l.map eS) t) (by simp)).slice_map
 refine AY ?_
 refine AX (fun h1=>?_) (fun h1=>?_)
 ·refine AY ?_
  refine Az (.of_eq ?_)
  have: ¬l=m:=fun e=>h1 (by rw[e])
  simp[this]
 ·refine AY ?_
  have hl:l.length=m.length:=by omega
  refine Ab (σ:=Nat) (fun k=>k≤l.length∧l.take k=m.take k) (fun k=>l.length - k) (fun k=> [(0,.slice (l.map eS) t),(1,.slice (m.map eS) u),(5,.raw (.int .i64 k))]) (fun _=>LF) 0 ⟨by simp,by simp⟩ ⟨rfl,rfl,rfl⟩ (.refl _) ?_
  rintro k ⟨hk,he⟩
  refine AY ?_
  refine A6 (fun hc=>?_) (fun hc=>?_)
  ·refine AY ?_
   refine AX (fun h2=>?_) (fun h2=>?_)
   ·refine AY ?_
    refine Az (.of_eq ?_)
    have: ¬l=m:=fun e=>h2 (by simp[e])
    simp[this]
   ·refine AY ?_
    refine⟨k+1,⟨by omega,?_⟩,by dsimp only;omega,⟨rfl,rfl,rfl⟩,.refl _⟩
    rw[A7 (by omega),A7 (by omega),he,h2]
  ·refine AY ?_
   refine Az (.of_eq ?_)
   have:l=m:=by
    rw[AE (by omega),AE (by omega)]at he
    exact he
   simp[this]⟩
theorem tD (a b:Chg):decide (a=b)=(decide (a.kind=b.kind)&&decide (a.file=b.file)&&decide (a.type=b.type)&&decide (a.parent=b.parent)&&decide (a.name=b.name)&&decide (a.mode=b.mode)&&decide (a.data=b.data)&&decide (a.after=b.after)&&decide (a.before=b.before)&&decide (a.lines=b.lines)&&decide (a.over=b.over)):=by
 cases a;cases b;rw[Gz];simp[and_assoc]
instance lX (a b:Chg):C9 Tryz.prog 54 [.agg (eChg a),.agg (eChg b)] (.raw (.bool (decide (a=b)))):=⟨by
 refine Au Tryz.func54 Tryz.ntmps54 rfl (rs:= [.tmp 4]) rfl rfl fun hb LF=>?_
 rw[tD]
 refine DC fun p=>?_
 refine FK fun q=>?_
 iterate 10
  refine Ar (fun hp=>?_) (fun hp=>by
   refine C8 ?_
   refine Az (.of_eq ?_)
   simp_all)
  refine C8 ?_
 refine Az (.of_eq ?_)
 simp_all⟩
theorem nJ {a b:Pat} (h1:a.author=b.author) (h2:a.message=b.message) (h3:a.time=b.time) (h4:a.deps=b.deps) (h5:a.changes=b.changes):a=b:=by
 cases a;cases b;simp_all
instance wt (a b:Pat):C9 Tryz.prog 18 [.agg (Ba a),.agg (Ba b)] (.raw (.bool (decide (a=b)))):=⟨by
 refine Au Tryz.func18 Tryz.ntmps18 rfl (rs:= [.tmp 4]) rfl rfl fun hb LF=>?_
 have hlen:a.changes.length≤140737488355328:=((hb (.agg (Ba a)) (by simp)).agg_at (c:= .slice (a.changes.map eChg) .ro) (by simp[Ba])).slice_map
 have no: ∀ {q:Prop},(a=b→ ¬q)→q→Le (.raw (.bool false)) (.raw (.bool (decide (a=b)))):=fun h hq=> .of_eq (by rw[Ck (fun e=>h e hq)])
 refine DC fun p=>?_
 refine FK fun q=>?_
 iterate 4
  refine Ar (fun hp=>by
   refine C8 ?_
   refine Az (no (fun e=>?_) hp)
   simp[e]) (fun hp=>?_)
  refine C8 ?_
 refine AX (fun h=>?_) (fun h=>?_)
 ·refine AY ?_
  refine Az (no (fun e=>?_) h)
  simp[e]
 ·refine AY ?_
  have hl:a.changes.length=b.changes.length:=by omega
  refine Ab (σ:=Nat) (fun k=>k≤a.changes.length∧a.changes.take k=b.changes.take k) (fun k=>a.changes.length - k) (fun k=> [(2,.raw (.pointer (some ⟨p,0,none⟩))),(3,.raw (.pointer (some ⟨q,0,none⟩))),(5,.raw (.int .i64 k))]) (fun _=> .box q 40 (Ba b):: .box p 40 (Ba a)::LF) 0 ⟨by simp,by simp⟩ ⟨rfl,rfl,rfl⟩ (.refl _) ?_
  rintro k ⟨hk,he⟩
  refine AY ?_
  refine A6 (fun hc=>?_) (fun hc=>?_)
  ·refine AY ?_
   refine AX (fun h2=>?_) (fun h2=>?_)
   ·refine AY ?_
    refine Az (no (fun e=>?_) h2)
    simp[e]
   ·refine AY ?_
    refine⟨k+1,⟨by omega,?_⟩,by dsimp only;omega,⟨rfl,rfl,rfl⟩,.refl _⟩
    rw[A7 (by omega),A7 (by omega),he,h2]
  ·refine AY ?_
   refine Az (.of_eq ?_)
   have h5:a.changes=b.changes:=by
    rw[AE (by omega),AE (by omega)]at he
    exact he
   have:a=b:=by
    apply nJ<;>simp_all
   simp[this]⟩
def HX (s:List Sto) (l:List Dig):List Sto:=s.filter fun x=>decide (x.id∈l)
theorem Ie {α:Type} {l:List α} {q:α→Bool} (h: ∀ i (h:i < l.length),q l[i]=true):l.all q=true:=by
 rw[BT];intro x hx
 obtain⟨i,hi,rfl⟩:=Ad.1 hx
 exact h i hi
theorem HQ {α:Type} {l:List α} {q:α→Bool} {k:Nat} (hk:k < l.length) (h:q l[k]=false):l.all q=false:=by
 rw[J3];exact⟨_,AJ hk,by simp[h]⟩
theorem Lb {α:Type} {l:List α} {q:α→Bool} {k:Nat} (he: ∀ i (h:i < l.length),i < k→q l[i]=true) (hk:k < l.length) (h:q l[k]=true): ∀ i (h:i < l.length),i < k+1→q l[i]=true:=fun i hi hik=>by
 rcases BP i k with h'|h'
 ·exact he i hi h'
 ·have:i=k:=by omega
  subst this;exact h
def OX (m n:Int) (c:UInt8):Bool:=!decide ((c.toNat:Int)=m)&&!decide ((c.toNat:Int)=n)
def PJ (s:Str) (m n:Int):Bool:=s.all (OX m n)
instance wa (s:Str) (m n:Int):C9 Tryz.prog 305 [.str s,.raw (.int .u8 m),.raw (.int .u8 n)] (.raw (.bool (PJ s m n))):=⟨by
 refine Au Tryz.func305 Tryz.ntmps305 rfl (rs:= [.tmp 6]) rfl rfl fun hb LF=>?_
 have hlen:s.length≤140737488355328:=(hb (.str s) (by simp)).str_len
 refine AY ?_
 refine Ab (σ:=Nat) (fun k=>k≤s.length∧ ∀ i (h:i < s.length),i < k→OX m n s[i]=true) (fun k=>s.length - k) (fun k=> [(0,.str s),(1,.raw (.int .u8 m)),(2,.raw (.int .u8 n)),(7,.raw (.int .i64 k))]) (fun _=>LF) 0 ⟨by simp,by simp⟩ ⟨rfl,rfl,rfl,rfl⟩ (.refl _) ?_
 rintro k ⟨hk,he⟩
 refine AY ?_
 refine A6 (fun hc=>?_) (fun hc=>?_)
 ·have hlt:k < s.length:=by omega
  refine AY ?_
  repeat' (first|(refine A6 (fun h=>?_) (fun h=>?_)<;>refine AY ?_)|(refine AX (fun h=>?_) (fun h=>?_)<;>refine AY ?_)|(refine AU (fun h=>?_) (fun h=>?_)<;>refine AY ?_)|(refine Ar (fun h=>?_) (fun h=>?_)<;>(have h2:=h;(try simp only[AB,A8,AG,AL]at h2);refine C8 ?_)))
  all_goals first
   |(refine⟨k+1,⟨by omega,Lb he hlt ?_⟩,by dsimp only;omega,⟨rfl,rfl,rfl,rfl⟩,.refl _⟩;simp_all[OX];done)
   |(refine Az (.of_eq ?_);have:OX m n s[k]=false:=by simp_all[OX]
     rw[PJ,HQ hlt this])
 ·refine AY ?_
  refine Az (.of_eq ?_)
  rw[PJ,Ie fun i h=>he i h (by omega)]⟩
def JB (s:Str):Bool:=decide ((s.length:Int)≤1000)&&PJ s 10 0
instance wj (s:Str):C9 Tryz.prog 299 [.str s] (.raw (.bool (JB s))):=⟨by
 refine Au Tryz.func299 Tryz.ntmps299 rfl (rs:= [.tmp 2]) rfl rfl fun hb LF=>?_
 refine AY ?_
 repeat' (first|(refine A6 (fun h=>?_) (fun h=>?_)<;>refine AY ?_)|(refine AX (fun h=>?_) (fun h=>?_)<;>refine AY ?_)|(refine AU (fun h=>?_) (fun h=>?_)<;>refine AY ?_)|(refine Ar (fun h=>?_) (fun h=>?_)<;>(have h2:=h;(try simp only[AB,A8,AG,AL]at h2);refine C8 ?_)))
 all_goals (refine Az (.of_eq ?_);first|(simp_all[JB];done)|grind [JB])⟩
def KR (c:UInt8):Bool:=(decide (97≤(c.toNat:Int))&&decide ((c.toNat:Int)≤122))||(decide (65≤(c.toNat:Int))&&decide ((c.toNat:Int)≤90))||(decide (48≤(c.toNat:Int))&&decide ((c.toNat:Int)≤57))||decide ((c.toNat:Int)=46)||decide ((c.toNat:Int)=95)||decide ((c.toNat:Int)=45)
def Jc (s:Str):Bool:=s.all KR&&decide (1≤(s.length:Int))&&decide ((s.length:Int)≤40)&&!decide (s= [46])&&!decide (s= [46,46])
instance y3 (s:Str):C9 Tryz.prog 161 [.str s] (.raw (.bool (Jc s))):=⟨by
 refine Au Tryz.func161 Tryz.ntmps161 rfl (rs:= [.tmp 2]) rfl rfl fun hb LF=>?_
 have hlen:s.length≤140737488355328:=(hb (.str s) (by simp)).str_len
 refine AY ?_
 refine Ab (σ:=Nat) (fun k=>k≤s.length∧ ∀ i (h:i < s.length),i < k→KR s[i]=true) (fun k=>s.length - k) (fun k=> [(0,.str s),(3,.raw (.int .i64 k))]) (fun _=>LF) 0 ⟨by simp,by simp⟩ ⟨rfl,rfl⟩ (.refl _) ?_
 rintro k ⟨hk,he⟩
 refine AY ?_
 refine A6 (fun hc=>?_) (fun hc=>?_)
 ·have hlt:k < s.length:=by omega
  refine AY ?_
  repeat' (first|(refine A6 (fun h=>?_) (fun h=>?_)<;>refine AY ?_)|(refine AX (fun h=>?_) (fun h=>?_)<;>refine AY ?_)|(refine AU (fun h=>?_) (fun h=>?_)<;>refine AY ?_)|(refine Ar (fun h=>?_) (fun h=>?_)<;>(have h2:=h;(try simp only[AB,A8,AG,AL]at h2);refine C8 ?_)))
  all_goals first
   |(refine⟨k+1,⟨by omega,Lb he hlt ?_⟩,by dsimp only;omega,⟨rfl,rfl⟩,.refl _⟩;clear he hc;grind [KR])
   |(refine Az (.of_eq ?_);have:KR s[k]=false:=by clear he hc;grind [KR]
     rw[Jc,HQ hlt this];rfl)
 ·have hall:s.all KR=true:=Ie fun i h=>he i h (by omega)
  refine AY ?_
  repeat' (first|(refine A6 (fun h=>?_) (fun h=>?_)<;>refine AY ?_)|(refine AX (fun h=>?_) (fun h=>?_)<;>refine AY ?_)|(refine AU (fun h=>?_) (fun h=>?_)<;>refine AY ?_)|(refine Ar (fun h=>?_) (fun h=>?_)<;>(have h2:=h;(try simp only[AB,A8,AG,AL]at h2);refine C8 ?_)))
  all_goals (refine Az (.of_eq ?_);first|(simp_all[Jc];done)|grind [Jc])⟩
def Mg (l:List Str):Int:=if(l.length:Int)=0 then 1 else if 2000 < (l.length:Int)then 4 else if l.all JB then 0 else 3
instance vt (l:List Str) (t:CN):C9 Tryz.prog 276 [.slice (l.map eS) t] (.raw (.int .i64 (Mg l))):=⟨by
 refine Au Tryz.func276 Tryz.ntmps276 rfl (rs:= [.tmp 2]) rfl rfl fun hb LF=>?_
 have hlen:l.length≤140737488355328:=(hb (.slice (l.map eS) t) (by simp)).slice_map
 refine AY ?_
 refine A6 (fun h1=>?_) (fun h1=>?_)
 ·refine AY ?_
  refine Az (.of_eq ?_)
  simp[Mg,h1]
 refine AY ?_
 refine A6 (fun h2=>?_) (fun h2=>?_)
 ·refine AY ?_
  refine Az (.of_eq ?_)
  simp only[Mg,h1,h2,if_true,if_false]
 refine AY ?_
 refine Ab (σ:=Nat) (fun k=>k≤l.length∧ ∀ i (h:i < l.length),i < k→JB l[i]=true) (fun k=>l.length - k) (fun k=> [(0,.slice (l.map eS) t),(3,.raw (.int .i64 k))]) (fun _=>LF) 0 ⟨by simp,by simp⟩ ⟨rfl,rfl⟩ (.refl _) ?_
 rintro k ⟨hk,he⟩
 refine AY ?_
 refine A6 (fun hc=>?_) (fun hc=>?_)
 ·have hlt:k < l.length:=by omega
  refine AY ?_
  refine AU (fun h=>?_) (fun h=>?_)
  ·refine AY ?_
   refine Az (.of_eq ?_)
   simp only[Mg,h1,h2,if_false]
   rw[HQ hlt (by simpa using h)];rfl
  ·refine AY ?_
   exact⟨k+1,⟨by omega,Lb he hlt (by simpa using h)⟩,by dsimp only;omega,⟨rfl,rfl⟩,.refl _⟩
 ·refine AY ?_
  refine Az (.of_eq ?_)
  simp only[Mg,h1,h2,if_false]
  rw[Ie fun i h=>he i h (by omega)];rfl⟩
def Hr (c:Chg):Chg:=
 { kind:=c.kind,file:=if 2≤c.kind∧c.kind≤6 then Ident.zero else c.file,type:=if c.kind=1 then 0 else c.type,parent:=if c.kind=2 then Ident.zero else c.parent,name:=if c.kind=2 then []else c.name,
   mode:=if c.kind=3 then 0 else c.mode,data:=if c.kind=4 then []else c.data,after:=if c.kind=5∨c.kind=6 then Ident.zero else c.after,before:=if c.kind=5∨c.kind=6 then Ident.zero else c.before,
   lines:=if c.kind=5 then []else c.lines,over:=if c.kind≠1∧c.kind≠5 then []else c.over }
instance xW (c:Chg):C9 Tryz.prog 275 [.agg (eChg c)] (.agg (eChg (Hr c))):=⟨by
 refine Au Tryz.func275 Tryz.ntmps275 rfl (rs:= [.cell 2 73]) rfl rfl fun hb LF=>?_
 refine DC fun b=>?_
 refine FK fun b2=>?_
 repeat' (first|(refine A6 (fun h=>?_) (fun h=>?_)<;>((try dsimp only at h);first|(exfalso;omega;done)|refine AY ?_))|(refine AX (fun h=>?_) (fun h=>?_)<;>((try dsimp only at h);first|(exfalso;omega;done)|refine AY ?_))|(refine AU (fun h=>?_) (fun h=>?_)<;>((try dsimp only at h);first|(exfalso;omega;done)|refine AY ?_))|(refine Ar (fun h=>?_) (fun h=>?_)<;>(have h2:=h;(try simp only[AB,A8,AG,AL]at h2);first|(exfalso;omega;done)|refine C8 ?_)))
 all_goals (refine Fq rfl (.of_eq (congrArg (fun c=>PV.agg (eChg c)) ?_));simp only[Hr,Chg.mk.injEq];and_intros<;>first|trivial|rfl|(split<;>first|rfl|(exfalso;omega)))⟩
def Fo (c:Chg):Bool:=decide (c.file=Ident.zero)&&decide (c.type=0)&&decide (c.parent=Ident.zero)&&decide (c.name= [])&&decide (c.mode=0)&&decide (c.data= [])&&decide (c.after=Ident.zero)&&decide (c.before=Ident.zero)&&decide ((c.lines.length:Int)=0)&&decide ((c.over.length:Int)=0)
instance wT (c:Chg):C9 Tryz.prog 274 [.agg (eChg c)] (.raw (.bool (Fo c))):=⟨by
 refine Au Tryz.func274 Tryz.ntmps274 rfl (rs:= [.tmp 2]) rfl rfl fun hb LF=>?_
 refine DC fun b=>?_
 iterate 9
  refine Ar (fun hp=>?_) (fun hp=>by
   refine C8 ?_
   refine Az (.of_eq ?_)
   simp_all[Fo])
  refine C8 ?_
 refine Az (.of_eq ?_)
 simp_all[Fo]⟩
def Bz (c:Chg):Int:=
 if c.kind < 1∨7 < c.kind then 8 else
 if Fo (Hr c)=false then 1 else
 if c.kind=1∧(c.type < 1∨4 < c.type)then 8 else
 if c.kind=2∧Jc c.name=false then 5 else
 if c.kind=3∧(c.mode < 0∨511 < c.mode)then 2 else
 if 65536 < (c.data.length:Int)then 4 else
 if c.kind=5 then Mg c.lines else
 if c.kind=7∧(c.over.length:Int)=0 then 1 else
 if 400 < (c.over.length:Int)then 4 else
 if PK c.over=false then 9 else 0
instance uH (c:Chg):C9 Tryz.prog 216 [.agg (eChg c)] (.raw (.int .i64 (Bz c))):=⟨by
 refine Au Tryz.func216 Tryz.ntmps216 rfl (rs:= [.tmp 2]) rfl rfl fun hb LF=>?_
 refine DC fun b=>?_
 refine BR [(10,.raw (.bool (decide (c.kind < 1∨7 < c.kind)))),(1,.raw (.pointer (some ⟨b,0,none⟩)))] (.box b 73 (eChg c)::LF) ?_ ?_
 ·repeat' (first|(refine A6 (fun h=>?_) (fun h=>?_)<;>refine AY ?_)|(refine AX (fun h=>?_) (fun h=>?_)<;>refine AY ?_)|(refine AU (fun h=>?_) (fun h=>?_)<;>refine AY ?_)|(refine Ar (fun h=>?_) (fun h=>?_)<;>(have h2:=h;(try simp only[AB,A8,AG,AL]at h2);refine C8 ?_)))
  all_goals (refine⟨⟨C4 (by rfl) ?_,rfl⟩,.refl _⟩;first|(simp_all;done)|(simp_all;omega)|grind)
 refine AY ?_
 refine A6 (fun h1=>?_) (fun h1=>?_)
 ·refine AY ?_
  refine Az (.of_eq ?_)
  rw[Bz,if_pos h1]
 refine AY ?_
 refine AU (fun h2=>?_) (fun h2=>?_)
 ·refine AY ?_
  refine Az (.of_eq ?_)
  simp only[AG]at h2
  rw[Bz,if_neg h1,if_pos h2]
 replace h2: ¬Fo (Hr c)=false:=by simpa using h2
 refine AY ?_
 refine BR [(27,.raw (.bool (decide (c.kind=1∧(c.type < 1∨4 < c.type))))),(1,.raw (.pointer (some ⟨b,0,none⟩)))] (.box b 73 (eChg c)::LF) ?_ ?_
 ·repeat' (first|(refine A6 (fun h=>?_) (fun h=>?_)<;>refine AY ?_)|(refine AX (fun h=>?_) (fun h=>?_)<;>refine AY ?_)|(refine AU (fun h=>?_) (fun h=>?_)<;>refine AY ?_)|(refine Ar (fun h=>?_) (fun h=>?_)<;>(have h2:=h;(try simp only[AB,A8,AG,AL]at h2);refine C8 ?_)))
  all_goals (refine⟨⟨C4 (by rfl) ?_,rfl⟩,.refl _⟩;first|(simp_all;done)|(simp_all;omega)|grind)
 refine AY ?_
 refine A6 (fun h3=>?_) (fun h3=>?_)
 ·refine AY ?_
  refine Az (.of_eq ?_)
  rw[Bz,if_neg h1,if_neg h2,if_pos h3]
 refine AY ?_
 refine BR [(36,.raw (.bool (decide (c.kind=2∧Jc c.name=false)))),(1,.raw (.pointer (some ⟨b,0,none⟩)))] (.box b 73 (eChg c)::LF) ?_ ?_
 ·repeat' (first|(refine A6 (fun h=>?_) (fun h=>?_)<;>refine AY ?_)|(refine AX (fun h=>?_) (fun h=>?_)<;>refine AY ?_)|(refine AU (fun h=>?_) (fun h=>?_)<;>refine AY ?_)|(refine Ar (fun h=>?_) (fun h=>?_)<;>(have h2:=h;(try simp only[AB,A8,AG,AL]at h2);refine C8 ?_)))
  all_goals (refine⟨⟨C4 (by rfl) ?_,rfl⟩,.refl _⟩;first|(simp_all;done)|(simp_all;omega)|grind)
 refine AY ?_
 refine A6 (fun h4=>?_) (fun h4=>?_)
 ·refine AY ?_
  refine Az (.of_eq ?_)
  rw[Bz,if_neg h1,if_neg h2,if_neg h3,if_pos h4]
 refine AY ?_
 refine BR [(49,.raw (.bool (decide (c.kind=3∧(c.mode < 0∨511 < c.mode))))),(1,.raw (.pointer (some ⟨b,0,none⟩)))] (.box b 73 (eChg c)::LF) ?_ ?_
 ·repeat' (first|(refine A6 (fun h=>?_) (fun h=>?_)<;>refine AY ?_)|(refine AX (fun h=>?_) (fun h=>?_)<;>refine AY ?_)|(refine AU (fun h=>?_) (fun h=>?_)<;>refine AY ?_)|(refine Ar (fun h=>?_) (fun h=>?_)<;>(have h2:=h;(try simp only[AB,A8,AG,AL]at h2);refine C8 ?_)))
  all_goals (refine⟨⟨C4 (by rfl) ?_,rfl⟩,.refl _⟩;first|(simp_all;done)|(simp_all;omega)|grind)
 refine AY ?_
 refine A6 (fun h5=>?_) (fun h5=>?_)
 ·refine AY ?_
  refine Az (.of_eq ?_)
  rw[Bz,if_neg h1,if_neg h2,if_neg h3,if_neg h4,if_pos h5]
 refine AY ?_
 refine A6 (fun h6=>?_) (fun h6=>?_)
 ·refine AY ?_
  refine Az (.of_eq ?_)
  rw[Bz,if_neg h1,if_neg h2,if_neg h3,if_neg h4,if_neg h5,if_pos h6]
 refine AY ?_
 refine A6 (fun h7=>?_) (fun h7=>?_)
 ·refine AY ?_
  refine Az (.of_eq ?_)
  rw[Bz,if_neg h1,if_neg h2,if_neg h3,if_neg h4,if_neg h5,if_neg h6,if_pos h7]
 refine AY ?_
 refine BR [(68,.raw (.bool (decide (c.kind=7∧(c.over.length:Int)=0)))),(1,.raw (.pointer (some ⟨b,0,none⟩)))] (.box b 73 (eChg c)::LF) ?_ ?_
 ·repeat' (first|(refine A6 (fun h=>?_) (fun h=>?_)<;>refine AY ?_)|(refine AX (fun h=>?_) (fun h=>?_)<;>refine AY ?_)|(refine AU (fun h=>?_) (fun h=>?_)<;>refine AY ?_)|(refine Ar (fun h=>?_) (fun h=>?_)<;>(have h2:=h;(try simp only[AB,A8,AG,AL]at h2);refine C8 ?_)))
  all_goals (refine⟨⟨C4 (by rfl) ?_,rfl⟩,.refl _⟩;first|(simp_all;done)|(simp_all;omega)|grind)
 refine AY ?_
 refine A6 (fun h8=>?_) (fun h8=>?_)
 ·refine AY ?_
  refine Az (.of_eq ?_)
  rw[Bz,if_neg h1,if_neg h2,if_neg h3,if_neg h4,if_neg h5,if_neg h6,if_neg h7,if_pos h8]
 refine AY ?_
 refine A6 (fun h9=>?_) (fun h9=>?_)
 ·refine AY ?_
  refine Az (.of_eq ?_)
  rw[Bz,if_neg h1,if_neg h2,if_neg h3,if_neg h4,if_neg h5,if_neg h6,if_neg h7,if_neg h8,if_pos h9]
 refine AY ?_
 refine AU (fun h=>?_) (fun h=>?_)
 ·refine AY ?_
  refine Az (.of_eq ?_)
  simp only[AG]at h
  rw[Bz,if_neg h1,if_neg h2,if_neg h3,if_neg h4,if_neg h5,if_neg h6,if_neg h7,if_neg h8,if_neg h9,if_pos h]
 ·refine AY ?_
  refine Az (.of_eq ?_)
  replace h: ¬PK c.over=false:=by simpa using h
  rw[Bz,if_neg h1,if_neg h2,if_neg h3,if_neg h4,if_neg h5,if_neg h6,if_neg h7,if_neg h8,if_neg h9,if_neg h]⟩
def Av {α:Type} (f:α→Int):List α→Int
 | []=>0
 |x::l=>if f x=0 then Av f l else f x
theorem Db {α:Type} {f:α→Int}: ∀ {l:List α},(∀ i (h:i < l.length),f l[i]=0)→Av f l=0
 | [],_=>rfl
 |x::l,h=>by
  have h0:=h 0 (by simp)
  simp only[BM]at h0
  rw[Av,if_pos h0]
  exact Db fun i hi=>by have:=h (i+1) (by simpa using hi);simpa using this
theorem DQ {α:Type} {f:α→Int}: ∀ {l:List α} {k:Nat} (hk:k < l.length),(∀ i (h:i < l.length),i < k→f l[i]=0)→f l[k]≠0→Av f l=f l[k]
 |x::l,0,hk,_,hn=>by simp only[BM]at hn ⊢;rw[Av,if_neg hn]
 |x::l,k+1,hk,h,hn=>by
  have h0:=h 0 (by simp) (by omega)
  simp only[BM]at h0
  simp only[DA]at hn ⊢
  rw[Av,if_pos h0]
  exact DQ (by simpa using hk) (fun i hi hik=>by have:=h (i+1) (by simpa using hi) (by omega);simpa using this) hn
theorem EC {α:Type} {l:List α} {f:α→Int} {k:Nat} (he: ∀ i (h:i < l.length),i < k→f l[i]=0) (hk:k < l.length) (h:f l[k]=0): ∀ i (h:i < l.length),i < k+1→f l[i]=0:=fun i hi hik=>by
 rcases BP i k with h'|h'
 ·exact he i hi h'
 ·have:i=k:=by omega
  subst this;exact h
def rRoot:Ident:=⟨Dig.zero,-1⟩
def Jy (c:Chg) (own:List Atm):Int:=if 2≤c.kind∧c.kind≤6 then J4 c.file own (EK c.kind (Lp own c.file))else 0
def Lk (c:Chg) (own:List Atm):Int:=if c.kind=2∧c.parent≠rRoot then J4 c.parent own (rDirectory (Lp own c.parent))else 0
def QD (c:Chg) (own:List Atm) (x:Ident):Int:=J4 x own (decide (x=c.file)||Im c.file (Lp own x))
def Nm (c:Chg) (own:List Atm) (x:Ident):Int:=J4 x own (GK c.kind c.file (Lp own x))
def IK (c:Chg) (own:List Atm):Int:=if IW c.kind=true then Av (QD c own) [c.after,c.before]else 0
def Ey (c:Chg) (own:List Atm):Int:=
 if Jy c own≠0 then Jy c own else if Lk c own≠0 then Lk c own else if IK c own≠0 then IK c own else
 if Av (Nm c own) c.over≠0 then Av (Nm c own) c.over else if c.kind=2∧c.parent=c.file then 20 else
 if(IW c.kind=true∧c.after=c.before)∧(c.kind=6∨c.after≠c.file)then 1 else 0
instance lG (c:Chg) (own:List Atm) (t:CN):C9 Tryz.prog 217 [.agg (eChg c),.slice (own.map eAtm) t] (.raw (.int .i64 (Ey c own))):=⟨by
 refine Au Tryz.func217 Tryz.ntmps217 rfl (rs:= [.tmp 4]) rfl rfl fun hb LF=>?_
 have hlen:c.over.length≤140737488355328:=((hb (.agg (eChg c)) (by simp)).agg_at (c:= .slice (c.over.map eIdent) .ro) (by simp[eChg])).slice_map
 refine DC fun b=>?_
 refine BR [(20,.raw (.bool (decide (2≤c.kind∧c.kind≤6)))),(1,.slice (own.map eAtm) t),(2,.raw (.pointer (some ⟨b,0,none⟩)))] (.box b 73 (eChg c)::LF) ?_ ?_
 ·repeat' (first|(refine A6 (fun h=>?_) (fun h=>?_)<;>refine AY ?_)|(refine AX (fun h=>?_) (fun h=>?_)<;>refine AY ?_)|(refine AU (fun h=>?_) (fun h=>?_)<;>refine AY ?_)|(refine Ar (fun h=>?_) (fun h=>?_)<;>(have h2:=h;(try simp only[AB,A8,AG,AL]at h2);refine C8 ?_)))
  all_goals (refine⟨⟨C4 (by rfl) ?_,rfl,rfl⟩,.refl _⟩;first|(simp_all;done)|(simp_all;omega)|grind)
 refine AY ?_
 refine KV (Jy c own=0) [(1,.slice (own.map eAtm) t),(2,.raw (.pointer (some ⟨b,0,none⟩)))] (.box b 73 (eChg c)::LF) ?_ fun hF=>?_
 ·refine A6 (fun h=>?_) (fun h=>?_)
  ·refine AY ?_
   have e:Jy c own=J4 c.file own (EK c.kind (Lp own c.file)):=by rw[Jy,if_pos h]
   refine AX (fun h'=>?_) (fun h'=>?_)
   ·refine AY ?_
    refine Az (.of_eq ?_)
    rw[Ey,if_pos (by rw[e];exact h'),e]
   ·refine AY ?_
    exact⟨e.trans h',⟨rfl,rfl⟩,.refl _⟩
  ·refine AY ?_
   exact⟨by rw[Jy,if_neg h],⟨rfl,rfl⟩,.refl _⟩
 refine AY ?_
 refine BR [(43,.raw (.bool (decide (c.kind=2∧c.parent≠rRoot)))),(1,.slice (own.map eAtm) t),(2,.raw (.pointer (some ⟨b,0,none⟩)))] (.box b 73 (eChg c)::LF) ?_ ?_
 ·repeat' (first|(refine A6 (fun h=>?_) (fun h=>?_)<;>refine AY ?_)|(refine AX (fun h=>?_) (fun h=>?_)<;>refine AY ?_)|(refine AU (fun h=>?_) (fun h=>?_)<;>refine AY ?_)|(refine Ar (fun h=>?_) (fun h=>?_)<;>(have h2:=h;(try simp only[AB,A8,AG,AL]at h2);refine C8 ?_)))
  all_goals (refine⟨⟨C4 (by rfl) ?_,rfl,rfl⟩,.refl _⟩;simp_all[rRoot])
 refine AY ?_
 refine KV (Lk c own=0) [(1,.slice (own.map eAtm) t),(2,.raw (.pointer (some ⟨b,0,none⟩)))] (.box b 73 (eChg c)::LF) ?_ fun hP=>?_
 ·refine A6 (fun h=>?_) (fun h=>?_)
  ·refine DC fun b2=>?_
   have e:Lk c own=J4 c.parent own (rDirectory (Lp own c.parent)):=by rw[Lk,if_pos h]
   refine Ar (fun hp=>?_) (fun hp=>?_)
   ·refine C8 ?_
    have e2:rDirectory (Lp own c.parent)=decide ((Lp own c.parent).type=4):=by rw[rDirectory,hp,Fh]
    rw[e2]at e
    refine AX (fun h'=>?_) (fun h'=>?_)
    ·refine AY ?_
     refine Az (.of_eq ?_)
     rw[Ey,if_neg (by simp[hF]),if_pos (by rw[e];exact h'),e]
    ·refine AY ?_
     exact⟨e.trans h',⟨rfl,rfl⟩,.cons _ (.refl _)⟩
   ·refine C8 ?_
    have e2:rDirectory (Lp own c.parent)=false:=by rw[rDirectory,hp,th]
    rw[e2]at e
    refine AX (fun h'=>?_) (fun h'=>?_)
    ·refine AY ?_
     refine Az (.of_eq ?_)
     rw[Ey,if_neg (by simp[hF]),if_pos (by rw[e];exact h'),e]
    ·refine AY ?_
     exact⟨e.trans h',⟨rfl,rfl⟩,.cons _ (.refl _)⟩
  ·refine AY ?_
   exact⟨by rw[Lk,if_neg h],⟨rfl,rfl⟩,.refl _⟩
 refine AY ?_
 refine KV (IK c own=0) [(1,.slice (own.map eAtm) t),(2,.raw (.pointer (some ⟨b,0,none⟩)))] (.box b 73 (eChg c)::LF) ?_ fun hE=>?_
 ·refine AU (fun h=>?_) (fun h=>?_)
  ·refine AY ?_
   have e:IK c own=Av (QD c own) [c.after,c.before]:=by rw[IK,if_pos h]
   generalize hends: [c.after,c.before]=ends at e
   have hl2:ends.length=2:=by rw[←hends];rfl
   refine Ab (σ:=Nat) (fun k=>k≤2∧ ∀ i (h:i < ends.length),i < k→QD c own ends[i]=0) (fun k=>2 - k) (fun k=> [(1,.slice (own.map eAtm) t),(2,.raw (.pointer (some ⟨b,0,none⟩))),(8,.slice (ends.map eIdent) .ro),(9,.raw (.int .i64 k))]) (fun _=> .box b 73 (eChg c)::LF) 0 ⟨by simp,by simp⟩ ⟨rfl,rfl,by rw[←hends];rfl,rfl⟩ (.refl _) ?_
   rintro k ⟨hk,he⟩
   refine AY ?_
   refine A6 (fun hc=>?_) (fun hc=>?_)
   ·have hlt:k < ends.length:=by omega
    refine AY ?_
    refine Ar (fun hp=>?_) (fun hp=>?_)
    ·refine C8 ?_
     have e2:QD c own ends[k]=J4 ends[k] own true:=by rw[QD,hp,Bool.true_or]
     refine AX (fun h'=>?_) (fun h'=>?_)
     ·refine AY ?_
      refine Az (.of_eq ?_)
      have e3:IK c own=J4 ends[k] own true:=by rw[e,DQ hlt he (by rw[e2];exact h'),e2]
      rw[Ey,if_neg (by simp[hF]),if_neg (by simp[hP]),if_pos (by rw[e3];exact h'),e3]
     ·refine AY ?_
      exact⟨k+1,⟨by omega,EC he hlt (e2.trans h')⟩,by dsimp only;omega,⟨rfl,rfl,rfl,rfl⟩,.refl _⟩
    ·refine C8 ?_
     have e2:QD c own ends[k]=J4 ends[k] own (Im c.file (Lp own ends[k])):=by rw[QD,hp,Fi]
     refine AX (fun h'=>?_) (fun h'=>?_)
     ·refine AY ?_
      refine Az (.of_eq ?_)
      have e3:IK c own=J4 ends[k] own (Im c.file (Lp own ends[k])):=by rw[e,DQ hlt he (by rw[e2];exact h'),e2]
      rw[Ey,if_neg (by simp[hF]),if_neg (by simp[hP]),if_pos (by rw[e3];exact h'),e3]
     ·refine AY ?_
      exact⟨k+1,⟨by omega,EC he hlt (e2.trans h')⟩,by dsimp only;omega,⟨rfl,rfl,rfl,rfl⟩,.refl _⟩
   ·refine AY ?_
    exact⟨by rw[e,Db fun i h=>he i h (by omega)],⟨rfl,rfl⟩,.refl _⟩
  ·refine AY ?_
   exact⟨by rw[IK,if_neg (by simp[h])],⟨rfl,rfl⟩,.refl _⟩
 refine AY ?_
 refine Ab (σ:=Nat) (fun k=>k≤c.over.length∧ ∀ i (h:i < c.over.length),i < k→Nm c own c.over[i]=0) (fun k=>c.over.length - k) (fun k=> [(1,.slice (own.map eAtm) t),(2,.raw (.pointer (some ⟨b,0,none⟩))),(11,.raw (.int .i64 k))]) (fun _=> .box b 73 (eChg c)::LF) 0 ⟨by simp,by simp⟩ ⟨rfl,rfl,rfl⟩ (.refl _) ?_
 rintro k ⟨hk,he⟩
 refine AY ?_
 refine A6 (fun hc=>?_) (fun hc=>?_)
 ·have hlt:k < c.over.length:=by omega
  refine AY ?_
  refine AX (fun h'=>?_) (fun h'=>?_)
  ·refine AY ?_
   refine Az (.of_eq ?_)
   have e3:Av (Nm c own) c.over=Nm c own c.over[k]:=DQ hlt he h'
   rw[Ey,if_neg (by simp[hF]),if_neg (by simp[hP]),if_neg (by simp[hE]),if_pos (by rw[e3];exact h'),e3];rfl
  ·refine AY ?_
   exact⟨k+1,⟨by omega,EC he hlt h'⟩,by dsimp only;omega,⟨rfl,rfl,rfl⟩,.refl _⟩
 have hO:Av (Nm c own) c.over=0:=Db fun i h=>he i h (by omega)
 refine AY ?_
 refine BR [(140,.raw (.bool (decide (c.kind=2∧c.parent=c.file)))),(2,.raw (.pointer (some ⟨b,0,none⟩)))] (.box b 73 (eChg c)::LF) ?_ ?_
 ·repeat' (first|(refine A6 (fun h=>?_) (fun h=>?_)<;>refine AY ?_)|(refine AX (fun h=>?_) (fun h=>?_)<;>refine AY ?_)|(refine AU (fun h=>?_) (fun h=>?_)<;>refine AY ?_)|(refine Ar (fun h=>?_) (fun h=>?_)<;>(have h2:=h;(try simp only[AB,A8,AG,AL]at h2);refine C8 ?_)))
  all_goals (refine⟨⟨C4 (by rfl) ?_,rfl⟩,.refl _⟩;first|(simp_all;done)|(simp_all;omega)|grind)
 refine AY ?_
 refine A6 (fun h1=>?_) (fun h1=>?_)
 ·refine AY ?_
  refine Az (.of_eq ?_)
  rw[Ey,if_neg (by simp[hF]),if_neg (by simp[hP]),if_neg (by simp[hE]),if_neg (by simp[hO]),if_pos h1]
 refine AY ?_
 refine BR [(162,.raw (.bool (decide ((IW c.kind=true∧c.after=c.before)∧(c.kind=6∨c.after≠c.file))))),(2,.raw (.pointer (some ⟨b,0,none⟩)))] (.box b 73 (eChg c)::LF) ?_ ?_
 ·repeat' (first|(refine A6 (fun h=>?_) (fun h=>?_)<;>refine AY ?_)|(refine AX (fun h=>?_) (fun h=>?_)<;>refine AY ?_)|(refine AU (fun h=>?_) (fun h=>?_)<;>refine AY ?_)|(refine Ar (fun h=>?_) (fun h=>?_)<;>(have h2:=h;(try simp only[AB,A8,AG,AL]at h2);refine C8 ?_)))
  all_goals (refine⟨⟨C4 (by rfl) ?_,rfl⟩,.refl _⟩;first|(simp_all;done)|(simp_all;omega)|grind)
 refine AY ?_
 refine A6 (fun h2=>?_) (fun h2=>?_)
 ·refine AY ?_
  refine Az (.of_eq ?_)
  rw[Ey,if_neg (by simp[hF]),if_neg (by simp[hP]),if_neg (by simp[hE]),if_neg (by simp[hO]),if_neg h1,if_pos h2]
 ·refine AY ?_
  refine Az (.of_eq ?_)
  rw[Ey,if_neg (by simp[hF]),if_neg (by simp[hP]),if_neg (by simp[hE]),if_neg (by simp[hO]),if_neg h1,if_neg h2]⟩
def Fj (l:List Dig) (i:Nat):Int:=if l.getD i Dig.zero=Dig.zero then 1 else if 0 < (i:Int)∧0≤Ea (l.getD (i - 1) Dig.zero) (l.getD i Dig.zero)then 9 else 0
def H9 (l:List Dig):Int:=if 100 < (l.length:Int)then 4 else Av (Fj l) (List.range l.length)
instance xp (l:List Dig) (t:CN):C9 Tryz.prog 162 [.slice (l.map eDig) t] (.raw (.int .i64 (H9 l))):=⟨by
 refine Au Tryz.func162 Tryz.ntmps162 rfl (rs:= [.tmp 2]) rfl rfl fun hb LF=>?_
 have hlen:l.length≤140737488355328:=(hb (.slice (l.map eDig) t) (by simp)).slice_map
 refine AY ?_
 refine A6 (fun h1=>?_) (fun h1=>?_)
 ·refine AY ?_
  refine Az (.of_eq ?_)
  rw[H9,if_pos h1]
 refine AY ?_
 refine Ab (σ:=Nat) (fun k=>k≤l.length∧ ∀ i (h:i < (List.range l.length).length),i < k→Fj l (List.range l.length)[i]=0) (fun k=>l.length - k) (fun k=> [(0,.slice (l.map eDig) t),(3,.raw (.int .i64 k))]) (fun _=>LF) 0 ⟨by simp,by simp⟩ ⟨rfl,rfl⟩ (.refl _) ?_
 rintro k ⟨hk,he⟩
 refine AY ?_
 refine A6 (fun hc=>?_) (fun hc=>?_)
 ·have hlt:k < l.length:=by omega
  have hltr:k < (List.range l.length).length:=by simpa using hlt
  have ek:(List.range l.length)[k]=k:=by simp
  have e0:l.getD k Dig.zero=l[k]:=by simp[List.getD,hlt]
  refine AY ?_
  refine A6 (fun h2=>?_) (fun h2=>?_)
  ·refine AY ?_
   refine Az (.of_eq ?_)
   have e:Fj l (List.range l.length)[k]=1:=by rw[ek,Fj,e0,if_pos h2]
   rw[H9,if_neg h1,DQ hltr he (by rw[e];decide),e]
  refine AY ?_
  refine Ar (fun hp=>?_) (fun hp=>?_)
  ·have hp':0 < (k:Int):=BF hp
   refine C8 ?_
   have e1:l.getD (k - 1) Dig.zero=l[((k:Int) - 1).toNat]:=by
    have:((k:Int) - 1).toNat=k - 1:=by omega
    simp only[this]
    have h':k - 1 < l.length:=by omega
    simp[List.getD,h']
   refine A6 (fun h3=>?_) (fun h3=>?_)
   ·refine AY ?_
    refine Az (.of_eq ?_)
    have e:Fj l (List.range l.length)[k]=9:=by rw[ek,Fj,e0,e1,if_neg h2,if_pos ⟨hp',h3⟩]
    rw[H9,if_neg h1,DQ hltr he (by rw[e];decide),e]
   ·refine AY ?_
    have e:Fj l (List.range l.length)[k]=0:=by rw[ek,Fj,e0,e1,if_neg h2,if_neg (fun h=>h3 h.2)]
    exact⟨k+1,⟨by omega,EC he hltr e⟩,by dsimp only;omega,⟨rfl,rfl⟩,.refl _⟩
  ·have hp': ¬0 < (k:Int):=Bm hp
   refine C8 ?_
   have e:Fj l (List.range l.length)[k]=0:=by rw[ek,Fj,e0,if_neg h2,if_neg (fun h=>hp' h.1)]
   exact⟨k+1,⟨by omega,EC he hltr e⟩,by dsimp only;omega,⟨rfl,rfl⟩,.refl _⟩
 ·refine AY ?_
  refine Az (.of_eq ?_)
  rw[H9,if_neg h1,Db fun i h=>he i h (by simp at h;omega)]⟩
def Fk (c:Chg) (first:Int) (i:Nat):Atm:={ Atm.zero with id:=⟨Dig.zero,first+i⟩,kind:=5,file:=c.file,text:=c.lines.getD i [] }
def Et (c:Chg) (first:Int) (i:Nat):Atm:={ Atm.zero with id:=⟨Dig.zero,first+c.lines.length+i⟩,kind:=6,file:=c.file,src:=if 0 < (i:Int)then⟨Dig.zero,first+i - 1⟩else c.after,dst:=if(i:Int) < c.lines.length then⟨Dig.zero,first+i⟩else c.before }
def DZ (c:Chg) (first:Int):List Atm:=
 if c.kind=1 then [{ Atm.zero with id:=⟨Dig.zero,first⟩,kind:=1,file:=⟨Dig.zero,first⟩,type:=c.type }]else
 if c.kind=2 then [{ Atm.zero with id:=⟨Dig.zero,first⟩,kind:=2,file:=c.file,parent:=c.parent,name:=c.name,over:=c.over }]else
 if c.kind=3 then [{ Atm.zero with id:=⟨Dig.zero,first⟩,kind:=3,file:=c.file,mode:=c.mode,over:=c.over }]else
 if c.kind=4 then [{ Atm.zero with id:=⟨Dig.zero,first⟩,kind:=4,file:=c.file,data:=c.data,over:=c.over }]else
 if c.kind=6 then [{ Atm.zero with id:=⟨Dig.zero,first⟩,kind:=6,file:=c.file,src:=c.after,dst:=c.before,over:=c.over }]else
 if c.kind=7 then [{ Atm.zero with id:=⟨Dig.zero,first⟩,kind:=7,over:=c.over }]else
 (List.range c.lines.length).map (Fk c first)++(List.range (c.lines.length+1)).map (Et c first)
theorem Ln (c:Chg) (first:Int):(DZ c first).length≤2*c.lines.length+1:=by
 unfold DZ
 repeat' split
 all_goals first|(simp only[AN,Af];omega)|(simp only[AA,AR,FF];omega)
instance y4 (c:Chg) (first:Int) [hs:B4 (c.lines.length≤2000∧0≤first∧first≤1000000000)]:C9 Tryz.prog 32 [.agg (eChg c),.raw (.int .i64 first)] (.slice ((DZ c first).map eAtm) .ro):=⟨by
 refine Au Tryz.func32 Tryz.ntmps32 rfl (rs:= [.tmp 4]) rfl rfl fun hb LF=>?_
 obtain⟨hl,hf0,hf1⟩:=hs.out
 refine DC fun b=>?_
 refine FK fun b2=>?_
 refine A6 (fun h1=>?_) (fun h1=>?_)
 ·refine AY ?_
  refine Az (.of_eq ?_)
  rw[DZ,if_pos h1];rfl
 refine AY ?_
 refine A6 (fun h2=>?_) (fun h2=>?_)
 ·refine AY ?_
  refine Az (.of_eq ?_)
  rw[DZ,if_neg h1,if_pos h2];rfl
 refine AY ?_
 refine A6 (fun h3=>?_) (fun h3=>?_)
 ·refine AY ?_
  refine Az (.of_eq ?_)
  rw[DZ,if_neg h1,if_neg h2,if_pos h3];rfl
 refine AY ?_
 refine A6 (fun h4=>?_) (fun h4=>?_)
 ·refine AY ?_
  refine Az (.of_eq ?_)
  rw[DZ,if_neg h1,if_neg h2,if_neg h3,if_pos h4];rfl
 refine AY ?_
 refine A6 (fun h6=>?_) (fun h6=>?_)
 ·refine AY ?_
  refine Az (.of_eq ?_)
  rw[DZ,if_neg h1,if_neg h2,if_neg h3,if_neg h4,if_pos h6];rfl
 refine AY ?_
 refine A6 (fun h7=>?_) (fun h7=>?_)
 ·refine AY ?_
  refine Az (.of_eq ?_)
  rw[DZ,if_neg h1,if_neg h2,if_neg h3,if_neg h4,if_neg h6,if_pos h7];rfl
 refine AY ?_
 refine EL 172 ?_
 refine Ab (σ:=Nat × CN) (fun k=>k.1≤c.lines.length) (fun k=>c.lines.length - k.1) (fun k=> [(1,.raw (.int .i64 first)),(2,.raw (.pointer (some ⟨b,0,none⟩))),(6,.slice (((List.range k.1).map (Fk c first)).map eAtm) k.2),(7,.raw (.int .i64 c.lines.length)),(8,.raw (.int .i64 k.1))]) (fun k=> .tok k.2 ((List.range k.1).map (Fk c first)).length 172:: .box b 73 (eChg c)::LF) (0,.nil) (by simp) ⟨rfl,rfl,rfl,rfl,rfl⟩ (.cons_cons _ (.cons _ (.refl _))) ?_
 rintro⟨k,v⟩ hk
 dsimp only at hk
 refine AY ?_
 refine A6 (fun hc=>?_) (fun hc=>?_)
 ·have hlt:k < c.lines.length:=by omega
  have hll:((List.range k).map (Fk c first)).length=k:=by simp
  generalize hB:(List.range k).map (Fk c first)=B at hll ⊢
  refine Rl ?_
  refine Bp 14 ?_ ?_
  ·decide+kernel
  refine IJ fun v'=>?_
  have e:(List.range (k+1)).map (Fk c first)=(List.range k).map (Fk c first)++ [Fk c first k]:=by rw[E8,An];rfl
  rw[hB]at e
  have e2:Fk c first k= { Atm.zero with id:=⟨Dig.zero,first+k⟩,kind:=5,file:=c.file,text:=c.lines[k] }:=by simp[Fk,List.getD,hlt]
  rw[e2]at e
  refine⟨(k+1,v'),by dsimp only;omega,by dsimp only;omega,⟨rfl,rfl,by dsimp only;rw[e];rfl,rfl,rfl⟩,by dsimp only;rw[e];exact .refl _⟩
 have hkk:k=c.lines.length:=by omega
 subst hkk
 refine AY ?_
 generalize hA:(List.range c.lines.length).map (Fk c first)=A
 have hAl:A.length=c.lines.length:=by rw[←hA];simp
 refine Ab (σ:=Nat × CN) (fun k=>k.1≤c.lines.length+1) (fun k=>c.lines.length+1 - k.1) (fun k=> [(1,.raw (.int .i64 first)),(2,.raw (.pointer (some ⟨b,0,none⟩))),(6,.slice ((A++(List.range k.1).map (Et c first)).map eAtm) k.2),(7,.raw (.int .i64 c.lines.length)),(9,.raw (.int .i64 k.1))]) (fun k=> .tok k.2 (A++(List.range k.1).map (Et c first)).length 172:: .box b 73 (eChg c)::LF) (0,v) (by simp) ⟨rfl,rfl,by simp only[pC,CG,BU];rfl,rfl,rfl⟩ (by simp only[pC,CG,BU];exact .refl _) ?_
 rintro⟨k,v⟩ hk
 dsimp only at hk
 refine AY ?_
 refine A6 (fun hc=>?_) (fun hc=>?_)
 ·have hll:(A++(List.range k).map (Et c first)).length=c.lines.length+k:=by simp[hAl]
  have e:A++(List.range (k+1)).map (Et c first)=(A++(List.range k).map (Et c first))++ [Et c first k]:=by rw[E8,An,AV];rfl
  generalize hB:A++(List.range k).map (Et c first)=B at hll e ⊢
  refine DC fun b3=>?_
  refine A6 (fun h8=>?_) (fun h8=>?_)
  ·refine AY ?_
   refine A6 (fun h9=>?_) (fun h9=>?_)
   ·refine Hn fun v'=>?_
    have e2:Et c first k= { Atm.zero with id:=⟨Dig.zero,first+c.lines.length+k⟩,kind:=6,file:=c.file,src:=⟨Dig.zero,first+k - 1⟩,dst:=⟨Dig.zero,first+k⟩ }:=by rw[Et,if_pos h8,if_pos h9]
    rw[e2]at e
    refine⟨(k+1,v'),by dsimp only;omega,by dsimp only;omega,⟨rfl,rfl,by dsimp only;rw[e];rfl,rfl,rfl⟩,by dsimp only;rw[e];exact .cons _ (.refl _)⟩
   ·refine Hn fun v'=>?_
    have e2:Et c first k= { Atm.zero with id:=⟨Dig.zero,first+c.lines.length+k⟩,kind:=6,file:=c.file,src:=⟨Dig.zero,first+k - 1⟩,dst:=c.before }:=by rw[Et,if_pos h8,if_neg h9]
    rw[e2]at e
    refine⟨(k+1,v'),by dsimp only;omega,by dsimp only;omega,⟨rfl,rfl,by dsimp only;rw[e];rfl,rfl,rfl⟩,by dsimp only;rw[e];exact .cons _ (.refl _)⟩
  ·refine AY ?_
   refine A6 (fun h9=>?_) (fun h9=>?_)
   ·refine Hn fun v'=>?_
    have e2:Et c first k= { Atm.zero with id:=⟨Dig.zero,first+c.lines.length+k⟩,kind:=6,file:=c.file,src:=c.after,dst:=⟨Dig.zero,first+k⟩ }:=by rw[Et,if_neg h8,if_pos h9]
    rw[e2]at e
    refine⟨(k+1,v'),by dsimp only;omega,by dsimp only;omega,⟨rfl,rfl,by dsimp only;rw[e];rfl,rfl,rfl⟩,by dsimp only;rw[e];exact .cons _ (.refl _)⟩
   ·refine Hn fun v'=>?_
    have e2:Et c first k= { Atm.zero with id:=⟨Dig.zero,first+c.lines.length+k⟩,kind:=6,file:=c.file,src:=c.after,dst:=c.before }:=by rw[Et,if_neg h8,if_neg h9]
    rw[e2]at e
    refine⟨(k+1,v'),by dsimp only;omega,by dsimp only;omega,⟨rfl,rfl,by dsimp only;rw[e];rfl,rfl,rfl⟩,by dsimp only;rw[e];exact .cons _ (.refl _)⟩
 ·refine AY ?_
  refine Az (.ros ?_)
  have hkk:k=c.lines.length+1:=by omega
  subst hkk
  rw[DZ,if_neg h1,if_neg h2,if_neg h3,if_neg h4,if_neg h6,if_neg h7,hA]⟩
end Go.Proofs
