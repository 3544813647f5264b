/- Contracts of the program: splitting: a reference renamed for a part. -/
import Derived.Test.YtaibdmankdppkaaGreatDoorVau
import Derived.Test.YtaibdmankdppkaaGreatDoorVao
import Derived.Test.YtaibdmankdppkaaGreatDoorVas
import Derived.Test.YtaibdmankdppkaaGreatDoorVaq
import Derived.Test.YtaibdmankdppkaaGreatDoorVar
import Derived.Test.YtaibdmankdppkaaGreatDoorVal
import Derived.Test.YtaibdmankdppkaaGreatDoorVam
import Derived.Test.YtaibdmankdppkaaGreatDoorVag
set_option linter.unusedSimpArgs false
set_option linter.unusedVariables false
set_option maxHeartbeats 8000000
namespace Go.Proofs
open Go Go.Q
attribute [local irreducible] EY AU GP BH Fk
def fQ (cs:List Chg) (ns ss:List Int) (is:List Dig) (k:Nat) (y:Ident):Ident:=
 if EO y=true then⟨if ns.getD (Dz cs y.n) 0=(k:Int)then Dig.zero else is.getD (ns.getD (Dz cs y.n) 0).toNat Dig.zero,y.n - Cg cs (Dz cs y.n)+ss.getD (Dz cs y.n) 0⟩else y
theorem jv {cs:List Chg} (hk: ∀ c∈cs,1≤c.kind∧c.kind≤7) (hl:cs.length≤1000000) (hf:Cg cs cs.length≤1000000000) (p:Pat) (ns ss:List Int) (hns:ns.length=cs.length) (hss:ss.length=cs.length) (hsb: ∀ e∈ss,0≤e∧e≤1000000000) (tf ts ti:CD) (is:List Dig) (bx k:Nat) (y:Ident)
  (hy:EO y=true→y.n≤1000000000∧cs≠ []∧(¬ns.getD (Dz cs y.n) 0=(k:Int)→ ∃ j:Nat,ns.getD (Dz cs y.n) 0=(j:Int)∧j < is.length)):
  BH Tryz.prog 129 [.agg (eIdent y),.pt [.raw (.pointer (some ⟨bx,0,none⟩))] 0,.pt [.raw (.int .i64 (k:Int))] 0] [.box bx 104 (FJ p ns (Ee cs) tf ss ts is ti)]
  (fun r L'=>r= .agg (eIdent (fQ cs ns ss is k y))∧L'= [.box bx 104 (FJ p ns (Ee cs) tf ss ts is ti)]):=by
 refine C8 Tryz.func129 rfl Tryz.ntmps129 (rs:= [.cell 4 65]) rfl rfl fun hb LF=>?_
 rw[B3,BB]
 refine wf ?_
 refine CA fun b4=>?_
 refine wf ?_
 refine AO (fun h=>?_) (fun h=>?_)
 ·have e:fQ cs ns ss is k y=y:=by unfold fQ;rw[if_neg (by simpa using h)]
  rw[e]
  refine wf ?_
  exact⟨trivial,_,_,.cons (.cell 4 65 rfl AI Ea.out (by simp)) .nil,.cons _ (.refl _),rfl,rfl⟩
 have ho:EO y=true:=by simpa using h
 have h0:0≤y.n:=by unfold EO at ho;simp at ho;exact ho.2
 obtain⟨hyn,hne,hj⟩:=hy ho
 have hm:=Ox (n:=y.n) hne
 unfold fQ
 rw[if_pos ho]
 have hfm:=EU cs (show Dz cs y.n≤cs.length by omega)
 have hmf:Dz cs y.n < (Ee cs).length:=by rw[Jl];exact hm
 have hmn:Dz cs y.n < ns.length:=by omega
 have hms:Dz cs y.n < ss.length:=by omega
 have e1:ns.getD (Dz cs y.n) 0=ns[Dz cs y.n]:=by simp[List.getD,hmn]
 have e2:ss.getD (Dz cs y.n) 0=ss[Dz cs y.n]:=by simp[List.getD,hms]
 have hsm:=hsb _ (AH hms)
 have e3:(Ee cs)[Dz cs y.n]=(Cg cs (Dz cs y.n):Int):=NH hmf
 rw[e1]at hj ⊢
 rw[e2]
 refine wf ?_
 refine L6 (xs:= [.tmp 11,.tmp 12]) [.box bx 104 (FJ p ns (Ee cs) tf ss ts is ti)] (.box b4 65 (eIdent Ident.zero)::LF) (.raw (.int .i64 (Dz cs y.n:Int))) (f:=128) (cs:= []) (C4 _) rfl rfl (.swap _ _ _) (Vj hk hne hl bx _ tf y h0) ?_
 refine wn ?_
 refine BX 18 ?_ ?_
 ·decide+kernel
 refine wf ?_
 rw[e3]
 refine A6 (fun h2=>?_) (fun h2=>?_)
 ·rw[if_pos h2]
  refine wf ?_
  exact⟨trivial,_,_,.cons (.cell 4 65 rfl AI Ea.out (by simp)) .nil,.cons _ (.refl _),rfl,rfl⟩
 ·rw[if_neg h2]
  obtain⟨j,hje,hjl⟩:=hj h2
  have hjn:(ns[Dz cs y.n]).toNat < is.length:=by omega
  have e4:is.getD (ns[Dz cs y.n]).toNat Dig.zero=is[(ns[Dz cs y.n]).toNat]:=by simp[List.getD,hjn]
  rw[e4]
  refine wn ?_
  refine BX 15 ?_ ?_
  ·decide+kernel
  refine wf ?_
  exact⟨trivial,_,_,.cons (.cell 4 65 rfl AI Ea.out (by simp)) .nil,.cons _ (.refl _),rfl,rfl⟩
end Go.Proofs
namespace Go.Proofs
open Go Go.Q
def Nn (Q:List (List Int)) (n:Nat):List Int:=(List.range n).map fun c=>OE Q (c:Nat)
theorem XK (Q:List (List Int)) (n:Nat):(Nn Q n).length=n:=by simp[Nn]
theorem tb {Q:List (List Int)} {n c:Nat} (h:c < n):(Nn Q n).getD c 0=OE Q (c:Nat):=by simp[Nn,List.getD,h]
theorem Vo {Q:List (List Int)} {n c:Nat} (h:Ed n [] Q=true) (hc:c < n):(Nn Q n).getD c 0=(K7 (ED Q) c:Int):=by
 rw[tb hc,Sd h hc];rfl
theorem my {cs:List Chg} {ns:List Int} {k c:Nat} (h:c < k):(H6 cs ns k).getD c 0=(Kz cs ns c (ns.getD c 0).toNat:Int):=by simp[H6,List.getD,h]
theorem l6 {cs:List Chg} {Q:List (List Int)} (h:Ed cs.length [] Q=true) {c:Nat} (hc:c < cs.length):Kz cs (Nn Q cs.length) c ((Nn Q cs.length).getD c 0).toNat=So (ED Q) cs c:=by
 unfold Kz So
 rw[Vo h hc,Dy]
 congr 2
 refine gn fun d hd=>?_
 have hd:=BZ.1 hd
 rw[Vo h (by omega),decide_eq_decide]
 omega
theorem xh {cs:List Chg} {Q:List (List Int)} (h:Ed cs.length [] Q=true) (hne:cs≠ []) (is:List Dig) (k:Nat) (y:Ident):fQ cs (Nn Q cs.length) (H6 cs (Nn Q cs.length) cs.length) is k y=fS (ED Q) cs is k y:=by
 have hm:=Ox (n:=y.n) hne
 unfold fQ fS
 rw[Vo h hm,my hm,l6 h hm,Dy]
 have e:((K7 (ED Q) (Dz cs y.n):Int)=(k:Int))=(K7 (ED Q) (Dz cs y.n)=k):=by rw[eq_iff_iff];omega
 simp only[e]
theorem mw {cs:List Chg} {ns:List Int} {m:Nat} (hm:Cg cs cs.length≤m): ∀ e∈H6 cs ns cs.length,0≤e∧e≤m:=by
 intro e he
 unfold H6 at he
 obtain⟨c,hc,rfl⟩:=AY.1 he
 have hc:=BZ.1 hc
 have h1:=dw cs ns c (ns.getD c 0).toNat (by omega)
 have h2:=EU cs (show c≤cs.length by omega)
 omega
theorem pF {cs:List Chg} {Q:List (List Int)} (h:Ed cs.length [] Q=true):((List.range cs.length).any fun i=>(Cu (cs.getD i Chg.zero)).any fun y=>EO y&&decide ((Nn Q cs.length).getD i 0 < (Nn Q cs.length).getD (Dz cs y.n) 0))=Kn (ED Q) cs:=by
 unfold Kn
 rw[H0,Bn,Bn]
 refine exists_congr fun i=>and_congr_right fun hi=>?_
 have hi:=BZ.1 hi
 have hne:cs≠ []:=fun e=>by rw[e]at hi;exact absurd hi (DB _)
 have hf:(fun y=>EO y&&decide ((Nn Q cs.length).getD i 0 < (Nn Q cs.length).getD (Dz cs y.n) 0))=fun y=>EO y&&decide (K7 (ED Q) i < K7 (ED Q) (Dz cs y.n)):=by
  funext y
  congr 1
  rw[Vo h hi,Vo h (Ox hne),decide_eq_decide]
  omega
 rw[hf]
theorem tw (cs:List Chg):Nj cs cs.length=Ee cs:=rfl
end Go.Proofs
namespace Go.Q
open Go
instance yP (p:Pat) (ns fs:List Int) (tf:CD) (ss:List Int) (ts:CD) (is:List Dig) (ti:CD):PA (FJ p ns fs tf ss ts is ti) 0 5 (Ba p):=⟨rfl,GZ rfl⟩
end Go.Q
namespace Go.Proofs
open Go Go.Q
theorem o8 {a b c d:Res} {l:List Res}:(a::b::c::d::l).Perm (d::a::b::c::l):=((Ou (a:=b) (b:=c) (c:=d)).cons a).trans (.swap d a (b::c::l))
attribute [local irreducible] EY AU GP BH Fk
theorem oA {s:List Sto} (v:Bx s) {x:Sto} (hx:x∈s) (ns ss:List Int) (hns:ns.length=x.patch.changes.length) (hss:ss.length=x.patch.changes.length) (hsb: ∀ e∈ss,0≤e∧e≤1000000000) (tf ts ti:CD) (is:List Dig) (his:is.length≤1000) (bx k:Nat) (l:List Nat) (hll: ∀ c∈l,c < x.patch.changes.length) (hl:l.length≤1000000) (tl:CD) (m:Mta)
  (hy: ∀ c∈l,∀ y∈Cu (x.patch.changes.getD c Chg.zero),EO y=true→ ¬ns.getD (Dz x.patch.changes y.n) 0=(k:Int)→ ∃ j:Nat,ns.getD (Dz x.patch.changes y.n) 0=(j:Int)∧j < is.length):
  BH Tryz.prog 66 [.raw (.pointer (some ⟨bx,0,none⟩)),.raw (.int .i64 (k:Int)),.slice ((l.map fun c:Nat=>(c:Int)).map eI) tl,.agg (FG m)] [.box bx 104 (FJ x.patch ns (Ee x.patch.changes) tf ss ts is ti)]
  (fun r L'=>(∃ tg,r= .agg (UK m (Ko (sortD (BL x.patch++is))) (l.map fun c=>HP (fQ x.patch.changes ns ss is k) (x.patch.changes.getD c Chg.zero)) tg))∧L'= [.box bx 104 (FJ x.patch ns (Ee x.patch.changes) tf ss ts is ti)]):=by
 refine C8 Tryz.func66 rfl Tryz.ntmps66 (rs:= [.cell 8 40]) rfl rfl fun hb LF=>?_
 rw[B3,BB]
 refine wf ?_
 refine CA fun b8=>?_
 refine AE ?_
 repeat(refine DT ?_)
 refine CK (by kernel_rfl) ?_
 iterate 6 (refine w1 ?_)
 refine TA (hZ:=qI) (c0:= [.str m.author]) (c1:= [.str m.message]) (c2:= [.raw (.int .i64 m.time)]) (r0:= [.str m.author,.str [],.raw (.int .i64 0),.raw (.slice none 0 0),.slice [] .nil]) (r1:= [.str m.author,.str m.message,.raw (.int .i64 0),.raw (.slice none 0 0),.slice [] .nil]) (r2:=MY m (.slice none 0 0) [] .nil) (hP0:=⟨rfl,by simp⟩) (hP1:=⟨rfl,by simp⟩) (hP2:=⟨rfl,by simp⟩) ?_ ?_ ?_ rfl rfl rfl ?_
 ·exact Cw.one (c:= .str m.author) Di.out
 ·exact Cw.one (c:= .str m.message) Di.out
 ·exact Cw.one (c:= .raw (.int .i64 m.time)) Di.out
 refine CA fun b9=>?_
 refine Nv (new:=MY m (.slice none 0 0) [] .nil) (hf:=⟨di rfl⟩) rfl rfl .here rfl (by simp) ?_
 refine AE ?_
 have hb0:=v.close.1.2 x hx
 have i1:Ay (E4 x.patch=false):=⟨hb0⟩
 have hnl:(BL x.patch).length≤s.length:=by
  have:=Ei (IK x.patch).nodup (fun d hd=>v.close.2 x hx d hd)
  unfold ids at this
  rwa [AQ]at this
 have hsl:=v.close.1.1
 refine DT ?_
 refine Ca (σ:=Value × List Res) (fun q=>Uy q.1 (BL x.patch++is) q.2) (fun q=> [(2,.slice ((l.map fun c:Nat=>(c:Int)).map eI) tl),(4,.pt [.raw (.pointer (some ⟨bx,0,none⟩))] 0),(5,.pt [.raw (.int .i64 (k:Int))] 0),(8,.raw (.pointer (some ⟨b8,0,none⟩))),(9,.raw (.pointer (some ⟨b9,0,none⟩)))]) (fun q=> .box b9 40 (MY m q.1 [] .nil):: .box b8 40 (Ba Pat.zero):: .box bx 104 (FJ x.patch ns (Ee x.patch.changes) tf ss ts is ti)::(q.2++LF)) ?_ ?_
 ·refine wn ?_
  refine FM [3,5,9,10,12] (by decide+kernel) ?_
  refine Ar 0 ?_
  refine Ar 1 ?_
  refine Ar 2 ?_
  refine Ar 6 ?_
  refine Ar 7 ?_
  refine Ar 8 ?_
  refine C3 (fuel:=6) [3,9] (by decide+kernel) (by simp) fun i hi=>?_
  simp only[AG,Aa,or_false]at hi
  rcases hi with rfl|rfl
  ·refine⟨_,rfl,?_⟩
   refine wo ?_
   refine AE ?_
   refine Ar 4 ?_
   refine C3 (fuel:=4) [5,9] (by decide+kernel) (by simp) fun i hi=>?_
   simp only[AG,Aa,or_false]at hi
   rcases hi with rfl|rfl
   ·refine⟨_,rfl,?_⟩
    refine Bw (xs:= [.tmp 23]) [] (.box b9 40 (MY m (.slice none 0 0) [] .nil):: .box b8 40 (Ba Pat.zero):: .box bx 104 (FJ x.patch ns (Ee x.patch.changes) tf ss ts is ti)::LF) (fun R'=> .box b9 40 (MY m (.slice none 0 0) [] .nil):: .box b8 40 (Ba Pat.zero):: .box bx 104 (FJ x.patch ns (Ee x.patch.changes) tf ss ts is ti)::(R'++LF)) (f:=57) (cs:= []) (C4 _) rfl rfl (.refl _) _ (P0 (BL x.patch) .ro (by omega)) (fun _=>Dw.symm) fun r R1 ⟨v1,hr,hv1⟩=>?_
    subst hr
    refine AE ?_
    refine Ad 3 9 ?_
    refine wo ?_
    refine AE ?_
    refine Ad 2 10 ?_
    refine Il (f:=eDig) (l:=BL x.patch) (m:=is) (R:=R1) (LF:= .box b9 40 (MY m (.slice none 0 0) [] .nil):: .box b8 40 (Ba Pat.zero):: .box bx 104 (FJ x.patch ns (Ee x.patch.changes) tf ss ts is ti)::LF) (fun R'=> .box b9 40 (MY m (.slice none 0 0) [] .nil):: .box b8 40 (Ba Pat.zero):: .box bx 104 (FJ x.patch ns (Ee x.patch.changes) tf ss ts is ti)::(R'++LF)) rfl rfl hv1 Dw (fun R'=>Dw.symm) (by omega) (by omega) fun v2 R2 hv2=>?_
    refine AE ?_
    refine Ar 11 ?_
    refine Ad 0 12 ?_
    refine Hl (MY m v2 [] .nil) rfl rfl hv2.one rfl (by simp) ?_
    refine AE ?_
    refine CN (by decide+kernel) ?_
    exact⟨(v2,R2),hv2,⟨rfl,rfl,rfl,rfl,rfl⟩,.refl _⟩
   ·refine⟨_,rfl,?_⟩
    refine wo ?_
    refine AE ?_
    refine Ad 3 5 ?_
    refine Bw (xs:= [.tmp 23]) [] (.box b9 40 (MY m (.slice none 0 0) [] .nil):: .box b8 40 (Ba Pat.zero):: .box bx 104 (FJ x.patch ns (Ee x.patch.changes) tf ss ts is ti)::LF) (fun R'=> .box b9 40 (MY m (.slice none 0 0) [] .nil):: .box b8 40 (Ba Pat.zero):: .box bx 104 (FJ x.patch ns (Ee x.patch.changes) tf ss ts is ti)::(R'++LF)) (f:=57) (cs:= []) (C4 _) rfl rfl (.refl _) _ (P0 (BL x.patch) .ro (by omega)) (fun _=>Dw.symm) fun r R1 ⟨v1,hr,hv1⟩=>?_
    subst hr
    refine AE ?_
    refine Ad 2 10 ?_
    refine Il (f:=eDig) (l:=BL x.patch) (m:=is) (R:=R1) (LF:= .box b9 40 (MY m (.slice none 0 0) [] .nil):: .box b8 40 (Ba Pat.zero):: .box bx 104 (FJ x.patch ns (Ee x.patch.changes) tf ss ts is ti)::LF) (fun R'=> .box b9 40 (MY m (.slice none 0 0) [] .nil):: .box b8 40 (Ba Pat.zero):: .box bx 104 (FJ x.patch ns (Ee x.patch.changes) tf ss ts is ti)::(R'++LF)) rfl rfl hv1 Dw (fun R'=>Dw.symm) (by omega) (by omega) fun v2 R2 hv2=>?_
    refine AE ?_
    refine Ar 11 ?_
    refine Ad 0 12 ?_
    refine Hl (MY m v2 [] .nil) rfl rfl hv2.one rfl (by simp) ?_
    refine AE ?_
    refine CN (by decide+kernel) ?_
    exact⟨(v2,R2),hv2,⟨rfl,rfl,rfl,rfl,rfl⟩,.refl _⟩
  ·refine⟨_,rfl,?_⟩
   refine wo ?_
   refine AE ?_
   refine Ad 5 3 ?_
   refine wo ?_
   refine AE ?_
   refine Ar 4 ?_
   refine Ad 3 5 ?_
   refine Bw (xs:= [.tmp 23]) [] (.box b9 40 (MY m (.slice none 0 0) [] .nil):: .box b8 40 (Ba Pat.zero):: .box bx 104 (FJ x.patch ns (Ee x.patch.changes) tf ss ts is ti)::LF) (fun R'=> .box b9 40 (MY m (.slice none 0 0) [] .nil):: .box b8 40 (Ba Pat.zero):: .box bx 104 (FJ x.patch ns (Ee x.patch.changes) tf ss ts is ti)::(R'++LF)) (f:=57) (cs:= []) (C4 _) rfl rfl (.refl _) _ (P0 (BL x.patch) .ro (by omega)) (fun _=>Dw.symm) fun r R1 ⟨v1,hr,hv1⟩=>?_
   subst hr
   refine AE ?_
   refine Ad 2 10 ?_
   refine Il (f:=eDig) (l:=BL x.patch) (m:=is) (R:=R1) (LF:= .box b9 40 (MY m (.slice none 0 0) [] .nil):: .box b8 40 (Ba Pat.zero):: .box bx 104 (FJ x.patch ns (Ee x.patch.changes) tf ss ts is ti)::LF) (fun R'=> .box b9 40 (MY m (.slice none 0 0) [] .nil):: .box b8 40 (Ba Pat.zero):: .box bx 104 (FJ x.patch ns (Ee x.patch.changes) tf ss ts is ti)::(R'++LF)) rfl rfl hv1 Dw (fun R'=>Dw.symm) (by omega) (by omega) fun v2 R2 hv2=>?_
   refine AE ?_
   refine Ar 11 ?_
   refine Ad 0 12 ?_
   refine Hl (MY m v2 [] .nil) rfl rfl hv2.one rfl (by simp) ?_
   refine AE ?_
   refine CN (by decide+kernel) ?_
   exact⟨(v2,R2),hv2,⟨rfl,rfl,rfl,rfl,rfl⟩,.refl _⟩
 rintro⟨vd,R⟩ hR
 dsimp only at hR ⊢
 have hlen:(BL x.patch++is).length≤2000:=by rw[AD];omega
 have hsl2:(sortD (BL x.patch++is)).length=(BL x.patch++is).length:=by unfold sortD;rw[Dn]
 obtain⟨_,_,g1,g2,gch⟩:=EF hb0
 have hkd:=v.kinds hx
 have hp:=HC (JG (v.id x hx).1).1
 have hc16:Cg x.patch.changes x.patch.changes.length≤16200:=by rw[←hp.cnt];exact(EG hb0).1
 obtain⟨l',hl'⟩: ∃ l':List Int,l'=l.map fun c:Nat=>(c:Int):=⟨_,rfl⟩
 have hll':l'.length=l.length:=by rw[hl',AQ]
 rw[←hl']
 refine wf ?_
 refine Bw (xs:= [.tmp 32,.func 61]) R (.box b9 40 (MY m vd [] .nil):: .box b8 40 (Ba Pat.zero):: .box bx 104 (FJ x.patch ns (Ee x.patch.changes) tf ss ts is ti)::LF) (fun R'=> .box b9 40 (MY m vd [] .nil):: .box b8 40 (Ba Pat.zero):: .box bx 104 (FJ x.patch ns (Ee x.patch.changes) tf ss ts is ti)::(R'++LF)) (f:=60) (cs:= []) (C4 _) rfl rfl Dw _ (SZ (BL x.patch++is) vd R hR (by omega)) (fun _=>Dw.symm) fun r L2 ⟨v2,e2,hv2⟩=>?_
 subst e2
 refine wf ?_
 refine Bw (xs:= [.tmp 35]) L2 (.box b9 40 (MY m v2 [] .nil):: .box b8 40 (Ba Pat.zero):: .box bx 104 (FJ x.patch ns (Ee x.patch.changes) tf ss ts is ti)::LF) (fun R'=> .box b9 40 (MY m v2 [] .nil):: .box b8 40 (Ba Pat.zero):: .box bx 104 (FJ x.patch ns (Ee x.patch.changes) tf ss ts is ti)::(R'++LF)) (f:=62) (cs:= []) (C4 _) rfl rfl Dw _ (Px (sortD (BL x.patch++is)) v2 L2 hv2 (by omega)) (fun _=>Dw.symm) fun r L3 ⟨hr,hL3⟩=>?_
 subst hr hL3
 refine wo ?_
 refine Fp (ay:= .slice ((Ko (sortD (BL x.patch++is))).map eDig) .ro) (UK m (Ko (sortD (BL x.patch++is))) [] .nil) rfl rfl Di.out rfl (by simp) ?_
 refine wf ?_
 refine EH (.swap _ _ _) ?_
 refine EC 139 ?_
 refine AZ (σ:=Nat × List Chg × CD) (fun q=>q.1≤l.length∧q.2.1=(l.take q.1).map fun c=>HP (fQ x.patch.changes ns ss is k) (x.patch.changes.getD c Chg.zero)) (fun q=>l.length - q.1) (fun q=> [(4,.pt [.raw (.pointer (some ⟨bx,0,none⟩))] 0),(5,.pt [.raw (.int .i64 (k:Int))] 0),(8,.raw (.pointer (some ⟨b8,0,none⟩))),(9,.raw (.pointer (some ⟨b9,0,none⟩))),(38,.slice (l'.map eI) tl),(39,.raw (.int .i64 l'.length)),(40,.raw (.int .i64 q.1))]) (fun q=> .tok q.2.2 (q.2.1).length 139:: .box b8 40 (Ba Pat.zero):: .box b9 40 (UK m (Ko (sortD (BL x.patch++is))) q.2.1 q.2.2):: .box bx 104 (FJ x.patch ns (Ee x.patch.changes) tf ss ts is ti)::LF) (0,[],.nil) ⟨by simp,by simp⟩ ⟨rfl,rfl,rfl,rfl,rfl,rfl,rfl⟩ (.refl _) ?_
 rintro⟨j,cs1,tg⟩ ⟨hj,hcs⟩
 dsimp only at hj hcs ⊢
 refine wf ?_
 refine A6 (fun hc=>?_) (fun hc=>?_)
 ·have hjl:j < l.length:=by omega
  have hjl':j < l'.length:=by omega
  have hlj:=hll _ (AH hjl)
  have hel:l'[j]=(l[j]:Int):=by simp[hl']
  have hl1:cs1.length=j:=by rw[hcs];simp;omega
  have hch:=AH hlj
  have hgd:x.patch.changes.getD l[j] Chg.zero=x.patch.changes[l[j]]:=by simp[List.getD,hlj]
  have hyj:=hy _ (AH hjl)
  rw[hgd]at hyj
  refine wn ?_
  refine IB [(4,.pt [.raw (.pointer (some ⟨bx,0,none⟩))] 0),(5,.pt [.raw (.int .i64 (k:Int))] 0),(8,.raw (.pointer (some ⟨b8,0,none⟩))),(9,.raw (.pointer (some ⟨b9,0,none⟩))),(11,.raw (.int .i64 (l[j]:Int))),(38,.slice (l'.map eI) tl),(39,.raw (.int .i64 l'.length)),(40,.raw (.int .i64 j))] ⟨rfl,rfl,rfl,rfl,congrArg (fun e=>PV.raw (.int .i64 e)) hel,rfl,rfl,rfl⟩ (.refl _) ?_
  refine BX 13 ?_ ?_
  ·decide+kernel
  refine wf ?_
  refine L6 (xs:= [.tmp 53,.tmp 54]) [.box bx 104 (FJ x.patch ns (Ee x.patch.changes) tf ss ts is ti)] (.tok tg cs1.length 139:: .box b8 40 (Ba Pat.zero):: .box b9 40 (UK m (Ko (sortD (BL x.patch++is))) cs1 tg)::LF) (.agg (eChg (HP (fQ x.patch.changes ns ss is k) x.patch.changes[l[j]]))) (f:=102) (cs:= []) (C4 _) rfl rfl o8 (Re 129 _ (fun _:Unit=> [.box bx 104 (FJ x.patch ns (Ee x.patch.changes) tf ss ts is ti)]) (fQ x.patch.changes ns ss is k) (fun _ _=>()) x.patch.changes[l[j]] (fun _ y hy'=>jv hkd (by omega) (by omega) x.patch ns ss hns hss hsb tf ts ti is bx k y fun ho=>⟨by have:=Sj v hx hch y hy';omega,fun e=>by rw[e]at hlj;exact absurd hlj (DB _),hyj y hy' ho⟩) (by have:=(gch _ hch).over;omega) ()) ?_
  refine aO fun v'=>?_
  refine Fp (ay:= .slice ((cs1++ [HP (fQ x.patch.changes ns ss is k) x.patch.changes[l[j]]]).map eChg) v') (UK m (Ko (sortD (BL x.patch++is))) (cs1++ [HP (fQ x.patch.changes ns ss is k) x.patch.changes[l[j]]]) v') rfl rfl Di.out rfl (by simp) ?_
  refine wf ?_
  refine wf ?_
  refine⟨(j+1,(cs1++ [HP (fQ x.patch.changes ns ss is k) x.patch.changes[l[j]]]),v'),⟨by dsimp only;omega,?_⟩,by dsimp only;omega,⟨rfl,rfl,rfl,rfl,rfl,rfl,rfl⟩,.refl _⟩
  dsimp only
  rw[A7 hjl,Au,hcs,List.map_singleton,hgd]
 ·have hcs:cs1=l.map fun c=>HP (fQ x.patch.changes ns ss is k) (x.patch.changes.getD c Chg.zero):=by rw[hcs,AB (by omega)]
  rw[←hcs]
  refine wf ?_
  exact⟨trivial,_,_,.cons (.cell 8 40 rfl (AL _ AI) Ea.out (by simp)) .nil,.cons _ (.cons _ (.cons _ (.refl _))),⟨tg,rfl⟩,rfl⟩
theorem dP {n:Nat} {Q:List (List Int)} (h:Ed n [] Q=true) {k:Nat} (hk:k < Q.length):Q[k]=((ED Q)[k]'(by rw[Ir];exact hk)).map fun c:Nat=>(c:Int):=by
 have r:=N5 h
 unfold ED
 rw[B5,Cd]
 refine(List.map_id _).symm.trans (DF fun c hc=>?_)
 have:=(r.lt _ (AH hk) c hc).1
 simp only[id_eq,Function.comp_apply]
 omega
theorem YD {s:List Sto} {id:Dig} {p:Pat} (hp:getS s id=some p) (Q:List (List Int)) (ms:List Mta):Mm s id Q ms=if Nc s [id]=true then([],[],19)else if Ed p.changes.length [] Q=false∨ms.length≠Q.length then([],[],1)else
  if Kn (ED Q) p.changes=true then([],[],9)else Wb ⟨id,p⟩ (ED Q) ((ED Q).zip ms) (Gf s [id]) []:=by unfold Mm;rw[hp]
theorem ju {a:Res} {L M:List Res}:(L++(a::M)).Perm (a::(L++M)):=BT
theorem YB (s:List Sto) (t:CD) (id:Dig) (Q:List (List Int)) (tq:CD) (ms:List Mta) (tm:CD) (hv:Bx s) (hg:GK s=false) (z:P2 Q ms) (hr: ∀ l∈Q,l.length≤1000000) (hml:ms.length≤1000000):
  C9 Tryz.prog 21 [.slice (s.map eSto) t,.agg (eDig id),.slice (Q.map Jz) tq,.slice (ms.map FG) tm] (.tuple [.slice ((Mm s id Q ms).1.map eSto) .ro,.slice ((Mm s id Q ms).2.1.map eDig) .ro,.raw (.int .i64 (Mm s id Q ms).2.2)]):=⟨by
 have hsl:=hv.close.1.1
 have hQl:=z.parts
 have hs8:=(KH hg).1
 have i1:Ay (Bx s):=⟨hv⟩
 have i2:Ay (Gw s):=⟨hv.close.1⟩
 have i3:Ay (s.length≤1000):=⟨by omega⟩
 cases hp:getS s id with
 |none=>
  have cg:=fun t=>Sg s t id
  rw[hp]at cg
  have e:Mm s id Q ms=([],[],7):=by unfold Mm;rw[hp]
  rw[e]
  refine Av Tryz.func21 Tryz.ntmps21 rfl (rs:= [.tmp 8,.tmp 9,.tmp 10]) rfl rfl fun hb LF=>?_
  refine wz fun b11=>?_
  refine B2 11 ?_
  refine wf ?_
  exact NI (x:= .slice [] .nil) (y:= .slice [] .nil) (.tuple3 (.ro _ _) (.ro _ _) (.refl _))
 |some p=>
 have hx:(⟨id,p⟩:Sto)∈s:=Rn hp
 have cg: ∀ t,C9 Tryz.prog 17 [.slice (s.map eSto) t,.agg (eDig id)] (.tuple [.agg (Ba p),.raw (.bool true)]):=fun t=>by
  have:=Sg s t id
  rw[hp]at this
  exact this
 have hb0:E4 p=false:=hv.close.1.2 _ hx
 obtain⟨_,_,g1,g2,gch⟩:=EF hb0
 have hkd: ∀ c∈p.changes,1≤c.kind∧c.kind≤7:=hv.kinds hx
 have hpf:=HC (JG (hv.id _ hx).1).1
 have hc16:Cg p.changes p.changes.length≤16200:=by
  have:=(EG hb0).1
  have h2:=hpf.cnt
  dsimp only at h2
  unfold NL at h2
  omega
 rw[YD hp]
 refine Av Tryz.func21 Tryz.ntmps21 rfl (rs:= [.tmp 8,.tmp 9,.tmp 10]) rfl rfl fun hb LF=>?_
 refine wz fun b11=>?_
 refine B2 11 ?_
 refine wf ?_
 refine AO (fun h1=>?_) (fun h1=>?_)
 ·rw[if_pos h1]
  refine wf ?_
  exact NI (x:= .slice [] .nil) (y:= .slice [] .nil) (.tuple3 (.ro _ _) (.ro _ _) (.refl _))
 rw[if_neg (by simp[h1])]
 refine wf ?_
 refine CV (xs:= [.tmp 39,.tmp 40]) [] LF (f:=63) (cs:= []) (C4 _) rfl rfl (.refl _) _ (X9 p.changes.length Q tq (by omega) (by omega) hr) fun r L' ⟨hL,hrr⟩=>?_
 subst hL
 rw[BB]
 rcases hrr with ⟨hr1,hok⟩|⟨b,hr1,hok⟩
 ·subst hr1
  rw[if_pos (.inl hok)]
  refine wf ?_
  exact NI (x:= .slice [] .nil) (y:= .slice [] .nil) (.tuple3 (.ro _ _) (.ro _ _) (.refl _))
 subst hr1 hok
 have hin:((List.range p.changes.length).map fun c=>OE Q (c:Nat))=Nn Q p.changes.length:=rfl
 rw[hin]
 refine wf ?_
 refine BG [(52,.raw (.bool (decide (Ed p.changes.length [] Q=false∨ms.length≠Q.length)))),(0,.slice (s.map eSto) t),(2,.slice (Q.map Jz) tq),(3,.slice (ms.map FG) tm),(11,.pt (Ba p) 0),(13,.slice ([id].map eDig) .ro),(14,.slice ((Nn Q p.changes.length).map eI) .ro)] (LF) ?_ ?_
 ·repeat' (first|(refine A6 (fun h=>?_) (fun h=>?_)<;>refine wf ?_)|(refine AR (fun h=>?_) (fun h=>?_)<;>refine wf ?_)|(refine AO (fun h=>?_) (fun h=>?_)<;>refine wf ?_)|(refine Ao (fun h=>?_) (fun h=>?_)<;>(have h2:=h;(try simp only[AA,A8,AF,AJ]at h2);refine wf ?_)))
  all_goals (refine⟨⟨Bh (by rfl) ?_,rfl,rfl,rfl,rfl,rfl,rfl⟩,.refl _⟩;first|(simp_all;done)|(simp_all;omega))
 refine wf ?_
 refine A6 (fun h2=>?_) (fun h2=>?_)
 ·rw[if_pos h2]
  refine wf ?_
  exact NI (x:= .slice [] .nil) (y:= .slice [] .nil) (.tuple3 (.ro _ _) (.ro _ _) (.refl _))
 rw[if_neg h2]
 have hQ:Ed p.changes.length [] Q=true:=by
  cases hq:Ed p.changes.length [] Q with
  |true=>rfl
  |false=>exact absurd (.inl hq) h2
 have hmq:ms.length=Q.length:=Cf fun k=>h2 (.inr k)
 have hpq:KL (ED Q) p.changes.length:=LG hQ
 have hrn: ∀ e∈Nn Q p.changes.length,0≤e∧e < (Q.length:Int):=fun e he=>by
  unfold Nn at he
  obtain⟨c,hc,rfl⟩:=AY.1 he
  have hc:=BZ.1 hc
  obtain⟨hk,_⟩:=hpq.mem hc
  rw[Ir]at hk
  have e:OE Q (c:Nat)=(K7 (ED Q) c:Int):=Sd hQ hc
  rw[e]
  omega
 refine wf ?_
 refine CV (xs:= [.tmp 53,.tmp 54,.tmp 56]) [] LF (f:=64) (cs:= []) (C4 _) rfl rfl (.refl _) _ (Tl hv hx (Nn Q p.changes.length) (XK _ _) Q.length (by omega) hrn) fun r L' ⟨bx,tf,ts,hr2,hL2⟩=>?_
 subst hr2 hL2
 rw[B3,BB]
 dsimp only
 rw[tw]
 refine wf ?_
 refine L6 (xs:= [.tmp 58]) [.box bx 104 (FJ p (Nn Q p.changes.length) (Ee p.changes) tf (H6 p.changes (Nn Q p.changes.length) p.changes.length) ts [] .nil)] LF (.raw (.bool (Kn (ED Q) p.changes))) (f:=65) (cs:= []) (C4 _) rfl rfl (.refl _) (by
  have:=kv hkd (by omega) (fun c hc=>by have:=(gch c hc).over;omega) (Nn Q p.changes.length) (XK _ _) bx (FJ p (Nn Q p.changes.length) (Ee p.changes) tf (H6 p.changes (Nn Q p.changes.length) p.changes.length) ts [] .nil) tf
  rw[pF hQ]at this
  exact this) ?_
 refine wf ?_
 refine AO (fun h3=>?_) (fun h3=>?_)
 ·rw[if_pos h3]
  refine wf ?_
  exact NI (x:= .slice [] .nil) (y:= .slice [] .nil) (.tuple3 (.ro _ _) (.ro _ _) (.refl _))
 rw[if_neg (by simp[h3])]
 obtain⟨W,hW⟩: ∃ W,W=Wb ⟨id,p⟩ (ED Q) ((ED Q).zip ms) (Gf s [id]) []:=⟨_,rfl⟩
 rw[←hW]
 have h3':Kn (ED Q) p.changes=false:=by simpa using h3
 have ok:HX s ⟨id,p⟩ (ED Q):=cT hv hx hQ h3'
 have zz:=VH hg hx z
 have a0:J1 s ⟨id,p⟩ (Gf s [id]) []:=Sq hv hx (by simpa using h1)
 have hzl:((ED Q).zip ms).length=Q.length:=by rw[List.length_zip,Ir];omega
 have hsb:=mw (cs:=p.changes) (ns:=Nn Q p.changes.length) (m:=1000000000) (by omega)
 refine wf ?_
 refine EC 32 ?_
 refine AZ (σ:=Nat × List Sto × List Dig × CD) (fun k=>k.1≤Q.length∧Wb ⟨id,p⟩ (ED Q) (((ED Q).zip ms).drop k.1) k.2.1 k.2.2.1=W∧J1 s ⟨id,p⟩ k.2.1 k.2.2.1∧k.2.2.1.length=k.1) (fun k=>Q.length - k.1) (fun k=> [(2,.slice (Q.map Jz) tq),(3,.slice (ms.map FG) tm),(16,.raw (.pointer (some ⟨bx,0,none⟩))),(17,.slice (k.2.1.map eSto) .ro),(63,.slice (Q.map Jz) tq),(64,.raw (.int .i64 Q.length)),(65,.raw (.int .i64 k.1))]) (fun k=> .tok k.2.2.2 k.2.2.1.length 32:: .box bx 104 (FJ p (Nn Q p.changes.length) (Ee p.changes) tf (H6 p.changes (Nn Q p.changes.length) p.changes.length) ts k.2.2.1 k.2.2.2)::LF) (0,Gf s [id],[],.nil) ⟨by dsimp only;omega,hW.symm,a0,rfl⟩ ⟨rfl,rfl,rfl,rfl,rfl,rfl,rfl⟩ (.refl _) ?_
 rintro⟨k,T,is,ti⟩ ⟨hk,hI,hA,hlen⟩
 dsimp only at hk hI hA hlen ⊢
 refine wf ?_
 refine A6 (fun hc=>?_) (fun hc=>?_)
 ·have hlt:k < Q.length:=by omega
  have hltm:k < ms.length:=by omega
  have hltP:k < (ED Q).length:=by rw[Ir];exact hlt
  have hQk:=dP hQ hlt
  have hlk:((ED Q)[k]).length≤1000000:=by
   have:=hr _ (AH hlt)
   rw[hQk,AQ]at this
   exact this
  have hdr:((ED Q).zip ms).drop k=((ED Q)[k],ms[k])::((ED Q).zip ms).drop (k+1):=by
   rw[Br (by omega),List.getElem_zip]
  have hne:p.changes≠ []:=fun e=>by
   have h5:=hpq.ne _ (AH hltP)
   obtain⟨c,hc⟩:=List.exists_mem_of_ne_nil _ h5
   have:=hpq.lt _ (AH hltP) c hc
   rw[e]at this
   exact absurd this (DB _)
  have hC:(((ED Q)[k]).map fun c=>HP (fQ p.changes (Nn Q p.changes.length) (H6 p.changes (Nn Q p.changes.length) p.changes.length) is k) (p.changes.getD c Chg.zero))=((ED Q)[k]).map fun c=>HP (fS (ED Q) p.changes is is.length) (p.changes.getD c Chg.zero):=DF fun c _=>by
   rw[show fQ p.changes (Nn Q p.changes.length) (H6 p.changes (Nn Q p.changes.length) p.changes.length) is k=fS (ED Q) p.changes is is.length from funext fun y=>by rw[hlen];exact xh hQ hne is k y]
  have hbig:E4 (JA ⟨id,p⟩ (ED Q) is (ED Q)[k] ms[k])=false:=zz.big ok (e:=((ED Q)[k],ms[k])) (by rw[Ir];omega) (JR (hdr ▸ AI)) (by simp only[hlen])
  obtain⟨q,hq⟩: ∃ q,q=JA ⟨id,p⟩ (ED Q) is (ED Q)[k] ms[k]:=⟨_,rfl⟩
  have hlT:=hA.len
  have hstep:=hA.step (p:=q) (by rw[hq];exact hbig) (by omega)
  rw[hdr,Wb]at hI
  dsimp only at hI
  rw[←hq]at hI
  have i5:Ay (Bx T):=⟨hA.val⟩
  have hq':q=⟨(ms[k]).author,(ms[k]).message,(ms[k]).time,Ko (sortD (BL p++is)),((ED Q)[k]).map fun c=>HP (fS (ED Q) p.changes is is.length) (p.changes.getD c Chg.zero)⟩:=hq
  have ca: ∀ p',p'=q→ ∀ u,C9 Tryz.prog 35 [.slice (T.map eSto) u,.agg (Ba p')] (.tuple [.slice ((Ec T q).1.map eSto) .ro,.agg (eDig (Ec T q).2.1),.raw (.int .i64 (Ec T q).2.2)]):=fun p' e u=>by
   have i6:Ay (E4 q=false):=⟨by rw[hq];exact hbig⟩
   subst e
   exact Xr T _ u
  have ca:=ca _ hq'.symm
  obtain⟨⟨T1,d1,e1⟩,hR⟩: ∃ A,A=Ec T q:=⟨_,rfl⟩
  rw[←hR]at ca hI hstep
  dsimp only at ca hI hstep
  refine wf ?_
  refine Bw (xs:= [.tmp 72,.tmp 73,.tmp 74,.tmp 78]) [.box bx 104 (FJ p (Nn Q p.changes.length) (Ee p.changes) tf (H6 p.changes (Nn Q p.changes.length) p.changes.length) ts is ti)] (.tok ti is.length 32::LF) (fun R'=> .tok ti is.length 32::(R'++LF)) (f:=66) (cs:= []) (C4 _) rfl (by rw[←hQk];rfl) (.swap _ _ _) _ (oA hv hx (Nn Q p.changes.length) (H6 p.changes (Nn Q p.changes.length) p.changes.length) (XK _ _) (by simp[H6]) hsb tf ts ti is (by omega) bx k (ED Q)[k] (hpq.lt _ (AH hltP)) hlk .ro ms[k] (fun c hc y hy ho hne2=>by
   have hcn:=hpq.lt _ (AH hltP) c hc
   have hinc:K7 (ED Q) c=k:=OD hpq.apart hltP hc
   have hm:=Vo hQ (Ox (n:=y.n) hne)
   refine⟨_,hm,?_⟩
   rw[hm]at hne2
   have h6:=Bc.1 h3' c (BZ.2 hcn)
   rw[Hh]at h6
   have h7:=Bc.1 h6 y hy
   simp only[ho,EJ,AA,hinc]at h7
   omega)) (fun _=>ju) fun r L' ⟨⟨tg,hr3⟩,hL3⟩=>?_
  dsimp only at hr3
  rw[hC]at hr3
  subst hr3 hL3
  rw[B3,BB]
  refine wz fun b21=>?_
  refine B2 21 ?_
  refine wn ?_
  refine AR (fun h5=>?_) (fun h5=>?_)
  ·rw[if_pos h5]at hI
   rw[←hI]
   refine wf ?_
   exact NI (x:= .slice [] .nil) (y:= .slice [] .nil) (.tuple3 (.ro _ _) (.ro _ _) (.refl _))
  ·rw[if_neg (by simp[h5])]at hI
   refine wn ?_
   refine FM [5,8,9,12] (by decide+kernel) ?_
   refine Ar 0 ?_
   refine Ar 1 ?_
   refine Ar 2 ?_
   refine Ar 3 ?_
   refine Ar 4 ?_
   refine Ar 6 ?_
   refine Ar 7 ?_
   refine Ad 5 5 ?_
   refine wo ?_
   refine AE ?_
   refine Ad 4 8 ?_
   refine Gb (f:=eDig) (l:=is) (m:= [d1]) (by rfl) (by rfl) (by simp only[Ax];omega) (by simp only[Ax];omega) (fun t=> .here) fun v'=>?_
   refine AE ?_
   refine Ad 3 9 ?_
   refine wo ?_
   refine AE ?_
   refine Ar 10 ?_
   refine Ar 11 ?_
   refine Ad 0 12 ?_
   refine Fp (ay:= .slice ((is++ [d1]).map eDig) v') (FJ p (Nn Q p.changes.length) (Ee p.changes) tf (H6 p.changes (Nn Q p.changes.length) p.changes.length) ts (is++ [d1]) v') rfl rfl Di.out rfl (by simp) ?_
   refine AE ?_
   refine CN (by decide+kernel) ?_
   refine wf ?_
   exact⟨(k+1,T1,is++ [d1],v'),⟨by dsimp only;omega,hI,(hstep h5).1,by simp[hlen]⟩,by dsimp only;omega,⟨rfl,rfl,rfl,rfl,rfl,rfl,rfl⟩,.refl _⟩
 ·rw[Bu (by omega),Wb]at hI
  refine wn ?_
  rw[←hI]
  refine FM [4,5,6,7] (by decide+kernel) ?_
  refine Ar 0 ?_
  refine Ar 1 ?_
  refine Ar 2 ?_
  refine Ar 3 ?_
  refine C3 (fuel:=3) [4,5] (by decide+kernel) (by simp) fun i hi=>?_
  simp only[AG,Aa,or_false]at hi
  rcases hi with rfl|rfl
  ·refine⟨_,rfl,?_⟩
   refine wo ?_
   refine AE ?_
   refine Ad 2 5 ?_
   refine wo ?_
   refine AE ?_
   refine Ad 1 6 ?_
   refine wo ?_
   refine AE ?_
   refine Ad 0 7 ?_
   refine wo ?_
   refine AE ?_
   refine CN (by decide+kernel) ?_
   refine wf ?_
   exact NI (x:= .slice (T.map eSto) .ro) (y:= .slice (is.map eDig) ti) (.tuple3 (.refl _) (.ro _ _) (.refl _))
  ·refine⟨_,rfl,?_⟩
   refine wo ?_
   refine AE ?_
   refine Ad 2 4 ?_
   refine wo ?_
   refine AE ?_
   refine Ad 1 6 ?_
   refine wo ?_
   refine AE ?_
   refine Ad 0 7 ?_
   refine wo ?_
   refine AE ?_
   refine CN (by decide+kernel) ?_
   refine wf ?_
   exact NI (x:= .slice (T.map eSto) .ro) (y:= .slice (is.map eDig) ti) (.tuple3 (.refl _) (.ro _ _) (.refl _))⟩
end Go.Proofs
namespace Go.Q
open Go
structure iK where
 id:Dig
 parts:List (List Int)
 metas:List Mta
def Ky (c:iK):List PV:=(eDig c.id)++([.slice ((c.parts).map Jz) .ro]++([.slice ((c.metas).map FG) .ro]))
@[simp] theorem kV (c:iK):(Ky c).length=34:=by unfold Ky;simp
instance :MZ Ky 34:=⟨kV⟩
instance tv (c:iK):Jc (Ky c) 0 (eDig c.id):=by unfold Ky;exact DA
instance mM (c:iK):Jc (Ky c) 32 [.slice ((c.parts).map Jz) .ro]:=by unfold Ky;exact Ai (n:=32) (off:=0) (by simp) (DA)
instance mN (c:iK):Jc (Ky c) 33 [.slice ((c.metas).map FG) .ro]:=by unfold Ky;exact Ai (n:=32) (off:=1) (by simp) (Ai (n:=1) (off:=0) (by simp) (Jk))
end Go.Q
namespace Go.Proofs
open Go Go.Q
attribute [local irreducible] EY AU GP BH Fk
instance vz:Ck Tryz.prog 26 (FG Mta.zero):=Ck.of (us:=(FG Mta.zero).map zv) (by kernel_rfl) (by kernel_rfl)
def NB (m:Mta):Bool:=decide (60 < m.author.length∨60 < m.message.length)
def S9 (l:List Mta):Bool:=l.any NB
def Pr (c:iK):Bool:=c.parts.any (fun l=>decide (20 < l.length))||decide (8 < c.parts.length∨8 < c.metas.length)||S9 c.metas
instance vM (l:List Mta) (t:CD):C9 Tryz.prog 10 [.slice (l.map FG) t] (.raw (.bool (S9 l))):=⟨by
 refine Av Tryz.func10 Tryz.ntmps10 rfl (rs:= [.tmp 2]) rfl rfl fun hb LF=>?_
 have hlen:l.length≤140737488355328:=(hb (.slice (l.map FG) t) (by simp)).slice_map
 have hst: ∀ m∈l,m.author.length≤140737488355328∧m.message.length≤140737488355328:=fun m hm=>⟨((hb (.slice (l.map FG) t) (by simp)).slice_at hm (c:= .str m.author) (by simp[FG])).str_len,((hb (.slice (l.map FG) t) (by simp)).slice_at hm (c:= .str m.message) (by simp[FG])).str_len⟩
 refine wf ?_
 refine AZ (σ:=Nat) (fun k=>k≤l.length∧(l.take k).any NB=false) (fun k=>l.length - k) (fun k=> [(5,.slice (l.map FG) t),(6,.raw (.int .i64 l.length)),(7,.raw (.int .i64 k))]) (fun _=>LF) 0 ⟨by omega,by simp⟩ ⟨rfl,rfl,rfl⟩ (.refl _) ?_
 rintro k ⟨hk,hno⟩
 refine wf ?_
 refine A6 (fun hc=>?_) (fun hc=>?_)
 ·have hlt:k < l.length:=by omega
  have hm:=hst _ (AH hlt)
  have hn: ∀ b,NB l[k]=b→(l.take (k+1)).any NB=b:=fun b h=>by
   rw[A7 hlt,Ef,hno];simpa using h
  refine wz fun b4=>?_
  refine B2 4 ?_
  generalize l[k]=m at*
  refine wf ?_
  refine BG [(20,.raw (.bool (NB m))),(5,.slice (l.map FG) t),(6,.raw (.int .i64 l.length)),(7,.raw (.int .i64 k))] (LF) ?_ ?_
  ·repeat' (first|(refine A6 (fun h=>?_) (fun h=>?_)<;>refine wf ?_)|(refine AR (fun h=>?_) (fun h=>?_)<;>refine wf ?_)|(refine AO (fun h=>?_) (fun h=>?_)<;>refine wf ?_)|(refine Ao (fun h=>?_) (fun h=>?_)<;>(have h2:=h;(try simp only[AA,A8,AF,AJ]at h2);refine wf ?_)))
   all_goals (refine⟨⟨Bh (by rfl) ?_,rfl,rfl,rfl⟩,.refl _⟩;unfold NB;first|(simp_all;done)|(simp_all;omega)|grind)
  refine wf ?_
  refine AO (fun h=>?_) (fun h=>?_)
  ·refine wf ?_
   refine Aw (.of_eq ?_)
   have:=hn true h
   have e:S9 l=true:=by
    unfold S9
    rw[←C6 (k+1) l,Ef,this];rfl
   rw[e]
  ·refine wf ?_
   exact⟨k+1,⟨by omega,hn false h⟩,by dsimp only;omega,⟨rfl,rfl,rfl⟩,.refl _⟩
 ·rw[AB (by omega)]at hno
  refine wf ?_
  refine Aw (.of_eq ?_)
  unfold S9
  rw[hno]⟩
instance te (c:iK):C9 Tryz.prog 22 [.agg (Ky c)] (.raw (.bool (Pr c))):=⟨by
 refine Av Tryz.func22 Tryz.ntmps22 rfl (rs:= [.tmp 2]) rfl rfl fun hb LF=>?_
 have hbp:=(hb (.agg (Ky c)) (by simp)).agg_at (c:= .slice (c.parts.map Jz) .ro) (by simp[Ky])
 have hbm:=(hb (.agg (Ky c)) (by simp)).agg_at (c:= .slice (c.metas.map FG) .ro) (by simp[Ky])
 have hlen:c.parts.length≤140737488355328:=hbp.slice_map
 have hlem:c.metas.length≤140737488355328:=hbm.slice_map
 have hst: ∀ l∈c.parts,l.length≤140737488355328:=fun l hl=>(hbp.slice_at hl (c:= .slice (l.map eI) .ro) (by simp[Jz])).slice_map
 refine wf ?_
 refine AZ (σ:=Nat) (fun k=>k≤c.parts.length∧(c.parts.take k).any (fun l=>decide (20 < l.length))=false) (fun k=>c.parts.length - k) (fun k=> [(1,.pt (Ky c) 0),(6,.slice (c.parts.map Jz) .ro),(7,.raw (.int .i64 c.parts.length)),(8,.raw (.int .i64 k))]) (fun _=>LF) 0 ⟨by omega,by simp⟩ ⟨rfl,rfl,rfl,rfl⟩ (.refl _) ?_
 rintro k ⟨hk,hno⟩
 refine wf ?_
 refine A6 (fun hc=>?_) (fun hc=>?_)
 ·have hlt:k < c.parts.length:=by omega
  have hm:=hst _ (AH hlt)
  have hn: ∀ b,decide (20 < (c.parts[k]).length)=b→(c.parts.take (k+1)).any (fun l=>decide (20 < l.length))=b:=fun b h=>by
   rw[A7 hlt,Ef,hno];simpa using h
  refine wf ?_
  refine A6 (fun h=>?_) (fun h=>?_)
  ·refine wf ?_
   refine Aw (.of_eq ?_)
   have:=hn true (BC (by omega))
   have e:c.parts.any (fun l=>decide (20 < l.length))=true:=by
    rw[←C6 (k+1) c.parts,Ef,this];rfl
   unfold Pr
   rw[e];rfl
  ·refine wf ?_
   exact⟨k+1,⟨by omega,hn false (CG (by omega))⟩,by dsimp only;omega,⟨rfl,rfl,rfl,rfl⟩,.refl _⟩
 ·rw[AB (by omega)]at hno
  have e:Pr c=(decide (8 < c.parts.length∨8 < c.metas.length)||S9 c.metas):=by unfold Pr;rw[hno];rfl
  rw[e]
  refine wf ?_
  refine BG [(2,.raw (.bool (decide (8 < c.parts.length∨8 < c.metas.length)||S9 c.metas))),(1,.pt (Ky c) 0)] (LF) ?_ ?_
  ·repeat' (first|(refine A6 (fun h=>?_) (fun h=>?_)<;>refine wf ?_)|(refine AR (fun h=>?_) (fun h=>?_)<;>refine wf ?_)|(refine AO (fun h=>?_) (fun h=>?_)<;>refine wf ?_)|(refine Ao (fun h=>?_) (fun h=>?_)<;>(have h2:=h;(try simp only[AA,A8,AF,AJ]at h2);refine wf ?_)))
   all_goals (refine⟨⟨Bh (by rfl) ?_,rfl⟩,.refl _⟩;first|(simp_all;done)|(simp_all;omega)|grind)
  refine wf ?_
  exact Aw (.refl _)⟩
end Go.Proofs
namespace Go.Proofs
open Go Go.Q
def aa:Mta:=⟨[98,111,98],[],0⟩
def gv:Dig:=⟨[201,28,190,149,120,204,145,162,76,176,190,248,179,235,174,253,108,101,45,201,70,169,120,103,60,58,28,92,187,85,25,174],rfl⟩
def sH:Dig:=⟨[95,52,110,140,148,128,50,197,184,155,177,70,110,45,170,42,165,190,242,91,151,230,172,24,3,168,255,62,132,124,150,202],rfl⟩
def zq (d:Dig):Chg:={ Chg.zero with kind:=5,file:=⟨d,0⟩,after:=⟨d,0⟩,before:=⟨d,0⟩,lines:= [[120]] }
def sxP:Pat:=⟨[98,111,98],[],0,[],[zW,zq Dig.zero]⟩
def sxQ:Pat:=⟨[98,111,98],[],0,[pf],[zq pf]⟩
def sxT:List Sto:= [⟨gv,sxP⟩]
def sxU:List Sto:= [⟨pf,zy⟩,⟨sH,sxQ⟩]
theorem sG:dU aw2S [c8,rQ] aa=sxP:=by decide+kernel
theorem zF:zI aw2S [c8,rQ] aa=(sxT,gv,0):=by decide+kernel
theorem mi:KY sxT gv [[0],[1]] [aa,aa]=(sxU,[pf,sH],0):=by decide+kernel
theorem mm:Ff sxP=false:=by decide+kernel
theorem mo:MF sxT=true:=by decide+kernel
theorem mn:MF sxU=true:=by decide+kernel
theorem Y7:GK sxT=false:=by decide+kernel
theorem iX:O4 sxU sH pf=true:=by decide+kernel
theorem w7:getS sxT gv=some sxP:=by decide+kernel
attribute [local irreducible] EY AU GP BH Fk
theorem oX (xs:List (List PV)) (h:xs= []):Le (.raw (.slice none 0 0)) (.slice xs .nil):=fun g v hv=>by
 subst h;rw[hv.raw_inv];exact .nilN none (by simp)
instance (l:List Int):Fw (.slice (l.map eI) .ro) Jz l:=⟨Cw.one (c:= .slice (l.map eI) .ro) Di.out⟩
instance uK:C9 Tryz.prog 11 [] (.raw (.bool true)):=⟨by
 have v0:Bx []:=Lu pd
 have v1:Bx aw1S:=Lu pc
 have v2:Bx aw2S:=Lu pb
 have vT:Bx sxT:=Lu mo
 have vU:Bx sxU:=Lu mn
 have i0:Ay (Bx []):=⟨v0⟩
 have i1:Ay (Bx aw1S):=⟨v1⟩
 have i2:Ay (Bx aw2S):=⟨v2⟩
 have i3:Ay (Bx sxU):=⟨vU⟩
 have g0:Ay (E4 uQ=false):=⟨Xo eC.1⟩
 have g1:Ay (E4 vb=false):=⟨Xo eC.2.1⟩
 have a0:=Xr [] uQ .nil
 have a1:=fun t=>Xr aw1S vb t
 rw[uO]at a0
 rw[uM]at a1
 dsimp only at a0 a1
 have cs: ∀ t u,C9 Tryz.prog 12 [.slice (aw2S.map eSto) t,.slice ([c8,rQ].map eDig) u,.agg (FG aa)] (.tuple [.slice (sxT.map eSto) .ro,.agg (eDig gv),.raw (.int .i64 0)]):=fun t u=>by
  have:=ab aw2S t [c8,rQ] u aa v2 (by decide) (by decide) (by rw[SA v2,sG];exact Xo mm)
  rw[mz v2,zF]at this
  exact this
 have cg: ∀ t,C9 Tryz.prog 17 [.slice (sxT.map eSto) t,.agg (eDig gv)] (.tuple [.agg (Ba sxP),.raw (.bool true)]):=fun t=>by
  have:=Sg sxT t gv
  rw[w7]at this
  exact this
 have z:P2 [[0],[1]] [aa,aa]:=⟨by decide,by decide⟩
 have cp: ∀ t u w,C9 Tryz.prog 21 [.slice (sxT.map eSto) t,.agg (eDig gv),.slice (([[0],[1]]:List (List Int)).map Jz) u,.slice ([aa,aa].map FG) w] (.tuple [.slice (sxU.map eSto) .ro,.slice ([pf,sH].map eDig) .ro,.raw (.int .i64 0)]):=fun t u w=>by
  have:=YB sxT t gv [[0],[1]] u [aa,aa] w vT Y7 z (by decide) (by decide)
  rw[YE vT Y7 gv z,mi]at this
  exact this
 have ck:=fun t=>gj sxU sH pf t
 rw[iX]at ck
 have hl2:sxP.changes.length=2:=rfl
 have hl3: [pf,sH].length=2:=rfl
 refine Av Tryz.func11 Tryz.ntmps11 rfl (rs:= [.tmp 0]) rfl rfl fun hb LF=>?_
 refine wf ?_
 refine CV (xs:= [.const (Value.slice none 0 0),.tmp 19]) [] LF (f:=35) (cs:= []) (C4 _) rfl rfl (.refl _) _ (BH.args (bs:= [.slice (([]:List Sto).map eSto) .nil,.agg (Ba uQ)]) rfl (fun i g1 g2=>by
   match i,g1,g2 with
   |0,_,_=>exact oX _ rfl
   |1,_,_=>exact .of_eq rfl
   |m+2,g1,_=>exact absurd g1 (by simp)) a0.out) fun r L' ⟨e1,e2⟩=>?_
 subst e1;rw[e2,BB]
 refine wf ?_
 refine CA fun b2=>?_
 refine wo ?_
 refine AE ?_
 refine B2 2 ?_
 refine IB [(1,.slice (aw1S.map eSto) .ro),(2,.pt (eDig c8) 0),(3,.raw (.int .i64 0))] ⟨rfl,rfl,rfl⟩ (.refl _) ?_
 refine wf ?_
 refine CA fun b4=>?_
 refine wo ?_
 refine AE ?_
 refine B2 4 ?_
 refine IB [(1,.slice (aw1S.map eSto) .ro),(2,.pt (eDig c8) 0),(3,.raw (.int .i64 0)),(4,.pt (eIdent ⟨c8,0⟩) 0)] ⟨rfl,rfl,rfl,rfl⟩ (.refl _) ?_
 refine wf ?_
 refine CV (xs:= [.tmp 27,.tmp 34]) [] LF (f:=35) (cs:= []) (C4 _) rfl rfl (.refl _) _ (BH.args (bs:= [.slice ((aw1S:List Sto).map eSto) .ro,.agg (Ba vb)]) rfl (fun i g1 g2=>by
   match i,g1,g2 with
   |0,_,_=>exact .of_eq rfl
   |1,_,_=>exact .of_eq rfl
   |m+2,g1,_=>exact absurd g1 (by simp)) (a1 .ro).out) fun r L' ⟨e1,e2⟩=>?_
 subst e1;rw[e2,BB]
 refine wf ?_
 refine CA fun b5=>?_
 refine wo ?_
 refine AE ?_
 refine B2 5 ?_
 refine IB [(1,.slice (aw2S.map eSto) .ro),(2,.pt (eDig c8) 0),(3,.raw (.int .i64 0)),(5,.pt (eDig rQ) 0),(6,.raw (.int .i64 0))] ⟨rfl,rfl,rfl,rfl,rfl⟩ (.refl _) ?_
 refine wf ?_
 refine CA fun b7=>?_
 refine wo ?_
 refine AE ?_
 refine B2 7 ?_
 refine IB [(1,.slice (aw2S.map eSto) .ro),(2,.pt (eDig c8) 0),(3,.raw (.int .i64 0)),(5,.pt (eDig rQ) 0),(6,.raw (.int .i64 0)),(7,.pt (FG aa) 0)] ⟨rfl,rfl,rfl,rfl,rfl,rfl⟩ (.refl _) ?_
 refine wf ?_
 refine CA fun b9=>?_
 refine wo ?_
 refine AE ?_
 refine B2 9 ?_
 refine IB [(3,.raw (.int .i64 0)),(6,.raw (.int .i64 0)),(7,.pt (FG aa) 0),(8,.slice (sxT.map eSto) .ro),(9,.pt (eDig gv) 0),(10,.raw (.int .i64 0))] ⟨rfl,rfl,rfl,rfl,rfl,rfl⟩ (.refl _) ?_
 refine wf ?_
 refine CA fun b11=>?_
 refine wo ?_
 refine AE ?_
 refine B2 11 ?_
 refine IB [(3,.raw (.int .i64 0)),(6,.raw (.int .i64 0)),(7,.pt (FG aa) 0),(8,.slice (sxT.map eSto) .ro),(9,.pt (eDig gv) 0),(10,.raw (.int .i64 0)),(11,.pt (Ba sxP) 0),(12,.raw (.bool true))] ⟨rfl,rfl,rfl,rfl,rfl,rfl,rfl,rfl⟩ (.refl _) ?_
 refine wf ?_
 exact Aw (y:= .raw (.bool (O4 sxU sH pf))) (.of_eq (by rw[iX])) (hx:=rfl)⟩
theorem bp {s:List Sto} (h:MF s=true):GK s=false:=by
 unfold MF at h
 simp only[BQ,AF]at h
 exact h.1
theorem fu {c:iK} (h:Pr c=false):P2 c.parts c.metas∧(∀ l∈c.parts,l.length≤20)∧c.metas.length≤8:=by
 unfold Pr at h
 simp only[CH,Bc,AA,A8]at h
 obtain⟨⟨h1,h2⟩,h3⟩:=h
 refine⟨⟨by omega,fun m hm=>?_⟩,fun l hl=>by have:=h1 l hl;omega,by omega⟩
 unfold S9 at h3
 have:=Bc.1 h3 m hm
 unfold NB at this
 simp only[AA]at this
 omega
end Go.Proofs
namespace Go.Proofs
open Go Go.Q Go.Sort
theorem Vm: ∀ (m l:List Ident),(m.foldl IR l).length≤l.length+m.length
 | [],l=>by simp
 |d::m,l=>by
  have a:=Vm m (IR l d)
  have b:=ZU l d
  rw[Bz,AN];omega
theorem VU (f:Ident→Ident) (c:Chg):(Yj c=false→Yj (LV f c)=false)∧Fq (LV f c)=Fq c∧Hq (LV f c)≤Hq c:=by
 have h:(LV f c).over.length≤c.over.length:=by
  have:=Vm (c.over.map f) []
  rw[AQ]at this
  unfold LV;dsimp only
  simpa using this
 refine⟨fun k=>?_,rfl,?_⟩
 ·unfold Yj at k ⊢
  simp only[CH,A8]at k ⊢
  exact⟨k.1,by omega⟩
 ·have e:(LV f c).lines=c.lines:=rfl
  unfold Hq;rw[e];omega
theorem RB (d:Dig) (cs:List Chg): ∀ (l:List Nat) (q:List Mvd × Int × List Chg),∃ new,(l.foldl (GJ d cs) q).1=q.1++new∧new.length=l.length
 | [],q=>⟨[],by simp⟩
 |c::l,q=>by
  obtain⟨new,h1,h2⟩:=RB d cs l (GJ d cs q c)
  rw[Bz,h1]
  unfold GJ
  dsimp only
  exact⟨_::new,by rw[AV];rfl,by simp[h2]⟩
theorem S4 (d:Dig) (cs:List Chg): ∀ (l:List Nat) (q:List Mvd × Int × List Chg),
  (((l.foldl (GJ d cs) q).2.2).map Fq).sum=(q.2.2.map Fq).sum+(l.map fun c=>Fq (cs.getD c Chg.zero)).sum∧
  (((l.foldl (GJ d cs) q).2.2).map Hq).sum≤(q.2.2.map Hq).sum+(l.map fun c=>Hq (cs.getD c Chg.zero)).sum∧
  (l.foldl (GJ d cs) q).2.2.length=q.2.2.length+l.length∧
  ∀ c∈(l.foldl (GJ d cs) q).2.2,c∈q.2.2∨ ∃ c0∈l,∃ f,c=LV f (cs.getD c0 Chg.zero)
 | [],q=>by simp
 |e::l,q=>by
  obtain⟨h1,h2,h3,h4⟩:=S4 d cs l (GJ d cs q e)
  obtain⟨_,r2,r3⟩:=VU (gM (q.1++ [⟨d,Cg cs e,(Cg cs e:Int)+Jo (cs.getD e Chg.zero),Dig.zero,q.2.1⟩]) d) (cs.getD e Chg.zero)
  have hs:(GJ d cs q e).2.2=q.2.2++ [LV (gM (q.1++ [⟨d,Cg cs e,(Cg cs e:Int)+Jo (cs.getD e Chg.zero),Dig.zero,q.2.1⟩]) d) (cs.getD e Chg.zero)]:=rfl
  rw[hs]at h1 h2 h3 h4
  simp only[Au,Aq,CC,FH,Cr,IU,AD,AN,Ae]at h1 h2 h3
  rw[Bz]
  refine⟨?_,?_,?_,fun c hc=>?_⟩
  ·rw[h1,r2,Aq,Cr];omega
  ·rw[Aq,Cr];omega
  ·rw[h3,AN];omega
  ·rcases h4 c hc with h|⟨c0,h0,f,e'⟩
   ·rcases Ah.1 h with h|h
    ·exact .inl h
    ·exact .inr ⟨e,AI,_,Aj.1 h⟩
   ·exact .inr ⟨c0,AL _ h0,f,e'⟩
theorem fL {x:Sto} (hg:Ff x.patch=false) (hh:(x.patch.changes.map Hq).sum≤2000) {deps:List Dig} (hd:deps.length≤200) {done:List Mvd} {l:List Nat} (hn:l.Nodup) (hl: ∀ c∈l,c < x.patch.changes.length) {m:Mta} (ha:m.author.length≤60) (hm:m.message.length≤60):E4 (K6 x deps done l m)=false:=by
 obtain⟨f1,f2,f3,f4,f5⟩:=Jj hg
 have gr:SL x.patch≤3000∧ ∀ c∈x.patch.changes,Yj c=false:=by
  unfold Ff at hg
  simp only[CH,A8,Bc]at hg
  exact⟨by omega,fun c hc=>by simpa using hg.1.1.1 c hc⟩
 have s1:=R9 (f:=Fq) hn hl
 have s2:=R9 (f:=Hq) hn hl
 have s3:=R9 (f:=fun _=>1) hn hl
 have len1:=KX l
 have len2:=KX x.patch.changes
 obtain⟨z1,z2,z3,z4⟩:=S4 x.id x.patch.changes l (done,0,[])
 simp only[CC,IU,Ae,BM]at z1 z2 z3
 have tt:SL x.patch=x.patch.author.length+x.patch.message.length+(x.patch.changes.map Fq).sum:=rfl
 unfold E4 K6
 dsimp only
 simp only[CH,A8,Bc]
 refine⟨⟨⟨⟨fun c hc=>?_,?_⟩,?_⟩,?_⟩,?_⟩
 ·rcases z4 c hc with h|⟨i,hi',f,rfl⟩
  ·exact absurd h Aa
  obtain⟨y1,y2,_⟩:=VU f (x.patch.changes.getD i Chg.zero)
  have hlt:=hl i hi'
  have e:x.patch.changes.getD i Chg.zero=x.patch.changes[i]:=by simp[List.getD,hlt]
  have hmem:x.patch.changes[i]∈x.patch.changes:=AH hlt
  have:=IQ (f:=Fq) hmem
  have:=gr.2 _ hmem
  rw[e]at y1 y2
  rw[e,y1 this,y2]
  simp;omega
 ·unfold SL
  dsimp only
  rw[z1];omega
 ·omega
 ·rw[z3];omega
 ·omega
theorem fa {x:Sto} {done:List Mvd} {l:List Nat} {d:Dig}:(QV x done l d).length=done.length+l.length:=by
 obtain⟨new,h1,h2⟩:=RB x.id x.patch.changes l (done,0,[])
 unfold QV
 rw[h1]
 dsimp only
 rw[Ln,AD,AQ,h2]
end Go.Proofs
namespace Go.Proofs
open Go Go.Q
attribute [local irreducible] EY AU GP BH Fk
theorem YC {s:List Sto} {id:Dig} {p:Pat} (hp:getS s id=some p) (Q:List (List Int)) (ms:List Mta):KY s id Q ms=if Nc s [id]=true then([],[],19)else if Ed p.changes.length [] Q=false∨ms.length≠Q.length then([],[],1)else
  if Jy Q p.changes=true then([],[],9)else Wa ⟨id,p⟩ ((ED Q).zip ms) (Gf s [id]) [] (BL p) []:=by unfold KY;rw[hp]
structure S29 where
 i:Nat
 t:List Sto
 is:List Dig
 ti:CD
 deps:List Dig
 done:List Mvd
 dt:CD
structure I29 (s:List Sto) (x:Sto) (Q:List (List Int)) (ms:List Mta) (W:List Sto × List Dig × Int) (k:S29):Prop where
 le:k.i≤Q.length
 is:Wa x (((ED Q).zip ms).drop k.i) k.t k.is k.deps k.done=W
 at_:J1 s x k.t k.is
 len:k.is.length=k.i
 deps:k.deps.length≤8+k.i
 ok:xC k.done
 dl:k.done.length≤1000*k.i
structure J29 where
 j:Nat
 mv:List Mvd
 v:Value
 R:List Res
 n:Int
 cs:List Chg
 tg:CD
structure K29 (x:Sto) (done:List Mvd) (l:List Nat) (k:J29):Prop where
 le:k.j≤l.length
 is:(l.take k.j).foldl (GJ x.id x.patch.changes) (done,0,[])=(k.mv,k.n,k.cs)
 n0:0≤k.n∧k.n≤k.j*20000
 ok:xC k.mv
 row:Fv 108 67 k.v (k.mv.map eMvd) k.R
 ml:k.mv.length=done.length+k.j
 cl:k.cs.length=k.j
def P6 (d:Dig) (done new:List Mvd) (q:Nat):List Mvd:=done++((new.take q).map (fun e=>{ e with patch:=d })++new.drop q)
theorem YH (d:Dig) (done new:List Mvd) (q:Nat):(P6 d done new q).length=done.length+new.length:=by
 unfold P6;simp;omega
theorem nF {d:Dig} {done new:List Mvd} {q:Nat} (h:q < new.length):(P6 d done new q)[done.length+q]'(by rw[YH];omega)=new[q]:=by
 unfold P6
 rw[BO (by omega),BO (by simp;omega),FB]
 congr 1
 simp;omega
theorem ie {d:Dig} {done new:List Mvd} {q:Nat} (h:q < new.length):(P6 d done new q).set (done.length+q) { new[q]with patch:=d }=P6 d done new (q+1):=by
 unfold P6
 rw[A07 _ _ (by omega),A07 _ _ (by simp;omega),A7 h,Au,AV,Br h]
 have:done.length+q - done.length - (List.map (fun e:Mvd=>{ e with patch:=d }) (new.take q)).length=0:=by simp;omega
 rw[this]
 rfl
theorem ae (s:List Sto) (t:CD) (id:Dig) (Q:List (List Int)) (tq:CD) (ms:List Mta) (tm:CD) (hv:Bx s) (hg:GK s=false) (z:P2 Q ms) (hr: ∀ l∈Q,l.length≤1000000) (hml:ms.length≤1000000):
  C9 Tryz.prog 23 [.slice (s.map eSto) t,.agg (eDig id),.slice (Q.map Jz) tq,.slice (ms.map FG) tm] (.tuple [.slice ((KY s id Q ms).1.map eSto) .ro,.slice ((KY s id Q ms).2.1.map eDig) .ro,.raw (.int .i64 (KY s id Q ms).2.2)]):=⟨by
 have hsl:=hv.close.1.1
 have hQl:=z.parts
 have cn:=fun u=>ZL s t [id] u hv
 have co:=fun u=>ZF s t [id] u (by omega)
 cases hp:getS s id with
 |none=>
  have cg:=fun t=>ln s id t
  rw[hp]at cg
  have e:KY s id Q ms=([],[],7):=by unfold KY;rw[hp]
  rw[e]
  refine Av Tryz.func23 Tryz.ntmps23 rfl (rs:= [.tmp 8,.tmp 9,.tmp 10]) rfl rfl fun hb LF=>?_
  refine wz fun b11=>?_
  refine B2 11 ?_
  refine wf ?_
  exact NI (x:= .slice [] .nil) (y:= .slice [] .nil) (.tuple3 (.ro _ _) (.ro _ _) (.refl _))
 |some p=>
 have cg: ∀ t,C9 Tryz.prog 40 [.slice (s.map eSto) t,.agg (eDig id)] (.tuple [.agg (Ba p),.raw (.bool true)]):=fun t=>by
  have:=ln s id t
  rw[hp]at this
  exact this
 have hx:(⟨id,p⟩:Sto)∈s:=Rn hp
 have hb0:E4 p=false:=hv.close.1.2 _ hx
 obtain⟨_,_,g1,g2,gch⟩:=EF hb0
 have hcf:=fun t=>gF p.changes.length Q t (by omega) (by omega) hr
 have hcb: ∀ t,C9 Tryz.prog 68 [.agg (Ba p),.slice (Q.map Jz) t] (.raw (.bool (!Jy Q p.changes))):=fun t=>UX hv hx Q t (by omega) hr
 have i1:Ay (E4 p=false):=⟨hb0⟩
 rw[YC hp]
 refine Av Tryz.func23 Tryz.ntmps23 rfl (rs:= [.tmp 8,.tmp 9,.tmp 10]) rfl rfl fun hb LF=>?_
 refine wz fun b11=>?_
 refine B2 11 ?_
 refine wf ?_
 refine AO (fun h1=>?_) (fun h1=>?_)
 ·rw[if_pos h1]
  refine wf ?_
  exact NI (x:= .slice [] .nil) (y:= .slice [] .nil) (.tuple3 (.ro _ _) (.ro _ _) (.refl _))
 rw[if_neg (by simp[h1])]
 refine wf ?_
 refine BG [(57,.raw (.bool (decide (Ed p.changes.length [] Q=false∨ms.length≠Q.length)))),(0,.slice (s.map eSto) t),(2,.slice (Q.map Jz) tq),(3,.slice (ms.map FG) tm),(5,.pt (eDig id) 0),(11,.pt (Ba p) 0)] (LF) ?_ ?_
 ·repeat' (first|(refine A6 (fun h=>?_) (fun h=>?_)<;>refine wf ?_)|(refine AR (fun h=>?_) (fun h=>?_)<;>refine wf ?_)|(refine AO (fun h=>?_) (fun h=>?_)<;>refine wf ?_)|(refine Ao (fun h=>?_) (fun h=>?_)<;>(have h2:=h;(try simp only[AA,A8,AF,AJ]at h2);refine wf ?_)))
  all_goals (refine⟨⟨Bh (by rfl) ?_,rfl,rfl,rfl,rfl,rfl⟩,.refl _⟩;first|(simp_all;done)|(simp_all;omega))
 refine wf ?_
 refine A6 (fun h2=>?_) (fun h2=>?_)
 ·rw[if_pos h2]
  refine wf ?_
  exact NI (x:= .slice [] .nil) (y:= .slice [] .nil) (.tuple3 (.ro _ _) (.ro _ _) (.refl _))
 rw[if_neg h2]
 have hQ:Ed p.changes.length [] Q=true:=by
  cases hq:Ed p.changes.length [] Q with
  |true=>rfl
  |false=>exact absurd (.inl hq) h2
 have hmq:ms.length=Q.length:=Cf fun k=>h2 (.inr k)
 have hpq:KL (ED Q) p.changes.length:=LG hQ
 refine wf ?_
 refine AO (fun h3=>?_) (fun h3=>?_)
 ·rw[if_pos (by simpa using h3)]
  refine wf ?_
  exact NI (x:= .slice [] .nil) (y:= .slice [] .nil) (.tuple3 (.ro _ _) (.ro _ _) (.refl _))
 have h3':Jy Q p.changes=false:=by simpa using h3
 rw[if_neg (by simp[h3'])]
 have hs8:=(KH hg).1
 have hgx:=(KH hg).2 _ hx
 have a0:J1 s ⟨id,p⟩ (Gf s [id]) []:=Sq hv hx (by simpa using h1)
 have hzl:((ED Q).zip ms).length=Q.length:=by rw[List.length_zip,Ir];omega
 have hn0:(BL p).length≤8:=by
  have:=Ei (IK p).nodup (fun d hd=>hv.close.2 _ hx d hd)
  unfold ids at this
  rw[AQ]at this
  omega
 obtain⟨W,hW⟩: ∃ W,W=Wa ⟨id,p⟩ ((ED Q).zip ms) (Gf s [id]) [] (BL p) []:=⟨_,rfl⟩
 rw[←hW]
 refine wf ?_
 refine EC 32 ?_
 refine AZ (σ:=S29) (fun k=>I29 s ⟨id,p⟩ Q ms W k) (fun k=>Q.length - k.i) (fun k=> [(2,.slice (Q.map Jz) tq),(3,.slice (ms.map FG) tm),(5,.pt (eDig id) 0),(11,.pt (Ba p) 0),(13,.slice (k.t.map eSto) .ro),(14,.slice (k.is.map eDig) k.ti),(15,.slice (k.deps.map eDig) .ro),(16,.slice (k.done.map eMvd) k.dt),(17,.raw (.int .i64 k.i))]) (fun k=> .tok k.ti k.is.length 32::LF) ⟨0,Gf s [id],[],.nil,BL p,[],.nil⟩ ⟨by dsimp only;omega,hW.symm,a0,rfl,by dsimp only;omega,fun e he=>absurd he Aa,by simp⟩ ⟨rfl,rfl,rfl,rfl,rfl,rfl,rfl,rfl,rfl⟩ (.refl _) ?_
 rintro⟨i,T,is,ti,deps,done,dt⟩ ⟨hle,hI,hA,hlen,hdep,hok,hdl⟩
 dsimp only at hle hI hA hlen hdep hok hdl ⊢
 refine wf ?_
 refine A6 (fun hc=>?_) (fun hc=>?_)
 ·have hlt:i < Q.length:=by omega
  have hltm:i < ms.length:=by omega
  have hltP:i < (ED Q).length:=by rw[Ir];exact hlt
  have hQk:=dP hQ hlt
  have hdr:((ED Q).zip ms).drop i=((ED Q)[i],ms[i])::((ED Q).zip ms).drop (i+1):=by
   rw[Br (by omega),List.getElem_zip]
  have hnd:((ED Q)[i]).Nodup:=(hpq.asc _ (AH hltP)).imp fun h=>Nat.ne_of_lt h
  have hll:=hpq.lt _ (AH hltP)
  have hmt:=z.metas _ (AH hltm)
  rw[hdr,Wa]at hI
  dsimp only at hI
  obtain⟨l,hl⟩: ∃ l,l=(ED Q)[i]:=⟨_,rfl⟩
  rw[←hl]at hQk hnd hll hI
  have hbig:E4 (K6 ⟨id,p⟩ deps done l ms[i])=false:=fL hgx.1 hgx.2 (by omega) hnd hll hmt.1 hmt.2
  have hpc:=(Jj hgx.1).2.2.2.1
  dsimp only at hpc
  have hl20:l.length≤20:=by
   have:=Ei hnd (u:=List.range p.changes.length) fun c hc=>BZ.2 (hll c hc)
   rw[Fy]at this
   omega
  have hql:(Q[i]).length=l.length:=by rw[hQk,AQ]
  have hlT:=hA.len
  have hstep:=hA.step (p:=K6 ⟨id,p⟩ deps done l ms[i]) hbig (by omega)
  refine wn ?_
  refine FM [17,18] (by decide+kernel) ?_
  refine Ar 0 ?_
  refine Ar 1 ?_
  refine Ar 2 ?_
  refine Ar 3 ?_
  refine Ar 4 ?_
  refine Ar 5 ?_
  refine Ar 6 ?_
  refine Ar 7 ?_
  refine Ar 8 ?_
  refine Ar 9 ?_
  refine Ar 10 ?_
  refine Ar 11 ?_
  refine Ar 12 ?_
  refine Ar 13 ?_
  refine Ar 14 ?_
  refine Ar 15 ?_
  refine Ar 16 (hq:=fun _=>by refine YZ (hZ:=rz) (c0:= [.str ms[i].author]) (c1:= [.str ms[i].message]) (c2:= [.raw (.int .i64 ms[i].time)]) (c3:= [.slice (deps.map eDig) .ro]) (r0:= [.str ms[i].author,.str [],.raw (.int .i64 0),.slice [] .ro,.slice [] .nil]) (r1:= [.str ms[i].author,.str ms[i].message,.raw (.int .i64 0),.slice [] .ro,.slice [] .nil]) (r2:=UK ms[i] [] [] .nil) (r3:=UK ms[i] deps [] .nil) (hP0:=⟨rfl,by simp⟩) (hP1:=⟨rfl,by simp⟩) (hP2:=⟨rfl,by simp⟩) (hP3:=⟨rfl,by simp⟩) (Cw.one (c:= .str ms[i].author) Di.out) (Cw.one (c:= .str ms[i].message) Di.out) (Cw.one (c:= .raw (.int .i64 ms[i].time)) Di.out) (Cw.one (c:= .slice (deps.map eDig) .ro) Di.out) rfl rfl rfl rfl ?_;refine AE ?_;exact⟨Ch _ _ _,rfl⟩) ?_
  refine Ad 1 17 ?_
  refine CA fun b18=>?_
  refine AE ?_
  refine Ad 0 18 ?_
  refine Nv (new:=UK ms[i] deps [] .nil) (hf:=⟨oo _ _ _ _⟩) rfl rfl .here rfl (by simp) ?_
  refine AE ?_
  refine CN (by decide+kernel) ?_
  repeat(refine DT ?_)
  refine CK (by kernel_rfl) ?_
  refine Wv (α:=Mvd) (vf:=fun _=> []) fun v0 hv0=>?_
  have hr0:Fv 108 67 v0 [] []:=jb hv0
  refine wf ?_
  refine TB (f:=eMvd) (m:=done) (R:= []) (LF:= .box b18 40 (UK ms[i] deps [] .nil):: .tok ti is.length 32::LF) (fun R'=> .box b18 40 (UK ms[i] deps [] .nil):: .tok ti is.length 32::(R'++LF)) rfl rfl hr0 (.refl _) (fun R'=>An.symm) (by simp only[Ae];omega) (by simp only[Ae];omega) fun v2 R2 hv2=>?_
  rw[BB]at hv2
  refine wf ?_
  refine EC 139 ?_
  refine AZ (σ:=J29) (fun k=>K29 ⟨id,p⟩ done l k) (fun k=>l.length - k.j) (fun k=> [(2,.slice (Q.map Jz) tq),(3,.slice (ms.map FG) tm),(5,.pt (eDig id) 0),(11,.pt (Ba p) 0),(13,.slice (T.map eSto) .ro),(14,.slice (is.map eDig) ti),(15,.slice (deps.map eDig) .ro),(16,.slice (done.map eMvd) dt),(17,.raw (.int .i64 i)),(18,.raw (.pointer (some ⟨b18,0,none⟩))),(19,.raw k.v),(20,.raw (.int .i64 k.n)),(21,.raw (.int .i64 k.j))]) (fun k=> .tok k.tg (k.cs).length 139:: .box b18 40 (UK ms[i] deps k.cs k.tg):: .tok ti is.length 32::(k.R++LF)) ⟨0,done,v2,R2,0,[],.nil⟩ ⟨by dsimp only;omega,rfl,⟨by dsimp only;omega,by dsimp only;omega⟩,hok,hv2,rfl,rfl⟩ ⟨rfl,rfl,rfl,rfl,rfl,rfl,rfl,rfl,rfl,rfl,rfl,rfl,rfl⟩ (.refl _) ?_
  clear hv2 hr0 hv0
  rintro⟨j,mv,v,R,n,cs,tg⟩ ⟨hj,hK,hn0,hokm,hR,hml,hcl⟩
  dsimp only at hj hK hn0 hokm hR hml hcl ⊢
  refine wf ?_
  refine A6 (fun hc2=>?_) (fun hc2=>?_)
  ·have hjl:j < l.length:=by omega
   have hjq:j < (Q[i]).length:=by omega
   have hel:(Q[i])[j]=(l[j]:Int):=by simp[hQk]
   have hlj:l[j] < p.changes.length:=hll _ (AH hjl)
   have hch:=AH hlj
   have hgd:p.changes.getD l[j] Chg.zero=p.changes[l[j]]:=by simp[List.getD,hlj]
   have hchx:p.changes[((Q[i])[j]).toNat]'(by rw[hel];exact hlj)=p.changes[l[j]]:=by simp[hel]
   have hfs:Cg p.changes l[j]≤16200∧Jo p.changes[l[j]]≤16200:=by
    have h1:=(EG hb0).1
    have h2:=(HC (JG (hv.id _ hx).1).1).cnt
    dsimp only at h2
    unfold NL at h2
    have h3:=HS hlj
    have h4:=EU p.changes (show l[j]+1≤p.changes.length by omega)
    omega
   have cf:C9 Tryz.prog 70 [.agg (Ba p),.raw (.int .i64 (Q[i])[j])] (.raw (.int .i64 (Cg p.changes l[j]:Int))):=by
    rw[hel];exact UF hv hx hlj
   have i7:Ay ((p.changes[l[j]]).lines.length≤2000∧0≤(Cg p.changes l[j]:Int)∧(Cg p.changes l[j]:Int)≤1000000000):=⟨by have:=(gch _ hch).lines;omega,by omega,by omega⟩
   have hcnt:=Oj p.changes[l[j]] (Cg p.changes l[j])
   refine wn ?_
   refine FM [11,12] (by decide+kernel) ?_
   refine Ar 0 ?_
   refine Ar 1 ?_
   refine Ar 2 ?_
   refine Ar 3 ?_
   refine Ar 4 ?_
   refine Ar 5 ?_
   refine Ar 6 ?_
   refine Ar 7 ?_
   refine Ar 8 ?_
   refine Ar 9 ?_
   refine Ar 10 ?_
   refine Ad 1 11 ?_
   refine CA fun b22=>?_
   refine AE ?_
   refine Ad 0 12 ?_
   refine wo ?_
   refine AE ?_
   refine CN (by decide+kernel) ?_
   refine B2 22 ?_
   refine IB [(2,.slice (Q.map Jz) tq),(3,.slice (ms.map FG) tm),(5,.pt (eDig id) 0),(11,.pt (Ba p) 0),(13,.slice (T.map eSto) .ro),(14,.slice (is.map eDig) ti),(15,.slice (deps.map eDig) .ro),(16,.slice (done.map eMvd) dt),(17,.raw (.int .i64 i)),(18,.raw (.pointer (some ⟨b18,0,none⟩))),(19,.raw v),(20,.raw (.int .i64 n)),(21,.raw (.int .i64 j)),(22,.pt (eChg p.changes[l[j]]) 0)] ⟨rfl,rfl,rfl,rfl,rfl,rfl,rfl,rfl,rfl,rfl,rfl,rfl,rfl,congrArg (fun c=>PV.pt (eChg c) 0) hchx⟩ (.refl _) ?_
   refine wn ?_
   refine BX 9 ?_ ?_
   ·decide+kernel
   refine wf ?_
   refine TB (f:=eMvd) (m:= [(⟨id,Cg p.changes l[j],(Cg p.changes l[j]:Int)+((Df p.changes[l[j]] (Cg p.changes l[j])).length:Nat),Dig.zero,n⟩:Mvd)]) (R:=R) (LF:= .tok tg cs.length 139:: .box b18 40 (UK ms[i] deps cs tg):: .tok ti is.length 32::LF) (fun R'=> .tok tg cs.length 139:: .box b18 40 (UK ms[i] deps cs tg):: .tok ti is.length 32::(R'++LF)) rfl rfl hR Tb (fun R'=>Tb.symm) (by simp only[AQ,AN,Ae];omega) (by simp only[AQ,AN,Ae];omega) fun v3 R3 hv3=>?_
   rw[←Au]at hv3
   obtain⟨mv2,hmv2⟩: ∃ mv2,mv2=mv++ [(⟨id,Cg p.changes l[j],(Cg p.changes l[j]:Int)+((Df p.changes[l[j]] (Cg p.changes l[j])).length:Nat),Dig.zero,n⟩:Mvd)]:=⟨_,rfl⟩
   rw[←hmv2]at hv3
   have hmv2l:mv2.length=mv.length+1:=by rw[hmv2];simp
   have hok2:xC mv2:=fun e he=>by
    rw[hmv2]at he
    rcases Ah.1 he with he|he
    ·exact hokm e he
    ·rw[Aj.1 he]
     dsimp only
     rw[hcnt]
     omega
   rw[hcnt]at hmv2
   refine wn ?_
   refine BX 7 ?_ ?_
   ·decide+kernel
   refine wf ?_
   refine L6 (xs:= [.tmp 148,.tmp 149,.tmp 150]) R3 (.tok tg cs.length 139:: .box b18 40 (UK ms[i] deps cs tg):: .tok ti is.length 32::LF) (.agg (eChg (LV (gM mv2 id) p.changes[l[j]]))) (f:=71) (cs:= []) (C4 _) rfl rfl Tb (Yf p.changes[l[j]] id mv2 v3 R3 hv3 hok2 (by omega) (by have:=(gch _ hch).over;omega)) ?_
   refine aO fun v'=>?_
   refine Fp (ay:= .slice ((cs++ [(LV (gM mv2 id) p.changes[l[j]])]).map eChg) v') (UK ms[i] deps (cs++ [(LV (gM mv2 id) p.changes[l[j]])]) v') rfl rfl Di.out rfl (by simp) ?_
   refine wf ?_
   refine wf ?_
   refine⟨⟨j+1,mv2,v3,R3,n+((Df p.changes[l[j]] (Cg p.changes l[j])).length:Nat),cs++ [(LV (gM mv2 id) p.changes[l[j]])],v'⟩,⟨by dsimp only;omega,?_,⟨by dsimp only;omega,by dsimp only;rw[hcnt];omega⟩,hok2,hv3,by dsimp only;omega,by simp[hcl]⟩,by dsimp only;omega,⟨rfl,rfl,rfl,rfl,rfl,rfl,rfl,rfl,rfl,rfl,rfl,rfl,rfl⟩,.refl _⟩
   dsimp only
   rw[A7 hjl,CB,hK,Bz,Lj]
   unfold GJ
   dsimp only
   rw[hgd,hcnt,←hmv2]
  ·rw[AB (by omega)]at hK
   have hpr:K6 ⟨id,p⟩ deps done l ms[i]=⟨(ms[i]).author,(ms[i]).message,(ms[i]).time,deps,cs⟩:=by unfold K6;rw[hK]
   obtain⟨q,hqd⟩: ∃ q,q=K6 ⟨id,p⟩ deps done l ms[i]:=⟨_,rfl⟩
   rw[←hqd]at hI hbig hstep hpr
   have ca: ∀ p',p'=q→ ∀ u,C9 Tryz.prog 43 [.slice (T.map eSto) u,.agg (Ba p')] (.tuple [.slice ((Ec T q).1.map eSto) .ro,.agg (eDig (Ec T q).2.1),.raw (.int .i64 (Ec T q).2.2)]):=fun p' e u=>by
    have i6:Ay (E4 q=false):=⟨hbig⟩
    have i8:Ay (Gw T):=⟨hA.val.close.1⟩
    subst e
    exact uo T _ u
   have ca:=ca _ hpr.symm
   obtain⟨⟨T1,d1,e1⟩,hRA⟩: ∃ A,A=Ec T q:=⟨_,rfl⟩
   rw[←hRA]at ca hI hstep
   dsimp only at ca hI hstep
   refine wz fun b26=>?_
   refine B2 26 ?_
   refine wn ?_
   refine AR (fun h5=>?_) (fun h5=>?_)
   ·rw[if_pos h5]at hI
    rw[←hI]
    refine wf ?_
    exact NI (x:= .slice [] .nil) (y:= .slice [] .nil) (.tuple3 (.ro _ _) (.ro _ _) (.refl _)) (hs:= .cons _ (.cons _ (.cons _ (DC _ _))))
   rw[if_neg (by simp[h5])]at hI
   obtain⟨new,hnew,hnl⟩:=RB id p.changes l (done,0,[])
   rw[hK]at hnew
   dsimp only at hnew
   obtain⟨⟨o,cc,rfl⟩,_⟩:=hR.slice
   rw[AQ]at hR ⊢
   refine wf ?_
   refine AZ (σ:=Nat × List Res) (fun k=>k.1≤new.length∧Fv 108 67 (.slice o mv.length cc) ((P6 d1 done new k.1).map eMvd) k.2) (fun k=>new.length - k.1) (fun k=> [(2,.slice (Q.map Jz) tq),(3,.slice (ms.map FG) tm),(5,.pt (eDig id) 0),(11,.pt (Ba p) 0),(14,.slice (is.map eDig) ti),(15,.slice (deps.map eDig) .ro),(17,.raw (.int .i64 i)),(19,.raw (.slice o mv.length cc)),(25,.slice (T1.map eSto) .ro),(26,.pt (eDig d1) 0),(28,.raw (.int .i64 ((done.length+k.1:Nat):Int)))]) (fun k=> .tok ti is.length 32::(k.2++LF)) (0,R) ⟨by simp,by rw[show P6 d1 done new 0=mv by rw[hnew];unfold P6;simp];exact hR⟩ ⟨rfl,rfl,rfl,rfl,rfl,rfl,rfl,rfl,rfl,rfl,rfl⟩ (.cons _ (.cons _ (.refl _))) ?_
   clear hR
   rintro⟨q5,R5⟩ ⟨hq5,hR⟩
   dsimp only at hq5 hR ⊢
   refine wf ?_
   refine IH rfl ?_
   refine wf ?_
   refine A6 (fun hc5=>?_) (fun hc5=>?_)
   ·have hltq:q5 < new.length:=by omega
    obtain⟨xs,hxs⟩: ∃ xs,xs=(P6 d1 done new q5).map eMvd:=⟨_,rfl⟩
    rw[←hxs]at hR
    have hlk:xs.length=mv.length:=by rw[hxs,AQ,YH];omega
    have hel:xs[done.length+q5]'(by omega)=eMvd new[q5]:=by
     subst hxs
     rw[B5,nF hltq]
    obtain⟨r,rest,rfl,rfl,hn,hcl5,hsz,hcc⟩:=hR.inv (by omega)
    have hs:PA (xs.flatten++rest) (0+(done.length+q5)*67) 67 (eMvd new[q5]):=by
     rw[←hel];exact MQ hsz (by omega)
    have hset:xs.set (done.length+q5) (eMvd { new[q5]with patch:=d1 })=(P6 d1 done new (q5+1)).map eMvd:=by
     rw[hxs,←ie hltq,gm]
    have iput:Eg (xs.flatten++rest) (0+(done.length+q5)*67+34) (eDig d1) ((xs.set (done.length+q5) (eMvd { new[q5]with patch:=d1 })).flatten++rest):=nb hs (Uh new[q5] d1) (Qh hsz (by omega) (by simp))
    have hfin:Fv 108 67 (.slice (some ⟨r,0,none⟩) mv.length cc) ((P6 d1 done new (q5+1)).map eMvd) [.box r 108 ((xs.set (done.length+q5) (eMvd { new[q5]with patch:=d1 })).flatten++rest)]:=by
     have hnw: ∀ e∈xs.set (done.length+q5) (eMvd { new[q5]with patch:=d1 }),e.length=67:=fun e he=>by
      rw[hset]at he
      obtain⟨a,_,rfl⟩:=AY.1 he
      simp
     rw[←hset]
     refine .row (by rw[CT,hlk]) hcl5 hnw ?_
     have h1:=Cv hnw
     have h2:=Cv hsz
     rw[CT]at h1
     omega
    generalize xs.flatten++rest=cs5 at*
    rw[J2]
    refine wf ?_
    refine DI (k:=done.length+q5) rfl rfl (by omega) ?_
    refine wf ?_
    exact⟨(q5+1,_),⟨by dsimp only;omega,hfin⟩,by dsimp only;omega,⟨rfl,rfl,rfl,rfl,rfl,rfl,rfl,rfl,rfl,rfl,congrArg (fun n=>PV.raw (.int .i64 n)) (by dsimp only;omega)⟩,.refl _⟩
   ·have hnote:P6 d1 done new q5=QV ⟨id,p⟩ done l d1:=by
     unfold QV P6
     rw[hK]
     dsimp only
     rw[hnew,Ln,AB (by omega),Bu (by omega),BJ]
    rw[hnote]at hR
    refine wf ?_
    refine Gb (f:=eDig) (l:=is) (m:= [d1]) (by rfl) (by rfl) (by simp only[Ax];omega) (by simp only[Ax];omega) (fun t=> .here) fun v'=>?_
    have hnl2:(QV ⟨id,p⟩ done l d1).length=done.length+l.length:=fa
    have i9:Ay (deps.length≤1000000):=⟨by omega⟩
    have hwl:=OZ deps d1
    refine wo ?_
    refine AE ?_
    refine EH BT.symm ?_
    refine IZ 16 hR ⟨by rw[AQ];unfold maxN;omega,by rw[AQ];unfold maxN;omega⟩ (.refl _) rfl ?_
    refine wf ?_
    refine⟨⟨i+1,T1,is++ [d1],v',Ep deps d1,QV ⟨id,p⟩ done l d1,.ro⟩,⟨by dsimp only;omega,hI,(hstep h5).1,by simp[hlen],by dsimp only;omega,fun e he=>?_,by dsimp only;omega⟩,by dsimp only;omega,⟨rfl,rfl,rfl,rfl,rfl,rfl,rfl,rfl,rfl⟩,.refl _⟩
    dsimp only at he
    rw[←hnote]at he
    unfold P6 at he
    rw[AB (by omega),Bu (by omega),BJ]at he
    rcases Ah.1 he with he|he
    ·exact hok e he
    ·obtain⟨e0,h0,rfl⟩:=AY.1 he
     exact hokm e0 (by rw[hnew];exact Dm _ h0)
 ·rw[Bu (by omega),Wa]at hI
  refine wf ?_
  rw[←hI]
  exact NI (x:= .slice (T.map eSto) .ro) (y:= .slice (is.map eDig) ti) (.tuple3 (.refl _) (.ro _ _) (.refl _))⟩
theorem Sp (s:List Sto) (t:CD) (c:iK):C9 Tryz.prog 5 [.slice (s.map eSto) t,.agg (Ky c)] (.raw (.bool true)):=⟨by
 refine Av Tryz.func5 Tryz.ntmps5 rfl (rs:= [.tmp 4]) rfl rfl fun hb LF=>?_
 refine wf ?_
 refine BG [(17,.raw (.bool (!MF s||Pr c))),(0,.slice (s.map eSto) t),(3,.pt (Ky c) 0)] (LF) ?_ ?_
 ·repeat' (first|(refine A6 (fun h=>?_) (fun h=>?_)<;>refine wf ?_)|(refine AR (fun h=>?_) (fun h=>?_)<;>refine wf ?_)|(refine AO (fun h=>?_) (fun h=>?_)<;>refine wf ?_)|(refine Ao (fun h=>?_) (fun h=>?_)<;>(have h2:=h;(try simp only[AA,A8,AF,AJ]at h2);refine wf ?_)))
  all_goals (refine⟨⟨Bh (by rfl) ?_,rfl,rfl⟩,.refl _⟩;first|(simp_all;done)|(simp_all;omega)|grind)
 refine wf ?_
 refine AO (fun h=>?_) (fun h=>?_)
 ·refine wf ?_
  exact Aw (.refl _)
 simp only[CH,AJ]at h
 obtain⟨hf,hgc⟩:=h
 have v:=Lu hf
 have hg:=bp hf
 obtain⟨z,hr,hm⟩:=fu hgc
 have c1:=fun t u w=>YB s t c.id c.parts u c.metas w v hg z (fun l hl=>by have:=hr l hl;omega) (by omega)
 have c2:=fun t u w=>ae s t c.id c.parts u c.metas w v hg z (fun l hl=>by have:=hr l hl;omega) (by omega)
 rw[YE v hg c.id z]at c1
 obtain⟨⟨A1,A2,A3⟩,hA⟩: ∃ A,A=KY s c.id c.parts c.metas:=⟨_,rfl⟩
 rw[←hA]at c1 c2
 dsimp only at c1 c2
 refine wf ?_
 refine BG [(4,.raw (.bool (true))),(0,.slice (s.map eSto) t)] (LF) ?_ ?_
 ·repeat' (first|(refine A6 (fun h=>?_) (fun h=>?_)<;>refine wf ?_)|(refine AR (fun h=>?_) (fun h=>?_)<;>refine wf ?_)|(refine AO (fun h=>?_) (fun h=>?_)<;>refine wf ?_)|(refine Ao (fun h=>?_) (fun h=>?_)<;>(have h2:=h;(try simp only[AA,A8,AF,AJ]at h2);refine wf ?_)))
  all_goals (refine⟨⟨Bh (by rfl) ?_,rfl⟩,.refl _⟩;first|(simp_all;done)|(simp_all;omega)|grind)
 refine wf ?_
 exact Aw (.refl _)⟩
end Go.Proofs
namespace Go.Proofs
open Go Go.Q Go.ChangeShapes Go.WideShapes Go.ChangeAt Go.WideMaps Go.WideElems Go.RowKit
theorem tJ:Dv Tryz.prog 26 (fun xs=> ∃ x:Mta,xs=FG x):=
 Dv.to (HN (n:=3) (r:= [(9,0),(9,1),(3,2)]) (by kernel_rfl) (by kernel_rfl) (.cons 1 (by kernel_rfl) Tj (.cons 1 (by kernel_rfl) Tj (.cons 1 (by kernel_rfl) Tk (.nil _)))))
  fun xs ⟨_,.cons ⟨a0,e0⟩ (.cons ⟨a1,e1⟩ (.cons ⟨a2,_,e2⟩ .nil)),e⟩=>⟨⟨a0,a1,a2⟩,by subst e0 e1 e2 e;simp[FG,eS]⟩
theorem oE:Dv Tryz.prog 50 (fun xs=> ∃ l:List Mta,xs= [.slice (l.map FG) .ro]):=Dv.list (sz:=3) tJ (fun _=>by simp) (by kernel_rfl) (by kernel_rfl) rfl (by decide) (ble (by kernel_rfl))
theorem tK:Dv Tryz.prog 45 (fun xs=> ∃ l:List Int,xs= [.slice (l.map eI) .ro]):=Dv.list (Dv.to Tk fun _ ⟨n,_,e⟩=>⟨n,e⟩) (fun _=>rfl) (by kernel_rfl) (by kernel_rfl) rfl (by decide) (ble (by kernel_rfl))
theorem oG:Dv Tryz.prog 49 (fun xs=> ∃ l:List (List Int),xs= [.slice (l.map Jz) .ro]):=Dv.list tK (fun _=>rfl) (by kernel_rfl) (by kernel_rfl) rfl (by decide) (ble (by kernel_rfl))
theorem xI:Dv Tryz.prog 53 (fun xs=> ∃ c:iK,xs=Ky c):=
 Dv.to (HN (n:=34) (r:= [(31,0),(49,32),(50,33)]) (by kernel_rfl) (by kernel_rfl) (.cons 32 (by kernel_rfl) dK (.cons 1 (by kernel_rfl) oG (.cons 1 (by kernel_rfl) oE (.nil _)))))
  fun xs ⟨_,.cons ⟨a0,e0⟩ (.cons ⟨a1,e1⟩ (.cons ⟨a2,e2⟩ .nil)),e⟩=>⟨⟨a0,a1,a2⟩,by subst e0 e1 e2 e;simp[Ky]⟩
end Go.Proofs
