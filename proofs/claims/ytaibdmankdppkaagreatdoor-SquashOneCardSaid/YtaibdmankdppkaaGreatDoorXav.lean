/- Contracts of the program: splitting: a reference renamed for a part. -/
import Derived.Test.YtaibdmankdppkaaGreatDoorXau
import Derived.Test.YtaibdmankdppkaaGreatDoorXao
import Derived.Test.YtaibdmankdppkaaGreatDoorXas
import Derived.Test.YtaibdmankdppkaaGreatDoorXaq
import Derived.Test.YtaibdmankdppkaaGreatDoorXar
import Derived.Test.YtaibdmankdppkaaGreatDoorXal
import Derived.Test.YtaibdmankdppkaaGreatDoorXat
import Derived.Test.YtaibdmankdppkaaGreatDoorXag
set_option linter.unusedSimpArgs false
set_option linter.unusedVariables false
set_option maxHeartbeats 8000000
namespace Go.Proofs
open Go Go.Q
attribute [local irreducible] ER AQ H0 BG Fu
def fQ (cs:List Chg) (ns ss:List Int) (is:List Dig) (k:Nat) (y:Ident):Ident:=
 if EY y=true then⟨if ns.getD (E1 cs y.n) 0=(k:Int)then Dig.zero else is.getD (ns.getD (E1 cs y.n) 0).toNat Dig.zero,y.n - DT cs (E1 cs y.n)+ss.getD (E1 cs y.n) 0⟩else y
theorem jM {cs:List Chg} (hk: ∀ c∈cs,1≤c.kind∧c.kind≤7) (hl:cs.length≤1000000) (hf:DT cs cs.length≤1000000000) (p:Pat) (ns ss:List Int) (hns:ns.length=cs.length) (hss:ss.length=cs.length) (hsb: ∀ e∈ss,0≤e∧e≤1000000000) (tf ts ti:CN) (is:List Dig) (bx k:Nat) (y:Ident)
  (hy:EY y=true→y.n≤1000000000∧cs≠ []∧(¬ns.getD (E1 cs y.n) 0=(k:Int)→ ∃ j:Nat,ns.getD (E1 cs y.n) 0=(j:Int)∧j < is.length)):
  BG Tryz.prog 129 [.agg (eIdent y),.pt [.raw (.pointer (some ⟨bx,0,none⟩))] 0,.pt [.raw (.int .i64 (k:Int))] 0] [.box bx 104 (FM p ns (Ec cs) tf ss ts is ti)]
  (fun r L'=>r= .agg (eIdent (fQ cs ns ss is k y))∧L'= [.box bx 104 (FM p ns (Ec cs) tf ss ts is ti)]):=by
 refine CA Tryz.func129 rfl Tryz.ntmps129 (rs:= [.cell 4 65]) rfl rfl fun hb LF=>?_
 rw[B0,B9]
 refine wf ?_
 refine CC fun b4=>?_
 refine wf ?_
 refine AU (fun h=>?_) (fun h=>?_)
 ·have e:fQ cs ns ss is k y=y:=by unfold fQ;rw[if_neg (by simpa using h)]
  rw[e]
  refine wf ?_
  exact⟨trivial,_,_,.cons (.cell 4 65 rfl AF FE.out (by simp)) .nil,.cons _ (.refl _),rfl,rfl⟩
 have ho:EY y=true:=by simpa using h
 have h0:0≤y.n:=by unfold EY at ho;simp at ho;exact ho.2
 obtain⟨hyn,hne,hj⟩:=hy ho
 have hm:=Mu (n:=y.n) hne
 unfold fQ
 rw[if_pos ho]
 have hfm:=FS cs (show E1 cs y.n≤cs.length by omega)
 have hmf:E1 cs y.n < (Ec cs).length:=by rw[Jh];exact hm
 have hmn:E1 cs y.n < ns.length:=by omega
 have hms:E1 cs y.n < ss.length:=by omega
 have e1:ns.getD (E1 cs y.n) 0=ns[E1 cs y.n]:=by simp[List.getD,hmn]
 have e2:ss.getD (E1 cs y.n) 0=ss[E1 cs y.n]:=by simp[List.getD,hms]
 have hsm:=hsb _ (AJ hms)
 have e3:(Ec cs)[E1 cs y.n]=(DT cs (E1 cs y.n):Int):=N3 hmf
 rw[e1]at hj ⊢
 rw[e2]
 refine wf ?_
 refine Q7 (xs:= [.tmp 11,.tmp 12]) [.box bx 104 (FM p ns (Ec cs) tf ss ts is ti)] (.box b4 65 (eIdent Ident.zero)::LF) (.raw (.int .i64 (E1 cs y.n:Int))) (f:=128) (cs:= []) (C5 _) rfl rfl (.swap _ _ _) (VG hk hne hl bx _ tf y h0) ?_
 refine wn ?_
 refine Bp 18 ?_ ?_
 ·decide+kernel
 refine wf ?_
 rw[e3]
 refine A6 (fun h2=>?_) (fun h2=>?_)
 ·rw[if_pos h2]
  refine wf ?_
  exact⟨trivial,_,_,.cons (.cell 4 65 rfl AF FE.out (by simp)) .nil,.cons _ (.refl _),rfl,rfl⟩
 ·rw[if_neg h2]
  obtain⟨j,hje,hjl⟩:=hj h2
  have hjn:(ns[E1 cs y.n]).toNat < is.length:=by omega
  have e4:is.getD (ns[E1 cs y.n]).toNat Dig.zero=is[(ns[E1 cs y.n]).toNat]:=by simp[List.getD,hjn]
  rw[e4]
  refine wn ?_
  refine Bp 15 ?_ ?_
  ·decide+kernel
  refine wf ?_
  exact⟨trivial,_,_,.cons (.cell 4 65 rfl AF FE.out (by simp)) .nil,.cons _ (.refl _),rfl,rfl⟩
end Go.Proofs
namespace Go.Proofs
open Go Go.Q
def NW (Q:List (List Int)) (n:Nat):List Int:=(List.range n).map fun c=>Qn Q (c:Nat)
theorem Wi (Q:List (List Int)) (n:Nat):(NW Q n).length=n:=by simp[NW]
theorem sY {Q:List (List Int)} {n c:Nat} (h:c < n):(NW Q n).getD c 0=Qn Q (c:Nat):=by simp[NW,List.getD,h]
theorem VL {Q:List (List Int)} {n c:Nat} (h:FO n [] Q=true) (hc:c < n):(NW Q n).getD c 0=(Jn (EZ Q) c:Int):=by
 rw[sY hc,SO h hc];rfl
theorem lz {cs:List Chg} {ns:List Int} {k c:Nat} (h:c < k):(H7 cs ns k).getD c 0=(Kq cs ns c (ns.getD c 0).toNat:Int):=by simp[H7,List.getD,h]
theorem kR {cs:List Chg} {Q:List (List Int)} (h:FO cs.length [] Q=true) {c:Nat} (hc:c < cs.length):Kq cs (NW Q cs.length) c ((NW Q cs.length).getD c 0).toNat=S8 (EZ Q) cs c:=by
 unfold Kq S8
 rw[VL h hc,E0]
 congr 2
 refine fp fun d hd=>?_
 have hd:=BW.1 hd
 rw[VL h (by omega),decide_eq_decide]
 omega
theorem wI {cs:List Chg} {Q:List (List Int)} (h:FO cs.length [] Q=true) (hne:cs≠ []) (is:List Dig) (k:Nat) (y:Ident):fQ cs (NW Q cs.length) (H7 cs (NW Q cs.length) cs.length) is k y=fS (EZ Q) cs is k y:=by
 have hm:=Mu (n:=y.n) hne
 unfold fQ fS
 rw[VL h hm,lz hm,kR h hm,E0]
 have e:((Jn (EZ Q) (E1 cs y.n):Int)=(k:Int))=(Jn (EZ Q) (E1 cs y.n)=k):=by rw[eq_iff_iff];omega
 simp only[e]
theorem ly {cs:List Chg} {ns:List Int} {m:Nat} (hm:DT cs cs.length≤m): ∀ e∈H7 cs ns cs.length,0≤e∧e≤m:=by
 intro e he
 unfold H7 at he
 obtain⟨c,hc,rfl⟩:=AO.1 he
 have hc:=BW.1 hc
 have h1:=dI cs ns c (ns.getD c 0).toNat (by omega)
 have h2:=FS cs (show c≤cs.length by omega)
 omega
theorem oC {cs:List Chg} {Q:List (List Int)} (h:FO cs.length [] Q=true):((List.range cs.length).any fun i=>(Ct (cs.getD i Chg.zero)).any fun y=>EY y&&decide ((NW Q cs.length).getD i 0 < (NW Q cs.length).getD (E1 cs y.n) 0))=JM (EZ Q) cs:=by
 unfold JM
 rw[Gz,CB,CB]
 refine exists_congr fun i=>and_congr_right fun hi=>?_
 have hi:=BW.1 hi
 have hne:cs≠ []:=fun e=>by rw[e]at hi;exact absurd hi (Dv _)
 have hf:(fun y=>EY y&&decide ((NW Q cs.length).getD i 0 < (NW Q cs.length).getD (E1 cs y.n) 0))=fun y=>EY y&&decide (Jn (EZ Q) i < Jn (EZ Q) (E1 cs y.n)):=by
  funext y
  congr 1
  rw[VL h hi,VL h (Mu hne),decide_eq_decide]
  omega
 rw[hf]
theorem sh (cs:List Chg):NT cs cs.length=Ec cs:=rfl
end Go.Proofs
namespace Go.Q
open Go
instance xQ (p:Pat) (ns fs:List Int) (tf:CN) (ss:List Int) (ts:CN) (is:List Dig) (ti:CN):XX (FM p ns fs tf ss ts is ti) 0 5 (Ba p):=⟨rfl,Gg rfl⟩
end Go.Q
namespace Go.Proofs
open Go Go.Q
theorem nI {a b c d:Res} {l:List Res}:(a::b::c::d::l).Perm (d::a::b::c::l):=((OZ (a:=b) (b:=c) (c:=d)).cons a).trans (.swap d a (b::c::l))
attribute [local irreducible] ER AQ H0 BG Fu
theorem nK {s:List Sto} (v:Bc s) {x:Sto} (hx:x∈s) (ns ss:List Int) (hns:ns.length=x.patch.changes.length) (hss:ss.length=x.patch.changes.length) (hsb: ∀ e∈ss,0≤e∧e≤1000000000) (tf ts ti:CN) (is:List Dig) (his:is.length≤1000) (bx k:Nat) (l:List Nat) (hll: ∀ c∈l,c < x.patch.changes.length) (hl:l.length≤1000000) (tl:CN) (m:Mta)
  (hy: ∀ c∈l,∀ y∈Ct (x.patch.changes.getD c Chg.zero),EY y=true→ ¬ns.getD (E1 x.patch.changes y.n) 0=(k:Int)→ ∃ j:Nat,ns.getD (E1 x.patch.changes y.n) 0=(j:Int)∧j < is.length):
  BG Tryz.prog 66 [.raw (.pointer (some ⟨bx,0,none⟩)),.raw (.int .i64 (k:Int)),.slice ((l.map fun c:Nat=>(c:Int)).map eI) tl,.agg (Eu m)] [.box bx 104 (FM x.patch ns (Ec x.patch.changes) tf ss ts is ti)]
  (fun r L'=>(∃ tg,r= .agg (gF m (Kh (sortD (Ax x.patch++is))) (l.map fun c=>GP (fQ x.patch.changes ns ss is k) (x.patch.changes.getD c Chg.zero)) tg))∧L'= [.box bx 104 (FM x.patch ns (Ec x.patch.changes) tf ss ts is ti)]):=by
 refine CA Tryz.func66 rfl Tryz.ntmps66 (rs:= [.cell 8 40]) rfl rfl fun hb LF=>?_
 rw[B0,B9]
 refine wf ?_
 refine CC fun b8=>?_
 refine AD ?_
 repeat(refine Da ?_)
 refine CR (by kernel_rfl) ?_
 iterate 6 (refine w1 ?_)
 refine Sj (hZ:=pH) (c0:= [.str m.author]) (c1:= [.str m.message]) (c2:= [.raw (.int .i64 m.time)]) (r0:= [.str m.author,.str [],.raw (.int .i64 0),.raw (.slice none 0 0),.slice [] .nil]) (r1:= [.str m.author,.str m.message,.raw (.int .i64 0),.raw (.slice none 0 0),.slice [] .nil]) (r2:=MJ m (.slice none 0 0) [] .nil) (hP0:=⟨rfl,by simp⟩) (hP1:=⟨rfl,by simp⟩) (hP2:=⟨rfl,by simp⟩) ?_ ?_ ?_ rfl rfl rfl ?_
 ·exact Dm.one (c:= .str m.author) E3.out
 ·exact Dm.one (c:= .str m.message) E3.out
 ·exact Dm.one (c:= .raw (.int .i64 m.time)) E3.out
 refine CC fun b9=>?_
 refine Q4 (new:=MJ m (.slice none 0 0) [] .nil) (hf:=⟨cw rfl⟩) rfl rfl .here rfl (by simp) ?_
 refine AD ?_
 have hb0:=v.close.1.2 x hx
 have i1:B4 (E5 x.patch=false):=⟨hb0⟩
 have hnl:(Ax x.patch).length≤s.length:=by
  have:=FR (Ga x.patch).nodup (fun d hd=>v.close.2 x hx d hd)
  unfold ids at this
  rwa [AR]at this
 have hsl:=v.close.1.1
 refine Da ?_
 refine Cp (σ:=Value × List Res) (fun q=>UQ q.1 (Ax x.patch++is) q.2) (fun q=> [(2,.slice ((l.map fun c:Nat=>(c:Int)).map eI) tl),(4,.pt [.raw (.pointer (some ⟨bx,0,none⟩))] 0),(5,.pt [.raw (.int .i64 (k:Int))] 0),(8,.raw (.pointer (some ⟨b8,0,none⟩))),(9,.raw (.pointer (some ⟨b9,0,none⟩)))]) (fun q=> .box b9 40 (MJ m q.1 [] .nil):: .box b8 40 (Ba Pat.zero):: .box bx 104 (FM x.patch ns (Ec x.patch.changes) tf ss ts is ti)::(q.2++LF)) ?_ ?_
 ·refine wn ?_
  refine GN [3,5,9,10,12] (by decide+kernel) ?_
  refine B6 0 ?_
  refine B6 1 ?_
  refine B6 2 ?_
  refine B6 6 ?_
  refine B6 7 ?_
  refine B6 8 ?_
  refine Cw (fuel:=6) [3,9] (by decide+kernel) (by simp) fun i hi=>?_
  simp only[AH,Ah,or_false]at hi
  rcases hi with rfl|rfl
  ·refine⟨_,rfl,?_⟩
   refine wo ?_
   refine AD ?_
   refine B6 4 ?_
   refine Cw (fuel:=4) [5,9] (by decide+kernel) (by simp) fun i hi=>?_
   simp only[AH,Ah,or_false]at hi
   rcases hi with rfl|rfl
   ·refine⟨_,rfl,?_⟩
    refine Bx (xs:= [.tmp 23]) [] (.box b9 40 (MJ m (.slice none 0 0) [] .nil):: .box b8 40 (Ba Pat.zero):: .box bx 104 (FM x.patch ns (Ec x.patch.changes) tf ss ts is ti)::LF) (fun R'=> .box b9 40 (MJ m (.slice none 0 0) [] .nil):: .box b8 40 (Ba Pat.zero):: .box bx 104 (FM x.patch ns (Ec x.patch.changes) tf ss ts is ti)::(R'++LF)) (f:=57) (cs:= []) (C5 _) rfl rfl (.refl _) _ (Og (Ax x.patch) .ro (by omega)) (fun _=>Dx.symm) fun r R1 ⟨v1,hr,hv1⟩=>?_
    subst hr
    refine AD ?_
    refine Aa 3 9 ?_
    refine wo ?_
    refine AD ?_
    refine Aa 2 10 ?_
    refine Ik (f:=eDig) (l:=Ax x.patch) (m:=is) (R:=R1) (LF:= .box b9 40 (MJ m (.slice none 0 0) [] .nil):: .box b8 40 (Ba Pat.zero):: .box bx 104 (FM x.patch ns (Ec x.patch.changes) tf ss ts is ti)::LF) (fun R'=> .box b9 40 (MJ m (.slice none 0 0) [] .nil):: .box b8 40 (Ba Pat.zero):: .box bx 104 (FM x.patch ns (Ec x.patch.changes) tf ss ts is ti)::(R'++LF)) rfl rfl hv1 Dx (fun R'=>Dx.symm) (by omega) (by omega) fun v2 R2 hv2=>?_
    refine AD ?_
    refine B6 11 ?_
    refine Aa 0 12 ?_
    refine Ho (MJ m v2 [] .nil) rfl rfl hv2.one rfl (by simp) ?_
    refine AD ?_
    refine Cn (by decide+kernel) ?_
    exact⟨(v2,R2),hv2,⟨rfl,rfl,rfl,rfl,rfl⟩,.refl _⟩
   ·refine⟨_,rfl,?_⟩
    refine wo ?_
    refine AD ?_
    refine Aa 3 5 ?_
    refine Bx (xs:= [.tmp 23]) [] (.box b9 40 (MJ m (.slice none 0 0) [] .nil):: .box b8 40 (Ba Pat.zero):: .box bx 104 (FM x.patch ns (Ec x.patch.changes) tf ss ts is ti)::LF) (fun R'=> .box b9 40 (MJ m (.slice none 0 0) [] .nil):: .box b8 40 (Ba Pat.zero):: .box bx 104 (FM x.patch ns (Ec x.patch.changes) tf ss ts is ti)::(R'++LF)) (f:=57) (cs:= []) (C5 _) rfl rfl (.refl _) _ (Og (Ax x.patch) .ro (by omega)) (fun _=>Dx.symm) fun r R1 ⟨v1,hr,hv1⟩=>?_
    subst hr
    refine AD ?_
    refine Aa 2 10 ?_
    refine Ik (f:=eDig) (l:=Ax x.patch) (m:=is) (R:=R1) (LF:= .box b9 40 (MJ m (.slice none 0 0) [] .nil):: .box b8 40 (Ba Pat.zero):: .box bx 104 (FM x.patch ns (Ec x.patch.changes) tf ss ts is ti)::LF) (fun R'=> .box b9 40 (MJ m (.slice none 0 0) [] .nil):: .box b8 40 (Ba Pat.zero):: .box bx 104 (FM x.patch ns (Ec x.patch.changes) tf ss ts is ti)::(R'++LF)) rfl rfl hv1 Dx (fun R'=>Dx.symm) (by omega) (by omega) fun v2 R2 hv2=>?_
    refine AD ?_
    refine B6 11 ?_
    refine Aa 0 12 ?_
    refine Ho (MJ m v2 [] .nil) rfl rfl hv2.one rfl (by simp) ?_
    refine AD ?_
    refine Cn (by decide+kernel) ?_
    exact⟨(v2,R2),hv2,⟨rfl,rfl,rfl,rfl,rfl⟩,.refl _⟩
  ·refine⟨_,rfl,?_⟩
   refine wo ?_
   refine AD ?_
   refine Aa 5 3 ?_
   refine wo ?_
   refine AD ?_
   refine B6 4 ?_
   refine Aa 3 5 ?_
   refine Bx (xs:= [.tmp 23]) [] (.box b9 40 (MJ m (.slice none 0 0) [] .nil):: .box b8 40 (Ba Pat.zero):: .box bx 104 (FM x.patch ns (Ec x.patch.changes) tf ss ts is ti)::LF) (fun R'=> .box b9 40 (MJ m (.slice none 0 0) [] .nil):: .box b8 40 (Ba Pat.zero):: .box bx 104 (FM x.patch ns (Ec x.patch.changes) tf ss ts is ti)::(R'++LF)) (f:=57) (cs:= []) (C5 _) rfl rfl (.refl _) _ (Og (Ax x.patch) .ro (by omega)) (fun _=>Dx.symm) fun r R1 ⟨v1,hr,hv1⟩=>?_
   subst hr
   refine AD ?_
   refine Aa 2 10 ?_
   refine Ik (f:=eDig) (l:=Ax x.patch) (m:=is) (R:=R1) (LF:= .box b9 40 (MJ m (.slice none 0 0) [] .nil):: .box b8 40 (Ba Pat.zero):: .box bx 104 (FM x.patch ns (Ec x.patch.changes) tf ss ts is ti)::LF) (fun R'=> .box b9 40 (MJ m (.slice none 0 0) [] .nil):: .box b8 40 (Ba Pat.zero):: .box bx 104 (FM x.patch ns (Ec x.patch.changes) tf ss ts is ti)::(R'++LF)) rfl rfl hv1 Dx (fun R'=>Dx.symm) (by omega) (by omega) fun v2 R2 hv2=>?_
   refine AD ?_
   refine B6 11 ?_
   refine Aa 0 12 ?_
   refine Ho (MJ m v2 [] .nil) rfl rfl hv2.one rfl (by simp) ?_
   refine AD ?_
   refine Cn (by decide+kernel) ?_
   exact⟨(v2,R2),hv2,⟨rfl,rfl,rfl,rfl,rfl⟩,.refl _⟩
 rintro⟨vd,R⟩ hR
 dsimp only at hR ⊢
 have hlen:(Ax x.patch++is).length≤2000:=by rw[AA];omega
 have hsl2:(sortD (Ax x.patch++is)).length=(Ax x.patch++is).length:=by unfold sortD;rw[DN]
 obtain⟨_,_,g1,g2,gch⟩:=Eh hb0
 have hkd:=v.kinds hx
 have hp:=Gl (IM (v.id x hx).1).1
 have hc16:DT x.patch.changes x.patch.changes.length≤16200:=by rw[←hp.cnt];exact(Ej hb0).1
 obtain⟨l',hl'⟩: ∃ l':List Int,l'=l.map fun c:Nat=>(c:Int):=⟨_,rfl⟩
 have hll':l'.length=l.length:=by rw[hl',AR]
 rw[←hl']
 refine wf ?_
 refine Bx (xs:= [.tmp 32,.func 61]) R (.box b9 40 (MJ m vd [] .nil):: .box b8 40 (Ba Pat.zero):: .box bx 104 (FM x.patch ns (Ec x.patch.changes) tf ss ts is ti)::LF) (fun R'=> .box b9 40 (MJ m vd [] .nil):: .box b8 40 (Ba Pat.zero):: .box bx 104 (FM x.patch ns (Ec x.patch.changes) tf ss ts is ti)::(R'++LF)) (f:=60) (cs:= []) (C5 _) rfl rfl Dx _ (SJ (Ax x.patch++is) vd R hR (by omega)) (fun _=>Dx.symm) fun r L2 ⟨v2,e2,hv2⟩=>?_
 subst e2
 refine wf ?_
 refine Bx (xs:= [.tmp 35]) L2 (.box b9 40 (MJ m v2 [] .nil):: .box b8 40 (Ba Pat.zero):: .box bx 104 (FM x.patch ns (Ec x.patch.changes) tf ss ts is ti)::LF) (fun R'=> .box b9 40 (MJ m v2 [] .nil):: .box b8 40 (Ba Pat.zero):: .box bx 104 (FM x.patch ns (Ec x.patch.changes) tf ss ts is ti)::(R'++LF)) (f:=62) (cs:= []) (C5 _) rfl rfl Dx _ (Pb (sortD (Ax x.patch++is)) v2 L2 hv2 (by omega)) (fun _=>Dx.symm) fun r L3 ⟨hr,hL3⟩=>?_
 subst hr hL3
 refine wo ?_
 refine GJ (ay:= .slice ((Kh (sortD (Ax x.patch++is))).map eDig) .ro) (gF m (Kh (sortD (Ax x.patch++is))) [] .nil) rfl rfl E3.out rfl (by simp) ?_
 refine wf ?_
 refine EP (.swap _ _ _) ?_
 refine EL 139 ?_
 refine Ab (σ:=Nat × List Chg × CN) (fun q=>q.1≤l.length∧q.2.1=(l.take q.1).map fun c=>GP (fQ x.patch.changes ns ss is k) (x.patch.changes.getD c Chg.zero)) (fun q=>l.length - q.1) (fun q=> [(4,.pt [.raw (.pointer (some ⟨bx,0,none⟩))] 0),(5,.pt [.raw (.int .i64 (k:Int))] 0),(8,.raw (.pointer (some ⟨b8,0,none⟩))),(9,.raw (.pointer (some ⟨b9,0,none⟩))),(38,.slice (l'.map eI) tl),(39,.raw (.int .i64 l'.length)),(40,.raw (.int .i64 q.1))]) (fun q=> .tok q.2.2 (q.2.1).length 139:: .box b8 40 (Ba Pat.zero):: .box b9 40 (gF m (Kh (sortD (Ax x.patch++is))) q.2.1 q.2.2):: .box bx 104 (FM x.patch ns (Ec x.patch.changes) tf ss ts is ti)::LF) (0,[],.nil) ⟨by simp,by simp⟩ ⟨rfl,rfl,rfl,rfl,rfl,rfl,rfl⟩ (.refl _) ?_
 rintro⟨j,cs1,tg⟩ ⟨hj,hcs⟩
 dsimp only at hj hcs ⊢
 refine wf ?_
 refine A6 (fun hc=>?_) (fun hc=>?_)
 ·have hjl:j < l.length:=by omega
  have hjl':j < l'.length:=by omega
  have hlj:=hll _ (AJ hjl)
  have hel:l'[j]=(l[j]:Int):=by simp[hl']
  have hl1:cs1.length=j:=by rw[hcs];simp;omega
  have hch:=AJ hlj
  have hgd:x.patch.changes.getD l[j] Chg.zero=x.patch.changes[l[j]]:=by simp[List.getD,hlj]
  have hyj:=hy _ (AJ hjl)
  rw[hgd]at hyj
  refine wn ?_
  refine HH [(4,.pt [.raw (.pointer (some ⟨bx,0,none⟩))] 0),(5,.pt [.raw (.int .i64 (k:Int))] 0),(8,.raw (.pointer (some ⟨b8,0,none⟩))),(9,.raw (.pointer (some ⟨b9,0,none⟩))),(11,.raw (.int .i64 (l[j]:Int))),(38,.slice (l'.map eI) tl),(39,.raw (.int .i64 l'.length)),(40,.raw (.int .i64 j))] ⟨rfl,rfl,rfl,rfl,congrArg (fun e=>PV.raw (.int .i64 e)) hel,rfl,rfl,rfl⟩ (.refl _) ?_
  refine Bp 13 ?_ ?_
  ·decide+kernel
  refine wf ?_
  refine Q7 (xs:= [.tmp 53,.tmp 54]) [.box bx 104 (FM x.patch ns (Ec x.patch.changes) tf ss ts is ti)] (.tok tg cs1.length 139:: .box b8 40 (Ba Pat.zero):: .box b9 40 (gF m (Kh (sortD (Ax x.patch++is))) cs1 tg)::LF) (.agg (eChg (GP (fQ x.patch.changes ns ss is k) x.patch.changes[l[j]]))) (f:=102) (cs:= []) (C5 _) rfl rfl nI (RJ 129 _ (fun _:Unit=> [.box bx 104 (FM x.patch ns (Ec x.patch.changes) tf ss ts is ti)]) (fQ x.patch.changes ns ss is k) (fun _ _=>()) x.patch.changes[l[j]] (fun _ y hy'=>jM hkd (by omega) (by omega) x.patch ns ss hns hss hsb tf ts ti is bx k y fun ho=>⟨by have:=SS v hx hch y hy';omega,fun e=>by rw[e]at hlj;exact absurd hlj (Dv _),hyj y hy' ho⟩) (by have:=(gch _ hch).over;omega) ()) ?_
  refine bW fun v'=>?_
  refine GJ (ay:= .slice ((cs1++ [GP (fQ x.patch.changes ns ss is k) x.patch.changes[l[j]]]).map eChg) v') (gF m (Kh (sortD (Ax x.patch++is))) (cs1++ [GP (fQ x.patch.changes ns ss is k) x.patch.changes[l[j]]]) v') rfl rfl E3.out rfl (by simp) ?_
  refine wf ?_
  refine wf ?_
  refine⟨(j+1,(cs1++ [GP (fQ x.patch.changes ns ss is k) x.patch.changes[l[j]]]),v'),⟨by dsimp only;omega,?_⟩,by dsimp only;omega,⟨rfl,rfl,rfl,rfl,rfl,rfl,rfl⟩,.refl _⟩
  dsimp only
  rw[A7 hjl,An,hcs,List.map_singleton,hgd]
 ·have hcs:cs1=l.map fun c=>GP (fQ x.patch.changes ns ss is k) (x.patch.changes.getD c Chg.zero):=by rw[hcs,AE (by omega)]
  rw[←hcs]
  refine wf ?_
  exact⟨trivial,_,_,.cons (.cell 8 40 rfl (AI _ AF) FE.out (by simp)) .nil,.cons _ (.cons _ (.cons _ (.refl _))),⟨tg,rfl⟩,rfl⟩
theorem nX {n:Nat} {Q:List (List Int)} (h:FO n [] Q=true) {k:Nat} (hk:k < Q.length):Q[k]=((EZ Q)[k]'(by rw[Ka];exact hk)).map fun c:Nat=>(c:Int):=by
 have r:=Mr h
 unfold EZ
 rw[BQ,CK]
 refine(XR _).symm.trans (C6 fun c hc=>?_)
 have:=(r.lt _ (AJ hk) c hc).1
 simp only[id_eq,Function.comp_apply]
 omega
theorem Xi {s:List Sto} {id:Dig} {p:Pat} (hp:getS s id=some p) (Q:List (List Int)) (ms:List Mta):Ha s id Q ms=if KZ s [id]=true then([],[],19)else if FO p.changes.length [] Q=false∨ms.length≠Q.length then([],[],1)else
  if JM (EZ Q) p.changes=true then([],[],9)else SB ⟨id,p⟩ (EZ Q) ((EZ Q).zip ms) (IR s [id]) []:=by unfold Ha;rw[hp]
theorem jL {a:Res} {L M:List Res}:(L++(a::M)).Perm (a::(L++M)):=Bg
theorem Xh (s:List Sto) (t:CN) (id:Dig) (Q:List (List Int)) (tq:CN) (ms:List Mta) (tm:CN) (hv:Bc s) (hg:Ez s=false) (z:Qm Q ms) (hr: ∀ l∈Q,l.length≤1000000) (hml:ms.length≤1000000):
  C9 Tryz.prog 21 [.slice (s.map eSto) t,.agg (eDig id),.slice (Q.map U7) tq,.slice (ms.map Eu) tm] (.tuple [.slice ((Ha s id Q ms).1.map eSto) .ro,.slice ((Ha s id Q ms).2.1.map eDig) .ro,.raw (.int .i64 (Ha s id Q ms).2.2)]):=⟨by
 have hsl:=hv.close.1.1
 have hQl:=z.parts
 have hs8:=(HP hg).1
 have i1:B4 (Bc s):=⟨hv⟩
 have i2:B4 (HY s):=⟨hv.close.1⟩
 have i3:B4 (s.length≤1000):=⟨by omega⟩
 cases hp:getS s id with
 |none=>
  have cg:=fun t=>L9 s t id
  rw[hp]at cg
  have e:Ha s id Q ms=([],[],7):=by unfold Ha;rw[hp]
  rw[e]
  refine Au Tryz.func21 Tryz.ntmps21 rfl (rs:= [.tmp 8,.tmp 9,.tmp 10]) rfl rfl fun hb LF=>?_
  refine wz fun b11=>?_
  refine Ay 11 ?_
  refine wf ?_
  exact Ra (x:= .slice [] .nil) (y:= .slice [] .nil) (.tuple3 (.ro _ _) (.ro _ _) (.refl _))
 |some p=>
 have hx:(⟨id,p⟩:Sto)∈s:=RU hp
 have cg: ∀ t,C9 Tryz.prog 17 [.slice (s.map eSto) t,.agg (eDig id)] (.tuple [.agg (Ba p),.raw (.bool true)]):=fun t=>by
  have:=L9 s t id
  rw[hp]at this
  exact this
 have hb0:E5 p=false:=hv.close.1.2 _ hx
 obtain⟨_,_,g1,g2,gch⟩:=Eh hb0
 have hkd: ∀ c∈p.changes,1≤c.kind∧c.kind≤7:=hv.kinds hx
 have hpf:=Gl (IM (hv.id _ hx).1).1
 have hc16:DT p.changes p.changes.length≤16200:=by
  have:=(Ej hb0).1
  have h2:=hpf.cnt
  dsimp only at h2
  unfold N5 at h2
  omega
 rw[Xi hp]
 refine Au Tryz.func21 Tryz.ntmps21 rfl (rs:= [.tmp 8,.tmp 9,.tmp 10]) rfl rfl fun hb LF=>?_
 refine wz fun b11=>?_
 refine Ay 11 ?_
 refine wf ?_
 refine AU (fun h1=>?_) (fun h1=>?_)
 ·rw[if_pos h1]
  refine wf ?_
  exact Ra (x:= .slice [] .nil) (y:= .slice [] .nil) (.tuple3 (.ro _ _) (.ro _ _) (.refl _))
 rw[if_neg (by simp[h1])]
 refine wf ?_
 refine CV (xs:= [.tmp 39,.tmp 40]) [] LF (f:=63) (cs:= []) (C5 _) rfl rfl (.refl _) _ (WU p.changes.length Q tq (by omega) (by omega) hr) fun r L' ⟨hL,hrr⟩=>?_
 subst hL
 rw[B9]
 rcases hrr with ⟨hr1,hok⟩|⟨b,hr1,hok⟩
 ·subst hr1
  rw[if_pos (.inl hok)]
  refine wf ?_
  exact Ra (x:= .slice [] .nil) (y:= .slice [] .nil) (.tuple3 (.ro _ _) (.ro _ _) (.refl _))
 subst hr1 hok
 have hin:((List.range p.changes.length).map fun c=>Qn Q (c:Nat))=NW Q p.changes.length:=rfl
 rw[hin]
 refine wf ?_
 refine BR [(52,.raw (.bool (decide (FO p.changes.length [] Q=false∨ms.length≠Q.length)))),(0,.slice (s.map eSto) t),(2,.slice (Q.map U7) tq),(3,.slice (ms.map Eu) tm),(11,.pt (Ba p) 0),(13,.slice ([id].map eDig) .ro),(14,.slice ((NW Q p.changes.length).map eI) .ro)] (LF) ?_ ?_
 ·repeat' (first|(refine A6 (fun h=>?_) (fun h=>?_)<;>refine wf ?_)|(refine AX (fun h=>?_) (fun h=>?_)<;>refine wf ?_)|(refine AU (fun h=>?_) (fun h=>?_)<;>refine wf ?_)|(refine Ar (fun h=>?_) (fun h=>?_)<;>(have h2:=h;(try simp only[AB,A8,AG,AL]at h2);refine wf ?_)))
  all_goals (refine⟨⟨C4 (by rfl) ?_,rfl,rfl,rfl,rfl,rfl,rfl⟩,.refl _⟩;first|(simp_all;done)|(simp_all;omega))
 refine wf ?_
 refine A6 (fun h2=>?_) (fun h2=>?_)
 ·rw[if_pos h2]
  refine wf ?_
  exact Ra (x:= .slice [] .nil) (y:= .slice [] .nil) (.tuple3 (.ro _ _) (.ro _ _) (.refl _))
 rw[if_neg h2]
 have hQ:FO p.changes.length [] Q=true:=by
  cases hq:FO p.changes.length [] Q with
  |true=>rfl
  |false=>exact absurd (.inl hq) h2
 have hmq:ms.length=Q.length:=DW fun k=>h2 (.inr k)
 have hpq:KG (EZ Q) p.changes.length:=Kz hQ
 have hrn: ∀ e∈NW Q p.changes.length,0≤e∧e < (Q.length:Int):=fun e he=>by
  unfold NW at he
  obtain⟨c,hc,rfl⟩:=AO.1 he
  have hc:=BW.1 hc
  obtain⟨hk,_⟩:=hpq.mem hc
  rw[Ka]at hk
  have e:Qn Q (c:Nat)=(Jn (EZ Q) c:Int):=SO hQ hc
  rw[e]
  omega
 refine wf ?_
 refine CV (xs:= [.tmp 53,.tmp 54,.tmp 56]) [] LF (f:=64) (cs:= []) (C5 _) rfl rfl (.refl _) _ (TN hv hx (NW Q p.changes.length) (Wi _ _) Q.length (by omega) hrn) fun r L' ⟨bx,tf,ts,hr2,hL2⟩=>?_
 subst hr2 hL2
 rw[B0,B9]
 dsimp only
 rw[sh]
 refine wf ?_
 refine Q7 (xs:= [.tmp 58]) [.box bx 104 (FM p (NW Q p.changes.length) (Ec p.changes) tf (H7 p.changes (NW Q p.changes.length) p.changes.length) ts [] .nil)] LF (.raw (.bool (JM (EZ Q) p.changes))) (f:=65) (cs:= []) (C5 _) rfl rfl (.refl _) (by
  have:=kL hkd (by omega) (fun c hc=>by have:=(gch c hc).over;omega) (NW Q p.changes.length) (Wi _ _) bx (FM p (NW Q p.changes.length) (Ec p.changes) tf (H7 p.changes (NW Q p.changes.length) p.changes.length) ts [] .nil) tf
  rw[oC hQ]at this
  exact this) ?_
 refine wf ?_
 refine AU (fun h3=>?_) (fun h3=>?_)
 ·rw[if_pos h3]
  refine wf ?_
  exact Ra (x:= .slice [] .nil) (y:= .slice [] .nil) (.tuple3 (.ro _ _) (.ro _ _) (.refl _))
 rw[if_neg (by simp[h3])]
 obtain⟨W,hW⟩: ∃ W,W=SB ⟨id,p⟩ (EZ Q) ((EZ Q).zip ms) (IR s [id]) []:=⟨_,rfl⟩
 rw[←hW]
 have h3':JM (EZ Q) p.changes=false:=by simpa using h3
 have ok:HR s ⟨id,p⟩ (EZ Q):=bf hv hx hQ h3'
 have zz:=UY hg hx z
 have a0:KF s ⟨id,p⟩ (IR s [id]) []:=Sb hv hx (by simpa using h1)
 have hzl:((EZ Q).zip ms).length=Q.length:=by rw[List.length_zip,Ka];omega
 have hsb:=ly (cs:=p.changes) (ns:=NW Q p.changes.length) (m:=1000000000) (by omega)
 refine wf ?_
 refine EL 32 ?_
 refine Ab (σ:=Nat × List Sto × List Dig × CN) (fun k=>k.1≤Q.length∧SB ⟨id,p⟩ (EZ Q) (((EZ Q).zip ms).drop k.1) k.2.1 k.2.2.1=W∧KF s ⟨id,p⟩ k.2.1 k.2.2.1∧k.2.2.1.length=k.1) (fun k=>Q.length - k.1) (fun k=> [(2,.slice (Q.map U7) tq),(3,.slice (ms.map Eu) tm),(16,.raw (.pointer (some ⟨bx,0,none⟩))),(17,.slice (k.2.1.map eSto) .ro),(63,.slice (Q.map U7) tq),(64,.raw (.int .i64 Q.length)),(65,.raw (.int .i64 k.1))]) (fun k=> .tok k.2.2.2 k.2.2.1.length 32:: .box bx 104 (FM p (NW Q p.changes.length) (Ec p.changes) tf (H7 p.changes (NW Q p.changes.length) p.changes.length) ts k.2.2.1 k.2.2.2)::LF) (0,IR s [id],[],.nil) ⟨by dsimp only;omega,hW.symm,a0,rfl⟩ ⟨rfl,rfl,rfl,rfl,rfl,rfl,rfl⟩ (.refl _) ?_
 rintro⟨k,T,is,ti⟩ ⟨hk,hI,hA,hlen⟩
 dsimp only at hk hI hA hlen ⊢
 refine wf ?_
 refine A6 (fun hc=>?_) (fun hc=>?_)
 ·have hlt:k < Q.length:=by omega
  have hltm:k < ms.length:=by omega
  have hltP:k < (EZ Q).length:=by rw[Ka];exact hlt
  have hQk:=nX hQ hlt
  have hlk:((EZ Q)[k]).length≤1000000:=by
   have:=hr _ (AJ hlt)
   rw[hQk,AR]at this
   exact this
  have hdr:((EZ Q).zip ms).drop k=((EZ Q)[k],ms[k])::((EZ Q).zip ms).drop (k+1):=by
   rw[CP (by omega),List.getElem_zip]
  have hne:p.changes≠ []:=fun e=>by
   have h5:=hpq.ne _ (AJ hltP)
   obtain⟨c,hc⟩:=List.exists_mem_of_ne_nil _ h5
   have:=hpq.lt _ (AJ hltP) c hc
   rw[e]at this
   exact absurd this (Dv _)
  have hC:(((EZ Q)[k]).map fun c=>GP (fQ p.changes (NW Q p.changes.length) (H7 p.changes (NW Q p.changes.length) p.changes.length) is k) (p.changes.getD c Chg.zero))=((EZ Q)[k]).map fun c=>GP (fS (EZ Q) p.changes is is.length) (p.changes.getD c Chg.zero):=C6 fun c _=>by
   rw[show fQ p.changes (NW Q p.changes.length) (H7 p.changes (NW Q p.changes.length) p.changes.length) is k=fS (EZ Q) p.changes is is.length from funext fun y=>by rw[hlen];exact wI hQ hne is k y]
  have hbig:E5 (Ia ⟨id,p⟩ (EZ Q) is (EZ Q)[k] ms[k])=false:=zz.big ok (e:=((EZ Q)[k],ms[k])) (by rw[Ka];omega) (JO (hdr ▸ AF)) (by simp only[hlen])
  obtain⟨q,hq⟩: ∃ q,q=Ia ⟨id,p⟩ (EZ Q) is (EZ Q)[k] ms[k]:=⟨_,rfl⟩
  have hlT:=hA.len
  have hstep:=hA.step (p:=q) (by rw[hq];exact hbig) (by omega)
  rw[hdr,SB]at hI
  dsimp only at hI
  rw[←hq]at hI
  have i5:B4 (Bc T):=⟨hA.val⟩
  have hq':q=⟨(ms[k]).author,(ms[k]).message,(ms[k]).time,Kh (sortD (Ax p++is)),((EZ Q)[k]).map fun c=>GP (fS (EZ Q) p.changes is is.length) (p.changes.getD c Chg.zero)⟩:=hq
  have ca: ∀ p',p'=q→ ∀ u,C9 Tryz.prog 35 [.slice (T.map eSto) u,.agg (Ba p')] (.tuple [.slice ((FJ T q).1.map eSto) .ro,.agg (eDig (FJ T q).2.1),.raw (.int .i64 (FJ T q).2.2)]):=fun p' e u=>by
   have i6:B4 (E5 q=false):=⟨by rw[hq];exact hbig⟩
   subst e
   exact XN T _ u
  have ca:=ca _ hq'.symm
  obtain⟨⟨T1,d1,e1⟩,hR⟩: ∃ A,A=FJ T q:=⟨_,rfl⟩
  rw[←hR]at ca hI hstep
  dsimp only at ca hI hstep
  refine wf ?_
  refine Bx (xs:= [.tmp 72,.tmp 73,.tmp 74,.tmp 78]) [.box bx 104 (FM p (NW Q p.changes.length) (Ec p.changes) tf (H7 p.changes (NW Q p.changes.length) p.changes.length) ts is ti)] (.tok ti is.length 32::LF) (fun R'=> .tok ti is.length 32::(R'++LF)) (f:=66) (cs:= []) (C5 _) rfl (by rw[←hQk];rfl) (.swap _ _ _) _ (nK hv hx (NW Q p.changes.length) (H7 p.changes (NW Q p.changes.length) p.changes.length) (Wi _ _) (by simp[H7]) hsb tf ts ti is (by omega) bx k (EZ Q)[k] (hpq.lt _ (AJ hltP)) hlk .ro ms[k] (fun c hc y hy ho hne2=>by
   have hcn:=hpq.lt _ (AJ hltP) c hc
   have hinc:Jn (EZ Q) c=k:=Nx hpq.apart hltP hc
   have hm:=VL hQ (Mu (n:=y.n) hne)
   refine⟨_,hm,?_⟩
   rw[hm]at hne2
   have h6:=Bf.1 h3' c (BW.2 hcn)
   rw[Hj]at h6
   have h7:=Bf.1 h6 y hy
   simp only[ho,Fh,AB,hinc]at h7
   omega)) (fun _=>jL) fun r L' ⟨⟨tg,hr3⟩,hL3⟩=>?_
  dsimp only at hr3
  rw[hC]at hr3
  subst hr3 hL3
  rw[B0,B9]
  refine wz fun b21=>?_
  refine Ay 21 ?_
  refine wn ?_
  refine AX (fun h5=>?_) (fun h5=>?_)
  ·rw[if_pos h5]at hI
   rw[←hI]
   refine wf ?_
   exact Ra (x:= .slice [] .nil) (y:= .slice [] .nil) (.tuple3 (.ro _ _) (.ro _ _) (.refl _))
  ·rw[if_neg (by simp[h5])]at hI
   refine wn ?_
   refine GN [5,8,9,12] (by decide+kernel) ?_
   refine B6 0 ?_
   refine B6 1 ?_
   refine B6 2 ?_
   refine B6 3 ?_
   refine B6 4 ?_
   refine B6 6 ?_
   refine B6 7 ?_
   refine Aa 5 5 ?_
   refine wo ?_
   refine AD ?_
   refine Aa 4 8 ?_
   refine Ij (f:=eDig) (l:=is) (m:= [d1]) (by rfl) (by rfl) (by simp only[BA];omega) (by simp only[BA];omega) (fun t=> .here) fun v'=>?_
   refine AD ?_
   refine Aa 3 9 ?_
   refine wo ?_
   refine AD ?_
   refine B6 10 ?_
   refine B6 11 ?_
   refine Aa 0 12 ?_
   refine GJ (ay:= .slice ((is++ [d1]).map eDig) v') (FM p (NW Q p.changes.length) (Ec p.changes) tf (H7 p.changes (NW Q p.changes.length) p.changes.length) ts (is++ [d1]) v') rfl rfl E3.out rfl (by simp) ?_
   refine AD ?_
   refine Cn (by decide+kernel) ?_
   refine wf ?_
   exact⟨(k+1,T1,is++ [d1],v'),⟨by dsimp only;omega,hI,(hstep h5).1,by simp[hlen]⟩,by dsimp only;omega,⟨rfl,rfl,rfl,rfl,rfl,rfl,rfl⟩,.refl _⟩
 ·rw[DB (by omega),SB]at hI
  refine wn ?_
  rw[←hI]
  refine GN [4,5,6,7] (by decide+kernel) ?_
  refine B6 0 ?_
  refine B6 1 ?_
  refine B6 2 ?_
  refine B6 3 ?_
  refine Cw (fuel:=3) [4,5] (by decide+kernel) (by simp) fun i hi=>?_
  simp only[AH,Ah,or_false]at hi
  rcases hi with rfl|rfl
  ·refine⟨_,rfl,?_⟩
   refine wo ?_
   refine AD ?_
   refine Aa 2 5 ?_
   refine wo ?_
   refine AD ?_
   refine Aa 1 6 ?_
   refine wo ?_
   refine AD ?_
   refine Aa 0 7 ?_
   refine wo ?_
   refine AD ?_
   refine Cn (by decide+kernel) ?_
   refine wf ?_
   exact Ra (x:= .slice (T.map eSto) .ro) (y:= .slice (is.map eDig) ti) (.tuple3 (.refl _) (.ro _ _) (.refl _))
  ·refine⟨_,rfl,?_⟩
   refine wo ?_
   refine AD ?_
   refine Aa 2 4 ?_
   refine wo ?_
   refine AD ?_
   refine Aa 1 6 ?_
   refine wo ?_
   refine AD ?_
   refine Aa 0 7 ?_
   refine wo ?_
   refine AD ?_
   refine Cn (by decide+kernel) ?_
   refine wf ?_
   exact Ra (x:= .slice (T.map eSto) .ro) (y:= .slice (is.map eDig) ti) (.tuple3 (.refl _) (.ro _ _) (.refl _))⟩
end Go.Proofs
namespace Go.Q
open Go
structure yf where
 id:Dig
 parts:List (List Int)
 metas:List Mta
def oE (c:yf):List PV:=(eDig c.id)++([.slice ((c.parts).map U7) .ro]++([.slice ((c.metas).map Eu) .ro]))
@[simp] theorem vz (c:yf):(oE c).length=34:=by unfold oE;simp
end Go.Q
namespace Go.Proofs
open Go Go.Q
attribute [local irreducible] ER AQ H0 BG Fu
instance uk:Cq Tryz.prog 26 (Eu Mta.zero):=Cq.of (us:=(Eu Mta.zero).map zv) (by kernel_rfl) (by kernel_rfl)
def Mx (m:Mta):Bool:=decide (60 < m.author.length∨60 < m.message.length)
def Rs (l:List Mta):Bool:=l.any Mx
instance ep (l:List Mta) (t:CN):C9 Tryz.prog 10 [.slice (l.map Eu) t] (.raw (.bool (Rs l))):=⟨by
 refine Au Tryz.func10 Tryz.ntmps10 rfl (rs:= [.tmp 2]) rfl rfl fun hb LF=>?_
 have hlen:l.length≤140737488355328:=(hb (.slice (l.map Eu) t) (by simp)).slice_map
 have hst: ∀ m∈l,m.author.length≤140737488355328∧m.message.length≤140737488355328:=fun m hm=>⟨((hb (.slice (l.map Eu) t) (by simp)).slice_at hm (c:= .str m.author) (by simp[Eu])).str_len,((hb (.slice (l.map Eu) t) (by simp)).slice_at hm (c:= .str m.message) (by simp[Eu])).str_len⟩
 refine wf ?_
 refine Ab (σ:=Nat) (fun k=>k≤l.length∧(l.take k).any Mx=false) (fun k=>l.length - k) (fun k=> [(5,.slice (l.map Eu) t),(6,.raw (.int .i64 l.length)),(7,.raw (.int .i64 k))]) (fun _=>LF) 0 ⟨by omega,by simp⟩ ⟨rfl,rfl,rfl⟩ (.refl _) ?_
 rintro k ⟨hk,hno⟩
 refine wf ?_
 refine A6 (fun hc=>?_) (fun hc=>?_)
 ·have hlt:k < l.length:=by omega
  have hm:=hst _ (AJ hlt)
  have hn: ∀ b,Mx l[k]=b→(l.take (k+1)).any Mx=b:=fun b h=>by
   rw[A7 hlt,Gy,hno];simpa using h
  refine wz fun b4=>?_
  refine Ay 4 ?_
  generalize l[k]=m at*
  refine wf ?_
  refine BR [(20,.raw (.bool (Mx m))),(5,.slice (l.map Eu) t),(6,.raw (.int .i64 l.length)),(7,.raw (.int .i64 k))] (LF) ?_ ?_
  ·repeat' (first|(refine A6 (fun h=>?_) (fun h=>?_)<;>refine wf ?_)|(refine AX (fun h=>?_) (fun h=>?_)<;>refine wf ?_)|(refine AU (fun h=>?_) (fun h=>?_)<;>refine wf ?_)|(refine Ar (fun h=>?_) (fun h=>?_)<;>(have h2:=h;(try simp only[AB,A8,AG,AL]at h2);refine wf ?_)))
   all_goals (refine⟨⟨C4 (by rfl) ?_,rfl,rfl,rfl⟩,.refl _⟩;unfold Mx;first|(simp_all;done)|(simp_all;omega)|grind)
  refine wf ?_
  refine AU (fun h=>?_) (fun h=>?_)
  ·refine wf ?_
   refine Az (.of_eq ?_)
   have:=hn true h
   have e:Rs l=true:=by
    unfold Rs
    rw[←C7 (k+1) l,Gy,this];rfl
   rw[e]
  ·refine wf ?_
   exact⟨k+1,⟨by omega,hn false h⟩,by dsimp only;omega,⟨rfl,rfl,rfl⟩,.refl _⟩
 ·rw[AE (by omega)]at hno
  refine wf ?_
  refine Az (.of_eq ?_)
  unfold Rs
  rw[hno]⟩
end Go.Proofs
namespace Go.Proofs
open Go Go.Q
def Zm:Mta:=⟨[98,111,98],[],0⟩
def ft:Dig:=⟨[201,28,190,149,120,204,145,162,76,176,190,248,179,235,174,253,108,101,45,201,70,169,120,103,60,58,28,92,187,85,25,174],rfl⟩
def rB:Dig:=⟨[95,52,110,140,148,128,50,197,184,155,177,70,110,45,170,42,165,190,242,91,151,230,172,24,3,168,255,62,132,124,150,202],rfl⟩
def yp (d:Dig):Chg:={ Chg.zero with kind:=5,file:=⟨d,0⟩,after:=⟨d,0⟩,before:=⟨d,0⟩,lines:= [[120]] }
def sxP:Pat:=⟨[98,111,98],[],0,[],[yU,yp Dig.zero]⟩
def zB:Pat:=⟨[98,111,98],[],0,[oc],[yp oc]⟩
def sxT:List Sto:= [⟨ft,sxP⟩]
def sxU:List Sto:= [⟨oc,yw⟩,⟨rB,zB⟩]
theorem rA:cR aw2S [bJ,qW] Zm=sxP:=by decide+kernel
theorem yG:yJ aw2S [bJ,qW] Zm=(sxT,ft,0):=by decide+kernel
theorem lp:Zo sxT ft [[0],[1]] [Zm,Zm]=(sxU,[oc,rB],0):=by decide+kernel
theorem lq:Fl sxP=false:=by decide+kernel
theorem ls:Lq sxT=true:=by decide+kernel
theorem lr:Lq sxU=true:=by decide+kernel
theorem Xd:Ez sxT=false:=by decide+kernel
theorem gW:Mh sxU rB oc=true:=by decide+kernel
theorem ur:getS sxT ft=some sxP:=by decide+kernel
attribute [local irreducible] ER AQ H0 BG Fu
theorem nh (xs:List (List PV)) (h:xs= []):Le (.raw (.slice none 0 0)) (.slice xs .nil):=fun g v hv=>by
 subst h;rw[hv.raw_inv];exact .nilN none (by simp)
instance (l:List Int):GI (.slice (l.map eI) .ro) U7 l:=⟨Dm.one (c:= .slice (l.map eI) .ro) E3.out⟩
instance tH:C9 Tryz.prog 11 [] (.raw (.bool true)):=⟨by
 have v0:Bc []:=La ob
 have v1:Bc aw1S:=La oa
 have v2:Bc aw2S:=La oZ
 have vT:Bc sxT:=La ls
 have vU:Bc sxU:=La lr
 have i0:B4 (Bc []):=⟨v0⟩
 have i1:B4 (Bc aw1S):=⟨v1⟩
 have i2:B4 (Bc aw2S):=⟨v2⟩
 have i3:B4 (Bc sxU):=⟨vU⟩
 have g0:B4 (E5 tK=false):=⟨XL dN.1⟩
 have g1:B4 (E5 uU=false):=⟨XL dN.2.1⟩
 have a0:=XN [] tK .nil
 have a1:=fun t=>XN aw1S uU t
 rw[tJ]at a0
 rw[tI]at a1
 dsimp only at a0 a1
 have cs: ∀ t u,C9 Tryz.prog 12 [.slice (aw2S.map eSto) t,.slice ([bJ,qW].map eDig) u,.agg (Eu Zm)] (.tuple [.slice (sxT.map eSto) .ro,.agg (eDig ft),.raw (.int .i64 0)]):=fun t u=>by
  have:=SY aw2S t [bJ,qW] u Zm v2 (by decide) (by decide) (by rw[Ru v2,rA];exact XL lq)
  rw[mA v2,yG]at this
  exact this
 have cg: ∀ t,C9 Tryz.prog 17 [.slice (sxT.map eSto) t,.agg (eDig ft)] (.tuple [.agg (Ba sxP),.raw (.bool true)]):=fun t=>by
  have:=L9 sxT t ft
  rw[ur]at this
  exact this
 have z:Qm [[0],[1]] [Zm,Zm]:=⟨by decide,by decide⟩
 have cp: ∀ t u w,C9 Tryz.prog 21 [.slice (sxT.map eSto) t,.agg (eDig ft),.slice (([[0],[1]]:List (List Int)).map U7) u,.slice ([Zm,Zm].map Eu) w] (.tuple [.slice (sxU.map eSto) .ro,.slice ([oc,rB].map eDig) .ro,.raw (.int .i64 0)]):=fun t u w=>by
  have:=Xh sxT t ft [[0],[1]] u [Zm,Zm] w vT Xd z (by decide) (by decide)
  rw[gf vT Xd ft z,lp]at this
  exact this
 have ck:=fun t=>fm sxU rB oc t
 rw[gW]at ck
 have hl2:sxP.changes.length=2:=rfl
 have hl3: [oc,rB].length=2:=rfl
 refine Au Tryz.func11 Tryz.ntmps11 rfl (rs:= [.tmp 0]) rfl rfl fun hb LF=>?_
 refine wf ?_
 refine CV (xs:= [.const (Value.slice none 0 0),.tmp 19]) [] LF (f:=35) (cs:= []) (C5 _) rfl rfl (.refl _) _ (BG.args (bs:= [.slice (([]:List Sto).map eSto) .nil,.agg (Ba tK)]) rfl (fun i g1 g2=>by
   match i,g1,g2 with
   |0,_,_=>exact nh _ rfl
   |1,_,_=>exact .of_eq rfl
   |m+2,g1,_=>exact absurd g1 (by simp)) a0.out) fun r L' ⟨e1,e2⟩=>?_
 subst e1;rw[e2,B9]
 refine wf ?_
 refine CC fun b2=>?_
 refine wo ?_
 refine AD ?_
 refine Ay 2 ?_
 refine HH [(1,.slice (aw1S.map eSto) .ro),(2,.pt (eDig bJ) 0),(3,.raw (.int .i64 0))] ⟨rfl,rfl,rfl⟩ (.refl _) ?_
 refine wf ?_
 refine CC fun b4=>?_
 refine wo ?_
 refine AD ?_
 refine Ay 4 ?_
 refine HH [(1,.slice (aw1S.map eSto) .ro),(2,.pt (eDig bJ) 0),(3,.raw (.int .i64 0)),(4,.pt (eIdent ⟨bJ,0⟩) 0)] ⟨rfl,rfl,rfl,rfl⟩ (.refl _) ?_
 refine wf ?_
 refine CV (xs:= [.tmp 27,.tmp 34]) [] LF (f:=35) (cs:= []) (C5 _) rfl rfl (.refl _) _ (BG.args (bs:= [.slice ((aw1S:List Sto).map eSto) .ro,.agg (Ba uU)]) rfl (fun i g1 g2=>by
   match i,g1,g2 with
   |0,_,_=>exact .of_eq rfl
   |1,_,_=>exact .of_eq rfl
   |m+2,g1,_=>exact absurd g1 (by simp)) (a1 .ro).out) fun r L' ⟨e1,e2⟩=>?_
 subst e1;rw[e2,B9]
 refine wf ?_
 refine CC fun b5=>?_
 refine wo ?_
 refine AD ?_
 refine Ay 5 ?_
 refine HH [(1,.slice (aw2S.map eSto) .ro),(2,.pt (eDig bJ) 0),(3,.raw (.int .i64 0)),(5,.pt (eDig qW) 0),(6,.raw (.int .i64 0))] ⟨rfl,rfl,rfl,rfl,rfl⟩ (.refl _) ?_
 refine wf ?_
 refine CC fun b7=>?_
 refine wo ?_
 refine AD ?_
 refine Ay 7 ?_
 refine HH [(1,.slice (aw2S.map eSto) .ro),(2,.pt (eDig bJ) 0),(3,.raw (.int .i64 0)),(5,.pt (eDig qW) 0),(6,.raw (.int .i64 0)),(7,.pt (Eu Zm) 0)] ⟨rfl,rfl,rfl,rfl,rfl,rfl⟩ (.refl _) ?_
 refine wf ?_
 refine CC fun b9=>?_
 refine wo ?_
 refine AD ?_
 refine Ay 9 ?_
 refine HH [(3,.raw (.int .i64 0)),(6,.raw (.int .i64 0)),(7,.pt (Eu Zm) 0),(8,.slice (sxT.map eSto) .ro),(9,.pt (eDig ft) 0),(10,.raw (.int .i64 0))] ⟨rfl,rfl,rfl,rfl,rfl,rfl⟩ (.refl _) ?_
 refine wf ?_
 refine CC fun b11=>?_
 refine wo ?_
 refine AD ?_
 refine Ay 11 ?_
 refine HH [(3,.raw (.int .i64 0)),(6,.raw (.int .i64 0)),(7,.pt (Eu Zm) 0),(8,.slice (sxT.map eSto) .ro),(9,.pt (eDig ft) 0),(10,.raw (.int .i64 0)),(11,.pt (Ba sxP) 0),(12,.raw (.bool true))] ⟨rfl,rfl,rfl,rfl,rfl,rfl,rfl,rfl⟩ (.refl _) ?_
 refine wf ?_
 exact Az (y:= .raw (.bool (Mh sxU rB oc))) (.of_eq (by rw[gW])) (hx:=rfl)⟩
theorem je {m:Mta} (h:Rs [m]=false):m.author.length≤60∧m.message.length≤60:=by
 unfold Rs Mx at h
 simp only[Zd,List.any_nil,xG,A8]at h
 omega
theorem au {s:List Sto} (h:Lq s=true):Ez s=false:=by
 unfold Lq at h
 simp only[BJ,AG]at h
 exact h.1
end Go.Proofs
namespace Go.Q
open Go
section
variable {P:Program} {N:Nat} {Q:PPost} {ρ:Env} {L:List Res} {c:Code}
theorem rz (i:Nat) {y:PV} (h:Le (ρ i) y) (k:ER P N c Q (CT ρ i y) L):ER P N c Q ρ L:=
 JF (fun base a w g ha hi=>⟨g,⟨ha.size,ha.defers,fun j=>by
  by_cases e:j=i
  ·subst e;rw[Cu];exact h g _ (ha.slot j)
  ·rw[GX _ _ e];exact ha.slot j⟩,hi,.refl _ _ _,fun b hb _=>hb⟩) k
end
end Go.Q
namespace Go.Proofs
open Go Go.Q
attribute [local irreducible] ER AQ H0 BG Fu
theorem fe (n:Nat):J5 (n+1)=J5 n++ [(n:Int)]:=by simp[J5,E8]
theorem km (n:Nat):(J5 n).length=n:=by simp[J5]
theorem dY {s:List Sto} (v:Bc s) (hg:Ez s=false) {x:Sto} (hx:x∈s) {m:Mta} (ha:m.author.length≤60) (hm:m.message.length≤60):E5 (Ew x.patch m x.patch.deps)=false:=by
 have hj:=VI v hx (l:= [x.id,x.id]) (fun d=>by simp) m
 have:=RM v hg [x.id,x.id] m ha hm
 rw[hj]at this
 exact this
theorem Vw (s:List Sto) (t:CN) (id:Dig) (m:Mta):C9 Tryz.prog 4 [.slice (s.map eSto) t,.agg (eDig id),.agg (Eu m)] (.raw (.bool true)):=⟨by
 have cl: ∀ t,C9 Tryz.prog 10 [.slice [Eu m] t] (.raw (.bool (Rs [m]))):=fun t=>ep [m] t
 refine Au Tryz.func4 Tryz.ntmps4 rfl (rs:= [.tmp 6]) rfl rfl fun hb LF=>?_
 refine wf ?_
 refine BR [(29,.raw (.bool (!Lq s||Rs [m]))),(0,.slice (s.map eSto) t),(4,.pt (eDig id) 0),(5,.pt (Eu m) 0)] (LF) ?_ ?_
 ·repeat' (first|(refine A6 (fun h=>?_) (fun h=>?_)<;>refine wf ?_)|(refine AX (fun h=>?_) (fun h=>?_)<;>refine wf ?_)|(refine AU (fun h=>?_) (fun h=>?_)<;>refine wf ?_)|(refine Ar (fun h=>?_) (fun h=>?_)<;>(have h2:=h;(try simp only[AB,A8,AG,AL]at h2);refine wf ?_)))
  all_goals (refine⟨⟨C4 (by rfl) ?_,rfl,rfl,rfl⟩,.refl _⟩;first|(simp_all;done)|(simp_all;omega)|grind)
 refine wf ?_
 refine AU (fun h=>?_) (fun h=>?_)
 ·refine wf ?_
  exact Az (.refl _)
 simp only[CJ,AL]at h
 obtain⟨hf,hm⟩:=h
 have v:=La hf
 have hg:=au hf
 have hs:=(HP hg).1
 obtain⟨hma,hmm⟩:=je hm
 cases hp:getS s id with
 |none=>
  have cg: ∀ t,C9 Tryz.prog 17 [.slice (s.map eSto) t,.agg (eDig id)] (.tuple [.agg (Ba Pat.zero),.raw (.bool false)]):=fun t=>by
   have:=L9 s t id
   rw[hp]at this
   exact this
  refine wz fun b7=>?_
  refine Ay 7 ?_
  refine wf ?_
  exact Az (.refl _)
 |some p=>
 have hx:(⟨id,p⟩:Sto)∈s:=RU hp
 have hb0:E5 p=false:=v.close.1.2 _ hx
 have i1:B4 (E5 p=false):=⟨hb0⟩
 have hwb:E5 (Ew p m p.deps)=false:=dY v hg hx hma hmm
 have i2:B4 (E5 (Ew p m p.deps)=false):=⟨hwb⟩
 obtain⟨_,_,_,g2,_⟩:=Eh hb0
 have cg: ∀ t,C9 Tryz.prog 17 [.slice (s.map eSto) t,.agg (eDig id)] (.tuple [.agg (Ba p),.raw (.bool true)]):=fun t=>by
  have:=L9 s t id
  rw[hp]at this
  exact this
 have hbj:=RM v hg [id,id] m hma hmm
 have c1:=fun t u=>SY s t [id,id] u m v (by simp) (by omega) hbj
 obtain⟨q1,q2⟩:=mB v hg hx hma hmm
 dsimp only at q1 q2
 obtain⟨⟨A1,A2,A3⟩,hA⟩: ∃ A,A=SA s [id,id] m:=⟨_,rfl⟩
 rw[←hA]at c1 q1 q2
 dsimp only at c1 q1 q2
 refine wz fun b7=>?_
 refine Ay 7 ?_
 refine wf ?_
 refine wz fun b9=>?_
 refine wn ?_
 refine GN [7,9,11] (by decide+kernel) ?_
 refine B6 0 ?_
 refine B6 1 ?_
 refine B6 2 ?_
 refine B6 3 ?_
 refine B6 4 ?_
 refine B6 5 ?_
 refine B6 6 ?_
 refine Aa 4 7 ?_
 refine wo ?_
 refine AD ?_
 refine B6 8 ?_
 refine Aa 2 9 ?_
 refine wo ?_
 refine AD ?_
 refine B6 10 ?_
 refine Aa 0 11 ?_
 refine wo ?_
 refine AD ?_
 refine Cn (by decide+kernel) ?_
 refine HH (L':= .box b9 40 (Ba (Ew p m p.deps))::LF) [(0,.slice (s.map eSto) t),(4,.pt (eDig id) 0),(5,.pt (Eu m) 0),(7,.pt (Ba p) 0),(9,.raw (.pointer (some ⟨b9,0,none⟩)))] ⟨rfl,rfl,rfl,rfl,rfl⟩ (Dz _) ?_
 refine wz fun b11=>?_
 refine Ay 11 ?_
 refine wf ?_
 refine Cp (σ:=Unit) (fun _=>True) (fun _=> [(0,.slice (s.map eSto) t),(4,.pt (eDig id) 0),(5,.pt (Eu m) 0),(7,.pt (Ba p) 0),(9,.raw (.pointer (some ⟨b9,0,none⟩)))]) (fun _=> .box b9 40 (Ba (Ew p m p.deps))::LF) ?_ ?_
 ·refine A6 (fun h0=>?_) (fun h0=>?_)
  ·have cg2: ∀ t,C9 Tryz.prog 17 [.slice (A1.map eSto) t,.agg (eDig A2)] (.tuple [.agg (Ba (Ew p m p.deps)),.raw (.bool true)]):=fun t=>by
    have:=L9 A1 t A2
    rw[q1 h0]at this
    exact this
   refine wz fun b13=>?_
   refine Ay 13 ?_
   refine wf ?_
   refine AX (fun h=>absurd rfl h) (fun _=>?_)
   refine wf ?_
   exact⟨(),trivial,⟨rfl,rfl,rfl,rfl,rfl⟩,.refl _⟩
  ·refine wf ?_
   refine BR [(81,.raw (.bool (decide (A3=1∨A3=7)))),(0,.slice (s.map eSto) t),(4,.pt (eDig id) 0),(5,.pt (Eu m) 0),(7,.pt (Ba p) 0),(9,.raw (.pointer (some ⟨b9,0,none⟩))),(12,.raw (.int .i64 A3))] (.box b9 40 (Ba (Ew p m p.deps))::LF) ?_ ?_
   ·repeat' (first|(refine A6 (fun h=>?_) (fun h=>?_)<;>refine wf ?_)|(refine AX (fun h=>?_) (fun h=>?_)<;>refine wf ?_)|(refine AU (fun h=>?_) (fun h=>?_)<;>refine wf ?_)|(refine Ar (fun h=>?_) (fun h=>?_)<;>(have h2:=h;(try simp only[AB,A8,AG,AL]at h2);refine wf ?_)))
    all_goals (refine⟨⟨C4 (by rfl) ?_,rfl,rfl,rfl,rfl,rfl,rfl⟩,.refl _⟩;first|(simp_all;done)|(simp_all;omega)|grind)
   refine wf ?_
   refine A6 (fun h1=>?_) (fun h1=>?_)
   ·have e1:=q2 h1
    have e2:(CD (Ew p m p.deps)).2=A3:=by
     unfold CD
     rw[if_pos (by rw[←e1];omega),e1]
    have ck: ∀ u:Unit,C9 Tryz.prog 19 [.agg (Ba (Ew p m p.deps))] (.raw (.int .i64 A3)):=fun _=>by
     have:=fo (Ew p m p.deps)
     rw[e2]at this
     exact this
    have ck:=ck ()
    refine wf ?_
    refine BR [(6,.raw (.bool (true))),(0,.slice (s.map eSto) t)] (.box b9 40 (Ba (Ew p m p.deps))::LF) ?_ ?_
    ·repeat' (first|(refine A6 (fun h=>?_) (fun h=>?_)<;>refine wf ?_)|(refine AX (fun h=>?_) (fun h=>?_)<;>refine wf ?_)|(refine AU (fun h=>?_) (fun h=>?_)<;>refine wf ?_)|(refine Ar (fun h=>?_) (fun h=>?_)<;>(have h2:=h;(try simp only[AB,A8,AG,AL]at h2);refine wf ?_)))
     all_goals (refine⟨⟨C4 (by rfl) ?_,rfl⟩,.refl _⟩;first|(simp_all;done)|(simp_all;omega)|grind)
    refine wf ?_
    exact Az (.refl _)
   ·refine wf ?_
    exact⟨(),trivial,⟨rfl,rfl,rfl,rfl,rfl⟩,.refl _⟩
 rintro - -
 refine wf ?_
 refine EL 1 ?_
 refine Ab (σ:=Nat × CN) (fun k=>k.1≤p.changes.length) (fun k=>p.changes.length - k.1) (fun k=> [(0,.slice (s.map eSto) t),(4,.pt (eDig id) 0),(5,.pt (Eu m) 0),(7,.pt (Ba p) 0),(9,.raw (.pointer (some ⟨b9,0,none⟩))),(15,.slice ((J5 k.1).map eI) k.2),(91,.raw (.int .i64 p.changes.length)),(92,.raw (.int .i64 k.1))]) (fun k=> .tok k.2 (J5 k.1).length 1:: .box b9 40 (Ba (Ew p m p.deps))::LF) (0,.nil) (by dsimp only;omega) ⟨rfl,rfl,rfl,rfl,rfl,rfl,rfl,rfl⟩ (.refl _) ?_
 rintro⟨k,tg⟩ hk
 dsimp only at hk ⊢
 have hal:=km k
 refine wf ?_
 refine A6 (fun hc=>?_) (fun hc=>?_)
 ·refine wf ?_
  refine Ij (f:=eI) (l:=J5 k) (m:= [(k:Int)]) (by rfl) (by rfl) (by simp only[BA];omega) (by simp only[BA];omega) (fun t=> .here) fun v'=>?_
  rw[←fe]
  refine wf ?_
  exact⟨(k+1,v'),by dsimp only;omega,by dsimp only;omega,⟨rfl,rfl,rfl,rfl,rfl,rfl,rfl,rfl⟩,.refl _⟩
 obtain rfl:k=p.changes.length:=by omega
 obtain⟨r1,r2⟩:=Zp v hg hx hma hmm
 dsimp only at r1 r2
 have z:Qm [J5 p.changes.length] [m]:=⟨by simp,fun e he=>by rw[Ag.1 he];exact⟨hma,hmm⟩⟩
 have c3:=fun t u w=>Xh s t id [J5 p.changes.length] u [m] w v hg z (fun l hl=>by rw[Ag.1 hl];omega) (by simp)
 obtain⟨⟨B1,B2,B3⟩,hB⟩: ∃ B,B=Ha s id [J5 p.changes.length] [m]:=⟨_,rfl⟩
 rw[←hB]at c3 r1 r2
 dsimp only at c3 r1 r2
 refine rz 15 (.ro _ _) ?_
 refine wf ?_
 refine HH (L':= .box b9 40 (Ba (Ew p m (Ax p)))::LF) [(0,.slice (s.map eSto) t),(4,.pt (eDig id) 0),(5,.pt (Eu m) 0),(7,.pt (Ba p) 0),(9,.raw (.pointer (some ⟨b9,0,none⟩))),(17,.slice (B1.map eSto) .ro),(18,.slice (B2.map eDig) .ro),(19,.raw (.int .i64 B3)),(115,.raw (.bool (!decide (B3=0))))] ⟨rfl,rfl,rfl,rfl,rfl,rfl,rfl,rfl,rfl⟩ (.cons _ (Dz _)) ?_
 refine AX (fun h0=>?_) (fun h0=>?_)
 ·refine wf ?_
  refine BR [(6,.raw (.bool (true))),(0,.slice (s.map eSto) t)] (.box b9 40 (Ba (Ew p m (Ax p)))::LF) ?_ ?_
  ·repeat' (first|(refine A6 (fun h=>?_) (fun h=>?_)<;>refine wf ?_)|(refine AX (fun h=>?_) (fun h=>?_)<;>refine wf ?_)|(refine AU (fun h=>?_) (fun h=>?_)<;>refine wf ?_)|(refine Ar (fun h=>?_) (fun h=>?_)<;>(have h2:=h;(try simp only[AB,A8,AG,AL]at h2);refine wf ?_)))
   all_goals (refine⟨⟨C4 (by rfl) ?_,rfl⟩,.refl _⟩;first|(simp_all;done)|(simp_all;omega)|grind)
  refine wf ?_
  exact Az (.refl _)
 ·obtain⟨d,f1,f2⟩:=r1 h0
  subst f1
  have hl1: [d].length=1:=rfl
  have cg3: ∀ t (h:Int.toNat 0 < [d].length),C9 Tryz.prog 17 [.slice (B1.map eSto) t,.agg (eDig ([d][Int.toNat 0]'h))] (.tuple [.agg (Ba (Ew p m (Ax p))),.raw (.bool true)]):=fun t h=>by
   have:=L9 B1 t d
   rw[f2]at this
   exact this
  refine wz fun b20=>?_
  refine Ay 20 ?_
  refine wf ?_
  refine BR [(6,.raw (.bool (true))),(0,.slice (s.map eSto) t)] (.box b9 40 (Ba (Ew p m (Ax p)))::LF) ?_ ?_
  ·repeat' (first|(refine A6 (fun h=>?_) (fun h=>?_)<;>refine wf ?_)|(refine AX (fun h=>?_) (fun h=>?_)<;>refine wf ?_)|(refine AU (fun h=>?_) (fun h=>?_)<;>refine wf ?_)|(refine Ar (fun h=>?_) (fun h=>?_)<;>(have h2:=h;(try simp only[AB,A8,AG,AL]at h2);refine wf ?_)))
   all_goals (refine⟨⟨C4 (by rfl) ?_,rfl⟩,.refl _⟩;first|(simp_all;done)|(simp_all;omega)|grind)
  refine wf ?_
  exact Az (.refl _)⟩
end Go.Proofs
namespace Go.Proofs
open Go Go.Q Go.ChangeShapes Go.WideShapes Go.ChangeAt Go.WideMaps Go.WideElems Go.RowKit
theorem jW:Dt Tryz.prog 26 (fun xs=> ∃ x:Mta,xs=Eu x):=
 Dt.to (HJ (n:=3) (r:= [(9,0),(9,1),(3,2)]) (by kernel_rfl) (by kernel_rfl) (.cons 1 (by kernel_rfl) TL (.cons 1 (by kernel_rfl) TL (.cons 1 (by kernel_rfl) TM (.nil _)))))
  fun xs ⟨_,.cons ⟨a0,e0⟩ (.cons ⟨a1,e1⟩ (.cons ⟨a2,_,e2⟩ .nil)),e⟩=>⟨⟨a0,a1,a2⟩,by subst e0 e1 e2 e;simp[Eu,eS]⟩
theorem nQ:Dt Tryz.prog 50 (fun xs=> ∃ l:List Mta,xs= [.slice (l.map Eu) .ro]):=Dt.list (sz:=3) jW (fun _=>by simp) (by kernel_rfl) (by kernel_rfl) rfl (by decide) (ble (by kernel_rfl))
theorem sI:Dt Tryz.prog 45 (fun xs=> ∃ l:List Int,xs= [.slice (l.map eI) .ro]):=Dt.list (Dt.to TM fun _ ⟨n,_,e⟩=>⟨n,e⟩) (fun _=>rfl) (by kernel_rfl) (by kernel_rfl) rfl (by decide) (ble (by kernel_rfl))
theorem nR:Dt Tryz.prog 49 (fun xs=> ∃ l:List (List Int),xs= [.slice (l.map U7) .ro]):=Dt.list sI (fun _=>rfl) (by kernel_rfl) (by kernel_rfl) rfl (by decide) (ble (by kernel_rfl))
theorem yr:Dt Tryz.prog 53 (fun xs=> ∃ c:yf,xs=oE c):=
 Dt.to (HJ (n:=34) (r:= [(31,0),(49,32),(50,33)]) (by kernel_rfl) (by kernel_rfl) (.cons 32 (by kernel_rfl) Yd (.cons 1 (by kernel_rfl) nR (.cons 1 (by kernel_rfl) nQ (.nil _)))))
  fun xs ⟨_,.cons ⟨a0,e0⟩ (.cons ⟨a1,e1⟩ (.cons ⟨a2,e2⟩ .nil)),e⟩=>⟨⟨a0,a1,a2⟩,by subst e0 e1 e2 e;simp[oE]⟩
end Go.Proofs
