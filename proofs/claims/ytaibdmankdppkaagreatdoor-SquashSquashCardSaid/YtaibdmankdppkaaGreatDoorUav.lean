/- Contracts of the program: splitting: a reference renamed for a part. -/
import Derived.Test.YtaibdmankdppkaaGreatDoorUau
import Derived.Test.YtaibdmankdppkaaGreatDoorUao
import Derived.Test.YtaibdmankdppkaaGreatDoorUas
import Derived.Test.YtaibdmankdppkaaGreatDoorUaq
import Derived.Test.YtaibdmankdppkaaGreatDoorUar
import Derived.Test.YtaibdmankdppkaaGreatDoorUal
import Derived.Test.YtaibdmankdppkaaGreatDoorUat
import Derived.Test.YtaibdmankdppkaaGreatDoorUan
import Derived.Test.YtaibdmankdppkaaGreatDoorUag
set_option linter.unusedSimpArgs false
set_option linter.unusedVariables false
set_option maxHeartbeats 8000000
namespace Go.Proofs
open Go Go.Q
attribute [local irreducible] Eb AV Ga BG Fu
def fQ (cs:List Chg) (ns ss:List Int) (is:List Dig) (k:Nat) (y:Ident):Ident:=
 if Ef y=true then⟨if ns.getD (E7 cs y.n) 0=(k:Int)then Dig.zero else is.getD (ns.getD (E7 cs y.n) 0).toNat Dig.zero,y.n - DW cs (E7 cs y.n)+ss.getD (E7 cs y.n) 0⟩else y
theorem kC {cs:List Chg} (hk: ∀ c∈cs,1≤c.kind∧c.kind≤7) (hl:cs.length≤1000000) (hf:DW cs cs.length≤1000000000) (p:Pat) (ns ss:List Int) (hns:ns.length=cs.length) (hss:ss.length=cs.length) (hsb: ∀ e∈ss,0≤e∧e≤1000000000) (tf ts ti:C9) (is:List Dig) (bx k:Nat) (y:Ident)
  (hy:Ef y=true→y.n≤1000000000∧cs≠ []∧(¬ns.getD (E7 cs y.n) 0=(k:Int)→ ∃ j:Nat,ns.getD (E7 cs y.n) 0=(j:Int)∧j < is.length)):
  BG Tryz.prog 129 [.agg (eIdent y),.pt [.raw (.pointer (some ⟨bx,0,none⟩))] 0,.pt [.raw (.int .i64 (k:Int))] 0] [.box bx 104 (FP p ns (Ej cs) tf ss ts is ti)]
  (fun r L'=>r= .agg (eIdent (fQ cs ns ss is k y))∧L'= [.box bx 104 (FP p ns (Ej cs) tf ss ts is ti)]):=by
 refine C7 Tryz.func129 rfl Tryz.ntmps129 (rs:= [.cell 4 65]) rfl rfl fun hb LF=>?_
 rw[B2,B7]
 refine wf ?_
 refine Bw fun b4=>?_
 refine wf ?_
 refine AO (fun h=>?_) (fun h=>?_)
 ·have e:fQ cs ns ss is k y=y:=by unfold fQ;rw[if_neg (by simpa using h)]
  rw[e]
  refine wf ?_
  exact⟨trivial,_,_,.cons (.cell 4 65 rfl AI Ek.out (by simp)) .nil,.cons _ (.refl _),rfl,rfl⟩
 have ho:Ef y=true:=by simpa using h
 have h0:0≤y.n:=by unfold Ef at ho;simp at ho;exact ho.2
 obtain⟨hyn,hne,hj⟩:=hy ho
 have hm:=Ou (n:=y.n) hne
 unfold fQ
 rw[if_pos ho]
 have hfm:=Eo cs (show E7 cs y.n≤cs.length by omega)
 have hmf:E7 cs y.n < (Ej cs).length:=by rw[Jh];exact hm
 have hmn:E7 cs y.n < ns.length:=by omega
 have hms:E7 cs y.n < ss.length:=by omega
 have e1:ns.getD (E7 cs y.n) 0=ns[E7 cs y.n]:=by simp[List.getD,hmn]
 have e2:ss.getD (E7 cs y.n) 0=ss[E7 cs y.n]:=by simp[List.getD,hms]
 have hsm:=hsb _ (AG hms)
 have e3:(Ej cs)[E7 cs y.n]=(DW cs (E7 cs y.n):Int):=NC hmf
 rw[e1]at hj ⊢
 rw[e2]
 refine wf ?_
 refine L6 (xs:= [.tmp 11,.tmp 12]) [.box bx 104 (FP p ns (Ej cs) tf ss ts is ti)] (.box b4 65 (eIdent Ident.zero)::LF) (.raw (.int .i64 (E7 cs y.n:Int))) (f:=128) (cs:= []) (Bx _) rfl rfl (.swap _ _ _) (Vk hk hne hl bx _ tf y h0) ?_
 refine wn ?_
 refine Bb 18 ?_ ?_
 ·decide+kernel
 refine wf ?_
 rw[e3]
 refine A7 (fun h2=>?_) (fun h2=>?_)
 ·rw[if_pos h2]
  refine wf ?_
  exact⟨trivial,_,_,.cons (.cell 4 65 rfl AI Ek.out (by simp)) .nil,.cons _ (.refl _),rfl,rfl⟩
 ·rw[if_neg h2]
  obtain⟨j,hje,hjl⟩:=hj h2
  have hjn:(ns[E7 cs y.n]).toNat < is.length:=by omega
  have e4:is.getD (ns[E7 cs y.n]).toNat Dig.zero=is[(ns[E7 cs y.n]).toNat]:=by simp[List.getD,hjn]
  rw[e4]
  refine wn ?_
  refine Bb 15 ?_ ?_
  ·decide+kernel
  refine wf ?_
  exact⟨trivial,_,_,.cons (.cell 4 65 rfl AI Ek.out (by simp)) .nil,.cons _ (.refl _),rfl,rfl⟩
end Go.Proofs
namespace Go.Proofs
open Go Go.Q
def Ni (Q:List (List Int)) (n:Nat):List Int:=(List.range n).map fun c=>R5 Q (c:Nat)
theorem XN (Q:List (List Int)) (n:Nat):(Ni Q n).length=n:=by simp[Ni]
theorem tj {Q:List (List Int)} {n c:Nat} (h:c < n):(Ni Q n).getD c 0=R5 Q (c:Nat):=by simp[Ni,List.getD,h]
theorem Vq {Q:List (List Int)} {n c:Nat} (h:Fw n [] Q=true) (hc:c < n):(Ni Q n).getD c 0=(K5 (En Q) c:Int):=by
 rw[tj hc,Sf h hc];rfl
theorem nA {cs:List Chg} {ns:List Int} {k c:Nat} (h:c < k):(HD cs ns k).getD c 0=(Kz cs ns c (ns.getD c 0).toNat:Int):=by simp[HD,List.getD,h]
theorem lA {cs:List Chg} {Q:List (List Int)} (h:Fw cs.length [] Q=true) {c:Nat} (hc:c < cs.length):Kz cs (Ni Q cs.length) c ((Ni Q cs.length).getD c 0).toNat=Sq (En Q) cs c:=by
 unfold Kz Sq
 rw[Vq h hc,E4]
 congr 2
 refine gw fun d hd=>?_
 have hd:=Ba.1 hd
 rw[Vq h (by omega),decide_eq_decide]
 omega
theorem xj {cs:List Chg} {Q:List (List Int)} (h:Fw cs.length [] Q=true) (hne:cs≠ []) (is:List Dig) (k:Nat) (y:Ident):fQ cs (Ni Q cs.length) (HD cs (Ni Q cs.length) cs.length) is k y=fS (En Q) cs is k y:=by
 have hm:=Ou (n:=y.n) hne
 unfold fQ fS
 rw[Vq h hm,nA hm,lA h hm,E4]
 have e:((K5 (En Q) (E7 cs y.n):Int)=(k:Int))=(K5 (En Q) (E7 cs y.n)=k):=by rw[eq_iff_iff];omega
 simp only[e]
theorem n5 {cs:List Chg} {ns:List Int} {m:Nat} (hm:DW cs cs.length≤m): ∀ e∈HD cs ns cs.length,0≤e∧e≤m:=by
 intro e he
 unfold HD at he
 obtain⟨c,hc,rfl⟩:=AQ.1 he
 have hc:=Ba.1 hc
 have h1:=eO cs ns c (ns.getD c 0).toNat (by omega)
 have h2:=Eo cs (show c≤cs.length by omega)
 omega
theorem pK {cs:List Chg} {Q:List (List Int)} (h:Fw cs.length [] Q=true):((List.range cs.length).any fun i=>(Cw (cs.getD i Chg.zero)).any fun y=>Ef y&&decide ((Ni Q cs.length).getD i 0 < (Ni Q cs.length).getD (E7 cs y.n) 0))=Ko (En Q) cs:=by
 unfold Ko
 rw[H7,Bo,Bo]
 refine exists_congr fun i=>and_congr_right fun hi=>?_
 have hi:=Ba.1 hi
 have hne:cs≠ []:=fun e=>by rw[e]at hi;exact absurd hi (Dy _)
 have hf:(fun y=>Ef y&&decide ((Ni Q cs.length).getD i 0 < (Ni Q cs.length).getD (E7 cs y.n) 0))=fun y=>Ef y&&decide (K5 (En Q) i < K5 (En Q) (E7 cs y.n)):=by
  funext y
  congr 1
  rw[Vq h hi,Vq h (Ou hne),decide_eq_decide]
  omega
 rw[hf]
theorem tx (cs:List Chg):Nb cs cs.length=Ej cs:=rfl
end Go.Proofs
namespace Go.Q
open Go
instance yP (p:Pat) (ns fs:List Int) (tf:C9) (ss:List Int) (ts:C9) (is:List Dig) (ti:C9):Q4 (FP p ns fs tf ss ts is ti) 0 5 (Bh p):=⟨rfl,Gj rfl⟩
end Go.Q
namespace Go.Proofs
open Go Go.Q
theorem oB {a b c d:Res} {l:List Res}:(a::b::c::d::l).Perm (d::a::b::c::l):=((My (a:=b) (b:=c) (c:=d)).cons a).trans (.swap d a (b::c::l))
attribute [local irreducible] Eb AV Ga BG Fu
theorem oD {s:List Sto} (v:Bc s) {x:Sto} (hx:x∈s) (ns ss:List Int) (hns:ns.length=x.patch.changes.length) (hss:ss.length=x.patch.changes.length) (hsb: ∀ e∈ss,0≤e∧e≤1000000000) (tf ts ti:C9) (is:List Dig) (his:is.length≤1000) (bx k:Nat) (l:List Nat) (hll: ∀ c∈l,c < x.patch.changes.length) (hl:l.length≤1000000) (tl:C9) (m:Mta)
  (hy: ∀ c∈l,∀ y∈Cw (x.patch.changes.getD c Chg.zero),Ef y=true→ ¬ns.getD (E7 x.patch.changes y.n) 0=(k:Int)→ ∃ j:Nat,ns.getD (E7 x.patch.changes y.n) 0=(j:Int)∧j < is.length):
  BG Tryz.prog 66 [.raw (.pointer (some ⟨bx,0,none⟩)),.raw (.int .i64 (k:Int)),.slice ((l.map fun c:Nat=>(c:Int)).map eI) tl,.agg (Ed m)] [.box bx 104 (FP x.patch ns (Ej x.patch.changes) tf ss ts is ti)]
  (fun r L'=>(∃ tg,r= .agg (SF m (Kp (sortD (BB x.patch++is))) (l.map fun c=>Gb (fQ x.patch.changes ns ss is k) (x.patch.changes.getD c Chg.zero)) tg))∧L'= [.box bx 104 (FP x.patch ns (Ej x.patch.changes) tf ss ts is ti)]):=by
 refine C7 Tryz.func66 rfl Tryz.ntmps66 (rs:= [.cell 8 40]) rfl rfl fun hb LF=>?_
 rw[B2,B7]
 refine wf ?_
 refine Bw fun b8=>?_
 refine AE ?_
 repeat(refine DP ?_)
 refine CC (by kernel_rfl) ?_
 iterate 6 (refine w1 ?_)
 refine QM (hZ:=qL) (c0:= [.str m.author]) (c1:= [.str m.message]) (c2:= [.raw (.int .i64 m.time)]) (r0:= [.str m.author,.str [],.raw (.int .i64 0),.raw (.slice none 0 0),.slice [] .nil]) (r1:= [.str m.author,.str m.message,.raw (.int .i64 0),.raw (.slice none 0 0),.slice [] .nil]) (r2:=MQ m (.slice none 0 0) [] .nil) (hP0:=⟨rfl,by simp⟩) (hP1:=⟨rfl,by simp⟩) (hP2:=⟨rfl,by simp⟩) ?_ ?_ ?_ rfl rfl rfl ?_
 ·exact DB.one (c:= .str m.author) Dn.out
 ·exact DB.one (c:= .str m.message) Dn.out
 ·exact DB.one (c:= .raw (.int .i64 m.time)) Dn.out
 refine Bw fun b9=>?_
 refine Lq (new:=MQ m (.slice none 0 0) [] .nil) (hf:=⟨eC rfl⟩) rfl rfl .here rfl (by simp) ?_
 refine AE ?_
 have hb0:=v.close.1.2 x hx
 have i1:Aw (E6 x.patch=false):=⟨hb0⟩
 have hnl:(BB x.patch).length≤s.length:=by
  have:=FE (J8 x.patch).nodup (fun d hd=>v.close.2 x hx d hd)
  unfold ids at this
  rwa [AU]at this
 have hsl:=v.close.1.1
 refine DP ?_
 refine Cx (σ:=Value × List Res) (fun q=>V7 q.1 (BB x.patch++is) q.2) (fun q=> [(2,.slice ((l.map fun c:Nat=>(c:Int)).map eI) tl),(4,.pt [.raw (.pointer (some ⟨bx,0,none⟩))] 0),(5,.pt [.raw (.int .i64 (k:Int))] 0),(8,.raw (.pointer (some ⟨b8,0,none⟩))),(9,.raw (.pointer (some ⟨b9,0,none⟩)))]) (fun q=> .box b9 40 (MQ m q.1 [] .nil):: .box b8 40 (Bh Pat.zero):: .box bx 104 (FP x.patch ns (Ej x.patch.changes) tf ss ts is ti)::(q.2++LF)) ?_ ?_
 ·refine wn ?_
  refine GP [3,5,9,10,12] (by decide+kernel) ?_
  refine B3 0 ?_
  refine B3 1 ?_
  refine B3 2 ?_
  refine B3 6 ?_
  refine B3 7 ?_
  refine B3 8 ?_
  refine C4 (fuel:=6) [3,9] (by decide+kernel) (by simp) fun i hi=>?_
  simp only[AF,Aa,or_false]at hi
  rcases hi with rfl|rfl
  ·refine⟨_,rfl,?_⟩
   refine wo ?_
   refine AE ?_
   refine B3 4 ?_
   refine C4 (fuel:=4) [5,9] (by decide+kernel) (by simp) fun i hi=>?_
   simp only[AF,Aa,or_false]at hi
   rcases hi with rfl|rfl
   ·refine⟨_,rfl,?_⟩
    refine C0 (xs:= [.tmp 23]) [] (.box b9 40 (MQ m (.slice none 0 0) [] .nil):: .box b8 40 (Bh Pat.zero):: .box bx 104 (FP x.patch ns (Ej x.patch.changes) tf ss ts is ti)::LF) (fun R'=> .box b9 40 (MQ m (.slice none 0 0) [] .nil):: .box b8 40 (Bh Pat.zero):: .box bx 104 (FP x.patch ns (Ej x.patch.changes) tf ss ts is ti)::(R'++LF)) (f:=57) (cs:= []) (Bx _) rfl rfl (.refl _) _ (Oy (BB x.patch) .ro (by omega)) (fun _=>Dz.symm) fun r R1 ⟨v1,hr,hv1⟩=>?_
    subst hr
    refine AE ?_
    refine Ad 3 9 ?_
    refine wo ?_
    refine AE ?_
    refine Ad 2 10 ?_
    refine Ib (f:=eDig) (l:=BB x.patch) (m:=is) (R:=R1) (LF:= .box b9 40 (MQ m (.slice none 0 0) [] .nil):: .box b8 40 (Bh Pat.zero):: .box bx 104 (FP x.patch ns (Ej x.patch.changes) tf ss ts is ti)::LF) (fun R'=> .box b9 40 (MQ m (.slice none 0 0) [] .nil):: .box b8 40 (Bh Pat.zero):: .box bx 104 (FP x.patch ns (Ej x.patch.changes) tf ss ts is ti)::(R'++LF)) rfl rfl hv1 Dz (fun R'=>Dz.symm) (by omega) (by omega) fun v2 R2 hv2=>?_
    refine AE ?_
    refine B3 11 ?_
    refine Ad 0 12 ?_
    refine Hh (MQ m v2 [] .nil) rfl rfl hv2.one rfl (by simp) ?_
    refine AE ?_
    refine CR (by decide+kernel) ?_
    exact⟨(v2,R2),hv2,⟨rfl,rfl,rfl,rfl,rfl⟩,.refl _⟩
   ·refine⟨_,rfl,?_⟩
    refine wo ?_
    refine AE ?_
    refine Ad 3 5 ?_
    refine C0 (xs:= [.tmp 23]) [] (.box b9 40 (MQ m (.slice none 0 0) [] .nil):: .box b8 40 (Bh Pat.zero):: .box bx 104 (FP x.patch ns (Ej x.patch.changes) tf ss ts is ti)::LF) (fun R'=> .box b9 40 (MQ m (.slice none 0 0) [] .nil):: .box b8 40 (Bh Pat.zero):: .box bx 104 (FP x.patch ns (Ej x.patch.changes) tf ss ts is ti)::(R'++LF)) (f:=57) (cs:= []) (Bx _) rfl rfl (.refl _) _ (Oy (BB x.patch) .ro (by omega)) (fun _=>Dz.symm) fun r R1 ⟨v1,hr,hv1⟩=>?_
    subst hr
    refine AE ?_
    refine Ad 2 10 ?_
    refine Ib (f:=eDig) (l:=BB x.patch) (m:=is) (R:=R1) (LF:= .box b9 40 (MQ m (.slice none 0 0) [] .nil):: .box b8 40 (Bh Pat.zero):: .box bx 104 (FP x.patch ns (Ej x.patch.changes) tf ss ts is ti)::LF) (fun R'=> .box b9 40 (MQ m (.slice none 0 0) [] .nil):: .box b8 40 (Bh Pat.zero):: .box bx 104 (FP x.patch ns (Ej x.patch.changes) tf ss ts is ti)::(R'++LF)) rfl rfl hv1 Dz (fun R'=>Dz.symm) (by omega) (by omega) fun v2 R2 hv2=>?_
    refine AE ?_
    refine B3 11 ?_
    refine Ad 0 12 ?_
    refine Hh (MQ m v2 [] .nil) rfl rfl hv2.one rfl (by simp) ?_
    refine AE ?_
    refine CR (by decide+kernel) ?_
    exact⟨(v2,R2),hv2,⟨rfl,rfl,rfl,rfl,rfl⟩,.refl _⟩
  ·refine⟨_,rfl,?_⟩
   refine wo ?_
   refine AE ?_
   refine Ad 5 3 ?_
   refine wo ?_
   refine AE ?_
   refine B3 4 ?_
   refine Ad 3 5 ?_
   refine C0 (xs:= [.tmp 23]) [] (.box b9 40 (MQ m (.slice none 0 0) [] .nil):: .box b8 40 (Bh Pat.zero):: .box bx 104 (FP x.patch ns (Ej x.patch.changes) tf ss ts is ti)::LF) (fun R'=> .box b9 40 (MQ m (.slice none 0 0) [] .nil):: .box b8 40 (Bh Pat.zero):: .box bx 104 (FP x.patch ns (Ej x.patch.changes) tf ss ts is ti)::(R'++LF)) (f:=57) (cs:= []) (Bx _) rfl rfl (.refl _) _ (Oy (BB x.patch) .ro (by omega)) (fun _=>Dz.symm) fun r R1 ⟨v1,hr,hv1⟩=>?_
   subst hr
   refine AE ?_
   refine Ad 2 10 ?_
   refine Ib (f:=eDig) (l:=BB x.patch) (m:=is) (R:=R1) (LF:= .box b9 40 (MQ m (.slice none 0 0) [] .nil):: .box b8 40 (Bh Pat.zero):: .box bx 104 (FP x.patch ns (Ej x.patch.changes) tf ss ts is ti)::LF) (fun R'=> .box b9 40 (MQ m (.slice none 0 0) [] .nil):: .box b8 40 (Bh Pat.zero):: .box bx 104 (FP x.patch ns (Ej x.patch.changes) tf ss ts is ti)::(R'++LF)) rfl rfl hv1 Dz (fun R'=>Dz.symm) (by omega) (by omega) fun v2 R2 hv2=>?_
   refine AE ?_
   refine B3 11 ?_
   refine Ad 0 12 ?_
   refine Hh (MQ m v2 [] .nil) rfl rfl hv2.one rfl (by simp) ?_
   refine AE ?_
   refine CR (by decide+kernel) ?_
   exact⟨(v2,R2),hv2,⟨rfl,rfl,rfl,rfl,rfl⟩,.refl _⟩
 rintro⟨vd,R⟩ hR
 dsimp only at hR ⊢
 have hlen:(BB x.patch++is).length≤2000:=by rw[AD];omega
 have hsl2:(sortD (BB x.patch++is)).length=(BB x.patch++is).length:=by unfold sortD;rw[DZ]
 obtain⟨_,_,g1,g2,gch⟩:=EY hb0
 have hkd:=v.kinds hx
 have hp:=Ht (Js (v.id x hx).1).1
 have hc16:DW x.patch.changes x.patch.changes.length≤16200:=by rw[←hp.cnt];exact(EB hb0).1
 obtain⟨l',hl'⟩: ∃ l':List Int,l'=l.map fun c:Nat=>(c:Int):=⟨_,rfl⟩
 have hll':l'.length=l.length:=by rw[hl',AU]
 rw[←hl']
 refine wf ?_
 refine C0 (xs:= [.tmp 32,.func 61]) R (.box b9 40 (MQ m vd [] .nil):: .box b8 40 (Bh Pat.zero):: .box bx 104 (FP x.patch ns (Ej x.patch.changes) tf ss ts is ti)::LF) (fun R'=> .box b9 40 (MQ m vd [] .nil):: .box b8 40 (Bh Pat.zero):: .box bx 104 (FP x.patch ns (Ej x.patch.changes) tf ss ts is ti)::(R'++LF)) (f:=60) (cs:= []) (Bx _) rfl rfl Dz _ (Sb (BB x.patch++is) vd R hR (by omega)) (fun _=>Dz.symm) fun r L2 ⟨v2,e2,hv2⟩=>?_
 subst e2
 refine wf ?_
 refine C0 (xs:= [.tmp 35]) L2 (.box b9 40 (MQ m v2 [] .nil):: .box b8 40 (Bh Pat.zero):: .box bx 104 (FP x.patch ns (Ej x.patch.changes) tf ss ts is ti)::LF) (fun R'=> .box b9 40 (MQ m v2 [] .nil):: .box b8 40 (Bh Pat.zero):: .box bx 104 (FP x.patch ns (Ej x.patch.changes) tf ss ts is ti)::(R'++LF)) (f:=62) (cs:= []) (Bx _) rfl rfl Dz _ (Px (sortD (BB x.patch++is)) v2 L2 hv2 (by omega)) (fun _=>Dz.symm) fun r L3 ⟨hr,hL3⟩=>?_
 subst hr hL3
 refine wo ?_
 refine FW (ay:= .slice ((Kp (sortD (BB x.patch++is))).map eDig) .ro) (SF m (Kp (sortD (BB x.patch++is))) [] .nil) rfl rfl Dn.out rfl (by simp) ?_
 refine wf ?_
 refine EO (.swap _ _ _) ?_
 refine EP 139 ?_
 refine AZ (σ:=Nat × List Chg × C9) (fun q=>q.1≤l.length∧q.2.1=(l.take q.1).map fun c=>Gb (fQ x.patch.changes ns ss is k) (x.patch.changes.getD c Chg.zero)) (fun q=>l.length - q.1) (fun q=> [(4,.pt [.raw (.pointer (some ⟨bx,0,none⟩))] 0),(5,.pt [.raw (.int .i64 (k:Int))] 0),(8,.raw (.pointer (some ⟨b8,0,none⟩))),(9,.raw (.pointer (some ⟨b9,0,none⟩))),(38,.slice (l'.map eI) tl),(39,.raw (.int .i64 l'.length)),(40,.raw (.int .i64 q.1))]) (fun q=> .tok q.2.2 (q.2.1).length 139:: .box b8 40 (Bh Pat.zero):: .box b9 40 (SF m (Kp (sortD (BB x.patch++is))) q.2.1 q.2.2):: .box bx 104 (FP x.patch ns (Ej x.patch.changes) tf ss ts is ti)::LF) (0,[],.nil) ⟨by simp,by simp⟩ ⟨rfl,rfl,rfl,rfl,rfl,rfl,rfl⟩ (.refl _) ?_
 rintro⟨j,cs1,tg⟩ ⟨hj,hcs⟩
 dsimp only at hj hcs ⊢
 refine wf ?_
 refine A7 (fun hc=>?_) (fun hc=>?_)
 ·have hjl:j < l.length:=by omega
  have hjl':j < l'.length:=by omega
  have hlj:=hll _ (AG hjl)
  have hel:l'[j]=(l[j]:Int):=by simp[hl']
  have hl1:cs1.length=j:=by rw[hcs];simp;omega
  have hch:=AG hlj
  have hgd:x.patch.changes.getD l[j] Chg.zero=x.patch.changes[l[j]]:=by simp[List.getD,hlj]
  have hyj:=hy _ (AG hjl)
  rw[hgd]at hyj
  refine wn ?_
  refine Ih [(4,.pt [.raw (.pointer (some ⟨bx,0,none⟩))] 0),(5,.pt [.raw (.int .i64 (k:Int))] 0),(8,.raw (.pointer (some ⟨b8,0,none⟩))),(9,.raw (.pointer (some ⟨b9,0,none⟩))),(11,.raw (.int .i64 (l[j]:Int))),(38,.slice (l'.map eI) tl),(39,.raw (.int .i64 l'.length)),(40,.raw (.int .i64 j))] ⟨rfl,rfl,rfl,rfl,congrArg (fun e=>PV.raw (.int .i64 e)) hel,rfl,rfl,rfl⟩ (.refl _) ?_
  refine Bb 13 ?_ ?_
  ·decide+kernel
  refine wf ?_
  refine L6 (xs:= [.tmp 53,.tmp 54]) [.box bx 104 (FP x.patch ns (Ej x.patch.changes) tf ss ts is ti)] (.tok tg cs1.length 139:: .box b8 40 (Bh Pat.zero):: .box b9 40 (SF m (Kp (sortD (BB x.patch++is))) cs1 tg)::LF) (.agg (eChg (Gb (fQ x.patch.changes ns ss is k) x.patch.changes[l[j]]))) (f:=102) (cs:= []) (Bx _) rfl rfl oB (Rh 129 _ (fun _:Unit=> [.box bx 104 (FP x.patch ns (Ej x.patch.changes) tf ss ts is ti)]) (fQ x.patch.changes ns ss is k) (fun _ _=>()) x.patch.changes[l[j]] (fun _ y hy'=>kC hkd (by omega) (by omega) x.patch ns ss hns hss hsb tf ts ti is bx k y fun ho=>⟨by have:=Sl v hx hch y hy';omega,fun e=>by rw[e]at hlj;exact absurd hlj (Dy _),hyj y hy' ho⟩) (by have:=(gch _ hch).over;omega) ()) ?_
  refine aQ fun v'=>?_
  refine FW (ay:= .slice ((cs1++ [Gb (fQ x.patch.changes ns ss is k) x.patch.changes[l[j]]]).map eChg) v') (SF m (Kp (sortD (BB x.patch++is))) (cs1++ [Gb (fQ x.patch.changes ns ss is k) x.patch.changes[l[j]]]) v') rfl rfl Dn.out rfl (by simp) ?_
  refine wf ?_
  refine wf ?_
  refine⟨(j+1,(cs1++ [Gb (fQ x.patch.changes ns ss is k) x.patch.changes[l[j]]]),v'),⟨by dsimp only;omega,?_⟩,by dsimp only;omega,⟨rfl,rfl,rfl,rfl,rfl,rfl,rfl⟩,.refl _⟩
  dsimp only
  rw[A6 hjl,Al,hcs,List.map_singleton,hgd]
 ·have hcs:cs1=l.map fun c=>Gb (fQ x.patch.changes ns ss is k) (x.patch.changes.getD c Chg.zero):=by rw[hcs,AA (by omega)]
  rw[←hcs]
  refine wf ?_
  exact⟨trivial,_,_,.cons (.cell 8 40 rfl (AL _ AI) Ek.out (by simp)) .nil,.cons _ (.cons _ (.cons _ (.refl _))),⟨tg,rfl⟩,rfl⟩
theorem oX {n:Nat} {Q:List (List Int)} (h:Fw n [] Q=true) {k:Nat} (hk:k < Q.length):Q[k]=((En Q)[k]'(by rw[Ke];exact hk)).map fun c:Nat=>(c:Int):=by
 have r:=N1 h
 unfold En
 rw[B4,CU]
 refine(List.map_id _).symm.trans (Cc fun c hc=>?_)
 have:=(r.lt _ (AG hk) c hc).1
 simp only[id_eq,Function.comp_apply]
 omega
theorem YG {s:List Sto} {id:Dig} {p:Pat} (hp:getS s id=some p) (Q:List (List Int)) (ms:List Mta):Mg s id Q ms=if Kd s [id]=true then([],[],19)else if Fw p.changes.length [] Q=false∨ms.length≠Q.length then([],[],1)else
  if Ko (En Q) p.changes=true then([],[],9)else Wg ⟨id,p⟩ (En Q) ((En Q).zip ms) (FG s [id]) []:=by unfold Mg;rw[hp]
theorem kB {a:Res} {L M:List Res}:(L++(a::M)).Perm (a::(L++M)):=BU
theorem ij (s:List Sto) (t:C9) (id:Dig) (Q:List (List Int)) (tq:C9) (ms:List Mta) (tm:C9) (hv:Bc s) (hg:Fv s=false) (z:Si Q ms) (hr: ∀ l∈Q,l.length≤1000000) (hml:ms.length≤1000000):
  C6 Tryz.prog 21 [.slice (s.map eSto) t,.agg (eDig id),.slice (Q.map Ud) tq,.slice (ms.map Ed) tm] (.tuple [.slice ((Mg s id Q ms).1.map eSto) .ro,.slice ((Mg s id Q ms).2.1.map eDig) .ro,.raw (.int .i64 (Mg s id Q ms).2.2)]):=⟨by
 have hsl:=hv.close.1.1
 have hQl:=z.parts
 have hs8:=(KG hg).1
 have i1:Aw (Bc s):=⟨hv⟩
 have i2:Aw (GQ s):=⟨hv.close.1⟩
 have i3:Aw (s.length≤1000):=⟨by omega⟩
 cases hp:getS s id with
 |none=>
  have cg:=fun t=>P1 s t id
  rw[hp]at cg
  have e:Mg s id Q ms=([],[],7):=by unfold Mg;rw[hp]
  rw[e]
  refine Av Tryz.func21 Tryz.ntmps21 rfl (rs:= [.tmp 8,.tmp 9,.tmp 10]) rfl rfl fun hb LF=>?_
  refine wz fun b11=>?_
  refine Au 11 ?_
  refine wf ?_
  exact Ru (x:= .slice [] .nil) (y:= .slice [] .nil) (.tuple3 (.ro _ _) (.ro _ _) (.refl _))
 |some p=>
 have hx:(⟨id,p⟩:Sto)∈s:=Vu hp
 have cg: ∀ t,C6 Tryz.prog 17 [.slice (s.map eSto) t,.agg (eDig id)] (.tuple [.agg (Bh p),.raw (.bool true)]):=fun t=>by
  have:=P1 s t id
  rw[hp]at this
  exact this
 have hb0:E6 p=false:=hv.close.1.2 _ hx
 obtain⟨_,_,g1,g2,gch⟩:=EY hb0
 have hkd: ∀ c∈p.changes,1≤c.kind∧c.kind≤7:=hv.kinds hx
 have hpf:=Ht (Js (hv.id _ hx).1).1
 have hc16:DW p.changes p.changes.length≤16200:=by
  have:=(EB hb0).1
  have h2:=hpf.cnt
  dsimp only at h2
  unfold Nc at h2
  omega
 rw[YG hp]
 refine Av Tryz.func21 Tryz.ntmps21 rfl (rs:= [.tmp 8,.tmp 9,.tmp 10]) rfl rfl fun hb LF=>?_
 refine wz fun b11=>?_
 refine Au 11 ?_
 refine wf ?_
 refine AO (fun h1=>?_) (fun h1=>?_)
 ·rw[if_pos h1]
  refine wf ?_
  exact Ru (x:= .slice [] .nil) (y:= .slice [] .nil) (.tuple3 (.ro _ _) (.ro _ _) (.refl _))
 rw[if_neg (by simp[h1])]
 refine wf ?_
 refine CK (xs:= [.tmp 39,.tmp 40]) [] LF (f:=63) (cs:= []) (Bx _) rfl rfl (.refl _) _ (XD p.changes.length Q tq (by omega) (by omega) hr) fun r L' ⟨hL,hrr⟩=>?_
 subst hL
 rw[B7]
 rcases hrr with ⟨hr1,hok⟩|⟨b,hr1,hok⟩
 ·subst hr1
  rw[if_pos (.inl hok)]
  refine wf ?_
  exact Ru (x:= .slice [] .nil) (y:= .slice [] .nil) (.tuple3 (.ro _ _) (.ro _ _) (.refl _))
 subst hr1 hok
 have hin:((List.range p.changes.length).map fun c=>R5 Q (c:Nat))=Ni Q p.changes.length:=rfl
 rw[hin]
 refine wf ?_
 refine BM [(52,.raw (.bool (decide (Fw p.changes.length [] Q=false∨ms.length≠Q.length)))),(0,.slice (s.map eSto) t),(2,.slice (Q.map Ud) tq),(3,.slice (ms.map Ed) tm),(11,.pt (Bh p) 0),(13,.slice ([id].map eDig) .ro),(14,.slice ((Ni Q p.changes.length).map eI) .ro)] (LF) ?_ ?_
 ·repeat' (first|(refine A7 (fun h=>?_) (fun h=>?_)<;>refine wf ?_)|(refine AR (fun h=>?_) (fun h=>?_)<;>refine wf ?_)|(refine AO (fun h=>?_) (fun h=>?_)<;>refine wf ?_)|(refine Aq (fun h=>?_) (fun h=>?_)<;>(have h2:=h;(try simp only[AB,A8,AH,AK]at h2);refine wf ?_)))
  all_goals (refine⟨⟨Bp (by rfl) ?_,rfl,rfl,rfl,rfl,rfl,rfl⟩,.refl _⟩;first|(simp_all;done)|(simp_all;omega))
 refine wf ?_
 refine A7 (fun h2=>?_) (fun h2=>?_)
 ·rw[if_pos h2]
  refine wf ?_
  exact Ru (x:= .slice [] .nil) (y:= .slice [] .nil) (.tuple3 (.ro _ _) (.ro _ _) (.refl _))
 rw[if_neg h2]
 have hQ:Fw p.changes.length [] Q=true:=by
  cases hq:Fw p.changes.length [] Q with
  |true=>rfl
  |false=>exact absurd (.inl hq) h2
 have hmq:ms.length=Q.length:=DH fun k=>h2 (.inr k)
 have hpq:LQ (En Q) p.changes.length:=O6 hQ
 have hrn: ∀ e∈Ni Q p.changes.length,0≤e∧e < (Q.length:Int):=fun e he=>by
  unfold Ni at he
  obtain⟨c,hc,rfl⟩:=AQ.1 he
  have hc:=Ba.1 hc
  obtain⟨hk,_⟩:=hpq.mem hc
  rw[Ke]at hk
  have e:R5 Q (c:Nat)=(K5 (En Q) c:Int):=Sf hQ hc
  rw[e]
  omega
 refine wf ?_
 refine CK (xs:= [.tmp 53,.tmp 54,.tmp 56]) [] LF (f:=64) (cs:= []) (Bx _) rfl rfl (.refl _) _ (Tj hv hx (Ni Q p.changes.length) (XN _ _) Q.length (by omega) hrn) fun r L' ⟨bx,tf,ts,hr2,hL2⟩=>?_
 subst hr2 hL2
 rw[B2,B7]
 dsimp only
 rw[tx]
 refine wf ?_
 refine L6 (xs:= [.tmp 58]) [.box bx 104 (FP p (Ni Q p.changes.length) (Ej p.changes) tf (HD p.changes (Ni Q p.changes.length) p.changes.length) ts [] .nil)] LF (.raw (.bool (Ko (En Q) p.changes))) (f:=65) (cs:= []) (Bx _) rfl rfl (.refl _) (by
  have:=l5 hkd (by omega) (fun c hc=>by have:=(gch c hc).over;omega) (Ni Q p.changes.length) (XN _ _) bx (FP p (Ni Q p.changes.length) (Ej p.changes) tf (HD p.changes (Ni Q p.changes.length) p.changes.length) ts [] .nil) tf
  rw[pK hQ]at this
  exact this) ?_
 refine wf ?_
 refine AO (fun h3=>?_) (fun h3=>?_)
 ·rw[if_pos h3]
  refine wf ?_
  exact Ru (x:= .slice [] .nil) (y:= .slice [] .nil) (.tuple3 (.ro _ _) (.ro _ _) (.refl _))
 rw[if_neg (by simp[h3])]
 obtain⟨W,hW⟩: ∃ W,W=Wg ⟨id,p⟩ (En Q) ((En Q).zip ms) (FG s [id]) []:=⟨_,rfl⟩
 rw[←hW]
 have h3':Ko (En Q) p.changes=false:=by simpa using h3
 have ok:HY s ⟨id,p⟩ (En Q):=dB hv hx hQ h3'
 have zz:=VJ hg hx z
 have a0:KJ s ⟨id,p⟩ (FG s [id]) []:=YH hv hx (by simpa using h1)
 have hzl:((En Q).zip ms).length=Q.length:=by rw[List.length_zip,Ke];omega
 have hsb:=n5 (cs:=p.changes) (ns:=Ni Q p.changes.length) (m:=1000000000) (by omega)
 refine wf ?_
 refine EP 32 ?_
 refine AZ (σ:=Nat × List Sto × List Dig × C9) (fun k=>k.1≤Q.length∧Wg ⟨id,p⟩ (En Q) (((En Q).zip ms).drop k.1) k.2.1 k.2.2.1=W∧KJ s ⟨id,p⟩ k.2.1 k.2.2.1∧k.2.2.1.length=k.1) (fun k=>Q.length - k.1) (fun k=> [(2,.slice (Q.map Ud) tq),(3,.slice (ms.map Ed) tm),(16,.raw (.pointer (some ⟨bx,0,none⟩))),(17,.slice (k.2.1.map eSto) .ro),(63,.slice (Q.map Ud) tq),(64,.raw (.int .i64 Q.length)),(65,.raw (.int .i64 k.1))]) (fun k=> .tok k.2.2.2 k.2.2.1.length 32:: .box bx 104 (FP p (Ni Q p.changes.length) (Ej p.changes) tf (HD p.changes (Ni Q p.changes.length) p.changes.length) ts k.2.2.1 k.2.2.2)::LF) (0,FG s [id],[],.nil) ⟨by dsimp only;omega,hW.symm,a0,rfl⟩ ⟨rfl,rfl,rfl,rfl,rfl,rfl,rfl⟩ (.refl _) ?_
 rintro⟨k,T,is,ti⟩ ⟨hk,hI,hA,hlen⟩
 dsimp only at hk hI hA hlen ⊢
 refine wf ?_
 refine A7 (fun hc=>?_) (fun hc=>?_)
 ·have hlt:k < Q.length:=by omega
  have hltm:k < ms.length:=by omega
  have hltP:k < (En Q).length:=by rw[Ke];exact hlt
  have hQk:=oX hQ hlt
  have hlk:((En Q)[k]).length≤1000000:=by
   have:=hr _ (AG hlt)
   rw[hQk,AU]at this
   exact this
  have hdr:((En Q).zip ms).drop k=((En Q)[k],ms[k])::((En Q).zip ms).drop (k+1):=by
   rw[CP (by omega),List.getElem_zip]
  have hne:p.changes≠ []:=fun e=>by
   have h5:=hpq.ne _ (AG hltP)
   obtain⟨c,hc⟩:=List.exists_mem_of_ne_nil _ h5
   have:=hpq.lt _ (AG hltP) c hc
   rw[e]at this
   exact absurd this (Dy _)
  have hC:(((En Q)[k]).map fun c=>Gb (fQ p.changes (Ni Q p.changes.length) (HD p.changes (Ni Q p.changes.length) p.changes.length) is k) (p.changes.getD c Chg.zero))=((En Q)[k]).map fun c=>Gb (fS (En Q) p.changes is is.length) (p.changes.getD c Chg.zero):=Cc fun c _=>by
   rw[show fQ p.changes (Ni Q p.changes.length) (HD p.changes (Ni Q p.changes.length) p.changes.length) is k=fS (En Q) p.changes is is.length from funext fun y=>by rw[hlen];exact xj hQ hne is k y]
  have hbig:E6 (J3 ⟨id,p⟩ (En Q) is (En Q)[k] ms[k])=false:=zz.big ok (e:=((En Q)[k],ms[k])) (by rw[Ke];omega) (JJ (hdr ▸ AI)) (by simp only[hlen])
  obtain⟨q,hq⟩: ∃ q,q=J3 ⟨id,p⟩ (En Q) is (En Q)[k] ms[k]:=⟨_,rfl⟩
  have hlT:=hA.len
  have hstep:=hA.step (p:=q) (by rw[hq];exact hbig) (by omega)
  rw[hdr,Wg]at hI
  dsimp only at hI
  rw[←hq]at hI
  have i5:Aw (Bc T):=⟨hA.val⟩
  have hq':q=⟨(ms[k]).author,(ms[k]).message,(ms[k]).time,Kp (sortD (BB p++is)),((En Q)[k]).map fun c=>Gb (fS (En Q) p.changes is is.length) (p.changes.getD c Chg.zero)⟩:=hq
  have ca: ∀ p',p'=q→ ∀ u,C6 Tryz.prog 35 [.slice (T.map eSto) u,.agg (Bh p')] (.tuple [.slice ((Ee T q).1.map eSto) .ro,.agg (eDig (Ee T q).2.1),.raw (.int .i64 (Ee T q).2.2)]):=fun p' e u=>by
   have i6:Aw (E6 q=false):=⟨by rw[hq];exact hbig⟩
   subst e
   exact Xu T _ u
  have ca:=ca _ hq'.symm
  obtain⟨⟨T1,d1,e1⟩,hR⟩: ∃ A,A=Ee T q:=⟨_,rfl⟩
  rw[←hR]at ca hI hstep
  dsimp only at ca hI hstep
  refine wf ?_
  refine C0 (xs:= [.tmp 72,.tmp 73,.tmp 74,.tmp 78]) [.box bx 104 (FP p (Ni Q p.changes.length) (Ej p.changes) tf (HD p.changes (Ni Q p.changes.length) p.changes.length) ts is ti)] (.tok ti is.length 32::LF) (fun R'=> .tok ti is.length 32::(R'++LF)) (f:=66) (cs:= []) (Bx _) rfl (by rw[←hQk];rfl) (.swap _ _ _) _ (oD hv hx (Ni Q p.changes.length) (HD p.changes (Ni Q p.changes.length) p.changes.length) (XN _ _) (by simp[HD]) hsb tf ts ti is (by omega) bx k (En Q)[k] (hpq.lt _ (AG hltP)) hlk .ro ms[k] (fun c hc y hy ho hne2=>by
   have hcn:=hpq.lt _ (AG hltP) c hc
   have hinc:K5 (En Q) c=k:=OC hpq.apart hltP hc
   have hm:=Vq hQ (Ou (n:=y.n) hne)
   refine⟨_,hm,?_⟩
   rw[hm]at hne2
   have h6:=Bl.1 h3' c (Ba.2 hcn)
   rw[Jq]at h6
   have h7:=Bl.1 h6 y hy
   simp only[ho,E5,AB,hinc]at h7
   omega)) (fun _=>kB) fun r L' ⟨⟨tg,hr3⟩,hL3⟩=>?_
  dsimp only at hr3
  rw[hC]at hr3
  subst hr3 hL3
  rw[B2,B7]
  refine wz fun b21=>?_
  refine Au 21 ?_
  refine wn ?_
  refine AR (fun h5=>?_) (fun h5=>?_)
  ·rw[if_pos h5]at hI
   rw[←hI]
   refine wf ?_
   exact Ru (x:= .slice [] .nil) (y:= .slice [] .nil) (.tuple3 (.ro _ _) (.ro _ _) (.refl _))
  ·rw[if_neg (by simp[h5])]at hI
   refine wn ?_
   refine GP [5,8,9,12] (by decide+kernel) ?_
   refine B3 0 ?_
   refine B3 1 ?_
   refine B3 2 ?_
   refine B3 3 ?_
   refine B3 4 ?_
   refine B3 6 ?_
   refine B3 7 ?_
   refine Ad 5 5 ?_
   refine wo ?_
   refine AE ?_
   refine Ad 4 8 ?_
   refine JX (f:=eDig) (l:=is) (m:= [d1]) (by rfl) (by rfl) (by simp only[B9];omega) (by simp only[B9];omega) (fun t=> .here) fun v'=>?_
   refine AE ?_
   refine Ad 3 9 ?_
   refine wo ?_
   refine AE ?_
   refine B3 10 ?_
   refine B3 11 ?_
   refine Ad 0 12 ?_
   refine FW (ay:= .slice ((is++ [d1]).map eDig) v') (FP p (Ni Q p.changes.length) (Ej p.changes) tf (HD p.changes (Ni Q p.changes.length) p.changes.length) ts (is++ [d1]) v') rfl rfl Dn.out rfl (by simp) ?_
   refine AE ?_
   refine CR (by decide+kernel) ?_
   refine wf ?_
   exact⟨(k+1,T1,is++ [d1],v'),⟨by dsimp only;omega,hI,(hstep h5).1,by simp[hlen]⟩,by dsimp only;omega,⟨rfl,rfl,rfl,rfl,rfl,rfl,rfl⟩,.refl _⟩
 ·rw[CJ (by omega),Wg]at hI
  refine wn ?_
  rw[←hI]
  refine GP [4,5,6,7] (by decide+kernel) ?_
  refine B3 0 ?_
  refine B3 1 ?_
  refine B3 2 ?_
  refine B3 3 ?_
  refine C4 (fuel:=3) [4,5] (by decide+kernel) (by simp) fun i hi=>?_
  simp only[AF,Aa,or_false]at hi
  rcases hi with rfl|rfl
  ·refine⟨_,rfl,?_⟩
   refine wo ?_
   refine AE ?_
   refine Ad 2 5 ?_
   refine wo ?_
   refine AE ?_
   refine Ad 1 6 ?_
   refine wo ?_
   refine AE ?_
   refine Ad 0 7 ?_
   refine wo ?_
   refine AE ?_
   refine CR (by decide+kernel) ?_
   refine wf ?_
   exact Ru (x:= .slice (T.map eSto) .ro) (y:= .slice (is.map eDig) ti) (.tuple3 (.refl _) (.ro _ _) (.refl _))
  ·refine⟨_,rfl,?_⟩
   refine wo ?_
   refine AE ?_
   refine Ad 2 4 ?_
   refine wo ?_
   refine AE ?_
   refine Ad 1 6 ?_
   refine wo ?_
   refine AE ?_
   refine Ad 0 7 ?_
   refine wo ?_
   refine AE ?_
   refine CR (by decide+kernel) ?_
   refine wf ?_
   exact Ru (x:= .slice (T.map eSto) .ro) (y:= .slice (is.map eDig) ti) (.tuple3 (.refl _) (.ro _ _) (.refl _))⟩
end Go.Proofs
namespace Go.Q
open Go
structure zl where
 id:Dig
 parts:List (List Int)
 metas:List Mta
def pO (c:zl):List PV:=(eDig c.id)++([.slice ((c.parts).map Ud) .ro]++([.slice ((c.metas).map Ed) .ro]))
@[simp] theorem xV (c:zl):(pO c).length=34:=by unfold pO;simp
end Go.Q
namespace Go.Proofs
open Go Go.Q
attribute [local irreducible] Eb AV Ga BG Fu
instance w7:Ck Tryz.prog 26 (Ed Mta.zero):=Ck.of (us:=(Ed Mta.zero).map zv) (by kernel_rfl) (by kernel_rfl)
def N4 (m:Mta):Bool:=decide (60 < m.author.length∨60 < m.message.length)
def PR (l:List Mta):Bool:=l.any N4
instance Vl (l:List Mta) (t:C9):C6 Tryz.prog 10 [.slice (l.map Ed) t] (.raw (.bool (PR l))):=⟨by
 refine Av Tryz.func10 Tryz.ntmps10 rfl (rs:= [.tmp 2]) rfl rfl fun hb LF=>?_
 have hlen:l.length≤140737488355328:=(hb (.slice (l.map Ed) t) (by simp)).slice_map
 have hst: ∀ m∈l,m.author.length≤140737488355328∧m.message.length≤140737488355328:=fun m hm=>⟨((hb (.slice (l.map Ed) t) (by simp)).slice_at hm (c:= .str m.author) (by simp[Ed])).str_len,((hb (.slice (l.map Ed) t) (by simp)).slice_at hm (c:= .str m.message) (by simp[Ed])).str_len⟩
 refine wf ?_
 refine AZ (σ:=Nat) (fun k=>k≤l.length∧(l.take k).any N4=false) (fun k=>l.length - k) (fun k=> [(5,.slice (l.map Ed) t),(6,.raw (.int .i64 l.length)),(7,.raw (.int .i64 k))]) (fun _=>LF) 0 ⟨by omega,by simp⟩ ⟨rfl,rfl,rfl⟩ (.refl _) ?_
 rintro k ⟨hk,hno⟩
 refine wf ?_
 refine A7 (fun hc=>?_) (fun hc=>?_)
 ·have hlt:k < l.length:=by omega
  have hm:=hst _ (AG hlt)
  have hn: ∀ b,N4 l[k]=b→(l.take (k+1)).any N4=b:=fun b h=>by
   rw[A6 hlt,GK,hno];simpa using h
  refine wz fun b4=>?_
  refine Au 4 ?_
  generalize l[k]=m at*
  refine wf ?_
  refine BM [(20,.raw (.bool (N4 m))),(5,.slice (l.map Ed) t),(6,.raw (.int .i64 l.length)),(7,.raw (.int .i64 k))] (LF) ?_ ?_
  ·repeat' (first|(refine A7 (fun h=>?_) (fun h=>?_)<;>refine wf ?_)|(refine AR (fun h=>?_) (fun h=>?_)<;>refine wf ?_)|(refine AO (fun h=>?_) (fun h=>?_)<;>refine wf ?_)|(refine Aq (fun h=>?_) (fun h=>?_)<;>(have h2:=h;(try simp only[AB,A8,AH,AK]at h2);refine wf ?_)))
   all_goals (refine⟨⟨Bp (by rfl) ?_,rfl,rfl,rfl⟩,.refl _⟩;unfold N4;first|(simp_all;done)|(simp_all;omega)|grind)
  refine wf ?_
  refine AO (fun h=>?_) (fun h=>?_)
  ·refine wf ?_
   refine Ax (.of_eq ?_)
   have:=hn true h
   have e:PR l=true:=by
    unfold PR
    rw[←CH (k+1) l,GK,this];rfl
   rw[e]
  ·refine wf ?_
   exact⟨k+1,⟨by omega,hn false h⟩,by dsimp only;omega,⟨rfl,rfl,rfl⟩,.refl _⟩
 ·rw[AA (by omega)]at hno
  refine wf ?_
  refine Ax (.of_eq ?_)
  unfold PR
  rw[hno]⟩
end Go.Proofs
namespace Go.Proofs
open Go Go.Q
def ag:Mta:=⟨[98,111,98],[],0⟩
def iA:Dig:=⟨[201,28,190,149,120,204,145,162,76,176,190,248,179,235,174,253,108,101,45,201,70,169,120,103,60,58,28,92,187,85,25,174],rfl⟩
def sO:Dig:=⟨[95,52,110,140,148,128,50,197,184,155,177,70,110,45,170,42,165,190,242,91,151,230,172,24,3,168,255,62,132,124,150,202],rfl⟩
def sxI (d:Dig):Chg:={ Chg.zero with kind:=5,file:=⟨d,0⟩,after:=⟨d,0⟩,before:=⟨d,0⟩,lines:= [[120]] }
def sxP:Pat:=⟨[98,111,98],[],0,[],[zY,sxI Dig.zero]⟩
def sxQ:Pat:=⟨[98,111,98],[],0,[pk],[sxI pk]⟩
def sxT:List Sto:= [⟨iA,sxP⟩]
def sxU:List Sto:= [⟨pk,awC⟩,⟨sO,sxQ⟩]
theorem sN:Qf aw2S [cN,rZ] ag=sxP:=by decide+kernel
theorem zI:ai aw2S [cN,rZ] ag=(sxT,iA,0):=by decide+kernel
theorem mo:aj sxT iA [[0],[1]] [ag,ag]=(sxU,[pk,sO],0):=by decide+kernel
theorem mq:Fk sxP=false:=by decide+kernel
theorem mu:LG sxT=true:=by decide+kernel
theorem mr:LG sxU=true:=by decide+kernel
theorem YA:Fv sxT=false:=by decide+kernel
theorem ia:Gy sxU sO pk=true:=by decide+kernel
theorem wB:getS sxT iA=some sxP:=by decide+kernel
attribute [local irreducible] Eb AV Ga BG Fu
theorem od (xs:List (List PV)) (h:xs= []):Le (.raw (.slice none 0 0)) (.slice xs .nil):=fun g v hv=>by
 subst h;rw[hv.raw_inv];exact .nilN none (by simp)
instance (l:List Int):GB (.slice (l.map eI) .ro) Ud l:=⟨DB.one (c:= .slice (l.map eI) .ro) Dn.out⟩
instance uO:C6 Tryz.prog 11 [] (.raw (.bool true)):=⟨by
 have v0:Bc []:=KU pj
 have v1:Bc aw1S:=KU ph
 have v2:Bc aw2S:=KU pg
 have vT:Bc sxT:=KU mu
 have vU:Bc sxU:=KU mr
 have i0:Aw (Bc []):=⟨v0⟩
 have i1:Aw (Bc aw1S):=⟨v1⟩
 have i2:Aw (Bc aw2S):=⟨v2⟩
 have i3:Aw (Bc sxU):=⟨vU⟩
 have g0:Aw (E6 uU=false):=⟨Xq eU.1⟩
 have g1:Aw (E6 vg=false):=⟨Xq eU.2.1⟩
 have a0:=Xu [] uU .nil
 have a1:=fun t=>Xu aw1S vg t
 rw[uR]at a0
 rw[uQ]at a1
 dsimp only at a0 a1
 have cs: ∀ t u,C6 Tryz.prog 12 [.slice (aw2S.map eSto) t,.slice ([cN,rZ].map eDig) u,.agg (Ed ag)] (.tuple [.slice (sxT.map eSto) .ro,.agg (eDig iA),.raw (.int .i64 0)]):=fun t u=>by
  have:=Pa aw2S t [cN,rZ] u ag v2 (by decide) (by decide) (by rw[OB v2,sN];exact Xq mq)
  rw[dA v2,zI]at this
  exact this
 have cg: ∀ t,C6 Tryz.prog 17 [.slice (sxT.map eSto) t,.agg (eDig iA)] (.tuple [.agg (Bh sxP),.raw (.bool true)]):=fun t=>by
  have:=P1 sxT t iA
  rw[wB]at this
  exact this
 have z:Si [[0],[1]] [ag,ag]:=⟨by decide,by decide⟩
 have cp: ∀ t u w,C6 Tryz.prog 21 [.slice (sxT.map eSto) t,.agg (eDig iA),.slice (([[0],[1]]:List (List Int)).map Ud) u,.slice ([ag,ag].map Ed) w] (.tuple [.slice (sxU.map eSto) .ro,.slice ([pk,sO].map eDig) .ro,.raw (.int .i64 0)]):=fun t u w=>by
  have:=ij sxT t iA [[0],[1]] u [ag,ag] w vT YA z (by decide) (by decide)
  rw[il vT YA iA z,mo]at this
  exact this
 have ck:=fun t=>MO sxU sO pk t
 rw[ia]at ck
 have hl2:sxP.changes.length=2:=rfl
 have hl3: [pk,sO].length=2:=rfl
 refine Av Tryz.func11 Tryz.ntmps11 rfl (rs:= [.tmp 0]) rfl rfl fun hb LF=>?_
 refine wf ?_
 refine CK (xs:= [.const (Value.slice none 0 0),.tmp 19]) [] LF (f:=35) (cs:= []) (Bx _) rfl rfl (.refl _) _ (BG.args (bs:= [.slice (([]:List Sto).map eSto) .nil,.agg (Bh uU)]) rfl (fun i g1 g2=>by
   match i,g1,g2 with
   |0,_,_=>exact od _ rfl
   |1,_,_=>exact .of_eq rfl
   |m+2,g1,_=>exact absurd g1 (by simp)) a0.out) fun r L' ⟨e1,e2⟩=>?_
 subst e1;rw[e2,B7]
 refine wf ?_
 refine Bw fun b2=>?_
 refine wo ?_
 refine AE ?_
 refine Au 2 ?_
 refine Ih [(1,.slice (aw1S.map eSto) .ro),(2,.pt (eDig cN) 0),(3,.raw (.int .i64 0))] ⟨rfl,rfl,rfl⟩ (.refl _) ?_
 refine wf ?_
 refine Bw fun b4=>?_
 refine wo ?_
 refine AE ?_
 refine Au 4 ?_
 refine Ih [(1,.slice (aw1S.map eSto) .ro),(2,.pt (eDig cN) 0),(3,.raw (.int .i64 0)),(4,.pt (eIdent ⟨cN,0⟩) 0)] ⟨rfl,rfl,rfl,rfl⟩ (.refl _) ?_
 refine wf ?_
 refine CK (xs:= [.tmp 27,.tmp 34]) [] LF (f:=35) (cs:= []) (Bx _) rfl rfl (.refl _) _ (BG.args (bs:= [.slice ((aw1S:List Sto).map eSto) .ro,.agg (Bh vg)]) rfl (fun i g1 g2=>by
   match i,g1,g2 with
   |0,_,_=>exact .of_eq rfl
   |1,_,_=>exact .of_eq rfl
   |m+2,g1,_=>exact absurd g1 (by simp)) (a1 .ro).out) fun r L' ⟨e1,e2⟩=>?_
 subst e1;rw[e2,B7]
 refine wf ?_
 refine Bw fun b5=>?_
 refine wo ?_
 refine AE ?_
 refine Au 5 ?_
 refine Ih [(1,.slice (aw2S.map eSto) .ro),(2,.pt (eDig cN) 0),(3,.raw (.int .i64 0)),(5,.pt (eDig rZ) 0),(6,.raw (.int .i64 0))] ⟨rfl,rfl,rfl,rfl,rfl⟩ (.refl _) ?_
 refine wf ?_
 refine Bw fun b7=>?_
 refine wo ?_
 refine AE ?_
 refine Au 7 ?_
 refine Ih [(1,.slice (aw2S.map eSto) .ro),(2,.pt (eDig cN) 0),(3,.raw (.int .i64 0)),(5,.pt (eDig rZ) 0),(6,.raw (.int .i64 0)),(7,.pt (Ed ag) 0)] ⟨rfl,rfl,rfl,rfl,rfl,rfl⟩ (.refl _) ?_
 refine wf ?_
 refine Bw fun b9=>?_
 refine wo ?_
 refine AE ?_
 refine Au 9 ?_
 refine Ih [(3,.raw (.int .i64 0)),(6,.raw (.int .i64 0)),(7,.pt (Ed ag) 0),(8,.slice (sxT.map eSto) .ro),(9,.pt (eDig iA) 0),(10,.raw (.int .i64 0))] ⟨rfl,rfl,rfl,rfl,rfl,rfl⟩ (.refl _) ?_
 refine wf ?_
 refine Bw fun b11=>?_
 refine wo ?_
 refine AE ?_
 refine Au 11 ?_
 refine Ih [(3,.raw (.int .i64 0)),(6,.raw (.int .i64 0)),(7,.pt (Ed ag) 0),(8,.slice (sxT.map eSto) .ro),(9,.pt (eDig iA) 0),(10,.raw (.int .i64 0)),(11,.pt (Bh sxP) 0),(12,.raw (.bool true))] ⟨rfl,rfl,rfl,rfl,rfl,rfl,rfl,rfl⟩ (.refl _) ?_
 refine wf ?_
 exact Ax (y:= .raw (.bool (Gy sxU sO pk))) (.of_eq (by rw[ia])) (hx:=rfl)⟩
theorem Qd {m:Mta} (h:PR [m]=false):m.author.length≤60∧m.message.length≤60:=by
 unfold PR N4 at h
 simp only[aU,List.any_nil,yE,A8]at h
 omega
theorem UE {s:List Sto} (h:LG s=true):Fv s=false:=by
 unfold LG at h
 simp only[BP,AH]at h
 exact h.1
theorem SO (s:List Sto) (t:C9) (l:List Dig) (u:C9) (m:Mta):C6 Tryz.prog 3 [.slice (s.map eSto) t,.slice (l.map eDig) u,.agg (Ed m)] (.raw (.bool true)):=⟨by
 refine Av Tryz.func3 Tryz.ntmps3 rfl (rs:= [.tmp 6]) rfl rfl fun hb LF=>?_
 have hlen:l.length≤140737488355328:=(hb (.slice (l.map eDig) u) (by simp)).slice_map
 have cl: ∀ t,C6 Tryz.prog 10 [.slice [Ed m] t] (.raw (.bool (PR [m]))):=fun t=>Vl [m] t
 refine wf ?_
 refine BM [(25,.raw (.bool (!LG s||decide (10 < l.length)||PR [m]))),(0,.slice (s.map eSto) t),(1,.slice (l.map eDig) u),(5,.pt (Ed m) 0)] (LF) ?_ ?_
 ·repeat' (first|(refine A7 (fun h=>?_) (fun h=>?_)<;>refine wf ?_)|(refine AR (fun h=>?_) (fun h=>?_)<;>refine wf ?_)|(refine AO (fun h=>?_) (fun h=>?_)<;>refine wf ?_)|(refine Aq (fun h=>?_) (fun h=>?_)<;>(have h2:=h;(try simp only[AB,A8,AH,AK]at h2);refine wf ?_)))
  all_goals (refine⟨⟨Bp (by rfl) ?_,rfl,rfl,rfl⟩,.refl _⟩;first|(simp_all;done)|(simp_all;omega))
 refine wf ?_
 refine AO (fun h=>?_) (fun h=>?_)
 ·refine wf ?_
  exact Ax (.refl _)
 simp only[CG,AK,A8]at h
 obtain⟨⟨hf,hl⟩,hm⟩:=h
 have v:=KU hf
 have hg:=UE hf
 have hs:=(KG hg).1
 have hbj:=Vn v hg l m (Qd hm).1 (Qd hm).2
 have c1:=fun t u=>Pa s t l u m v (by omega) (by omega) hbj
 have c2:=fun t u=>YE s t l u m v (by omega) (by omega) (by rw[←OB v];exact hbj)
 have c3: ∀ t u,C6 Tryz.prog 16 [.slice (s.map eSto) t,.slice (l.map eDig) u] (.raw (.bool (mW s l))):=fun t u=>by rw[eL v];exact SH s t l u v (by omega) (by omega)
 have i1:Aw (Bc s):=⟨v⟩
 have i2:Aw (l.length≤400):=⟨by omega⟩
 rw[dA v]at c1
 obtain⟨⟨A1,A2,A3⟩,hA⟩: ∃ A,A=ai s l m:=⟨_,rfl⟩
 rw[←hA]at c1 c2
 dsimp only at c1 c2
 refine wz fun b8=>?_
 refine Au 8 ?_
 refine wz fun b11=>?_
 refine Au 11 ?_
 refine wf ?_
 refine BM [(6,.raw (.bool (true))),(0,.slice (s.map eSto) t)] (LF) ?_ ?_
 ·repeat' (first|(refine A7 (fun h=>?_) (fun h=>?_)<;>refine wf ?_)|(refine AR (fun h=>?_) (fun h=>?_)<;>refine wf ?_)|(refine AO (fun h=>?_) (fun h=>?_)<;>refine wf ?_)|(refine Aq (fun h=>?_) (fun h=>?_)<;>(have h2:=h;(try simp only[AB,A8,AH,AK]at h2);refine wf ?_)))
  all_goals (refine⟨⟨Bp (by rfl) ?_,rfl⟩,.refl _⟩;first|(simp_all;done)|(simp_all;omega)|grind)
 refine wf ?_
 exact Ax (.refl _)⟩
theorem oG {s:List Sto} {l:List Dig} {k:Nat} (h:k < s.length) (hl:s[k].id∈l):FG (s.take (k+1)) l=FG (s.take k) l:=by
 unfold FG
 rw[A6 h,DU,E1 (by simp[hl])]
 simp
theorem kH {s:List Sto} {l:List Dig} {k:Nat} (h:k < s.length) (hl: ¬s[k].id∈l):(FG (s.take (k+1)) l).length=(FG (s.take k) l).length+1:=by
 unfold FG
 rw[A6 h,DU,E0 (by simp[hl])]
 simp
theorem Uh (s:List Sto) (t:C9) (l:List Dig) (u:C9) (m:Mta):C6 Tryz.prog 6 [.slice (s.map eSto) t,.slice (l.map eDig) u,.agg (Ed m)] (.raw (.bool true)):=⟨by
 refine Av Tryz.func6 Tryz.ntmps6 rfl (rs:= [.tmp 6]) rfl rfl fun hb LF=>?_
 have hlen:l.length≤140737488355328:=(hb (.slice (l.map eDig) u) (by simp)).slice_map
 have cl: ∀ t,C6 Tryz.prog 10 [.slice [Ed m] t] (.raw (.bool (PR [m]))):=fun t=>Vl [m] t
 refine wf ?_
 refine BM [(31,.raw (.bool (!LG s||decide (10 < l.length)||PR [m]))),(0,.slice (s.map eSto) t),(1,.slice (l.map eDig) u),(5,.pt (Ed m) 0)] (LF) ?_ ?_
 ·repeat' (first|(refine A7 (fun h=>?_) (fun h=>?_)<;>refine wf ?_)|(refine AR (fun h=>?_) (fun h=>?_)<;>refine wf ?_)|(refine AO (fun h=>?_) (fun h=>?_)<;>refine wf ?_)|(refine Aq (fun h=>?_) (fun h=>?_)<;>(have h2:=h;(try simp only[AB,A8,AH,AK]at h2);refine wf ?_)))
  all_goals (refine⟨⟨Bp (by rfl) ?_,rfl,rfl,rfl⟩,.refl _⟩;first|(simp_all;done)|(simp_all;omega))
 refine wf ?_
 refine AO (fun h=>?_) (fun h=>?_)
 ·refine wf ?_
  exact Ax (.refl _)
 simp only[CG,AK,A8]at h
 obtain⟨⟨hf,hl⟩,hm⟩:=h
 have v:=KU hf
 have hg:=UE hf
 have hs:=(KG hg).1
 have hbj:=Vn v hg l m (Qd hm).1 (Qd hm).2
 have c1:=fun t u=>Pa s t l u m v (by omega) (by omega) hbj
 have i1:Aw (Bc s):=⟨v⟩
 have i2:Aw (l.length≤400):=⟨by omega⟩
 by_cases h0:(Uc s l m).2.2=0
 ·obtain⟨T,id,e,S⟩:=sS v hbj (by omega) h0
  rw[e]at c1
  dsimp only at c1
  have i3:Aw (Bc T):=⟨S.val⟩
  have i4:Aw (GQ T):=⟨S.val.close.1⟩
  have hcv: ∀ t u,C6 Tryz.prog 15 [.slice (s.map eSto) t,.slice (l.map eDig) u] (.raw (.bool true)):=fun t u=>by
   have:=YF s l t u
   rw[S.convex]at this
   exact this
  have hk0:=fun t=>cW T t
  have hT0:JR T=0:=UM S.val
  rw[hT0]at hk0
  refine wz fun b8=>?_
  refine Au 8 ?_
  refine wf ?_
  refine AZ (σ:=Nat) (fun k=>k≤s.length) (fun k=>s.length - k) (fun k=> [(0,.slice (s.map eSto) t),(1,.slice (l.map eDig) u),(5,.pt (Ed m) 0),(7,.slice (T.map eSto) .ro),(8,.pt (eDig id) 0),(10,.raw (.int .i64 ((FG (s.take k) l).length:Nat))),(63,.slice (s.map eSto) t),(64,.raw (.int .i64 s.length)),(65,.raw (.int .i64 k))]) (fun _=>LF) 0 (by omega) ⟨rfl,rfl,rfl,rfl,rfl,rfl,rfl,rfl,rfl⟩ (.refl _) ?_
  rintro k hk
  have hkl:(FG (s.take k) l).length≤s.length:=by
   have:=CX (fun x:Sto=>decide (¬x.id∈l)) (s.take k)
   unfold FG
   rw[Ab]at this
   omega
  refine wf ?_
  refine A7 (fun hc=>?_) (fun hc=>?_)
  ·have hlt:k < s.length:=by omega
   have hmem:=AG hlt
   have hin:=oG (l:=l) hlt
   have hout:=kH (l:=l) hlt
   refine wz fun b12=>?_
   generalize s[k]=x at*
   refine Au 12 ?_
   refine wf ?_
   refine A7 (fun hd=>?_) (fun hd=>?_)
   ·refine wf ?_
    exact⟨k+1,by omega,by dsimp only;omega,⟨rfl,rfl,rfl,rfl,rfl,by rw[hin hd];rfl,rfl,rfl,rfl⟩,.refl _⟩
   ·have cg: ∀ t,C6 Tryz.prog 17 [.slice (T.map eSto) t,.agg (eDig x.id)] (.tuple [.agg (Bh x.patch),.raw (.bool true)]):=fun t=>by
     have:=P1 T t x.id
     rw[S.other hmem hd]at this
     exact this
    refine wz fun b13=>?_
    refine Au 13 ?_
    refine wf ?_
    refine AR (fun h=>absurd rfl h) (fun _=>?_)
    refine wf ?_
    refine AZ (σ:=Nat) (fun j=>j≤l.length) (fun j=>l.length - j) (fun j=> [(0,.slice (s.map eSto) t),(1,.slice (l.map eDig) u),(5,.pt (Ed m) 0),(7,.slice (T.map eSto) .ro),(8,.pt (eDig id) 0),(10,.raw (.int .i64 (((FG (s.take k) l).length:Nat)+1))),(12,.pt (eSto x) 0),(63,.slice (s.map eSto) t),(64,.raw (.int .i64 s.length)),(65,.raw (.int .i64 k)),(91,.slice (l.map eDig) u),(92,.raw (.int .i64 l.length)),(93,.raw (.int .i64 j))]) (fun _=>LF) 0 (by omega) ⟨rfl,rfl,rfl,rfl,rfl,rfl,rfl,rfl,rfl,rfl,rfl,rfl,rfl⟩ (.refl _) ?_
    rintro j hj
    refine wf ?_
    refine A7 (fun hc2=>?_) (fun hc2=>?_)
    ·have hjl:j < l.length:=by omega
     have hy:=AG hjl
     refine wz fun b16=>?_
     generalize l[j]=y at*
     refine Au 16 ?_
     have k3: ∀ t,C6 Tryz.prog 27 [.slice (s.map eSto) t,.agg (eDig x.id),.agg (eDig y)] (.raw (.bool false)):=fun t=>by
      have:=MO s x.id y t
      rw[fe v S.need hmem hd hy]at this
      exact this
     cases hk1:Gy s y x.id with
     |true=>
      have k1: ∀ t,C6 Tryz.prog 27 [.slice (s.map eSto) t,.agg (eDig y),.agg (eDig x.id)] (.raw (.bool true)):=fun t=>by
       have:=MO s y x.id t
       rw[hk1]at this
       exact this
      have k2: ∀ t,C6 Tryz.prog 27 [.slice (T.map eSto) t,.agg (eDig id),.agg (eDig x.id)] (.raw (.bool true)):=fun t=>by
       have:=MO T id x.id t
       rw[S.knows v hmem hd hy hk1]at this
       exact this
      refine wf ?_
      exact⟨j+1,by omega,by dsimp only;omega,⟨rfl,rfl,rfl,rfl,rfl,rfl,rfl,rfl,rfl,rfl,rfl,rfl,rfl⟩,.refl _⟩
     |false=>
      have k1: ∀ t,C6 Tryz.prog 27 [.slice (s.map eSto) t,.agg (eDig y),.agg (eDig x.id)] (.raw (.bool false)):=fun t=>by
       have:=MO s y x.id t
       rw[hk1]at this
       exact this
      refine wf ?_
      exact⟨j+1,by omega,by dsimp only;omega,⟨rfl,rfl,rfl,rfl,rfl,rfl,rfl,rfl,rfl,rfl,rfl,rfl,rfl⟩,.refl _⟩
    ·refine wf ?_
     exact⟨k+1,by omega,by dsimp only;omega,⟨rfl,rfl,rfl,rfl,rfl,congrArg (fun n=>PV.raw (.int .i64 n)) (by rw[hout hd];omega),rfl,rfl,rfl⟩,.refl _⟩
  ·have hkT:((FG (s.take k) l).length:Int)+1=T.length:=by
    have:=S.len
    rw[AA (by omega)]
    omega
   obtain⟨D,C,hj⟩: ∃ D C,IV s l m=⟨m.author,m.message,m.time,D,C⟩:=⟨_,_,rfl⟩
   have cg: ∀ t,C6 Tryz.prog 17 [.slice (T.map eSto) t,.agg (eDig id)] (.tuple [.agg (Bh ⟨m.author,m.message,m.time,D,C⟩),.raw (.bool true)]):=fun t=>by
    have:=P1 T t id
    rw[S.get,hj]at this
    exact this
   refine wz fun b17=>?_
   refine Au 17 ?_
   refine wf ?_
   refine BM [(6,.raw (.bool (true))),(0,.slice (s.map eSto) t)] (LF) ?_ ?_
   ·repeat' (first|(refine A7 (fun h=>?_) (fun h=>?_)<;>refine wf ?_)|(refine AR (fun h=>?_) (fun h=>?_)<;>refine wf ?_)|(refine AO (fun h=>?_) (fun h=>?_)<;>refine wf ?_)|(refine Aq (fun h=>?_) (fun h=>?_)<;>(have h2:=h;(try simp only[AB,A8,AH,AK]at h2);refine wf ?_)))
    all_goals (refine⟨⟨Bp (by rfl) ?_,rfl⟩,.refl _⟩;first|(simp_all;done)|(simp_all;omega)|grind)
   refine wf ?_
   exact Ax (.refl _)
 ·obtain⟨e1,e2⟩:=nC h0
  obtain⟨⟨A1,A2,A3⟩,hA⟩: ∃ A,A=Uc s l m:=⟨_,rfl⟩
  rw[←hA]at c1 h0 e1 e2
  dsimp only at c1 h0 e1 e2
  subst e1 e2
  refine wz fun b8=>?_
  refine Au 8 ?_
  refine wn ?_
  refine AR (fun _=>?_) (fun h=>absurd h h0)
  refine wf ?_
  exact Ax (.refl _)⟩
end Go.Proofs
namespace Go.Proofs
open Go Go.Q Go.ChangeShapes Go.WideShapes Go.ChangeAt Go.WideMaps Go.WideElems Go.RowKit
theorem ba:Dx Tryz.prog 26 (fun xs=> ∃ x:Mta,xs=Ed x):=
 Dx.to (HQ (n:=3) (r:= [(9,0),(9,1),(3,2)]) (by kernel_rfl) (by kernel_rfl) (.cons 1 (by kernel_rfl) Th (.cons 1 (by kernel_rfl) Th (.cons 1 (by kernel_rfl) Ti (.nil _)))))
  fun xs ⟨_,.cons ⟨a0,e0⟩ (.cons ⟨a1,e1⟩ (.cons ⟨a2,_,e2⟩ .nil)),e⟩=>⟨⟨a0,a1,a2⟩,by subst e0 e1 e2 e;simp[Ed,eS]⟩
theorem oJ:Dx Tryz.prog 50 (fun xs=> ∃ l:List Mta,xs= [.slice (l.map Ed) .ro]):=Dx.list (sz:=3) ba (fun _=>by simp) (by kernel_rfl) (by kernel_rfl) rfl (by decide) (ble (by kernel_rfl))
theorem tS:Dx Tryz.prog 45 (fun xs=> ∃ l:List Int,xs= [.slice (l.map eI) .ro]):=Dx.list (Dx.to Ti fun _ ⟨n,_,e⟩=>⟨n,e⟩) (fun _=>rfl) (by kernel_rfl) (by kernel_rfl) rfl (by decide) (ble (by kernel_rfl))
theorem oM:Dx Tryz.prog 49 (fun xs=> ∃ l:List (List Int),xs= [.slice (l.map Ud) .ro]):=Dx.list tS (fun _=>rfl) (by kernel_rfl) (by kernel_rfl) rfl (by decide) (ble (by kernel_rfl))
theorem A02:Dx Tryz.prog 53 (fun xs=> ∃ c:zl,xs=pO c):=
 Dx.to (HQ (n:=34) (r:= [(31,0),(49,32),(50,33)]) (by kernel_rfl) (by kernel_rfl) (.cons 32 (by kernel_rfl) db (.cons 1 (by kernel_rfl) oM (.cons 1 (by kernel_rfl) oJ (.nil _)))))
  fun xs ⟨_,.cons ⟨a0,e0⟩ (.cons ⟨a1,e1⟩ (.cons ⟨a2,e2⟩ .nil)),e⟩=>⟨⟨a0,a1,a2⟩,by subst e0 e1 e2 e;simp[pO]⟩
end Go.Proofs
