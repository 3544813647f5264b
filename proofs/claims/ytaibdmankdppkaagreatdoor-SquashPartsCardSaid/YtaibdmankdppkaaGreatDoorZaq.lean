/- Plain laws: what Swap, Move and Prefix answer; one order turned into another one. -/
import Derived.Test.YtaibdmankdppkaaGreatDoorZap
import Derived.Test.YtaibdmankdppkaaGreatDoorZao
import Derived.Test.YtaibdmankdppkaaGreatDoorZan
set_option linter.unusedSimpArgs false
set_option linter.unusedVariables false
namespace Go.Proofs
open Go Go.Q
end Go.Proofs
namespace Go.Proofs
open Go Go.Q Go.Sort
theorem bl {α:Type} {r:α→α→Prop} (irr: ∀ a,¬r a a) (tr: ∀ a b c,r a b→r b c→r a c): ∀ {l m:List α},l.Pairwise r→m.Pairwise r→(∀ x,x∈l↔x∈m)→l=m
 | [],[],_,_,_=>rfl
 | [],y::m,_,_,h=>absurd ((h y).2 AG) (Ai)
 |x::l,[],_,_,h=>absurd ((h x).1 AG) (Ai)
 |x::l,y::m,h1,h2,h=>by
  obtain⟨a1,a2⟩:=Bq.1 h1
  obtain⟨b1,b2⟩:=Bq.1 h2
  have e:x=y:=by
   rcases AH.1 ((h x).1 AG)with e|hx
   ·exact e
   ·rcases AH.1 ((h y).2 AG)with e|hy
    ·exact e.symm
    ·exact absurd (tr _ _ _ (b1 x hx) (a1 y hy)) (irr _)
  subst e
  rw[bl irr tr a2 b2 fun z=>?_]
  constructor
  ·intro hz
   rcases AH.1 ((h z).1 (AJ _ hz))with e|h'
   ·subst e;exact absurd (a1 _ hz) (irr _)
   ·exact h'
  ·intro hz
   rcases AH.1 ((h z).2 (AJ _ hz))with e|h'
   ·subst e;exact absurd (b1 _ hz) (irr _)
   ·exact h'
abbrev Ss (l:List Ident):Prop:=l.Pairwise fun a b=>Hr a b < 0
theorem aX {l m:List Ident} (h1:Ss l) (h2:Ss m) (h: ∀ x,x∈l↔x∈m):l=m:=
 bl (r:=fun a b=>Hr a b < 0) Ident.lt_irrefl (fun _ _ _=>Ident.lt_trans) h1 h2 h
theorem Ss.nodup {l:List Ident} (h:Ss l):l.Nodup:=h.imp fun {a b} hab e=>by subst e;exact Ident.lt_irrefl _ hab
theorem UB {x d:Ident}: ∀ {l:List Ident},x∈Jz l d↔x=d∨x∈l
 | []=>by simp[Jz]
 |y::l=>by
  unfold Jz
  split
  ·rw[AH,UB,AH]
   constructor
   ·rintro(h|h|h)
    ·exact .inr (.inl h)
    ·exact .inl h
    ·exact .inr (.inr h)
   ·rintro(h|h|h)
    ·exact .inr (.inl h)
    ·exact .inl h
    ·exact .inr (.inr h)
  ·split
   ·rename_i e
    subst e
    constructor
    ·exact .inr
    ·rintro(h|h)
     ·subst h;exact AG
     ·exact h
   ·simp only[AH]
theorem Zg {d:Ident}: ∀ {l:List Ident},Ss l→Ss (Jz l d)
 | [],_=>by unfold Jz;exact GG _ _
 |y::l,h=>by
  obtain⟨h1,h2⟩:=Bq.1 h
  unfold Jz
  split
  ·rename_i hy
   refine Bq.2 ⟨fun z hz=>?_,Zg h2⟩
   rcases UB.1 hz with rfl|hz
   ·exact hy
   ·exact h1 z hz
  ·rename_i hy
   split
   ·exact h
   ·rename_i hne
    have hlt:Hr d y < 0:=by
     rcases Ident.tri d y with h'|h'|h'
     ·exact h'
     ·exact absurd h'.symm hne
     ·exact absurd h' hy
    refine Bq.2 ⟨fun z hz=>?_,h⟩
    rcases AH.1 hz with rfl|hz
    ·exact hlt
    ·exact Ident.lt_trans hlt (h1 z hz)
theorem Q6: ∀ (m l:List Ident),Ss l→Ss (m.foldl Jz l)∧ ∀ x,x∈m.foldl Jz l↔x∈l∨x∈m
 | [],l,h=>⟨h,fun x=>by simp⟩
 |y::m,l,h=>by
  obtain⟨a,b⟩:=Q6 m (Jz l y) (Zg h)
  refine⟨a,fun x=>?_⟩
  rw[Bp,b,UB,AH]
  constructor
  ·rintro((h|h)|h)
   ·exact .inr (.inl h)
   ·exact .inl h
   ·exact .inr (.inr h)
  ·rintro(h|h|h)
   ·exact .inl (.inr h)
   ·exact .inl (.inl h)
   ·exact .inr h
theorem Oi {l:List Ident} {d:Ident}:d∈sortI l↔d∈l:=dM
theorem VX {l:List Ident} (hn:l.Nodup):Ss (sortI l):=by
 have h:=zW (le:=fun x y=>!(ltOf Hr) y x) (fun a b c h1 h2=>by
  simp only[AI,ltOf,A8]at h1 h2 ⊢
  intro h3
  rcases Ident.tri a b with h|h|h
  ·exact h2 (Ident.lt_trans h3 h)
  ·subst h;exact h2 h3
  ·exact h1 h) (fun a b=>by
  simp only[qu,AI,ltOf,A8]
  rcases Ident.tri a b with h|h|h
  ·exact .inl fun k=>Ident.lt_irrefl _ (Ident.lt_trans h k)
  ·subst h;exact .inl (Ident.lt_irrefl _)
  ·exact .inr fun k=>Ident.lt_irrefl _ (Ident.lt_trans h k)) l
 have h2:(sortI l).Nodup:=(List.mergeSort_perm l _).nodup_iff.2 hn
 refine Ax.2 fun i j hi hj hij=>?_
 have a:=Ax.1 h i j hi hj hij
 have b:=Ax.1 h2 i j hi hj hij
 rw[AI]at a
 have a: ¬Hr (sortI l)[j] (sortI l)[i] < 0:=Bh a
 rcases Ident.tri (sortI l)[i] (sortI l)[j]with h'|h'|h'
 ·exact h'
 ·exact absurd h' b
 ·exact absurd h' a
theorem bL {l:List Ident} (hn:l.Nodup):sortI l=l.foldl Jz []:=
 aX (VX hn) (Q6 l [] .nil).1 fun x=>by rw[Oi,(Q6 l [] .nil).2];simp
def Ed (x:Ident):Bool:=decide (x.patch=Dig.zero)&&decide (0≤x.n)
theorem GX {x:Ident}:Ed x=true↔x.patch=Dig.zero∧0≤x.n:=by unfold Ed;simp
def FU (f:Ident→Ident) (c:Chg):Chg:=
 { c with file:=if 2≤c.kind∧c.kind≤6 then f c.file else c.file,parent:=if c.kind=2 then f c.parent else c.parent,after:=if c.kind=5∨c.kind=6 then f c.after else c.after,before:=if c.kind=5∨c.kind=6 then f c.before else c.before,over:=sortI (c.over.map f) }
def fb (f:Ident→Ident) (c:Chg):Chg:=
 { c with file:=if 2≤c.kind∧c.kind≤6 then f c.file else c.file,parent:=if c.kind=2 then f c.parent else c.parent,after:=if c.kind=5∨c.kind=6 then f c.after else c.after,before:=if c.kind=5∨c.kind=6 then f c.before else c.before,over:=(c.over.map f).foldl Jz [] }
theorem Vy {c:Chg} {f g:Ident→Ident} (h:Oa c fun x=>f x=g x) (hr:f rRoot=g rRoot) (hn:(c.over.map f).Nodup):FU f c=fb g c:=by
 have ho:c.over.map f=c.over.map g:=Ca fun x hx=>h.over x hx
 unfold FU fb
 rw[bL hn,ho]
 congr 1
 ·split
  ·rename_i k;exact h.file k.1 k.2
  ·rfl
 ·split
  ·rename_i k
   by_cases hp:c.parent=rRoot
   ·rw[hp];exact hr
   ·exact h.parent k hp
  ·rfl
 ·split
  ·rename_i k;exact h.after k
  ·rfl
 ·split
  ·rename_i k;exact h.before k
  ·rfl
structure Wg (cnt:Dig→Nat) (st:List (Dig × Int)) (n:Int):Prop where
 nodup:(st.map (·.1)).Nodup
 pos:0≤n
 le: ∀ e∈st,0≤e.2∧e.2+cnt e.1≤n
 apart: ∀ e∈st,∀ f∈st,e.1≠f.1→e.2+cnt e.1≤f.2∨f.2+cnt f.1≤e.2
theorem Q5 {κ:Type} [DecidableEq κ] {k:κ}: ∀ {l:List κ},k∉l→HA k l=none
 | [],_=>rfl
 |a::l,h=>by
  have h1: ¬k=a:=fun e=>h (e ▸ AG)
  simp only[HA,if_neg h1,Q5 fun hl=>h (AJ _ hl),Option.map_none]
theorem Qt {κ α:Type} [DecidableEq κ] {k:κ} {x:α}: ∀ {l:List (κ × α)},CB k l=some x→(k,x)∈l
 | [],h=>by simp[CB]at h
 |(a,y)::l,h=>by
  unfold CB at h
  split at h
  ·rename_i e;cases h;subst e;exact AG
  ·exact AJ _ (Qt h)
theorem UE {κ α:Type} [DecidableEq κ] {k:κ}: ∀ {l:List (κ × α)},k∈l.map (·.1)→ ∃ x,CB k l=some x
 | [],h=>by simp at h
 |(a,y)::l,h=>by
  unfold CB
  split
  ·exact⟨y,rfl⟩
  ·rename_i e
   rcases AH.1 h with h|h
   ·exact absurd h e
   ·exact UE h
theorem Wg.step {cnt:Dig→Nat} {st:List (Dig × Int)} {n:Int} (h:Wg cnt st n) {d:Dig} (hd:d∉st.map (·.1)):Wg cnt (DD d n st) (n+cnt d):=by
 rw[H3 d n (Q5 hd)]
 have hp:=h.pos
 refine⟨?_,by omega,fun e he=>?_,fun e he f hf hne=>?_⟩
 ·rw[Aq]
  refine EG.2 ⟨h.nodup,by simp,fun a ha b hb e=>?_⟩
  simp only[Ar,CY,Ah]at hb
  subst e;subst hb;exact hd ha
 ·rcases Aj.1 he with he|he
  ·have:=h.le e he;omega
  ·rw[Ah.1 he];dsimp only;omega
 ·rcases Aj.1 he with he|he<;>rcases Aj.1 hf with hf|hf
  ·exact h.apart e he f hf hne
  ·have:=h.le e he
   rw[Ah.1 hf];dsimp only;omega
  ·have:=h.le f hf
   rw[Ah.1 he];dsimp only;omega
  ·rw[Ah.1 he,Ah.1 hf]at hne
   exact absurd rfl hne
def fJ (st:List (Dig × Int)) (d:Dig) (x:Ident):Ident:=match CB (if Ed x=true then d else x.patch) st with
 |some k=>if 0≤x.n then⟨Dig.zero,k+x.n⟩else x
 |none=>x
def ZP:List Mvd→Ident→Ident
 | [],x=>x
 |m::l,x=>if x.patch=m.old∧m.lo≤x.n∧x.n < m.hi then⟨m.patch,m.dst+x.n - m.lo⟩else ZP l x
def gM (l:List Mvd) (d:Dig) (x:Ident):Ident:=ZP l (if Ed x=true then⟨d,x.n⟩else x)
def uF (cnt:Dig→Nat) (e:Dig × Int):Mvd:=⟨e.1,0,cnt e.1,Dig.zero,e.2⟩
theorem Ru {l:List Mvd} {x:Ident} (h: ∀ m∈l,x.patch=m.old→m.lo≤x.n→ ¬x.n < m.hi):ZP l x=x:=by
 induction l with
 |nil=>rfl
 |cons m l ih=>
  unfold ZP
  rw[if_neg fun k=>h m AG k.1 k.2.1 k.2.2]
  exact ih fun m hm=>h m (AJ _ hm)
theorem Rv (cnt:Dig→Nat): ∀ {st:List (Dig × Int)} {y:Ident} {k:Int},CB y.patch st=some k→0≤y.n→y.n < cnt y.patch→ZP (st.map (uF cnt)) y=⟨Dig.zero,k+y.n⟩
 | [],y,k,h,_,_=>by simp[CB]at h
 |(a,j)::st,y,k,h,h0,h1=>by
  unfold CB at h
  simp only[Ar,ZP,uF]
  split at h
  ·rename_i e
   cases h
   rw[if_pos ⟨e,h0,by rw[←e];exact h1⟩]
   congr 1;omega
  ·rename_i e
   rw[if_neg fun k=>e k.1]
   exact Rv cnt h h0 h1
theorem UD {κ α:Type} [DecidableEq κ] {k:κ} {l:List (κ × α)} (h:CB k l=none):k∉l.map (·.1):=fun hk=>by
 obtain⟨x,hx⟩:=UE hk
 rw[hx]at h;cases h
def cntS (s:List Sto) (d:Dig):Nat:=Hl ((getS s d).getD Pat.zero)
theorem BP.cntS {s:List Sto} (v:BP s) {x:Sto} (hx:x∈s):cntS s x.id=Hl x.patch:=by
 unfold Go.Proofs.cntS;rw[v.getS hx];rfl
theorem yA {s:List Sto} (v:BP s) {st:List (Dig × Int)} {x:Sto} (hx:x∈s) (hd:x.id∈st.map (·.1)) {y:Ident} (h:RL (Hl x.patch) y∧Kn s y):fJ st x.id y=gM (st.map (uF (cntS s))) x.id y:=by
 obtain⟨⟨h0,h1⟩,h2⟩:=h
 unfold fJ gM
 by_cases ho:Ed y=true
 ·rw[if_pos ho,if_pos ho]
  obtain⟨k,hk⟩:=UE hd
  have:=h1 (GX.1 ho).1
  rw[hk,Rv (y:=⟨x.id,y.n⟩) (cntS s) hk h0 (by rw[v.cntS hx];exact this)]
  dsimp only
  rw[if_pos h0]
 ·rw[if_neg ho,if_neg ho]
  have hz:y.patch≠Dig.zero:=fun e=>ho (GX.2 ⟨e,h0⟩)
  obtain⟨z,hzs,e,_,hlt⟩:=h2 hz
  cases hg:CB y.patch st with
  |none=>
   dsimp only
   refine(Ru fun m hm e2=>?_).symm
   obtain⟨a,ha,rfl⟩:=AQ.1 hm
   exact absurd (AQ.2 ⟨a,ha,e2.symm⟩) (UD hg)
  |some k=>
   dsimp only
   rw[if_pos h0,Rv (cntS s) hg h0 (by rw[←e,v.cntS hzs];exact hlt)]
theorem qB (st:List (Dig × Int)) (d:Dig):fJ st d rRoot=rRoot:=by
 unfold fJ
 split<;>rfl
theorem po {s:List Sto} (st:List (Dig × Int)) (d:Dig):gM (st.map (uF (cntS s))) d rRoot=rRoot:=by
 unfold gM
 rw[if_neg (by decide)]
 refine Ru fun m hm _ h=>?_
 obtain⟨a,_,rfl⟩:=AQ.1 hm
 exact absurd h (show ¬(0:Int)≤ -1 by decide)
theorem kR {l:List Ident} (h:Q2 l=true):Ss l:=by
 have step: ∀ i (h:i+1 < l.length),Hr l[i] l[i+1] < 0:=fun i hi=>by
  unfold Q2 at h
  have:=Bc.1 h i (Bg.2 (by omega))
  simpa [List.getD,hi,show i < l.length by omega]using this
 refine Ax.2 fun i j hi hj hij=>?_
 obtain⟨k,rfl⟩: ∃ k,j=i+1+k:=⟨j - i - 1,by omega⟩
 induction k with
 |zero=>exact step i hj
 |succ k ih=>exact Ident.lt_trans (ih (by omega) (by omega)) (step (i+1+k) hj)
theorem Tx {c:Chg} (h:C3 c=0):Ss c.over:=by
 unfold C3 at h
 split at h
 ·omega
 rename_i h1
 split at h
 ·omega
 rename_i h2
 split at h
 ·omega
 split at h
 ·omega
 split at h
 ·omega
 split at h
 ·omega
 split at h
 ·rename_i h5
  have h2:Fu (IG c)=true:=by simpa using h2
  unfold Fu at h2
  simp only[BR,AD]at h2
  have h3:=h2.2
  have:(IG c).over=c.over:=by unfold IG;dsimp only;rw[if_neg (by omega)]
  rw[this]at h3
  have:c.over= []:=BN (by omega)
  rw[this]
  exact .nil
 split at h
 ·omega
 split at h
 ·omega
 split at h
 ·omega
 rename_i h9
 exact kR (by simpa using h9)
def Sl (d:Dig) (y:Ident):Dig:=if Ed y=true then d else y.patch
theorem uj {s:List Sto} (v:BP s) {st:List (Dig × Int)} {n:Int} (hL:Wg (cntS s) st n) {x:Sto} (hx:x∈s) (hd:x.id∈st.map (·.1)) {y z:Ident} (hy:RL (Hl x.patch) y∧Kn s y) (hz:RL (Hl x.patch) z∧Kn s z)
  (ny:y.patch≠x.id∨y.patch=Dig.zero) (nz:z.patch≠x.id∨z.patch=Dig.zero) (e:fJ st x.id y=fJ st x.id z):y=z:=by
 have src: ∀ {w:Ident},RL (Hl x.patch) w∧Kn s w→0≤w.n∧w.n < cntS s (Sl x.id w)∧(Ed w=false→w.patch≠Dig.zero):=fun {w} hw=>by
  obtain⟨⟨h0,h1⟩,h2⟩:=hw
  unfold Sl
  by_cases ho:Ed w=true
  ·rw[if_pos ho,v.cntS hx]
   exact⟨h0,h1 (GX.1 ho).1,fun k=>by rw[ho]at k;cases k⟩
  ·rw[if_neg ho]
   have hz:w.patch≠Dig.zero:=fun e=>ho (GX.2 ⟨e,h0⟩)
   obtain⟨u,hu,e1,_,h3⟩:=h2 hz
   rw[←e1,v.cntS hu]
   exact⟨h0,h3,fun _=>e1 ▸ hz⟩
 obtain⟨y0,y1,y2⟩:=src hy
 obtain⟨z0,z1,z2⟩:=src hz
 have img: ∀ {w:Ident},0≤w.n→fJ st x.id w=match CB (Sl x.id w) st with|some k=>⟨Dig.zero,k+w.n⟩|none=>w:=fun {w} hw=>by
  unfold fJ Sl
  cases CB (if Ed w=true then x.id else w.patch) st with
  |none=>rfl
  |some k=>dsimp only;rw[if_pos hw]
 have own_in: ∀ {w:Ident},CB (Sl x.id w) st=none→Ed w=false:=fun {w} h=>by
  cases ho:Ed w with
  |false=>rfl
  |true=>
   unfold Sl at h
   rw[if_pos ho]at h
   exact absurd hd (UD h)
 rw[img y0,img z0]at e
 cases hgy:CB (Sl x.id y) st with
 |none=>
  rw[hgy]at e
  dsimp only at e
  cases hgz:CB (Sl x.id z) st with
  |none=>rw[hgz]at e;exact e
  |some k=>
   rw[hgz]at e
   dsimp only at e
   exact absurd (congrArg Ident.patch e) (y2 (own_in hgy))
 |some k=>
  rw[hgy]at e
  dsimp only at e
  cases hgz:CB (Sl x.id z) st with
  |none=>
   rw[hgz]at e
   dsimp only at e
   exact absurd (congrArg Ident.patch e).symm (z2 (own_in hgz))
  |some j=>
   rw[hgz]at e
   dsimp only at e
   have en:k+y.n=j+z.n:=congrArg Ident.n e
   by_cases hs:Sl x.id y=Sl x.id z
   ·rw[hs,hgz]at hgy
    cases hgy
    have hn:y.n=z.n:=by omega
    have hp:y.patch=z.patch:=by
     unfold Sl at hs
     by_cases oy:Ed y=true
     ·by_cases oz:Ed z=true
      ·rw[(GX.1 oy).1,(GX.1 oz).1]
      ·rw[if_pos oy,if_neg oz]at hs
       rcases nz with h|h
       ·exact absurd hs.symm h
       ·exact absurd h (z2 (by simpa using oz))
     ·by_cases oz:Ed z=true
      ·rw[if_neg oy,if_pos oz]at hs
       rcases ny with h|h
       ·exact absurd hs h
       ·exact absurd h (y2 (by simpa using oy))
      ·rw[if_neg oy,if_neg oz]at hs;exact hs
    cases y;cases z;simp_all
   ·have a:=hL.apart _ (Qt hgy) _ (Qt hgz) hs
    dsimp only at a
    omega
theorem aQ {s:List Sto} (v:BP s) {st:List (Dig × Int)} {n:Int} (hL:Wg (cntS s) st n) {x:Sto} (hx:x∈s) (hd:x.id∈st.map (·.1)) {c:Chg} (hc:c∈x.patch.changes):FU (fJ st x.id) c=fb (gM (st.map (uF (cntS s))) x.id) c:=by
 have hu:=v.uses hx hc
 refine Vy (hu.mono fun y hy=>yA v hx hd hy) (by rw[qB,po]) ?_
 have hp:=EH (Fc (v.id x hx).1).1
 obtain⟨i,hi,rfl⟩:=AY.1 hc
 have ha:=Tx (hp.fields i hi)
 have ns: ∀ y∈(x.patch.changes[i]).over,y.patch≠x.id∨y.patch=Dig.zero:=fun y hy=>by
  by_cases hz:y.patch=Dig.zero
  ·exact .inr hz
  ·refine .inl fun e=>?_
   have hn:=Jc (v.id x hx).1 hc (y:=y) (by unfold Ks;simp[hy]) (by unfold FP;simp[hz])
   have:=v.rank hx (e ▸ hn)
   omega
 refine RU.2 (ha.nodup.imp_of_mem fun {y z} hy hz hne e=>hne ?_)
 exact uj v hL hx hd (hu.over y hy) (hu.over z hz) (ns y hy) (ns z hz) e
def jP (s:List Sto) (l:List Dig) (r:List (Dig × Int) × Int × List Chg × List Dig) (d:Dig):List (Dig × Int) × Int × List Chg × List Dig:=
 if d∈l then(DD d r.2.1 r.1,r.2.1+cntS s d,r.2.2.1++((getS s d).getD Pat.zero).changes.map (FU (fJ (DD d r.2.1 r.1) d)),r.2.2.2++((getS s d).getD Pat.zero).deps.filter fun e=>decide (¬e∈l))else r
def Qv (s:List Sto) (l:List Dig) (m:Mta):Pat:=
 let r:=(CT s).foldl (jP s l) ([],0,[],[])
 ⟨m.author,m.message,m.time,KX (sortD r.2.2.2),r.2.2.1⟩
def jR (s:List Sto) (l:List Dig) (r:List Mvd × Int × List Chg × List Dig) (d:Dig):List Mvd × Int × List Chg × List Dig:=
 if d∈l then(r.1++ [⟨d,0,cntS s d,Dig.zero,r.2.1⟩],r.2.1+cntS s d,r.2.2.1++((getS s d).getD Pat.zero).changes.map (fb (gM (r.1++ [⟨d,0,cntS s d,Dig.zero,r.2.1⟩]) d)),(((getS s d).getD Pat.zero).deps.filter fun e=>decide (¬e∈l)).foldl FX r.2.2.2)else r
def eH (s:List Sto) (l:List Dig) (m:Mta):Pat:=
 let r:=(CT s).foldl (jR s l) ([],0,[],[])
 ⟨m.author,m.message,m.time,r.2.2.2,r.2.2.1⟩
theorem QS: ∀ (m l:List Dig),HB l→HB (m.foldl FX l)∧ ∀ d,d∈m.foldl FX l↔d∈l∨d∈m
 | [],l,h=>⟨h,fun d=>by simp⟩
 |y::m,l,h=>by
  obtain⟨a,b⟩:=QS m (FX l y) (Lk h)
  refine⟨a,fun d=>?_⟩
  rw[Bp,b,KV,AH]
  constructor
  ·rintro((h|h)|h)
   ·exact .inr (.inl h)
   ·exact .inl h
   ·exact .inr (.inr h)
  ·rintro(h|h|h)
   ·exact .inl (.inr h)
   ·exact .inl (.inl h)
   ·exact .inr h
theorem H4 (l:List Dig):HB (KX (sortD l))∧ ∀ d,d∈KX (sortD l)↔d∈l:=by
 obtain⟨a,b⟩:=SE (KC l) (sortD l).length (Ak _)
 rw[AF (Ak _)]at a b
 exact⟨a,fun d=>by rw[b,VY]⟩
structure RM (s:List Sto) (l done:List Dig) (p:List (Dig × Int) × Int × List Chg × List Dig) (r:List Mvd × Int × List Chg × List Dig):Prop where
 laid:Wg (cntS s) p.1 p.2.1
 keys: ∀ d,d∈p.1.map (·.1)↔d∈done∧d∈l
 mv:r.1=p.1.map (uF (cntS s))
 n:r.2.1=p.2.1
 cs:r.2.2.1=p.2.2.1
 asc:HB r.2.2.2
 deps: ∀ d,d∈r.2.2.2↔d∈p.2.2.2
theorem RM.step {s:List Sto} (v:BP s) {l done:List Dig} {p:List (Dig × Int) × Int × List Chg × List Dig} {r:List Mvd × Int × List Chg × List Dig} (h:RM s l done p r) {d:Dig} (hd:d∈ids s) (hn:d∉done):RM s l (done++ [d]) (jP s l p d) (jR s l r d):=by
 unfold jP jR
 by_cases hl:d∈l
 ·rw[if_pos hl,if_pos hl]
  have hk:d∉p.1.map (·.1):=fun k=>hn ((h.keys d).1 k).1
  have hnew:=H3 d p.2.1 (Q5 hk)
  have hL:=h.laid.step hk
  have hmv:r.1++ [⟨d,0,cntS s d,Dig.zero,r.2.1⟩]=(DD d p.2.1 p.1).map (uF (cntS s)):=by
   rw[h.mv,h.n,hnew,Aq];rfl
  obtain⟨x,hx,rfl⟩:=AQ.1 hd
  have hin:x.id∈(DD x.id p.2.1 p.1).map (·.1):=by rw[hnew];simp
  refine⟨hL,fun e=>?_,hmv,by dsimp only;rw[h.n],?_,?_,fun e=>?_⟩
  ·dsimp only
   rw[hnew,Aq,Aj,h.keys,Aj]
   constructor
   ·rintro(⟨a,b⟩|a)
    ·exact⟨.inl a,b⟩
    ·simp only[Ar,CY,Ah]at a
     subst a;exact⟨.inr (by simp),hl⟩
   ·rintro⟨a|a,b⟩
    ·exact .inl ⟨a,b⟩
    ·exact .inr (by simpa using a)
  ·dsimp only
   rw[h.cs,hmv,v.getS hx,Bj]
   congr 1
   exact Ca fun c hc=>(aQ v hL hx hin hc).symm
  ·exact(QS _ _ h.asc).1
  ·dsimp only
   rw[(QS _ _ h.asc).2,h.deps,Aj]
 ·rw[if_neg hl,if_neg hl]
  refine⟨h.laid,fun e=>?_,h.mv,h.n,h.cs,h.asc,h.deps⟩
  rw[h.keys,Aj]
  constructor
  ·rintro⟨a,b⟩;exact⟨.inl a,b⟩
  ·rintro⟨a|a,b⟩
   ·exact⟨a,b⟩
   ·rw[Ah.1 a]at b;exact absurd b hl
theorem RM.all {s:List Sto} (v:BP s) {l:List Dig}: ∀ (o done:List Dig) {p:List (Dig × Int) × Int × List Chg × List Dig} {r:List Mvd × Int × List Chg × List Dig},RM s l done p r→(∀ d∈o,d∈ids s)→(done++o).Nodup→RM s l (done++o) (o.foldl (jP s l) p) (o.foldl (jR s l) r)
 | [],done,_,_,h,_,_=>by rw[BW];exact h
 |d::o,done,_,_,h,h1,h2=>by
  have hn:d∉done:=fun k=>(EG.1 h2).2.2 d k d AG rfl
  have e:done++d::o=(done++ [d])++o:=by simp
  rw[e]at h2 ⊢
  exact RM.all v o _ (h.step v (h1 d AG) hn) (fun d hd=>h1 d (AJ _ hd)) h2
theorem gZ {s:List Sto} (v:BP s) (l:List Dig):RM s l (CT s) ((CT s).foldl (jP s l) ([],0,[],[])) ((CT s).foldl (jR s l) ([],0,[],[])):=by
 have ho:=Da s
 have:=RM.all v (l:=l) (CT s) [] (p:=([],0,[],[])) (r:=([],0,[],[])) ⟨⟨.nil,by decide,(fun e he=>absurd he Ai),(fun e he=>absurd he Ai)⟩,fun d=>by simp,rfl,rfl,rfl,.nil,fun d=>by simp⟩ ho.sub (by simpa using ho.nodup)
 simpa using this
theorem SZ {s:List Sto} (v:BP s) (l:List Dig) (m:Mta):Qv s l m=eH s l m:=by
 have h:=gZ v l
 unfold Qv eH
 obtain⟨a,b⟩:=H4 ((CT s).foldl (jP s l) ([],0,[],[])).2.2.2
 have e:KX (sortD ((CT s).foldl (jP s l) ([],0,[],[])).2.2.2)=((CT s).foldl (jR s l) ([],0,[],[])).2.2.2:=a.ext h.asc fun d=>by rw[b,h.deps]
 dsimp only
 rw[e,h.cs]
theorem fe {nd:Dig→List Dig} {l:List Dig} {d:Dig}:Q.Reach nd l d↔ ∃ q∈l,Q.Reach nd [q] d:=by
 constructor
 ·intro h
  induction h with
  |base h=>exact⟨_,h,.base (by simp)⟩
  |step _ hd ih=>
   obtain⟨q,hq,hr⟩:=ih
   exact⟨q,hq,.step hr hd⟩
 ·rintro⟨q,hq,hr⟩
  exact Reach.trans' (.base hq) hr
theorem OD {s:List Sto} (v:BP s) {p:Dig} (hp:p∈ids s) (q:Dig):Kb s p q=decide (q∈QF s p):=by
 have h:DI (ids s) [p]=true:=by simp[DI,hp]
 have e:Dk s [p]=(QF s p,0):=by unfold QF Dk;rw[if_neg (by simp[h])]
 rw[v.knows,e];rfl
def vz (s:List Sto) (l:List Dig):Bool:=DI (ids s) l&&!((LN s l).1.any fun d=>decide (d∈(Dk s l).1)&&!decide (d∈l))
def cvR (s:List Sto) (l:List Dig):Bool:=DI (ids s) l&&s.all fun x=>decide (x.id∈l)||!(l.any (fun q=>Kb s x.id q)&&l.any fun q=>Kb s q x.id)
theorem iY {u l:List Dig} (h:DI u l=true): ∀ d∈l,d∈u:=fun d hd=>by simpa using Bc.1 h d hd
theorem qI {s:List Sto} (v:BP s) (l:List Dig):vz s l=cvR s l:=by
 unfold vz cvR
 by_cases h:DI (ids s) l=true
 ·rw[h,EK,EK]
  have hl:=iY h
  have hc: ∀ d,d∈(Dk s l).1↔ ∃ q∈l,d∈QF s q:=fun d=>by
   obtain⟨L,e,_,hm⟩:=v.closedM hl
   rw[e]
   dsimp only
   rw[hm,fe]
   constructor
   ·rintro⟨q,hq,hr⟩;exact⟨q,hq,(v.mem_clo (hl q hq) d).2 hr⟩
   ·rintro⟨q,hq,hr⟩;exact⟨q,hq,(v.mem_clo (hl q hq) d).1 hr⟩
  have hu:(LN s l).1=YF s l s:=by unfold LN;rw[if_neg (by simp[h])]
  rw[hu,Iu,AI,Br,Bc]
  constructor
  ·intro k x hx
   have hx':x.id∈ids s:=AQ.2 ⟨x,hx,rfl⟩
   by_cases hin:x.id∈l
   ·simp[hin]
   ·simp only[hin,decide_false,Gd,AI,VQ,Br]
    by_cases ha: ∃ q∈l,q∈QF s x.id
    ·refine .inr fun q hq hk=>k x.id (U9.2 ⟨hx',ha⟩) ?_
     rw[OD v (hl q hq)]at hk
     simp only[BR,AD,AI,A8]
     exact⟨(hc x.id).2 ⟨q,hq,BJ hk⟩,hin⟩
    ·refine .inl fun q hq hk=>ha ⟨q,hq,?_⟩
     rw[OD v hx']at hk
     exact BJ hk
  ·intro k d hd hk
   obtain⟨hd1,q,hq,hqd⟩:=U9.1 hd
   simp only[BR,AD,AI,A8]at hk
   obtain⟨x,hx,rfl⟩:=AQ.1 hd1
   obtain⟨p,hp,hdp⟩:=(hc x.id).1 hk.1
   have:=k x hx
   simp only[hk.2,decide_false,Gd,AI,VQ,Br]at this
   rcases this with h1|h1
   ·exact h1 q hq (by rw[OD v hd1];exact BF hqd)
   ·exact h1 p hp (by rw[OD v (hl p hp)];exact BF hdp)
 ·have h:DI (ids s) l=false:=by simpa using h
  rw[h];rfl
def MH (s:List Sto) (l:List Dig):Bool:=s.any fun x=>!decide (x.id∈l)&&(B7 x.patch).any fun d=>decide (d∈l)
def Ir (s:List Sto) (l:List Dig):List Sto:=s.filter fun x=>decide (¬x.id∈l)
theorem fw (s:List Sto) (l:List Dig):Ir s l=Hp s ((ids s).filter fun d=>decide (¬d∈l)):=by
 unfold Ir Hp
 refine im fun x hx=>?_
 have hx':x.id∈ids s:=AQ.2 ⟨x,hx,rfl⟩
 rw[decide_eq_decide,GN]
 simp[hx']
theorem BP.out {s:List Sto} (v:BP s) {l:List Dig} (h:MH s l=false):BP (Ir s l):=by
 rw[fw]
 refine v.keep fun x hx hxc d hd=>?_
 have hxl: ¬x.id∈l:=by simpa using (GN.1 hxc).2
 have:=Br.1 h x hx
 simp only[hxl,decide_false,Bool.not_false,EK,Bw,AD,not_exists,not_and]at this
 exact GN.2 ⟨v.close.2 x hx d hd,BF (this d hd)⟩
def fO (s:List Sto) (l:List Dig) (m:Mta):List Sto × Dig × Int:=
 if DI (ids s) l=false then([],Dig.zero,7)else if l.length=0∨vz s l=false then([],Dig.zero,1)else if MH s l=true then([],Dig.zero,19)else FB (Ir s l) (Qv s l m)
def zl (s:List Sto) (l:List Dig) (m:Mta):List Sto × Dig × Int:=
 if DI (ids s) l=false then([],Dig.zero,7)else if l.length=0∨cvR s l=false then([],Dig.zero,1)else if MH s l=true then([],Dig.zero,19)else FB (Ir s l) (eH s l m)
theorem np {s:List Sto} (v:BP s) (l:List Dig) (m:Mta):fO s l m=zl s l m:=by
 unfold fO zl
 rw[qI v,SZ v]
theorem jM {α:Type} {f:α→Nat} {l m:List α} (h:l.Perm m):(l.map f).sum=(m.map f).sum:=by
 induction h with
 |nil=>rfl
 |cons x _ ih=>simp only[Ar,DY,ih]
 |swap x y l=>simp only[Ar,DY];omega
 |trans _ _ h1 h2=>rw[h1,h2]
theorem Sz {α:Type} [DecidableEq α] {f:α→Nat}: ∀ {l u:List α},l.Nodup→(∀ x∈l,x∈u)→(l.map f).sum≤(u.map f).sum
 | [],u,_,_=>RQ _
 |x::l,u,hn,h=>by
  obtain⟨h1,h2⟩:=Bo.1 hn
  have hx:=h x AG
  have hp:=List.perm_cons_erase hx
  rw[jM hp]
  simp only[Ar,DY]
  have:=Sz (f:=f) (u:=u.erase x) h2 fun y hy=>by
   have hne:y≠x:=fun e=>h1 (e ▸ hy)
   exact(List.mem_erase_of_ne hne).2 (h y (AJ _ hy))
  omega
theorem iK (l:List Dig):(KX l).length≤l.length:=by
 have h: ∀ k,k≤l.length→(KX (l.take k)).length≤k:=fun k=>by
  induction k with
  |zero=>intro _;simp[KX]
  |succ k ih=>
   intro hk
   have:=ih (by omega)
   rcases QJ k with rfl|h0
   ·have e:l.take (0+1)= []++ [l[0]]:=by rw[A7 (by omega)];rfl
    rw[e,Ug]
    split
    ·simp[KX]
    ·simp[KX]
   ·rw[R9 h0 (by omega)]
    split
    ·omega
    ·rw[AA,Au];omega
 have:=h l.length (Ak _)
 rwa [AF (Ak _)]at this
theorem gP (f:Ident→Ident) (c:Chg):(FU f c).over.length=c.over.length:=by
 show(sortI (c.over.map f)).length=_
 unfold sortI
 rw[DA,AR]
theorem S3 (f:Ident→Ident) (c:Chg):fi (FU f c)=fi c∧IE (FU f c)=IE c∧KF (FU f c)=KF c:=by
 have h:=gP f c
 refine⟨?_,rfl,?_⟩
 ·unfold fi;rw[h];rfl
 ·unfold KF;rw[h];rfl
theorem Tz {s:List Sto} {l:List Dig} {x:Sto}:x∈Ir s l↔x∈s∧ ¬x.id∈l:=by
 unfold Ir
 rw[GN,AD]
theorem gL {c:Chg} {f:Ident→Ident} (h:Oa c fun x=>f x=x) (hr:f rRoot=rRoot) (ho:Ss c.over):FU f c=c:=by
 have e:c.over.map f=c.over:=by
  have:c.over.map f=c.over.map id:=Ca fun x hx=>h.over x hx
  rw[this,List.map_id]
 unfold FU
 rw[e,aX (VX ho.nodup) ho fun x=>Oi]
 have a1:(if 2≤c.kind∧c.kind≤6 then f c.file else c.file)=c.file:=by
  split
  ·rename_i k;exact h.file k.1 k.2
  ·rfl
 have a2:(if c.kind=2 then f c.parent else c.parent)=c.parent:=by
  split
  ·rename_i k
   by_cases hp:c.parent=rRoot
   ·rw[hp];exact hr
   ·exact h.parent k hp
  ·rfl
 have a3:(if c.kind=5∨c.kind=6 then f c.after else c.after)=c.after:=by
  split
  ·rename_i k;exact h.after k
  ·rfl
 have a4:(if c.kind=5∨c.kind=6 then f c.before else c.before)=c.before:=by
  split
  ·rename_i k;exact h.before k
  ·rfl
 rw[a1,a2,a3,a4]
theorem BP.not_self {s:List Sto} (v:BP s) {x:Sto} (hx:x∈s) {c:Chg} (hc:c∈x.patch.changes) {y:Ident} (hy:y∈Ks c):y.patch≠x.id∨y.patch=Dig.zero:=by
 by_cases hz:y.patch=Dig.zero
 ·exact .inr hz
 ·refine .inl fun e=>?_
  have hn:=Jc (v.id x hx).1 hc hy (by unfold FP;simp[hz])
  have:=v.rank hx (e ▸ hn)
  omega
def FH (c:Chg):Nat:=(CW c 0).length
theorem Hc (c:Chg) (n:Int):(CW c n).length=FH c:=by
 unfold FH CW
 repeat' split
 all_goals simp
def CD (cs:List Chg) (i:Nat):Nat:=((cs.take i).map FH).sum
theorem QA: ∀ (l:List Chg) (own:List Atm),(l.foldl (fun own c=>own++CW c own.length) own).length=own.length+(l.map FH).sum
 | [],own=>by simp
 |c::l,own=>by
  rw[Bp,QA l,AA,Hc,Ar,DY];omega
theorem Rr (cs:List Chg) (i:Nat):(Qo cs i).length=CD cs i:=by
 unfold Qo CD
 rw[QA];simp
theorem Ni.cnt {p:Pat} (h:Ni p):Hl p=CD p.changes p.changes.length:=by
 unfold Hl CD
 rw[h.made,QA,AF (Ak _)];simp
theorem FV {cs:List Chg} {i:Nat} (h:i < cs.length):CD cs (i+1)=CD cs i+FH cs[i]:=by
 unfold CD
 rw[KA h]
theorem SA (cs:List Chg):CD cs 0=0:=by simp[CD]
theorem EN (cs:List Chg) {i j:Nat} (h:i≤j):CD cs i≤CD cs j:=by
 obtain⟨k,rfl⟩: ∃ k,j=i+k:=⟨j - i,by omega⟩
 induction k with
 |zero=>exact Ak _
 |succ k ih=>
  refine Cz (ih (by omega)) ?_
  by_cases hk:i+k < cs.length
  ·rw[show i+(k+1)=i+k+1 from rfl,FV hk];omega
  ·unfold CD
   rw[AF (by omega),AF (by omega)];exact Ak _
def DT (cs:List Chg) (n:Int):Nat:=((List.range cs.length).filter fun i=>decide ((CD cs i:Int)≤n)).length - 1
theorem OO {f:Nat→Nat} (hf: ∀ i j,i≤j→f i≤f j) {n:Int} {k:Nat}: ∀ {m:Nat},k < m→(f k:Int)≤n→(∀ i,k < i→i < m→ ¬(f i:Int)≤n)→((List.range m).filter fun i=>decide ((f i:Int)≤n)).length=k+1
 |0,h,_,_=>absurd h (DF _)
 |m+1,h,h1,h2=>by
  rw[EJ,Eo,AA]
  by_cases hk:k=m
  ·subst hk
   have hall:((List.range k).filter fun i=>decide ((f i:Int)≤n))=List.range k:=by
    rw[K4]
    intro i hi
    have:=hf i k (by have:=Bg.1 hi;omega)
    exact BF (by omega)
   rw[hall,GH (by simpa using h1)];simp
  ·have:=OO (n:=n) hf (m:=m) (by omega) h1 fun i a b=>h2 i a (by omega)
   rw[this,Eu (by simpa using h2 m (by omega) (by omega))];simp
theorem TE {cs:List Chg} {n:Int} {k:Nat} (hk:k < cs.length) (h1:(CD cs k:Int)≤n) (h2:n < CD cs (k+1)):DT cs n=k:=by
 unfold DT
 rw[OO (f:=CD cs) (fun i j h=>EN cs h) hk h1 fun i a _=>?_]
 ·rfl
 ·have:=EN cs (show k+1≤i by omega)
  omega
theorem XO (cs:List Chg) (n:Int) (h0:0≤n): ∀ m,m≤cs.length→n < CD cs m→ ∃ k,k < m∧(CD cs k:Int)≤n∧n < CD cs (k+1)
 |0,_,h=>by rw[SA]at h;omega
 |m+1,hm,h=>by
  by_cases hn:n < CD cs m
  ·obtain⟨k,a,b,c⟩:=XO cs n h0 m (by omega) hn
   exact⟨k,by omega,b,c⟩
  ·exact⟨m,by omega,by omega,h⟩
theorem MI {cs:List Chg} {n:Int} {m:Nat} (hm:m≤cs.length) (h0:0≤n) (h:n < CD cs m):DT cs n < m∧(CD cs (DT cs n):Int)≤n∧n < CD cs (DT cs n+1):=by
 obtain⟨k,a,b,c⟩:=XO cs n h0 m hm h
 rw[TE (by omega) b c]
 exact⟨a,b,c⟩
structure J8 (P:List (List Nat)) (n:Nat):Prop where
 ne: ∀ l∈P,l≠ []
 asc: ∀ l∈P,l.Pairwise fun a b=>a < b
 lt: ∀ l∈P,∀ c∈l,c < n
 apart:P.Pairwise fun l m=> ∀ c∈l,c∉m
 all: ∀ c,c < n→ ∃ l∈P,c∈l
def JE (P:List (List Nat)) (c:Nat):Nat:=P.findIdx fun l=>decide (c∈l)
theorem LU: ∀ {P:List (List Nat)},(P.Pairwise fun l m=> ∀ c∈l,c∉m)→ ∀ {k:Nat} (hk:k < P.length) {c:Nat},c∈P[k]→JE P c=k
 | [],_,k,hk,_,_=>absurd hk (DF _)
 |l::P,h,0,_,c,hc=>by
  unfold JE
  rw[JB]
  have:decide (c∈l)=true:=BF hc
  rw[this];rfl
 |l::P,h,k+1,hk,c,hc=>by
  obtain⟨h1,h2⟩:=Bq.1 h
  have hk':k < P.length:=by simpa using hk
  have hc':c∈P[k]:=by simpa using hc
  have hn: ¬c∈l:=fun hl=>h1 _ (AB hk') c hl hc'
  have ih:=LU h2 hk' hc'
  unfold JE at ih ⊢
  rw[JB]
  have:decide (c∈l)=false:=Cp hn
  rw[this,cond_false,ih]
theorem J8.mem {P:List (List Nat)} {n:Nat} (h:J8 P n) {c:Nat} (hc:c < n): ∃ hk:JE P c < P.length,c∈P[JE P c]:=by
 obtain⟨l,hl,hcl⟩:=h.all c hc
 obtain⟨k,hk,rfl⟩:=AY.1 hl
 rw[LU h.apart hk hcl]
 exact⟨hk,hcl⟩
def Nj (P:List (List Nat)) (cs:List Chg) (c:Nat):Nat:=(((List.range c).filter fun d=>decide (JE P d=JE P c)).map fun d=>FH (cs.getD d Chg.zero)).sum
theorem Og {P:List (List Nat)} {n:Nat} (h:J8 P n) {cs:List Chg} {k:Nat} (hk:k < P.length) {a b:List Nat} {c:Nat} (e:P[k]=a++c::b):Nj P cs c=(a.map fun d=>FH (cs.getD d Chg.zero)).sum:=by
 have hc:c∈P[k]:=by rw[e];simp
 have hi:=LU h.apart hk hc
 have hasc:=h.asc _ (AB hk)
 rw[e]at hasc
 obtain⟨ha,hb,hab⟩:=HG.1 hasc
 have hcn:c < n:=h.lt _ (AB hk) c hc
 have key:((List.range c).filter fun d=>decide (JE P d=JE P c))=a:=by
  refine bl (r:=fun a b:Nat=>a < b) Fo (fun _ _ _=>Nat.lt_trans) (List.pairwise_lt_range.filter _) ha fun d=>?_
  rw[GN,Bg,AD,hi]
  constructor
  ·rintro⟨h1,h2⟩
   obtain⟨hk',hd⟩:=h.mem (c:=d) (by omega)
   have hd:d∈P[k]:=by
    have:=hd
    simp only[h2]at this
    exact this
   rw[e]at hd
   rcases Aj.1 hd with hd|hd
   ·exact hd
   ·rcases AH.1 hd with hd|hd
    ·omega
    ·have:=(Bq.1 hb).1 d hd
     omega
  ·intro hd
   exact⟨hab d hd c AG,LU h.apart hk (by rw[e];exact E1 _ hd)⟩
 unfold Nj
 rw[key]
def fS (P:List (List Nat)) (cs:List Chg) (is:List Dig) (k:Nat) (y:Ident):Ident:=
 if Ed y=true then⟨if JE P (DT cs y.n)=k then Dig.zero else is.getD (JE P (DT cs y.n)) Dig.zero,y.n - CD cs (DT cs y.n)+Nj P cs (DT cs y.n)⟩else y
def Kt (id:Dig) (P:List (List Nat)) (cs:List Chg) (is:List Dig) (k:Nat) (c:Nat):Mvd:=
 ⟨id,CD cs c,(CD cs c:Int)+FH (cs.getD c Chg.zero),if JE P c=k then Dig.zero else is.getD (JE P c) Dig.zero,Nj P cs c⟩
theorem pN {l:List Mvd} {e:Mvd} {x:Ident} (he:e∈l) (h1:x.patch=e.old∧e.lo≤x.n∧x.n < e.hi) (hu: ∀ m∈l,x.patch=m.old∧m.lo≤x.n∧x.n < m.hi→m=e):ZP l x=⟨e.patch,e.dst+x.n - e.lo⟩:=by
 induction l with
 |nil=>cases he
 |cons m l ih=>
  unfold ZP
  by_cases h:x.patch=m.old∧m.lo≤x.n∧x.n < m.hi
  ·rw[if_pos h,hu m AG h]
  ·rw[if_neg h]
   refine ih ?_ fun m' hm=>hu m' (AJ _ hm)
   rcases AH.1 he with rfl|he
   ·exact absurd h1 h
   ·exact he
theorem sC {id:Dig} {P:List (List Nat)} {cs:List Chg} {is:List Dig} {k:Nat} {D:List Nat} (hD: ∀ c∈D,c < cs.length) {y:Ident} (hy:Ed y=true→y.n < CD cs cs.length∧DT cs y.n∈D) (hn:Ed y=false→y.patch≠id∨y.n < 0):
  fS P cs is k y=gM (D.map (Kt id P cs is k)) id y:=by
 unfold fS gM
 by_cases ho:Ed y=true
 ·rw[if_pos ho,if_pos ho]
  obtain⟨hlt,hin⟩:=hy ho
  have h0:=(GX.1 ho).2
  obtain⟨a,b,c⟩:=MI (Ak _) h0 hlt
  have e0: ∀ {d:Nat} (hd:d < cs.length),(CD cs d:Int)+FH (cs.getD d Chg.zero)=CD cs (d+1):=fun {d} hd=>by
   rw[FV hd,BG,AO hd,Bj];omega
  rw[pN (x:=⟨id,y.n⟩) (e:=Kt id P cs is k (DT cs y.n)) (AQ.2 ⟨_,hin,rfl⟩) ⟨rfl,b,by unfold Kt;dsimp only;rw[e0 a];exact c⟩ fun m hm h=>?_]
  ·unfold Kt
   dsimp only
   congr 1
   omega
  ·obtain⟨d,hd,rfl⟩:=AQ.1 hm
   unfold Kt at h
   dsimp only at h
   rw[e0 (hD d hd)]at h
   rw[TE (hD d hd) h.2.1 h.2.2]
 ·rw[if_neg ho,if_neg ho]
  refine(Ru fun m hm e h=>?_).symm
  obtain⟨d,hd,rfl⟩:=AQ.1 hm
  unfold Kt at e h
  dsimp only at e h
  rcases hn (by simpa using ho)with h'|h'
  ·exact absurd e h'
  ·omega
theorem Oe {P:List (List Nat)} {n:Nat} (h:J8 P n) {cs:List Chg} {c d:Nat} (hc:c < d) (hd:d < n) (e:JE P c=JE P d):Nj P cs c+FH (cs.getD c Chg.zero)≤Nj P cs d:=by
 obtain⟨hk,hcm⟩:=h.mem (c:=c) (by omega)
 obtain⟨hk',hdm⟩:=h.mem hd
 have hdm:d∈P[JE P c]:=by simp only[e];exact hdm
 obtain⟨a,b,hab⟩:=dP hdm
 have hasc:=h.asc _ (AB hk)
 rw[hab]at hasc
 obtain⟨_,hb,_⟩:=HG.1 hasc
 have hca:c∈a:=by
  rw[hab]at hcm
  rcases Aj.1 hcm with h1|h1
  ·exact h1
  ·rcases AH.1 h1 with h1|h1
   ·omega
   ·have:=(Bq.1 hb).1 c h1
    omega
 obtain⟨a1,a2,ha⟩:=dP hca
 subst ha
 have hab':P[JE P c]=a1++c::(a2++d::b):=by rw[hab];simp
 rw[Og h hk hab',Og h hk hab]
 simp only[Aq,Ar,GM,DY]
 omega
theorem uh {P:List (List Nat)} {cs:List Chg} (h:J8 P cs.length) {is:List Dig} {k:Nat} (hz: ∀ j,j < k→is.getD j Dig.zero≠Dig.zero) (hn: ∀ i j,i < k→j < k→is.getD i Dig.zero=is.getD j Dig.zero→i=j)
  {G:Ident→Prop} (hG: ∀ y,G y→0≤y.n∧(Ed y=true→y.n < CD cs cs.length∧JE P (DT cs y.n)≤k)∧(Ed y=false→y.patch≠Dig.zero∧ ∀ j,j < k→y.patch≠is.getD j Dig.zero))
  {y z:Ident} (gy:G y) (gz:G z) (e:fS P cs is k y=fS P cs is k z):y=z:=by
 obtain⟨y0,y1,y2⟩:=hG y gy
 obtain⟨z0,z1,z2⟩:=hG z gz
 have pp: ∀ {w:Ident},Ed w=true→JE P (DT cs w.n)≤k→(fS P cs is k w).patch=Dig.zero∧JE P (DT cs w.n)=k∨JE P (DT cs w.n) < k∧(fS P cs is k w).patch=is.getD (JE P (DT cs w.n)) Dig.zero:=fun {w} hw hk=>by
  unfold fS
  rw[if_pos hw]
  dsimp only
  by_cases hi:JE P (DT cs w.n)=k
  ·rw[if_pos hi];exact .inl ⟨rfl,hi⟩
  ·rw[if_neg hi];exact .inr ⟨by omega,rfl⟩
 by_cases oy:Ed y=true
 ·obtain⟨a1,a2⟩:=y1 oy
  by_cases oz:Ed z=true
  ·obtain⟨b1,b2⟩:=z1 oz
   have same:JE P (DT cs y.n)=JE P (DT cs z.n):=by
    rcases pp oy a2 with ⟨p1,p2⟩|⟨p1,p2⟩<;>rcases pp oz b2 with ⟨q1,q2⟩|⟨q1,q2⟩
    ·rw[p2,q2]
    ·rw[e,q2]at p1;exact absurd p1 (hz _ q1)
    ·rw[e,q1]at p2;exact absurd p2.symm (hz _ p1)
    ·rw[e,q2]at p2;exact(hn _ _ q1 p1 p2).symm
   obtain⟨c1,c2,c3⟩:=MI (Ak _) y0 a1
   obtain⟨d1,d2,d3⟩:=MI (Ak _) z0 b1
   have en:y.n - CD cs (DT cs y.n)+Nj P cs (DT cs y.n)=z.n - CD cs (DT cs z.n)+Nj P cs (DT cs z.n):=by
    have:=congrArg Ident.n e
    unfold fS at this
    rw[if_pos oy,if_pos oz]at this
    exact this
   have cn: ∀ {d:Nat} (hd:d < cs.length),CD cs (d+1)=CD cs d+FH (cs.getD d Chg.zero):=fun {d} hd=>by
    rw[FV hd,BG,AO hd,Bj]
   rw[cn c1]at c3
   rw[cn d1]at d3
   have hnn:y.n=z.n:=by
    rcases LY (DT cs y.n) (DT cs z.n)with hl|hl|hl
    ·have:=Oe h (cs:=cs) hl d1 same
     omega
    ·rw[hl]at en;omega
    ·have:=Oe h (cs:=cs) hl c1 same.symm
     omega
   have hp:y.patch=z.patch:=by rw[(GX.1 oy).1,(GX.1 oz).1]
   cases y;cases z;simp_all
  ·have oz:Ed z=false:=by simpa using oz
   obtain⟨q1,q2⟩:=z2 oz
   have e2:fS P cs is k z=z:=by unfold fS;rw[if_neg (by simp[oz])]
   rw[e2]at e
   rcases pp oy a2 with ⟨p1,_⟩|⟨p1,p2⟩
   ·rw[e]at p1;exact absurd p1 q1
   ·rw[e]at p2;exact absurd p2 (q2 _ p1)
 ·have oy:Ed y=false:=by simpa using oy
  obtain⟨p1,p2⟩:=y2 oy
  have e1:fS P cs is k y=y:=by unfold fS;rw[if_neg (by simp[oy])]
  rw[e1]at e
  by_cases oz:Ed z=true
  ·obtain⟨b1,b2⟩:=z1 oz
   rcases pp oz b2 with ⟨q1,_⟩|⟨q1,q2⟩
   ·rw[←e]at q1;exact absurd q1 p1
   ·rw[←e]at q2;exact absurd q2 (p2 _ q1)
  ·have oz:Ed z=false:=by simpa using oz
   have e2:fS P cs is k z=z:=by unfold fS;rw[if_neg (by simp[oz])]
   rw[e2]at e
   exact e
def Ct (c:Chg):List Ident:=(if 2≤c.kind∧c.kind≤6 then [c.file]else [])++(if c.kind=2 then [c.parent]else [])++(if c.kind=5∨c.kind=6 then [c.after,c.before]else [])++c.over
def K1 (P:List (List Nat)) (cs:List Chg):Bool:=(List.range cs.length).any fun i=>(Ct (cs.getD i Chg.zero)).any fun y=>Ed y&&decide (JE P i < JE P (DT cs y.n))
theorem aw {c:Chg} {G:Ident→Prop} (h: ∀ y∈Ct c,G y):Oa c G:=by
 unfold Ct at h
 refine⟨fun a b=>h _ ?_,fun a _=>h _ ?_,fun a=>h _ ?_,fun a=>h _ ?_,fun y hy=>h _ ?_⟩
 ·simp[a,b]
 ·simp[a]
 ·rw[if_pos a];simp
 ·rw[if_pos a];simp
 ·simp[hy]
def QV (id:Dig) (cs:List Chg) (r:List Mvd × Int × List Chg) (c:Nat):List Mvd × Int × List Chg:=
 let l:=r.1++ [⟨id,CD cs c,(CD cs c:Int)+FH (cs.getD c Chg.zero),Dig.zero,r.2.1⟩]
 (l,r.2.1+FH (cs.getD c Chg.zero),r.2.2++ [fb (gM l id) (cs.getD c Chg.zero)])
structure Fj (s:List Sto) (x:Sto) (P:List (List Nat)):Prop where
 val:BP s
 mem:x∈s
 parts:J8 P x.patch.changes.length
 early:K1 P x.patch.changes=false
theorem Fj.uses {s:List Sto} {x:Sto} {P:List (List Nat)} (h:Fj s x P) {c:Nat} (hc:c < x.patch.changes.length):
  Oa x.patch.changes[c] fun y=>0≤y.n∧(Ed y=true→y.n < CD x.patch.changes c∧JE P (DT x.patch.changes y.n)≤JE P c)∧(Ed y=false→y.patch≠Dig.zero∧y.patch≠x.id∧y.patch∈ids s):=by
 have hp:=EH (Fc (h.val.id x h.mem).1).1
 have h1:=Px (hp.refs c hc)
 have h2:=h.val.uses h.mem (AB hc)
 have h3:Oa x.patch.changes[c] fun y=>Ed y=true→JE P (DT x.patch.changes y.n)≤JE P c:=aw fun y hy ho=>by
  have h0:=Br.1 h.early c (Bg.2 hc)
  rw[BG,AO hc,Bj,Jv]at h0
  have h1:=Br.1 h0 y hy
  rw[ho,EK,AD]at h1
  omega
 have h4:Oa x.patch.changes[c] fun y=>y.patch≠x.id∨y.patch=Dig.zero:=⟨fun _ _=>h.val.not_self h.mem (AB hc) (by simp[Ks]),fun _ _=>h.val.not_self h.mem (AB hc) (by simp[Ks]),fun _=>h.val.not_self h.mem (AB hc) (by simp[Ks]),fun _=>h.val.not_self h.mem (AB hc) (by simp[Ks]),fun y hy=>h.val.not_self h.mem (AB hc) (by simp[Ks,hy])⟩
 refine(((h1.and h2).and h3).and h4).mono fun y ⟨⟨⟨a1,a2⟩,a3⟩,a4⟩=>⟨a1.1,fun ho=>⟨?_,a3 ho⟩,fun ho=>?_⟩
 ·have:=a1.2 (GX.1 ho).1
  rw[Rr]at this
  exact this
 ·have hz:y.patch≠Dig.zero:=fun e=>by
   have:=GX.2 ⟨e,a1.1⟩
   rw[ho]at this;cases this
  obtain⟨z,hz1,hz2,_⟩:=a2.2 hz
  exact⟨hz,a4.elim id fun e=>absurd e hz,hz2 ▸ AQ.2 ⟨z,hz1,rfl⟩⟩
theorem Fj.change {s:List Sto} {x:Sto} {P:List (List Nat)} (h:Fj s x P) {is:List Dig} {k:Nat} (hz: ∀ j,j < k→is.getD j Dig.zero≠Dig.zero) (hn: ∀ i j,i < k→j < k→is.getD i Dig.zero=is.getD j Dig.zero→i=j)
  (hs: ∀ j,j < k→is.getD j Dig.zero∈ids s→is.getD j Dig.zero=x.id) {c:Nat} (hc:c < x.patch.changes.length) (hk:JE P c=k)
  {D:List Nat} (hD: ∀ d∈D,d < x.patch.changes.length) (hall: ∀ d,d < x.patch.changes.length→(JE P d < k∨JE P d=k∧d < c)→d∈D):
  FU (fS P x.patch.changes is k) x.patch.changes[c]=fb (gM (D.map (Kt x.id P x.patch.changes is k)) x.id) x.patch.changes[c]:=by
 have hp:=EH (Fc (h.val.id x h.mem).1).1
 have hu:=h.uses hc
 have hm:=EN x.patch.changes (show c≤x.patch.changes.length by omega)
 refine Vy (hu.mono fun y ⟨a0,a1,a2⟩=>?_) ?_ ?_
 ·refine sC hD (fun ho=>?_) fun ho=> .inl (a2 ho).2.1
  obtain⟨b1,b2⟩:=a1 ho
  obtain⟨c1,_,_⟩:=MI (cs:=x.patch.changes) (m:=c) (by omega) a0 b1
  refine⟨by omega,hall _ (by omega) ?_⟩
  rw[hk]at b2
  omega
 ·refine sC hD (fun ho=>absurd ho (by decide)) fun _=> .inr (by decide)
 ·refine RU.2 ((Tx (hp.fields c hc)).nodup.imp_of_mem fun {y z} hy hz' hne e=>hne ?_)
  refine uh h.parts hz hn (G:=fun y=>0≤y.n∧(Ed y=true→y.n < CD x.patch.changes c∧JE P (DT x.patch.changes y.n)≤JE P c)∧(Ed y=false→y.patch≠Dig.zero∧y.patch≠x.id∧y.patch∈ids s)) (fun y ⟨a0,a1,a2⟩=>⟨a0,fun ho=>?_,fun ho=>⟨(a2 ho).1,fun j hj e=>?_⟩⟩) (hu.over y hy) (hu.over z hz') e
  ·obtain⟨b1,b2⟩:=a1 ho
   exact⟨by omega,by omega⟩
  ·obtain⟨_,b2,b3⟩:=a2 ho
   rw[e]at b2 b3
   exact b2 (hs j hj b3)
def Ez (x:Sto) (P:List (List Nat)) (is:List Dig) (l:List Nat) (m:Mta):Pat:=
 ⟨m.author,m.message,m.time,KX (sortD (B7 x.patch++is)),l.map fun c=>FU (fS P x.patch.changes is is.length) (x.patch.changes.getD c Chg.zero)⟩
def PF (x:Sto) (P:List (List Nat)):List (List Nat × Mta)→List Sto→List Dig→List Sto × List Dig × Int
 | [],t,is=>(t,is,0)
 |e::o,t,is=>if(FB t (Ez x P is e.1 e.2)).2.2≠0 then([],[],(FB t (Ez x P is e.1 e.2)).2.2)else PF x P o (FB t (Ez x P is e.1 e.2)).1 (is++ [(FB t (Ez x P is e.1 e.2)).2.1])
def Qm (x:Sto) (deps:List Dig) (done:List Mvd) (l:List Nat) (m:Mta):Pat:=
 ⟨m.author,m.message,m.time,deps,(l.foldl (QV x.id x.patch.changes) (done,0,[])).2.2⟩
def kq (x:Sto) (done:List Mvd) (l:List Nat) (d:Dig):List Mvd:=
 done++(((l.foldl (QV x.id x.patch.changes) (done,0,[])).1).drop done.length).map fun e=>{ e with patch:=d }
def nw (x:Sto):List (List Nat × Mta)→List Sto→List Dig→List Dig→List Mvd→List Sto × List Dig × Int
 | [],t,is,_,_=>(t,is,0)
 |e::o,t,is,deps,done=>if(FB t (Qm x deps done e.1 e.2)).2.2≠0 then([],[],(FB t (Qm x deps done e.1 e.2)).2.2)else nw x o (FB t (Qm x deps done e.1 e.2)).1 (is++ [(FB t (Qm x deps done e.1 e.2)).2.1]) (FX deps (FB t (Qm x deps done e.1 e.2)).2.1) (kq x done e.1 (FB t (Qm x deps done e.1 e.2)).2.1)
structure Uu (s:List Sto) (x:Sto) (is:List Dig):Prop where
 nz: ∀ d∈is,d≠Dig.zero
 nodup:is.Nodup
 old: ∀ d∈is,d∈ids s→d=x.id
theorem Ff {is:List Dig} {j:Nat} (h:j < is.length):is.getD j Dig.zero=is[j]:=by simp[List.getD,h]
theorem Fj.steps {s:List Sto} {x:Sto} {P:List (List Nat)} (h:Fj s x P) {is:List Dig} (hn:Uu s x is) (hk:is.length < P.length): ∀ j,j≤(P[is.length]).length→
  ((P[is.length]).take j).foldl (QV x.id x.patch.changes) ((P.take is.length).flatten.map (Kt x.id P x.patch.changes is is.length),0,[])=
   (((P.take is.length).flatten++(P[is.length]).take j).map (Kt x.id P x.patch.changes is is.length),(((((P[is.length]).take j).map fun d=>FH (x.patch.changes.getD d Chg.zero)).sum:Nat):Int),((P[is.length]).take j).map fun c=>FU (fS P x.patch.changes is is.length) (x.patch.changes.getD c Chg.zero)):=by
 intro j
 have hP:=h.parts
 have hlt: ∀ d∈P[is.length],d < x.patch.changes.length:=hP.lt _ (AB hk)
 induction j with
 |zero=>intro _;simp
 |succ j ih=>
  intro hj
  have hj':j < (P[is.length]).length:=by omega
  have e:(P[is.length]).take (j+1)=(P[is.length]).take j++ [(P[is.length])[j]]:=A7 hj'
  have hc:=hlt _ (AB hj')
  have hin:JE P (P[is.length])[j]=is.length:=LU hP.apart hk (AB hj')
  have hsta:Nj P x.patch.changes (P[is.length])[j]=(((P[is.length]).take j).map fun d=>FH (x.patch.changes.getD d Chg.zero)).sum:=by
   refine Og hP hk (b:=(P[is.length]).drop (j+1)) ?_
   rw[←C6 hj',Bf]
  have hent:Kt x.id P x.patch.changes is is.length (P[is.length])[j]=⟨x.id,CD x.patch.changes (P[is.length])[j],(CD x.patch.changes (P[is.length])[j]:Int)+FH (x.patch.changes.getD (P[is.length])[j] Chg.zero),Dig.zero,((((P[is.length]).take j).map fun d=>FH (x.patch.changes.getD d Chg.zero)).sum:Nat)⟩:=by
   unfold Kt
   rw[if_pos hin,hsta]
  rw[e,BX,ih (by omega),Bp,La]
  unfold QV
  dsimp only
  rw[←hent]
  have hmap:((P.take is.length).flatten++(P[is.length]).take j).map (Kt x.id P x.patch.changes is is.length)++ [Kt x.id P x.patch.changes is is.length (P[is.length])[j]]=((P.take is.length).flatten++((P[is.length]).take j++ [(P[is.length])[j]])).map (Kt x.id P x.patch.changes is is.length):=by
   simp only[Aq,Ar,CY,AV]
  rw[hmap]
  have hget:x.patch.changes.getD (P[is.length])[j] Chg.zero=x.patch.changes[(P[is.length])[j]]:=by simp[List.getD,hc]
  have hch:=h.change (is:=is) (k:=is.length) (fun i hi=>by rw[Ff hi];exact hn.nz _ (AB hi)) (fun i i' hi hi' e=>by
   rw[Ff hi,Ff hi']at e
   exact(Sy hn.nodup).1 e) (fun i hi hs=>by rw[Ff hi]at hs ⊢;exact hn.old _ (AB hi) hs) hc hin
   (D:=(P.take is.length).flatten++((P[is.length]).take j++ [(P[is.length])[j]])) (fun d hd=>by
    rcases Aj.1 hd with hd|hd
    ·obtain⟨l,hl,hdl⟩:=EB.1 hd
     exact hP.lt l (Et hl) d hdl
    ·rw[←e]at hd
     exact hlt d (Et hd)) (fun d hd hor=>by
    obtain⟨hk',hdm⟩:=hP.mem hd
    rcases hor with hlt'|⟨heq,hdc⟩
    ·exact E1 _ (EB.2 ⟨_,Db.2 ⟨JE P d,by omega,rfl⟩,hdm⟩)
    ·refine DW _ (E1 _ ?_)
     have hdm:d∈P[is.length]:=by simp only[heq]at hdm;exact hdm
     obtain⟨i,hi,rfl⟩:=AY.1 hdm
     have hij:i < j:=by
      rcases B8 i j with h'|h'
      ·exact h'
      ·exfalso
       rcases Nat.eq_or_lt_of_le h' with h'|h'
       ·subst h';omega
       ·have:=Ax.1 (hP.asc _ (AB hk)) j i hj' hi h'
        omega
     exact Db.2 ⟨i,by omega,rfl⟩)
  rw[hget,←hch]
  simp only[Aq,Ar,CY,GM,DY,LZ,hget,Prod.mk.injEq,true_and,and_true]
  omega
theorem Fj.part {s:List Sto} {x:Sto} {P:List (List Nat)} (h:Fj s x P) {is:List Dig} (hn:Uu s x is) (hk:is.length < P.length) (m:Mta):
  Qm x (KX (sortD (B7 x.patch++is))) ((P.take is.length).flatten.map (Kt x.id P x.patch.changes is is.length)) P[is.length] m=Ez x P is P[is.length] m∧
  ∀ d,kq x ((P.take is.length).flatten.map (Kt x.id P x.patch.changes is is.length)) P[is.length] d=(P.take (is.length+1)).flatten.map (Kt x.id P x.patch.changes (is++ [d]) (is.length+1)):=by
 have hst:=h.steps hn hk (P[is.length]).length (Ak _)
 rw[AF (Ak _)]at hst
 refine⟨?_,fun d=>?_⟩
 ·unfold Qm Ez
  rw[hst]
 ·unfold kq
  rw[hst]
  dsimp only
  have e:P.take (is.length+1)=P.take is.length++ [P[is.length]]:=A7 hk
  rw[e,CG,Aq,Aq,Y8,Gb,CR]
  congr 1
  ·refine Ca fun c hc=>?_
   obtain⟨l,hl,hcl⟩:=EB.1 hc
   obtain⟨i,hi,rfl⟩:=Db.1 hl
   have hin:JE P c=i:=LU h.parts.apart (by omega) hcl
   unfold Kt
   rw[hin,if_neg (by omega),if_neg (by omega)]
   congr 1
   rw[Ff (by omega),Ff (by simp;omega),BM]
  ·refine Ca fun c hc=>?_
   have hin:JE P c=is.length:=LU h.parts.apart hk hc
   unfold Kt
   simp only[Function.comp_apply,hin,if_true]
   rw[if_neg (by omega),Ff (by simp)]
   simp
theorem bh {l:List Dig} (h:Dig.zero∈l):Iz l≠0:=by
 unfold Iz
 split
 ·omega
 intro k
 obtain⟨i,hi,e⟩:=AY.1 h
 have:=Cx k i (Bg.2 hi)
 unfold Ho at this
 rw[if_pos (by simp[List.getD,hi,e])]at this
 omega
theorem Vu {t:List Sto} {a m:Str} {i:Int} {deps:List Dig} {cs cs':List Chg} (h:Dig.zero∈deps):FB t ⟨a,m,i,deps,cs⟩=FB t ⟨a,m,i,deps,cs'⟩∧(FB t ⟨a,m,i,deps,cs⟩).2.2≠0:=by
 have hd:=bh h
 have hc: ∀ cs cs':List Chg,(CA ⟨a,m,i,deps,cs⟩).2=(CA ⟨a,m,i,deps,cs'⟩).2∧(CA ⟨a,m,i,deps,cs⟩).2≠0:=fun cs cs'=>by
  unfold CA
  dsimp only
  split
  ·exact⟨rfl,by simp⟩
  split
  ·exact⟨rfl,by simp⟩
  split
  ·exact⟨rfl,by simp⟩
  exact⟨rfl,hd⟩
 have hr: ∀ cs:List Chg,Ej ⟨a,m,i,deps,cs⟩=(Dig.zero,(CA ⟨a,m,i,deps,cs⟩).2):=fun cs=>by
  have:=(hc cs cs).2
  unfold Ej CV
  rw[if_pos this]
  dsimp only
  rw[if_pos this]
 have ha: ∀ cs:List Chg,FB t ⟨a,m,i,deps,cs⟩=([],Dig.zero,(CA ⟨a,m,i,deps,cs⟩).2):=fun cs=>by
  unfold FB
  rw[hr]
  dsimp only
  rw[if_pos (hc cs cs).2]
 rw[ha,ha,(hc cs cs').1]
 exact⟨rfl,by rw[←(hc cs cs').1];exact(hc cs cs').2⟩
end Go.Proofs
