/- Plain laws: what Swap, Move and Prefix answer; one order turned into another one. -/
import Derived.Test.YtaibdmankdppkaaGreatDoorYap
import Derived.Test.YtaibdmankdppkaaGreatDoorYao
import Derived.Test.YtaibdmankdppkaaGreatDoorYan
set_option linter.unusedSimpArgs false
set_option linter.unusedVariables false
namespace Go.Proofs
open Go Go.Q
end Go.Proofs
namespace Go.Proofs
open Go Go.Q Go.Sort
theorem bU {α:Type} {r:α→α→Prop} (irr: ∀ a,¬r a a) (tr: ∀ a b c,r a b→r b c→r a c): ∀ {l m:List α},l.Pairwise r→m.Pairwise r→(∀ x,x∈l↔x∈m)→l=m
 | [],[],_,_,_=>rfl
 | [],y::m,_,_,h=>absurd ((h y).2 AG) (Ai)
 |x::l,[],_,_,h=>absurd ((h x).1 AG) (Ai)
 |x::l,y::m,h1,h2,h=>by
  obtain⟨a1,a2⟩:=Bq.1 h1
  obtain⟨b1,b2⟩:=Bq.1 h2
  have e:x=y:=by
   rcases AI.1 ((h x).1 AG)with e|hx
   ·exact e
   ·rcases AI.1 ((h y).2 AG)with e|hy
    ·exact e.symm
    ·exact absurd (tr _ _ _ (b1 x hx) (a1 y hy)) (irr _)
  subst e
  rw[bU irr tr a2 b2 fun z=>?_]
  constructor
  ·intro hz
   rcases AI.1 ((h z).1 (AH _ hz))with e|h'
   ·subst e;exact absurd (a1 _ hz) (irr _)
   ·exact h'
  ·intro hz
   rcases AI.1 ((h z).2 (AH _ hz))with e|h'
   ·subst e;exact absurd (b1 _ hz) (irr _)
   ·exact h'
abbrev Sg (l:List Ident):Prop:=l.Pairwise fun a b=>Hh a b < 0
theorem aJ {l m:List Ident} (h1:Sg l) (h2:Sg m) (h: ∀ x,x∈l↔x∈m):l=m:=
 bU (r:=fun a b=>Hh a b < 0) Ident.lt_irrefl (fun _ _ _=>Ident.lt_trans) h1 h2 h
theorem Sg.nodup {l:List Ident} (h:Sg l):l.Nodup:=h.imp fun {a b} hab e=>by subst e;exact Ident.lt_irrefl _ hab
theorem Tz {x d:Ident}: ∀ {l:List Ident},x∈Jv l d↔x=d∨x∈l
 | []=>by simp[Jv]
 |y::l=>by
  unfold Jv
  split
  ·rw[AI,Tz,AI]
   constructor
   ·rintro(h|h|h)
    ·exact .inr (.inl h)
    ·exact .inl h
    ·exact .inr (.inr h)
   ·rintro(h|h|h)
    ·exact .inr (.inl h)
    ·exact .inl h
    ·exact .inr (.inr h)
  ·split
   ·rename_i e
    subst e
    constructor
    ·exact .inr
    ·rintro(h|h)
     ·subst h;exact AG
     ·exact h
   ·simp only[AI]
theorem ZX {d:Ident}: ∀ {l:List Ident},Sg l→Sg (Jv l d)
 | [],_=>by unfold Jv;exact Fy _ _
 |y::l,h=>by
  obtain⟨h1,h2⟩:=Bq.1 h
  unfold Jv
  split
  ·rename_i hy
   refine Bq.2 ⟨fun z hz=>?_,ZX h2⟩
   rcases Tz.1 hz with rfl|hz
   ·exact hy
   ·exact h1 z hz
  ·rename_i hy
   split
   ·exact h
   ·rename_i hne
    have hlt:Hh d y < 0:=by
     rcases Ident.tri d y with h'|h'|h'
     ·exact h'
     ·exact absurd h'.symm hne
     ·exact absurd h' hy
    refine Bq.2 ⟨fun z hz=>?_,h⟩
    rcases AI.1 hz with rfl|hz
    ·exact hlt
    ·exact Ident.lt_trans hlt (h1 z hz)
theorem Pk: ∀ (m l:List Ident),Sg l→Sg (m.foldl Jv l)∧ ∀ x,x∈m.foldl Jv l↔x∈l∨x∈m
 | [],l,h=>⟨h,fun x=>by simp⟩
 |y::m,l,h=>by
  obtain⟨a,b⟩:=Pk m (Jv l y) (ZX h)
  refine⟨a,fun x=>?_⟩
  rw[BM,b,Tz,AI]
  constructor
  ·rintro((h|h)|h)
   ·exact .inr (.inl h)
   ·exact .inl h
   ·exact .inr (.inr h)
  ·rintro(h|h|h)
   ·exact .inl (.inr h)
   ·exact .inl (.inl h)
   ·exact .inr h
theorem OV {l:List Ident} {d:Ident}:d∈sortI l↔d∈l:=cy
theorem VM {l:List Ident} (hn:l.Nodup):Sg (sortI l):=by
 have h:=zN (le:=fun x y=>!(ltOf Hh) y x) (fun a b c h1 h2=>by
  simp only[AJ,ltOf,A8]at h1 h2 ⊢
  intro h3
  rcases Ident.tri a b with h|h|h
  ·exact h2 (Ident.lt_trans h3 h)
  ·subst h;exact h2 h3
  ·exact h1 h) (fun a b=>by
  simp only[qj,AJ,ltOf,A8]
  rcases Ident.tri a b with h|h|h
  ·exact .inl fun k=>Ident.lt_irrefl _ (Ident.lt_trans h k)
  ·subst h;exact .inl (Ident.lt_irrefl _)
  ·exact .inr fun k=>Ident.lt_irrefl _ (Ident.lt_trans h k)) l
 have h2:(sortI l).Nodup:=(List.mergeSort_perm l _).nodup_iff.2 hn
 refine Ay.2 fun i j hi hj hij=>?_
 have a:=Ay.1 h i j hi hj hij
 have b:=Ay.1 h2 i j hi hj hij
 rw[AJ]at a
 have a: ¬Hh (sortI l)[j] (sortI l)[i] < 0:=Bp a
 rcases Ident.tri (sortI l)[i] (sortI l)[j]with h'|h'|h'
 ·exact h'
 ·exact absurd h' b
 ·exact absurd h' a
theorem au {l:List Ident} (hn:l.Nodup):sortI l=l.foldl Jv []:=
 aJ (VM hn) (Pk l [] .nil).1 fun x=>by rw[OV,(Pk l [] .nil).2];simp
def Ea (x:Ident):Bool:=decide (x.patch=Dig.zero)&&decide (0≤x.n)
theorem GL {x:Ident}:Ea x=true↔x.patch=Dig.zero∧0≤x.n:=by unfold Ea;simp
def Eo (f:Ident→Ident) (c:Chg):Chg:=
 { c with file:=if 2≤c.kind∧c.kind≤6 then f c.file else c.file,parent:=if c.kind=2 then f c.parent else c.parent,after:=if c.kind=5∨c.kind=6 then f c.after else c.after,before:=if c.kind=5∨c.kind=6 then f c.before else c.before,over:=sortI (c.over.map f) }
def fL (f:Ident→Ident) (c:Chg):Chg:=
 { c with file:=if 2≤c.kind∧c.kind≤6 then f c.file else c.file,parent:=if c.kind=2 then f c.parent else c.parent,after:=if c.kind=5∨c.kind=6 then f c.after else c.after,before:=if c.kind=5∨c.kind=6 then f c.before else c.before,over:=(c.over.map f).foldl Jv [] }
theorem Vm {c:Chg} {f g:Ident→Ident} (h:OM c fun x=>f x=g x) (hr:f rRoot=g rRoot) (hn:(c.over.map f).Nodup):Eo f c=fL g c:=by
 have ho:c.over.map f=c.over.map g:=CC fun x hx=>h.over x hx
 unfold Eo fL
 rw[au hn,ho]
 congr 1
 ·split
  ·rename_i k;exact h.file k.1 k.2
  ·rfl
 ·split
  ·rename_i k
   by_cases hp:c.parent=rRoot
   ·rw[hp];exact hr
   ·exact h.parent k hp
  ·rfl
 ·split
  ·rename_i k;exact h.after k
  ·rfl
 ·split
  ·rename_i k;exact h.before k
  ·rfl
structure WV (cnt:Dig→Nat) (st:List (Dig × Int)) (n:Int):Prop where
 nodup:(st.map (·.1)).Nodup
 pos:0≤n
 le: ∀ e∈st,0≤e.2∧e.2+cnt e.1≤n
 apart: ∀ e∈st,∀ f∈st,e.1≠f.1→e.2+cnt e.1≤f.2∨f.2+cnt f.1≤e.2
theorem Pj {κ:Type} [DecidableEq κ] {k:κ}: ∀ {l:List κ},k∉l→Gy k l=none
 | [],_=>rfl
 |a::l,h=>by
  have h1: ¬k=a:=fun e=>h (e ▸ AG)
  simp only[Gy,if_neg h1,Pj fun hl=>h (AH _ hl),Option.map_none]
theorem Jg {κ α:Type} [DecidableEq κ] {k:κ} {x:α}: ∀ {l:List (κ × α)},C4 k l=some x→(k,x)∈l
 | [],h=>by simp[C4]at h
 |(a,y)::l,h=>by
  unfold C4 at h
  split at h
  ·rename_i e;cases h;subst e;exact AG
  ·exact AH _ (Jg h)
theorem Qf {κ α:Type} [DecidableEq κ] {k:κ}: ∀ {l:List (κ × α)},k∈l.map (·.1)→ ∃ x,C4 k l=some x
 | [],h=>by simp at h
 |(a,y)::l,h=>by
  unfold C4
  split
  ·exact⟨y,rfl⟩
  ·rename_i e
   rcases AI.1 h with h|h
   ·exact absurd h e
   ·exact Qf h
theorem WV.step {cnt:Dig→Nat} {st:List (Dig × Int)} {n:Int} (h:WV cnt st n) {d:Dig} (hd:d∉st.map (·.1)):WV cnt (Cn d n st) (n+cnt d):=by
 rw[Gq d n (Pj hd)]
 have hp:=h.pos
 refine⟨?_,by omega,fun e he=>?_,fun e he f hf hne=>?_⟩
 ·rw[Ak]
  refine EH.2 ⟨h.nodup,by simp,fun a ha b hb e=>?_⟩
  simp only[Ar,CU,An]at hb
  subst e;subst hb;exact hd ha
 ·rcases Aj.1 he with he|he
  ·have:=h.le e he;omega
  ·rw[An.1 he];dsimp only;omega
 ·rcases Aj.1 he with he|he<;>rcases Aj.1 hf with hf|hf
  ·exact h.apart e he f hf hne
  ·have:=h.le e he
   rw[An.1 hf];dsimp only;omega
  ·have:=h.le f hf
   rw[An.1 he];dsimp only;omega
  ·rw[An.1 he,An.1 hf]at hne
   exact absurd rfl hne
def fJ (st:List (Dig × Int)) (d:Dig) (x:Ident):Ident:=match C4 (if Ea x=true then d else x.patch) st with
 |some k=>if 0≤x.n then⟨Dig.zero,k+x.n⟩else x
 |none=>x
def ZG:List Mvd→Ident→Ident
 | [],x=>x
 |m::l,x=>if x.patch=m.old∧m.lo≤x.n∧x.n < m.hi then⟨m.patch,m.dst+x.n - m.lo⟩else ZG l x
def gM (l:List Mvd) (d:Dig) (x:Ident):Ident:=ZG l (if Ea x=true then⟨d,x.n⟩else x)
def uA (cnt:Dig→Nat) (e:Dig × Int):Mvd:=⟨e.1,0,cnt e.1,Dig.zero,e.2⟩
theorem Ri {l:List Mvd} {x:Ident} (h: ∀ m∈l,x.patch=m.old→m.lo≤x.n→ ¬x.n < m.hi):ZG l x=x:=by
 induction l with
 |nil=>rfl
 |cons m l ih=>
  unfold ZG
  rw[if_neg fun k=>h m AG k.1 k.2.1 k.2.2]
  exact ih fun m hm=>h m (AH _ hm)
theorem Rj (cnt:Dig→Nat): ∀ {st:List (Dig × Int)} {y:Ident} {k:Int},C4 y.patch st=some k→0≤y.n→y.n < cnt y.patch→ZG (st.map (uA cnt)) y=⟨Dig.zero,k+y.n⟩
 | [],y,k,h,_,_=>by simp[C4]at h
 |(a,j)::st,y,k,h,h0,h1=>by
  unfold C4 at h
  simp only[Ar,ZG,uA]
  split at h
  ·rename_i e
   cases h
   rw[if_pos ⟨e,h0,by rw[←e];exact h1⟩]
   congr 1;omega
  ·rename_i e
   rw[if_neg fun k=>e k.1]
   exact Rj cnt h h0 h1
theorem U1 {κ α:Type} [DecidableEq κ] {k:κ} {l:List (κ × α)} (h:C4 k l=none):k∉l.map (·.1):=fun hk=>by
 obtain⟨x,hx⟩:=Qf hk
 rw[hx]at h;cases h
def cntS (s:List Sto) (d:Dig):Nat:=Hg ((getS s d).getD Pat.zero)
theorem BH.cntS {s:List Sto} (v:BH s) {x:Sto} (hx:x∈s):cntS s x.id=Hg x.patch:=by
 unfold Go.Proofs.cntS;rw[v.getS hx];rfl
theorem xx {s:List Sto} (v:BH s) {st:List (Dig × Int)} {x:Sto} (hx:x∈s) (hd:x.id∈st.map (·.1)) {y:Ident} (h:R7 (Hg x.patch) y∧Kn s y):fJ st x.id y=gM (st.map (uA (cntS s))) x.id y:=by
 obtain⟨⟨h0,h1⟩,h2⟩:=h
 unfold fJ gM
 by_cases ho:Ea y=true
 ·rw[if_pos ho,if_pos ho]
  obtain⟨k,hk⟩:=Qf hd
  have:=h1 (GL.1 ho).1
  rw[hk,Rj (y:=⟨x.id,y.n⟩) (cntS s) hk h0 (by rw[v.cntS hx];exact this)]
  dsimp only
  rw[if_pos h0]
 ·rw[if_neg ho,if_neg ho]
  have hz:y.patch≠Dig.zero:=fun e=>ho (GL.2 ⟨e,h0⟩)
  obtain⟨z,hzs,e,_,hlt⟩:=h2 hz
  cases hg:C4 y.patch st with
  |none=>
   dsimp only
   refine(Ri fun m hm e2=>?_).symm
   obtain⟨a,ha,rfl⟩:=AQ.1 hm
   exact absurd (AQ.2 ⟨a,ha,e2.symm⟩) (U1 hg)
  |some k=>
   dsimp only
   rw[if_pos h0,Rj (cntS s) hg h0 (by rw[←e,v.cntS hzs];exact hlt)]
theorem pk (st:List (Dig × Int)) (d:Dig):fJ st d rRoot=rRoot:=by
 unfold fJ
 split<;>rfl
theorem pY {s:List Sto} (st:List (Dig × Int)) (d:Dig):gM (st.map (uA (cntS s))) d rRoot=rRoot:=by
 unfold gM
 rw[if_neg (by decide)]
 refine Ri fun m hm _ h=>?_
 obtain⟨a,_,rfl⟩:=AQ.1 hm
 exact absurd h (show ¬(0:Int)≤ -1 by decide)
theorem kA {l:List Ident} (h:Pf l=true):Sg l:=by
 have step: ∀ i (h:i+1 < l.length),Hh l[i] l[i+1] < 0:=fun i hi=>by
  unfold Pf at h
  have:=Bg.1 h i (Br.2 (by omega))
  simpa [List.getD,hi,show i < l.length by omega]using this
 refine Ay.2 fun i j hi hj hij=>?_
 obtain⟨k,rfl⟩: ∃ k,j=i+1+k:=⟨j - i - 1,by omega⟩
 induction k with
 |zero=>exact step i hj
 |succ k ih=>exact Ident.lt_trans (ih (by omega) (by omega)) (step (i+1+k) hj)
theorem Tl {c:Chg} (h:C3 c=0):Sg c.over:=by
 unfold C3 at h
 split at h
 ·omega
 rename_i h1
 split at h
 ·omega
 rename_i h2
 split at h
 ·omega
 split at h
 ·omega
 split at h
 ·omega
 split at h
 ·omega
 split at h
 ·rename_i h5
  have h2:Fl (Hx c)=true:=by simpa using h2
  unfold Fl at h2
  simp only[BW,AB]at h2
  have h3:=h2.2
  have:(Hx c).over=c.over:=by unfold Hx;dsimp only;rw[if_neg (by omega)]
  rw[this]at h3
  have:c.over= []:=BL (by omega)
  rw[this]
  exact .nil
 split at h
 ·omega
 split at h
 ·omega
 split at h
 ·omega
 rename_i h9
 exact kA (by simpa using h9)
def Sa (d:Dig) (y:Ident):Dig:=if Ea y=true then d else y.patch
theorem uc {s:List Sto} (v:BH s) {st:List (Dig × Int)} {n:Int} (hL:WV (cntS s) st n) {x:Sto} (hx:x∈s) (hd:x.id∈st.map (·.1)) {y z:Ident} (hy:R7 (Hg x.patch) y∧Kn s y) (hz:R7 (Hg x.patch) z∧Kn s z)
  (ny:y.patch≠x.id∨y.patch=Dig.zero) (nz:z.patch≠x.id∨z.patch=Dig.zero) (e:fJ st x.id y=fJ st x.id z):y=z:=by
 have src: ∀ {w:Ident},R7 (Hg x.patch) w∧Kn s w→0≤w.n∧w.n < cntS s (Sa x.id w)∧(Ea w=false→w.patch≠Dig.zero):=fun {w} hw=>by
  obtain⟨⟨h0,h1⟩,h2⟩:=hw
  unfold Sa
  by_cases ho:Ea w=true
  ·rw[if_pos ho,v.cntS hx]
   exact⟨h0,h1 (GL.1 ho).1,fun k=>by rw[ho]at k;cases k⟩
  ·rw[if_neg ho]
   have hz:w.patch≠Dig.zero:=fun e=>ho (GL.2 ⟨e,h0⟩)
   obtain⟨u,hu,e1,_,h3⟩:=h2 hz
   rw[←e1,v.cntS hu]
   exact⟨h0,h3,fun _=>e1 ▸ hz⟩
 obtain⟨y0,y1,y2⟩:=src hy
 obtain⟨z0,z1,z2⟩:=src hz
 have img: ∀ {w:Ident},0≤w.n→fJ st x.id w=match C4 (Sa x.id w) st with|some k=>⟨Dig.zero,k+w.n⟩|none=>w:=fun {w} hw=>by
  unfold fJ Sa
  cases C4 (if Ea w=true then x.id else w.patch) st with
  |none=>rfl
  |some k=>dsimp only;rw[if_pos hw]
 have own_in: ∀ {w:Ident},C4 (Sa x.id w) st=none→Ea w=false:=fun {w} h=>by
  cases ho:Ea w with
  |false=>rfl
  |true=>
   unfold Sa at h
   rw[if_pos ho]at h
   exact absurd hd (U1 h)
 rw[img y0,img z0]at e
 cases hgy:C4 (Sa x.id y) st with
 |none=>
  rw[hgy]at e
  dsimp only at e
  cases hgz:C4 (Sa x.id z) st with
  |none=>rw[hgz]at e;exact e
  |some k=>
   rw[hgz]at e
   dsimp only at e
   exact absurd (congrArg Ident.patch e) (y2 (own_in hgy))
 |some k=>
  rw[hgy]at e
  dsimp only at e
  cases hgz:C4 (Sa x.id z) st with
  |none=>
   rw[hgz]at e
   dsimp only at e
   exact absurd (congrArg Ident.patch e).symm (z2 (own_in hgz))
  |some j=>
   rw[hgz]at e
   dsimp only at e
   have en:k+y.n=j+z.n:=congrArg Ident.n e
   by_cases hs:Sa x.id y=Sa x.id z
   ·rw[hs,hgz]at hgy
    cases hgy
    have hn:y.n=z.n:=by omega
    have hp:y.patch=z.patch:=by
     unfold Sa at hs
     by_cases oy:Ea y=true
     ·by_cases oz:Ea z=true
      ·rw[(GL.1 oy).1,(GL.1 oz).1]
      ·rw[if_pos oy,if_neg oz]at hs
       rcases nz with h|h
       ·exact absurd hs.symm h
       ·exact absurd h (z2 (by simpa using oz))
     ·by_cases oz:Ea z=true
      ·rw[if_neg oy,if_pos oz]at hs
       rcases ny with h|h
       ·exact absurd hs h
       ·exact absurd h (y2 (by simpa using oy))
      ·rw[if_neg oy,if_neg oz]at hs;exact hs
    cases y;cases z;simp_all
   ·have a:=hL.apart _ (Jg hgy) _ (Jg hgz) hs
    dsimp only at a
    omega
theorem aE {s:List Sto} (v:BH s) {st:List (Dig × Int)} {n:Int} (hL:WV (cntS s) st n) {x:Sto} (hx:x∈s) (hd:x.id∈st.map (·.1)) {c:Chg} (hc:c∈x.patch.changes):Eo (fJ st x.id) c=fL (gM (st.map (uA (cntS s))) x.id) c:=by
 have hu:=v.uses hx hc
 refine Vm (hu.mono fun y hy=>xx v hx hd hy) (by rw[pk,pY]) ?_
 have hp:=EN (Fj (v.id x hx).1).1
 obtain⟨i,hi,rfl⟩:=AZ.1 hc
 have ha:=Tl (hp.fields i hi)
 have ns: ∀ y∈(x.patch.changes[i]).over,y.patch≠x.id∨y.patch=Dig.zero:=fun y hy=>by
  by_cases hz:y.patch=Dig.zero
  ·exact .inr hz
  ·refine .inl fun e=>?_
   have hn:=JW (v.id x hx).1 hc (y:=y) (by unfold Ks;simp[hy]) (by unfold FM;simp[hz])
   have:=v.rank hx (e ▸ hn)
   omega
 refine RF.2 (ha.nodup.imp_of_mem fun {y z} hy hz hne e=>hne ?_)
 exact uc v hL hx hd (hu.over y hy) (hu.over z hz) (ns y hy) (ns z hz) e
def jP (s:List Sto) (l:List Dig) (r:List (Dig × Int) × Int × List Chg × List Dig) (d:Dig):List (Dig × Int) × Int × List Chg × List Dig:=
 if d∈l then(Cn d r.2.1 r.1,r.2.1+cntS s d,r.2.2.1++((getS s d).getD Pat.zero).changes.map (Eo (fJ (Cn d r.2.1 r.1) d)),r.2.2.2++((getS s d).getD Pat.zero).deps.filter fun e=>decide (¬e∈l))else r
def HD (s:List Sto) (l:List Dig) (m:Mta):Pat:=
 let r:=(BK s).foldl (jP s l) ([],0,[],[])
 ⟨m.author,m.message,m.time,Kj (sortD r.2.2.2),r.2.2.1⟩
def jR (s:List Sto) (l:List Dig) (r:List Mvd × Int × List Chg × List Dig) (d:Dig):List Mvd × Int × List Chg × List Dig:=
 if d∈l then(r.1++ [⟨d,0,cntS s d,Dig.zero,r.2.1⟩],r.2.1+cntS s d,r.2.2.1++((getS s d).getD Pat.zero).changes.map (fL (gM (r.1++ [⟨d,0,cntS s d,Dig.zero,r.2.1⟩]) d)),(((getS s d).getD Pat.zero).deps.filter fun e=>decide (¬e∈l)).foldl FT r.2.2.2)else r
def du (s:List Sto) (l:List Dig) (m:Mta):Pat:=
 let r:=(BK s).foldl (jR s l) ([],0,[],[])
 ⟨m.author,m.message,m.time,r.2.2.2,r.2.2.1⟩
theorem Sy: ∀ (m l:List Dig),H2 l→H2 (m.foldl FT l)∧ ∀ d,d∈m.foldl FT l↔d∈l∨d∈m
 | [],l,h=>⟨h,fun d=>by simp⟩
 |y::m,l,h=>by
  obtain⟨a,b⟩:=Sy m (FT l y) (Lb h)
  refine⟨a,fun d=>?_⟩
  rw[BM,b,KR,AI]
  constructor
  ·rintro((h|h)|h)
   ·exact .inr (.inl h)
   ·exact .inl h
   ·exact .inr (.inr h)
  ·rintro(h|h|h)
   ·exact .inl (.inr h)
   ·exact .inl (.inl h)
   ·exact .inr h
theorem Ic (l:List Dig):H2 (Kj (sortD l))∧ ∀ d,d∈Kj (sortD l)↔d∈l:=by
 obtain⟨a,b⟩:=S5 (KA l) (sortD l).length (Ah _)
 rw[AE (Ah _)]at a b
 exact⟨a,fun d=>by rw[b,VN]⟩
structure R8 (s:List Sto) (l done:List Dig) (p:List (Dig × Int) × Int × List Chg × List Dig) (r:List Mvd × Int × List Chg × List Dig):Prop where
 laid:WV (cntS s) p.1 p.2.1
 keys: ∀ d,d∈p.1.map (·.1)↔d∈done∧d∈l
 mv:r.1=p.1.map (uA (cntS s))
 n:r.2.1=p.2.1
 cs:r.2.2.1=p.2.2.1
 asc:H2 r.2.2.2
 deps: ∀ d,d∈r.2.2.2↔d∈p.2.2.2
theorem R8.step {s:List Sto} (v:BH s) {l done:List Dig} {p:List (Dig × Int) × Int × List Chg × List Dig} {r:List Mvd × Int × List Chg × List Dig} (h:R8 s l done p r) {d:Dig} (hd:d∈ids s) (hn:d∉done):R8 s l (done++ [d]) (jP s l p d) (jR s l r d):=by
 unfold jP jR
 by_cases hl:d∈l
 ·rw[if_pos hl,if_pos hl]
  have hk:d∉p.1.map (·.1):=fun k=>hn ((h.keys d).1 k).1
  have hnew:=Gq d p.2.1 (Pj hk)
  have hL:=h.laid.step hk
  have hmv:r.1++ [⟨d,0,cntS s d,Dig.zero,r.2.1⟩]=(Cn d p.2.1 p.1).map (uA (cntS s)):=by
   rw[h.mv,h.n,hnew,Ak];rfl
  obtain⟨x,hx,rfl⟩:=AQ.1 hd
  have hin:x.id∈(Cn x.id p.2.1 p.1).map (·.1):=by rw[hnew];simp
  refine⟨hL,fun e=>?_,hmv,by dsimp only;rw[h.n],?_,?_,fun e=>?_⟩
  ·dsimp only
   rw[hnew,Ak,Aj,h.keys,Aj]
   constructor
   ·rintro(⟨a,b⟩|a)
    ·exact⟨.inl a,b⟩
    ·simp only[Ar,CU,An]at a
     subst a;exact⟨.inr (by simp),hl⟩
   ·rintro⟨a|a,b⟩
    ·exact .inl ⟨a,b⟩
    ·exact .inr (by simpa using a)
  ·dsimp only
   rw[h.cs,hmv,v.getS hx,BU]
   congr 1
   exact CC fun c hc=>(aE v hL hx hin hc).symm
  ·exact(Sy _ _ h.asc).1
  ·dsimp only
   rw[(Sy _ _ h.asc).2,h.deps,Aj]
 ·rw[if_neg hl,if_neg hl]
  refine⟨h.laid,fun e=>?_,h.mv,h.n,h.cs,h.asc,h.deps⟩
  rw[h.keys,Aj]
  constructor
  ·rintro⟨a,b⟩;exact⟨.inl a,b⟩
  ·rintro⟨a|a,b⟩
   ·exact⟨a,b⟩
   ·rw[An.1 a]at b;exact absurd b hl
theorem R8.all {s:List Sto} (v:BH s) {l:List Dig}: ∀ (o done:List Dig) {p:List (Dig × Int) × Int × List Chg × List Dig} {r:List Mvd × Int × List Chg × List Dig},R8 s l done p r→(∀ d∈o,d∈ids s)→(done++o).Nodup→R8 s l (done++o) (o.foldl (jP s l) p) (o.foldl (jR s l) r)
 | [],done,_,_,h,_,_=>by rw[BX];exact h
 |d::o,done,_,_,h,h1,h2=>by
  have hn:d∉done:=fun k=>(EH.1 h2).2.2 d k d AG rfl
  have e:done++d::o=(done++ [d])++o:=by simp
  rw[e]at h2 ⊢
  exact R8.all v o _ (h.step v (h1 d AG) hn) (fun d hd=>h1 d (AH _ hd)) h2
theorem Oo {s:List Sto} (v:BH s) (l:List Dig):R8 s l (BK s) ((BK s).foldl (jP s l) ([],0,[],[])) ((BK s).foldl (jR s l) ([],0,[],[])):=by
 have ho:=C8 s
 have:=R8.all v (l:=l) (BK s) [] (p:=([],0,[],[])) (r:=([],0,[],[])) ⟨⟨.nil,by decide,(fun e he=>absurd he Ai),(fun e he=>absurd he Ai)⟩,fun d=>by simp,rfl,rfl,rfl,.nil,fun d=>by simp⟩ ho.sub (by simpa using ho.nodup)
 simpa using this
theorem SL {s:List Sto} (v:BH s) (l:List Dig) (m:Mta):HD s l m=du s l m:=by
 have h:=Oo v l
 unfold HD du
 obtain⟨a,b⟩:=Ic ((BK s).foldl (jP s l) ([],0,[],[])).2.2.2
 have e:Kj (sortD ((BK s).foldl (jP s l) ([],0,[],[])).2.2.2)=((BK s).foldl (jR s l) ([],0,[],[])).2.2.2:=a.ext h.asc fun d=>by rw[b,h.deps]
 dsimp only
 rw[e,h.cs]
theorem fO {nd:Dig→List Dig} {l:List Dig} {d:Dig}:Q.Reach nd l d↔ ∃ q∈l,Q.Reach nd [q] d:=by
 constructor
 ·intro h
  induction h with
  |base h=>exact⟨_,h,.base (by simp)⟩
  |step _ hd ih=>
   obtain⟨q,hq,hr⟩:=ih
   exact⟨q,hq,.step hr hd⟩
 ·rintro⟨q,hq,hr⟩
  exact Reach.trans' (.base hq) hr
theorem Qh {s:List Sto} (v:BH s) {p:Dig} (hp:p∈ids s) (q:Dig):Nw s p q=decide (q∈Px s p):=by
 have h:DW (ids s) [p]=true:=by simp[DW,hp]
 have e:Dh s [p]=(Px s p,0):=by unfold Px Dh;rw[if_neg (by simp[h])]
 rw[v.knows,e];rfl
def pz (s:List Sto) (l:List Dig):Bool:=DW (ids s) l&&!((LN s l).1.any fun d=>decide (d∈(Dh s l).1)&&!decide (d∈l))
def zo (s:List Sto) (l:List Dig):Bool:=DW (ids s) l&&s.all fun x=>decide (x.id∈l)||!(l.any (fun q=>Nw s x.id q)&&l.any fun q=>Nw s q x.id)
theorem WH {u l:List Dig} (h:DW u l=true): ∀ d∈l,d∈u:=fun d hd=>by simpa using Bg.1 h d hd
theorem py {s:List Sto} (v:BH s) (l:List Dig):pz s l=zo s l:=by
 unfold pz zo
 by_cases h:DW (ids s) l=true
 ·rw[h,EK,EK]
  have hl:=WH h
  have hc: ∀ d,d∈(Dh s l).1↔ ∃ q∈l,d∈Px s q:=fun d=>by
   obtain⟨L,e,_,hm⟩:=v.closedM hl
   rw[e]
   dsimp only
   rw[hm,fO]
   constructor
   ·rintro⟨q,hq,hr⟩;exact⟨q,hq,(v.mem_clo (hl q hq) d).2 hr⟩
   ·rintro⟨q,hq,hr⟩;exact⟨q,hq,(v.mem_clo (hl q hq) d).1 hr⟩
  have hu:(LN s l).1=YB s l s:=by unfold LN;rw[if_neg (by simp[h])]
  rw[hu,Ih,AJ,Bl,Bg]
  constructor
  ·intro k x hx
   have hx':x.id∈ids s:=AQ.2 ⟨x,hx,rfl⟩
   by_cases hin:x.id∈l
   ·simp[hin]
   ·simp only[hin,decide_false,GU,AJ,VF,Bl]
    by_cases ha: ∃ q∈l,q∈Px s x.id
    ·refine .inr fun q hq hk=>k x.id (Tw.2 ⟨hx',ha⟩) ?_
     rw[Qh v (hl q hq)]at hk
     simp only[BW,AB,AJ,A8]
     exact⟨(hc x.id).2 ⟨q,hq,BB hk⟩,hin⟩
    ·refine .inl fun q hq hk=>ha ⟨q,hq,?_⟩
     rw[Qh v hx']at hk
     exact BB hk
  ·intro k d hd hk
   obtain⟨hd1,q,hq,hqd⟩:=Tw.1 hd
   simp only[BW,AB,AJ,A8]at hk
   obtain⟨x,hx,rfl⟩:=AQ.1 hd1
   obtain⟨p,hp,hdp⟩:=(hc x.id).1 hk.1
   have:=k x hx
   simp only[hk.2,decide_false,GU,AJ,VF,Bl]at this
   rcases this with h1|h1
   ·exact h1 q hq (by rw[Qh v hd1];exact BR hqd)
   ·exact h1 p hp (by rw[Qh v (hl p hp)];exact BR hdp)
 ·have h:DW (ids s) l=false:=by simpa using h
  rw[h];rfl
def NT (s:List Sto) (l:List Dig):Bool:=s.any fun x=>!decide (x.id∈l)&&(BP x.patch).any fun d=>decide (d∈l)
def Ju (s:List Sto) (l:List Dig):List Sto:=s.filter fun x=>decide (¬x.id∈l)
theorem fe (s:List Sto) (l:List Dig):Ju s l=Hc s ((ids s).filter fun d=>decide (¬d∈l)):=by
 unfold Ju Hc
 refine iL fun x hx=>?_
 have hx':x.id∈ids s:=AQ.2 ⟨x,hx,rfl⟩
 rw[decide_eq_decide,FL]
 simp[hx']
theorem BH.out {s:List Sto} (v:BH s) {l:List Dig} (h:NT s l=false):BH (Ju s l):=by
 rw[fe]
 refine v.keep fun x hx hxc d hd=>?_
 have hxl: ¬x.id∈l:=by simpa using (FL.1 hxc).2
 have:=Bl.1 h x hx
 simp only[hxl,decide_false,Bool.not_false,EK,Bu,AB,not_exists,not_and]at this
 exact FL.2 ⟨v.close.2 x hx d hd,BR (this d hd)⟩
def Uh (s:List Sto) (l:List Dig) (m:Mta):List Sto × Dig × Int:=
 if DW (ids s) l=false then([],Dig.zero,7)else if l.length=0∨pz s l=false then([],Dig.zero,1)else if NT s l=true then([],Dig.zero,19)else FC (Ju s l) (HD s l m)
def zd (s:List Sto) (l:List Dig) (m:Mta):List Sto × Dig × Int:=
 if DW (ids s) l=false then([],Dig.zero,7)else if l.length=0∨zo s l=false then([],Dig.zero,1)else if NT s l=true then([],Dig.zero,19)else FC (Ju s l) (du s l m)
theorem nY {s:List Sto} (v:BH s) (l:List Dig) (m:Mta):Uh s l m=zd s l m:=by
 unfold Uh zd
 rw[py v,SL v]
theorem iw {α:Type} {f:α→Nat} {l m:List α} (h:l.Perm m):(l.map f).sum=(m.map f).sum:=by
 induction h with
 |nil=>rfl
 |cons x _ ih=>simp only[Ar,DI,ih]
 |swap x y l=>simp only[Ar,DI];omega
 |trans _ _ h1 h2=>rw[h1,h2]
theorem QC {α:Type} [DecidableEq α] {f:α→Nat}: ∀ {l u:List α},l.Nodup→(∀ x∈l,x∈u)→(l.map f).sum≤(u.map f).sum
 | [],u,_,_=>Xy _
 |x::l,u,hn,h=>by
  obtain⟨h1,h2⟩:=Bf.1 hn
  have hx:=h x AG
  have hp:=List.perm_cons_erase hx
  rw[iw hp]
  simp only[Ar,DI]
  have:=QC (f:=f) (u:=u.erase x) h2 fun y hy=>by
   have hne:y≠x:=fun e=>h1 (e ▸ hy)
   exact(List.mem_erase_of_ne hne).2 (h y (AH _ hy))
  omega
theorem W7 (l:List Dig):(Kj l).length≤l.length:=by
 have h: ∀ k,k≤l.length→(Kj (l.take k)).length≤k:=fun k=>by
  induction k with
  |zero=>intro _;simp[Kj]
  |succ k ih=>
   intro hk
   have:=ih (by omega)
   rcases Q2 k with rfl|h0
   ·have e:l.take (0+1)= []++ [l[0]]:=by rw[A7 (by omega)];rfl
    rw[e,UU]
    split
    ·simp[Kj]
    ·simp[Kj]
   ·rw[Qt h0 (by omega)]
    split
    ·omega
    ·rw[AA,B6];omega
 have:=h l.length (Ah _)
 rwa [AE (Ah _)]at this
theorem fx (f:Ident→Ident) (c:Chg):(Eo f c).over.length=c.over.length:=by
 show(sortI (c.over.map f)).length=_
 unfold sortI
 rw[Cg,AR]
theorem KS (f:Ident→Ident) (c:Chg):bP (Eo f c)=bP c∧GH (Eo f c)=GH c∧Iq (Eo f c)=Iq c:=by
 have h:=fx f c
 refine⟨?_,rfl,?_⟩
 ·unfold bP;rw[h];rfl
 ·unfold Iq;rw[h];rfl
structure WX (s:List Sto) (o:List Dig) (r:List (Dig × Int) × Int × List Chg × List Dig):Prop where
 cs:r.2.2.1.length=(o.map fun d=>((getS s d).getD Pat.zero).changes.length).sum
 ds:r.2.2.2.length≤(o.map fun d=>((getS s d).getD Pat.zero).deps.length).sum
 tot:(r.2.2.1.map GH).sum=(o.map fun d=>(((getS s d).getD Pat.zero).changes.map GH).sum).sum
 hv:(r.2.2.1.map Iq).sum=(o.map fun d=>(((getS s d).getD Pat.zero).changes.map Iq).sum).sum
 each: ∀ c∈r.2.2.1,∃ d∈o,∃ c0∈((getS s d).getD Pat.zero).changes,∃ f,c=Eo f c0
theorem WX.all (s:List Sto) (l:List Dig): ∀ (o done:List Dig) {r:List (Dig × Int) × Int × List Chg × List Dig},WX s done r→WX s (done++o.filter fun d=>decide (d∈l)) (o.foldl (jP s l) r)
 | [],done,_,h=>by rw[Uj,BX];exact h
 |d::o,done,r,h=>by
  rw[BM]
  by_cases hl:d∈l
  ·rw[Eu (by simpa using hl)]
   have e:done++d::o.filter (fun d=>decide (d∈l))=(done++ [d])++o.filter fun d=>decide (d∈l):=by simp
   rw[e]
   refine WX.all s l o (done++ [d]) ?_
   unfold jP
   rw[if_pos hl]
   have hcomp: ∀ (g:Chg→Nat),(∀ f c,g (Eo f c)=g c)→ ∀ (f:Ident→Ident) (cs:List Chg),((cs.map (Eo f)).map g).sum=(cs.map g).sum:=fun g hg f cs=>by
    rw[CG]
    congr 1
    exact CC fun c _=>hg f c
   refine⟨?_,?_,?_,?_,?_⟩
   ·dsimp only
    rw[AA,AR,Ak,DC,h.cs];simp
   ·dsimp only
    rw[AA,Ak,DC]
    have a:=Dk (fun e=>decide (¬e∈l)) ((getS s d).getD Pat.zero).deps
    have b:=h.ds
    simp only[Ar,CU,DI,Jo]
    omega
   ·dsimp only
    rw[Ak,DC,hcomp GH (fun f c=>(KS f c).2.1),Ak,DC,h.tot];simp
   ·dsimp only
    rw[Ak,DC,hcomp Iq (fun f c=>(KS f c).2.2),Ak,DC,h.hv];simp
   ·dsimp only
    intro c hc
    rcases Aj.1 hc with hc|hc
    ·obtain⟨d',hd,rest⟩:=h.each c hc
     exact⟨d',Dc _ hd,rest⟩
    ·obtain⟨c0,h0,rfl⟩:=AQ.1 hc
     exact⟨d,by simp,c0,h0,_,rfl⟩
  ·rw[Ew (by simpa using hl)]
   have:jP s l r d=r:=by unfold jP;rw[if_neg hl]
   rw[this]
   exact WX.all s l o done h
theorem gG {s:List Sto} (v:BH s) (hg:Fv s=false) (l:List Dig) (m:Mta) (ha:m.author.length≤60) (hm:m.message.length≤60):ED (HD s l m)=false:=by
 unfold Fv at hg
 simp only[CT,A8,Bl]at hg
 obtain⟨⟨h1,h2⟩,h3⟩:=hg
 have ht:s.take 9=s:=AE (by omega)
 rw[ht]at h1 h3
 have h1: ∀ x∈s,Fk x.patch=false:=fun x hx=>by simpa using h1 x hx
 have hs:=WX.all s l (BK s) [] (r:=([],0,[],[])) ⟨rfl,Ah _,rfl,rfl,fun c hc=>absurd hc Ai⟩
 rw[B8]at hs
 have hn:((BK s).filter fun d=>decide (d∈l)).Nodup:=(C8 s).nodup.filter _
 have hin: ∀ d∈(BK s).filter (fun d=>decide (d∈l)),d∈ids s:=fun d hd=>(C8 s).sub d (FL.1 hd).1
 have over: ∀ (f:Pat→Nat),(((BK s).filter fun d=>decide (d∈l)).map fun d=>f ((getS s d).getD Pat.zero)).sum≤(s.map fun x=>f x.patch).sum:=fun f=>by
  have a:=QC (f:=fun d=>f ((getS s d).getD Pat.zero)) hn hin
  have e:((ids s).map fun d=>f ((getS s d).getD Pat.zero)).sum=(s.map fun x=>f x.patch).sum:=by
   unfold ids
   rw[CG]
   congr 1
   refine CC fun x hx=>?_
   show f ((Go.Proofs.getS s x.id).getD Pat.zero)=_
   rw[v.getS hx];rfl
  omega
 have bnd: ∀ (f:Pat→Nat) (B:Nat),(∀ x∈s,f x.patch≤B)→(s.map fun x=>f x.patch).sum≤8*B:=fun f B hB=>by
  have:=Ee (l:=s) (f:=fun x=>f x.patch) (B:=B) hB
  have h8:s.length≤8:=by omega
  have:=B3 B h8
  omega
 have facts:=fun x hx=>L9 (h1 x hx)
 have gr: ∀ x∈s,RR x.patch≤3000∧ ∀ c∈x.patch.changes,bP c=false:=fun x hx=>by
  have:=h1 x hx
  unfold Fk at this
  simp only[CT,A8,Bl]at this
  exact⟨by omega,fun c hc=>by simpa using this.1.1.1 c hc⟩
 have b1:=CZ (over fun p=>p.changes.length) (bnd (fun p=>p.changes.length) 20 fun x hx=>(facts x hx).2.2.2.1)
 have b2:=CZ (over fun p=>p.deps.length) (bnd (fun p=>p.deps.length) 20 fun x hx=>(facts x hx).2.2.1)
 have b3:=CZ (over fun p=>(p.changes.map GH).sum) (bnd (fun p=>(p.changes.map GH).sum) 3000 fun x hx=>by have:=(gr x hx).1;unfold RR at this;omega)
 have b4:=over fun p=>(p.changes.map Iq).sum
 have e4:(s.map fun x=>(x.patch.changes.map Iq).sum).sum=(s.map vX).sum:=rfl
 have q1:=hs.cs
 have q2:=hs.ds
 have q3:=hs.tot
 have q4:=hs.hv
 have ql:=W7 (sortD ((BK s).foldl (jP s l) ([],0,[],[])).2.2.2)
 have qs:(sortD ((BK s).foldl (jP s l) ([],0,[],[])).2.2.2).length=((BK s).foldl (jP s l) ([],0,[],[])).2.2.2.length:=by unfold sortD;rw[Cg]
 have each: ∀ c∈((BK s).foldl (jP s l) ([],0,[],[])).2.2.1,bP c=false∧GH c≤3000:=fun c hc=>by
  obtain⟨d,hd,c0,h0,f,rfl⟩:=hs.each c hc
  obtain⟨x,hx,rfl⟩:=AQ.1 (hin d hd)
  rw[v.getS hx,BU]at h0
  obtain⟨z1,z2,_⟩:=KS f c0
  rw[z1,z2]
  refine⟨(gr x hx).2 c0 h0,?_⟩
  have:=(gr x hx).1
  unfold RR at this
  have:=IM (f:=GH) h0
  omega
 unfold ED HD
 dsimp only
 simp only[CT,A8,Bl]
 refine⟨⟨⟨⟨fun c hc=>?_,?_⟩,?_⟩,?_⟩,?_⟩
 ·have:=each c hc
  simp[this.1];omega
 ·unfold RR;dsimp only;omega
 ·omega
 ·omega
 ·omega
structure IB (s:List Sto) (l:List Dig) (m:Mta) (t:List Sto) (id:Dig):Prop where
 all: ∀ d∈l,d∈ids s
 some:l≠ []
 convex:pz s l=true
 need:NT s l=false
 fresh:ef (Ju s l) ⟨id,HD s l m⟩
 val:BH t
 is:t=Kb (Ju s l) ⟨id,HD s l m⟩
theorem Qb {s:List Sto} {l:List Dig} {x:Sto}:x∈Ju s l↔x∈s∧ ¬x.id∈l:=by
 unfold Ju
 rw[FL,AB]
theorem sr {s:List Sto} (v:BH s) {l:List Dig} {m:Mta} (hb:ED (HD s l m)=false) (hs:s.length < 200) (h:(Uh s l m).2.2=0): ∃ t id,Uh s l m=(t,id,0)∧IB s l m t id:=by
 unfold Uh at h ⊢
 by_cases h1:DW (ids s) l=false
 ·rw[if_pos h1]at h;exact absurd h (by decide)
 rw[if_neg h1]at h ⊢
 by_cases h2:l.length=0∨pz s l=false
 ·rw[if_pos h2]at h;exact absurd h (by decide)
 rw[if_neg h2]at h ⊢
 by_cases h3:NT s l=true
 ·rw[if_pos h3]at h;exact absurd h (by decide)
 rw[if_neg h3]at h ⊢
 have h3:NT s l=false:=by simpa using h3
 have vo:=v.out h3
 obtain⟨hf,e⟩:=vo.rAdd_ok hb h
 refine⟨_,_,e,WH (by simpa using h1),fun k=>h2 (.inl (by rw[k];rfl)),?_,h3,hf,vo.put hf ?_,rfl⟩
 ·cases hc:pz s l with
  |true=>rfl
  |false=>exact absurd (.inr hc) h2
 ·have:(Ju s l).length≤s.length:=Dk _ _
  omega
theorem na {s:List Sto} {l:List Dig} {m:Mta} (h:(Uh s l m).2.2≠0):(Uh s l m).1= []∧(Uh s l m).2.1=Dig.zero:=by
 unfold Uh at h ⊢
 split
 ·exact⟨rfl,rfl⟩
 rename_i h1
 rw[if_neg h1]at h
 split
 ·exact⟨rfl,rfl⟩
 rename_i h2
 rw[if_neg h2]at h
 split
 ·exact⟨rfl,rfl⟩
 rename_i h3
 rw[if_neg h3]at h
 exact kC h
theorem fv {c:Chg} {f:Ident→Ident} (h:OM c fun x=>f x=x) (hr:f rRoot=rRoot) (ho:Sg c.over):Eo f c=c:=by
 have e:c.over.map f=c.over:=by
  have:c.over.map f=c.over.map id:=CC fun x hx=>h.over x hx
  rw[this,List.map_id]
 unfold Eo
 rw[e,aJ (VM ho.nodup) ho fun x=>OV]
 have a1:(if 2≤c.kind∧c.kind≤6 then f c.file else c.file)=c.file:=by
  split
  ·rename_i k;exact h.file k.1 k.2
  ·rfl
 have a2:(if c.kind=2 then f c.parent else c.parent)=c.parent:=by
  split
  ·rename_i k
   by_cases hp:c.parent=rRoot
   ·rw[hp];exact hr
   ·exact h.parent k hp
  ·rfl
 have a3:(if c.kind=5∨c.kind=6 then f c.after else c.after)=c.after:=by
  split
  ·rename_i k;exact h.after k
  ·rfl
 have a4:(if c.kind=5∨c.kind=6 then f c.before else c.before)=c.before:=by
  split
  ·rename_i k;exact h.before k
  ·rfl
 rw[a1,a2,a3,a4]
theorem BH.not_self {s:List Sto} (v:BH s) {x:Sto} (hx:x∈s) {c:Chg} (hc:c∈x.patch.changes) {y:Ident} (hy:y∈Ks c):y.patch≠x.id∨y.patch=Dig.zero:=by
 by_cases hz:y.patch=Dig.zero
 ·exact .inr hz
 ·refine .inl fun e=>?_
  have hn:=JW (v.id x hx).1 hc hy (by unfold FM;simp[hz])
  have:=v.rank hx (e ▸ hn)
  omega
def cntC (c:Chg):Nat:=(Ca c 0).length
theorem IW (c:Chg) (n:Int):(Ca c n).length=cntC c:=by
 unfold cntC Ca
 repeat' split
 all_goals simp
def CP (cs:List Chg) (i:Nat):Nat:=((cs.take i).map cntC).sum
theorem Pq: ∀ (l:List Chg) (own:List Atm),(l.foldl (fun own c=>own++Ca c own.length) own).length=own.length+(l.map cntC).sum
 | [],own=>by simp
 |c::l,own=>by
  rw[BM,Pq l,AA,IW,Ar,DI];omega
theorem Rf (cs:List Chg) (i:Nat):(QZ cs i).length=CP cs i:=by
 unfold QZ CP
 rw[Pq];simp
theorem NY.cnt {p:Pat} (h:NY p):Hg p=CP p.changes p.changes.length:=by
 unfold Hg CP
 rw[h.made,Pq,AE (Ah _)];simp
theorem HX {cs:List Chg} {i:Nat} (h:i < cs.length):CP cs (i+1)=CP cs i+cntC cs[i]:=by
 unfold CP
 rw[K8 h]
theorem Rz (cs:List Chg):CP cs 0=0:=by simp[CP]
theorem Ej (cs:List Chg) {i j:Nat} (h:i≤j):CP cs i≤CP cs j:=by
 obtain⟨k,rfl⟩: ∃ k,j=i+k:=⟨j - i,by omega⟩
 induction k with
 |zero=>exact Ah _
 |succ k ih=>
  refine CZ (ih (by omega)) ?_
  by_cases hk:i+k < cs.length
  ·rw[show i+(k+1)=i+k+1 from rfl,HX hk];omega
  ·unfold CP
   rw[AE (by omega),AE (by omega)];exact Ah _
def Dz (cs:List Chg) (n:Int):Nat:=((List.range cs.length).filter fun i=>decide ((CP cs i:Int)≤n)).length - 1
theorem OA {f:Nat→Nat} (hf: ∀ i j,i≤j→f i≤f j) {n:Int} {k:Nat}: ∀ {m:Nat},k < m→(f k:Int)≤n→(∀ i,k < i→i < m→ ¬(f i:Int)≤n)→((List.range m).filter fun i=>decide ((f i:Int)≤n)).length=k+1
 |0,h,_,_=>absurd h (DK _)
 |m+1,h,h1,h2=>by
  rw[EJ,Fa,AA]
  by_cases hk:k=m
  ·subst hk
   have hall:((List.range k).filter fun i=>decide ((f i:Int)≤n))=List.range k:=by
    rw[aW]
    intro i hi
    have:=hf i k (by have:=Br.1 hi;omega)
    exact BR (by omega)
   rw[hall,Eu (by simpa using h1)];simp
  ·have:=OA (n:=n) hf (m:=m) (by omega) h1 fun i a b=>h2 i a (by omega)
   rw[this,Ew (by simpa using h2 m (by omega) (by omega))];simp
theorem dp {cs:List Chg} {n:Int} {k:Nat} (hk:k < cs.length) (h1:(CP cs k:Int)≤n) (h2:n < CP cs (k+1)):Dz cs n=k:=by
 unfold Dz
 rw[OA (f:=CP cs) (fun i j h=>Ej cs h) hk h1 fun i a _=>?_]
 ·rfl
 ·have:=Ej cs (show k+1≤i by omega)
  omega
theorem XH (cs:List Chg) (n:Int) (h0:0≤n): ∀ m,m≤cs.length→n < CP cs m→ ∃ k,k < m∧(CP cs k:Int)≤n∧n < CP cs (k+1)
 |0,_,h=>by rw[Rz]at h;omega
 |m+1,hm,h=>by
  by_cases hn:n < CP cs m
  ·obtain⟨k,a,b,c⟩:=XH cs n h0 m (by omega) hn
   exact⟨k,by omega,b,c⟩
  ·exact⟨m,by omega,by omega,h⟩
theorem Qd {cs:List Chg} {n:Int} {m:Nat} (hm:m≤cs.length) (h0:0≤n) (h:n < CP cs m):Dz cs n < m∧(CP cs (Dz cs n):Int)≤n∧n < CP cs (Dz cs n+1):=by
 obtain⟨k,a,b,c⟩:=XH cs n h0 m hm h
 rw[dp (by omega) b c]
 exact⟨a,b,c⟩
structure LG (P:List (List Nat)) (n:Nat):Prop where
 ne: ∀ l∈P,l≠ []
 asc: ∀ l∈P,l.Pairwise fun a b=>a < b
 lt: ∀ l∈P,∀ c∈l,c < n
 apart:P.Pairwise fun l m=> ∀ c∈l,c∉m
 all: ∀ c,c < n→ ∃ l∈P,c∈l
def K3 (P:List (List Nat)) (c:Nat):Nat:=P.findIdx fun l=>decide (c∈l)
theorem O4: ∀ {P:List (List Nat)},(P.Pairwise fun l m=> ∀ c∈l,c∉m)→ ∀ {k:Nat} (hk:k < P.length) {c:Nat},c∈P[k]→K3 P c=k
 | [],_,k,hk,_,_=>absurd hk (DK _)
 |l::P,h,0,_,c,hc=>by
  unfold K3
  rw[J5]
  have:decide (c∈l)=true:=BR hc
  rw[this];rfl
 |l::P,h,k+1,hk,c,hc=>by
  obtain⟨h1,h2⟩:=Bq.1 h
  have hk':k < P.length:=by simpa using hk
  have hc':c∈P[k]:=by simpa using hc
  have hn: ¬c∈l:=fun hl=>h1 _ (AF hk') c hl hc'
  have ih:=O4 h2 hk' hc'
  unfold K3 at ih ⊢
  rw[J5]
  have:decide (c∈l)=false:=DB hn
  rw[this,cond_false,ih]
theorem LG.mem {P:List (List Nat)} {n:Nat} (h:LG P n) {c:Nat} (hc:c < n): ∃ hk:K3 P c < P.length,c∈P[K3 P c]:=by
 obtain⟨l,hl,hcl⟩:=h.all c hc
 obtain⟨k,hk,rfl⟩:=AZ.1 hl
 rw[O4 h.apart hk hcl]
 exact⟨hk,hcl⟩
def TD (P:List (List Nat)) (cs:List Chg) (c:Nat):Nat:=(((List.range c).filter fun d=>decide (K3 P d=K3 P c)).map fun d=>cntC (cs.getD d Chg.zero)).sum
theorem RK {P:List (List Nat)} {n:Nat} (h:LG P n) {cs:List Chg} {k:Nat} (hk:k < P.length) {a b:List Nat} {c:Nat} (e:P[k]=a++c::b):TD P cs c=(a.map fun d=>cntC (cs.getD d Chg.zero)).sum:=by
 have hc:c∈P[k]:=by rw[e];simp
 have hi:=O4 h.apart hk hc
 have hasc:=h.asc _ (AF hk)
 rw[e]at hasc
 obtain⟨ha,hb,hab⟩:=H3.1 hasc
 have hcn:c < n:=h.lt _ (AF hk) c hc
 have key:((List.range c).filter fun d=>decide (K3 P d=K3 P c))=a:=by
  refine bU (r:=fun a b:Nat=>a < b) Ff (fun _ _ _=>Nat.lt_trans) (List.pairwise_lt_range.filter _) ha fun d=>?_
  rw[FL,Br,AB,hi]
  constructor
  ·rintro⟨h1,h2⟩
   obtain⟨hk',hd⟩:=h.mem (c:=d) (by omega)
   have hd:d∈P[k]:=by
    have:=hd
    simp only[h2]at this
    exact this
   rw[e]at hd
   rcases Aj.1 hd with hd|hd
   ·exact hd
   ·rcases AI.1 hd with hd|hd
    ·omega
    ·have:=(Bq.1 hb).1 d hd
     omega
  ·intro hd
   exact⟨hab d hd c AG,O4 h.apart hk (by rw[e];exact Dc _ hd)⟩
 unfold TD
 rw[key]
def fS (P:List (List Nat)) (cs:List Chg) (is:List Dig) (k:Nat) (y:Ident):Ident:=
 if Ea y=true then⟨if K3 P (Dz cs y.n)=k then Dig.zero else is.getD (K3 P (Dz cs y.n)) Dig.zero,y.n - CP cs (Dz cs y.n)+TD P cs (Dz cs y.n)⟩else y
def Kt (id:Dig) (P:List (List Nat)) (cs:List Chg) (is:List Dig) (k:Nat) (c:Nat):Mvd:=
 ⟨id,CP cs c,(CP cs c:Int)+cntC (cs.getD c Chg.zero),if K3 P c=k then Dig.zero else is.getD (K3 P c) Dig.zero,TD P cs c⟩
theorem ou {l:List Mvd} {e:Mvd} {x:Ident} (he:e∈l) (h1:x.patch=e.old∧e.lo≤x.n∧x.n < e.hi) (hu: ∀ m∈l,x.patch=m.old∧m.lo≤x.n∧x.n < m.hi→m=e):ZG l x=⟨e.patch,e.dst+x.n - e.lo⟩:=by
 induction l with
 |nil=>cases he
 |cons m l ih=>
  unfold ZG
  by_cases h:x.patch=m.old∧m.lo≤x.n∧x.n < m.hi
  ·rw[if_pos h,hu m AG h]
  ·rw[if_neg h]
   refine ih ?_ fun m' hm=>hu m' (AH _ hm)
   rcases AI.1 he with rfl|he
   ·exact absurd h1 h
   ·exact he
theorem ry {id:Dig} {P:List (List Nat)} {cs:List Chg} {is:List Dig} {k:Nat} {D:List Nat} (hD: ∀ c∈D,c < cs.length) {y:Ident} (hy:Ea y=true→y.n < CP cs cs.length∧Dz cs y.n∈D) (hn:Ea y=false→y.patch≠id∨y.n < 0):
  fS P cs is k y=gM (D.map (Kt id P cs is k)) id y:=by
 unfold fS gM
 by_cases ho:Ea y=true
 ·rw[if_pos ho,if_pos ho]
  obtain⟨hlt,hin⟩:=hy ho
  have h0:=(GL.1 ho).2
  obtain⟨a,b,c⟩:=Qd (Ah _) h0 hlt
  have e0: ∀ {d:Nat} (hd:d < cs.length),(CP cs d:Int)+cntC (cs.getD d Chg.zero)=CP cs (d+1):=fun {d} hd=>by
   rw[HX hd,C0,AO hd,BU];omega
  rw[ou (x:=⟨id,y.n⟩) (e:=Kt id P cs is k (Dz cs y.n)) (AQ.2 ⟨_,hin,rfl⟩) ⟨rfl,b,by unfold Kt;dsimp only;rw[e0 a];exact c⟩ fun m hm h=>?_]
  ·unfold Kt
   dsimp only
   congr 1
   omega
  ·obtain⟨d,hd,rfl⟩:=AQ.1 hm
   unfold Kt at h
   dsimp only at h
   rw[e0 (hD d hd)]at h
   rw[dp (hD d hd) h.2.1 h.2.2]
 ·rw[if_neg ho,if_neg ho]
  refine(Ri fun m hm e h=>?_).symm
  obtain⟨d,hd,rfl⟩:=AQ.1 hm
  unfold Kt at e h
  dsimp only at e h
  rcases hn (by simpa using ho)with h'|h'
  ·exact absurd e h'
  ·omega
theorem VK {P:List (List Nat)} {n:Nat} (h:LG P n) {cs:List Chg} {c d:Nat} (hc:c < d) (hd:d < n) (e:K3 P c=K3 P d):TD P cs c+cntC (cs.getD c Chg.zero)≤TD P cs d:=by
 obtain⟨hk,hcm⟩:=h.mem (c:=c) (by omega)
 obtain⟨hk',hdm⟩:=h.mem hd
 have hdm:d∈P[K3 P c]:=by simp only[e];exact hdm
 obtain⟨a,b,hab⟩:=cz hdm
 have hasc:=h.asc _ (AF hk)
 rw[hab]at hasc
 obtain⟨_,hb,_⟩:=H3.1 hasc
 have hca:c∈a:=by
  rw[hab]at hcm
  rcases Aj.1 hcm with h1|h1
  ·exact h1
  ·rcases AI.1 h1 with h1|h1
   ·omega
   ·have:=(Bq.1 hb).1 c h1
    omega
 obtain⟨a1,a2,ha⟩:=cz hca
 subst ha
 have hab':P[K3 P c]=a1++c::(a2++d::b):=by rw[hab];simp
 rw[RK h hk hab',RK h hk hab]
 simp only[Ak,Ar,DC,DI]
 omega
theorem ua {P:List (List Nat)} {cs:List Chg} (h:LG P cs.length) {is:List Dig} {k:Nat} (hz: ∀ j,j < k→is.getD j Dig.zero≠Dig.zero) (hn: ∀ i j,i < k→j < k→is.getD i Dig.zero=is.getD j Dig.zero→i=j)
  {G:Ident→Prop} (hG: ∀ y,G y→0≤y.n∧(Ea y=true→y.n < CP cs cs.length∧K3 P (Dz cs y.n)≤k)∧(Ea y=false→y.patch≠Dig.zero∧ ∀ j,j < k→y.patch≠is.getD j Dig.zero))
  {y z:Ident} (gy:G y) (gz:G z) (e:fS P cs is k y=fS P cs is k z):y=z:=by
 obtain⟨y0,y1,y2⟩:=hG y gy
 obtain⟨z0,z1,z2⟩:=hG z gz
 have pp: ∀ {w:Ident},Ea w=true→K3 P (Dz cs w.n)≤k→(fS P cs is k w).patch=Dig.zero∧K3 P (Dz cs w.n)=k∨K3 P (Dz cs w.n) < k∧(fS P cs is k w).patch=is.getD (K3 P (Dz cs w.n)) Dig.zero:=fun {w} hw hk=>by
  unfold fS
  rw[if_pos hw]
  dsimp only
  by_cases hi:K3 P (Dz cs w.n)=k
  ·rw[if_pos hi];exact .inl ⟨rfl,hi⟩
  ·rw[if_neg hi];exact .inr ⟨by omega,rfl⟩
 by_cases oy:Ea y=true
 ·obtain⟨a1,a2⟩:=y1 oy
  by_cases oz:Ea z=true
  ·obtain⟨b1,b2⟩:=z1 oz
   have same:K3 P (Dz cs y.n)=K3 P (Dz cs z.n):=by
    rcases pp oy a2 with ⟨p1,p2⟩|⟨p1,p2⟩<;>rcases pp oz b2 with ⟨q1,q2⟩|⟨q1,q2⟩
    ·rw[p2,q2]
    ·rw[e,q2]at p1;exact absurd p1 (hz _ q1)
    ·rw[e,q1]at p2;exact absurd p2.symm (hz _ p1)
    ·rw[e,q2]at p2;exact(hn _ _ q1 p1 p2).symm
   obtain⟨c1,c2,c3⟩:=Qd (Ah _) y0 a1
   obtain⟨d1,d2,d3⟩:=Qd (Ah _) z0 b1
   have en:y.n - CP cs (Dz cs y.n)+TD P cs (Dz cs y.n)=z.n - CP cs (Dz cs z.n)+TD P cs (Dz cs z.n):=by
    have:=congrArg Ident.n e
    unfold fS at this
    rw[if_pos oy,if_pos oz]at this
    exact this
   have cn: ∀ {d:Nat} (hd:d < cs.length),CP cs (d+1)=CP cs d+cntC (cs.getD d Chg.zero):=fun {d} hd=>by
    rw[HX hd,C0,AO hd,BU]
   rw[cn c1]at c3
   rw[cn d1]at d3
   have hnn:y.n=z.n:=by
    rcases RB (Dz cs y.n) (Dz cs z.n)with hl|hl|hl
    ·have:=VK h (cs:=cs) hl d1 same
     omega
    ·rw[hl]at en;omega
    ·have:=VK h (cs:=cs) hl c1 same.symm
     omega
   have hp:y.patch=z.patch:=by rw[(GL.1 oy).1,(GL.1 oz).1]
   cases y;cases z;simp_all
  ·have oz:Ea z=false:=by simpa using oz
   obtain⟨q1,q2⟩:=z2 oz
   have e2:fS P cs is k z=z:=by unfold fS;rw[if_neg (by simp[oz])]
   rw[e2]at e
   rcases pp oy a2 with ⟨p1,_⟩|⟨p1,p2⟩
   ·rw[e]at p1;exact absurd p1 q1
   ·rw[e]at p2;exact absurd p2 (q2 _ p1)
 ·have oy:Ea y=false:=by simpa using oy
  obtain⟨p1,p2⟩:=y2 oy
  have e1:fS P cs is k y=y:=by unfold fS;rw[if_neg (by simp[oy])]
  rw[e1]at e
  by_cases oz:Ea z=true
  ·obtain⟨b1,b2⟩:=z1 oz
   rcases pp oz b2 with ⟨q1,_⟩|⟨q1,q2⟩
   ·rw[←e]at q1;exact absurd q1 p1
   ·rw[←e]at q2;exact absurd q2 (p2 _ q1)
  ·have oz:Ea z=false:=by simpa using oz
   have e2:fS P cs is k z=z:=by unfold fS;rw[if_neg (by simp[oz])]
   rw[e2]at e
   exact e
def Ct (c:Chg):List Ident:=(if 2≤c.kind∧c.kind≤6 then [c.file]else [])++(if c.kind=2 then [c.parent]else [])++(if c.kind=5∨c.kind=6 then [c.after,c.before]else [])++c.over
def Ki (P:List (List Nat)) (cs:List Chg):Bool:=(List.range cs.length).any fun i=>(Ct (cs.getD i Chg.zero)).any fun y=>Ea y&&decide (K3 P i < K3 P (Dz cs y.n))
theorem aj {c:Chg} {G:Ident→Prop} (h: ∀ y∈Ct c,G y):OM c G:=by
 unfold Ct at h
 refine⟨fun a b=>h _ ?_,fun a _=>h _ ?_,fun a=>h _ ?_,fun a=>h _ ?_,fun y hy=>h _ ?_⟩
 ·simp[a,b]
 ·simp[a]
 ·rw[if_pos a];simp
 ·rw[if_pos a];simp
 ·simp[hy]
def QD (id:Dig) (cs:List Chg) (r:List Mvd × Int × List Chg) (c:Nat):List Mvd × Int × List Chg:=
 let l:=r.1++ [⟨id,CP cs c,(CP cs c:Int)+cntC (cs.getD c Chg.zero),Dig.zero,r.2.1⟩]
 (l,r.2.1+cntC (cs.getD c Chg.zero),r.2.2++ [fL (gM l id) (cs.getD c Chg.zero)])
structure HZ (s:List Sto) (x:Sto) (P:List (List Nat)):Prop where
 val:BH s
 mem:x∈s
 parts:LG P x.patch.changes.length
 early:Ki P x.patch.changes=false
theorem HZ.uses {s:List Sto} {x:Sto} {P:List (List Nat)} (h:HZ s x P) {c:Nat} (hc:c < x.patch.changes.length):
  OM x.patch.changes[c] fun y=>0≤y.n∧(Ea y=true→y.n < CP x.patch.changes c∧K3 P (Dz x.patch.changes y.n)≤K3 P c)∧(Ea y=false→y.patch≠Dig.zero∧y.patch≠x.id∧y.patch∈ids s):=by
 have hp:=EN (Fj (h.val.id x h.mem).1).1
 have h1:=Pb (hp.refs c hc)
 have h2:=h.val.uses h.mem (AF hc)
 have h3:OM x.patch.changes[c] fun y=>Ea y=true→K3 P (Dz x.patch.changes y.n)≤K3 P c:=aj fun y hy ho=>by
  have h0:=Bl.1 h.early c (Br.2 hc)
  rw[C0,AO hc,BU,Jq]at h0
  have h1:=Bl.1 h0 y hy
  rw[ho,EK,AB]at h1
  omega
 have h4:OM x.patch.changes[c] fun y=>y.patch≠x.id∨y.patch=Dig.zero:=⟨fun _ _=>h.val.not_self h.mem (AF hc) (by simp[Ks]),fun _ _=>h.val.not_self h.mem (AF hc) (by simp[Ks]),fun _=>h.val.not_self h.mem (AF hc) (by simp[Ks]),fun _=>h.val.not_self h.mem (AF hc) (by simp[Ks]),fun y hy=>h.val.not_self h.mem (AF hc) (by simp[Ks,hy])⟩
 refine(((h1.and h2).and h3).and h4).mono fun y ⟨⟨⟨a1,a2⟩,a3⟩,a4⟩=>⟨a1.1,fun ho=>⟨?_,a3 ho⟩,fun ho=>?_⟩
 ·have:=a1.2 (GL.1 ho).1
  rw[Rf]at this
  exact this
 ·have hz:y.patch≠Dig.zero:=fun e=>by
   have:=GL.2 ⟨e,a1.1⟩
   rw[ho]at this;cases this
  obtain⟨z,hz1,hz2,_⟩:=a2.2 hz
  exact⟨hz,a4.elim id fun e=>absurd e hz,hz2 ▸ AQ.2 ⟨z,hz1,rfl⟩⟩
theorem HZ.change {s:List Sto} {x:Sto} {P:List (List Nat)} (h:HZ s x P) {is:List Dig} {k:Nat} (hz: ∀ j,j < k→is.getD j Dig.zero≠Dig.zero) (hn: ∀ i j,i < k→j < k→is.getD i Dig.zero=is.getD j Dig.zero→i=j)
  (hs: ∀ j,j < k→is.getD j Dig.zero∈ids s→is.getD j Dig.zero=x.id) {c:Nat} (hc:c < x.patch.changes.length) (hk:K3 P c=k)
  {D:List Nat} (hD: ∀ d∈D,d < x.patch.changes.length) (hall: ∀ d,d < x.patch.changes.length→(K3 P d < k∨K3 P d=k∧d < c)→d∈D):
  Eo (fS P x.patch.changes is k) x.patch.changes[c]=fL (gM (D.map (Kt x.id P x.patch.changes is k)) x.id) x.patch.changes[c]:=by
 have hp:=EN (Fj (h.val.id x h.mem).1).1
 have hu:=h.uses hc
 have hm:=Ej x.patch.changes (show c≤x.patch.changes.length by omega)
 refine Vm (hu.mono fun y ⟨a0,a1,a2⟩=>?_) ?_ ?_
 ·refine ry hD (fun ho=>?_) fun ho=> .inl (a2 ho).2.1
  obtain⟨b1,b2⟩:=a1 ho
  obtain⟨c1,_,_⟩:=Qd (cs:=x.patch.changes) (m:=c) (by omega) a0 b1
  refine⟨by omega,hall _ (by omega) ?_⟩
  rw[hk]at b2
  omega
 ·refine ry hD (fun ho=>absurd ho (by decide)) fun _=> .inr (by decide)
 ·refine RF.2 ((Tl (hp.fields c hc)).nodup.imp_of_mem fun {y z} hy hz' hne e=>hne ?_)
  refine ua h.parts hz hn (G:=fun y=>0≤y.n∧(Ea y=true→y.n < CP x.patch.changes c∧K3 P (Dz x.patch.changes y.n)≤K3 P c)∧(Ea y=false→y.patch≠Dig.zero∧y.patch≠x.id∧y.patch∈ids s)) (fun y ⟨a0,a1,a2⟩=>⟨a0,fun ho=>?_,fun ho=>⟨(a2 ho).1,fun j hj e=>?_⟩⟩) (hu.over y hy) (hu.over z hz') e
  ·obtain⟨b1,b2⟩:=a1 ho
   exact⟨by omega,by omega⟩
  ·obtain⟨_,b2,b3⟩:=a2 ho
   rw[e]at b2 b3
   exact b2 (hs j hj b3)
def JB (x:Sto) (P:List (List Nat)) (is:List Dig) (l:List Nat) (m:Mta):Pat:=
 ⟨m.author,m.message,m.time,Kj (sortD (BP x.patch++is)),l.map fun c=>Eo (fS P x.patch.changes is is.length) (x.patch.changes.getD c Chg.zero)⟩
def Wh (x:Sto) (P:List (List Nat)):List (List Nat × Mta)→List Sto→List Dig→List Sto × List Dig × Int
 | [],t,is=>(t,is,0)
 |e::o,t,is=>if(FC t (JB x P is e.1 e.2)).2.2≠0 then([],[],(FC t (JB x P is e.1 e.2)).2.2)else Wh x P o (FC t (JB x P is e.1 e.2)).1 (is++ [(FC t (JB x P is e.1 e.2)).2.1])
def QX (x:Sto) (deps:List Dig) (done:List Mvd) (l:List Nat) (m:Mta):Pat:=
 ⟨m.author,m.message,m.time,deps,(l.foldl (QD x.id x.patch.changes) (done,0,[])).2.2⟩
def ka (x:Sto) (done:List Mvd) (l:List Nat) (d:Dig):List Mvd:=
 done++(((l.foldl (QD x.id x.patch.changes) (done,0,[])).1).drop done.length).map fun e=>{ e with patch:=d }
def ni (x:Sto):List (List Nat × Mta)→List Sto→List Dig→List Dig→List Mvd→List Sto × List Dig × Int
 | [],t,is,_,_=>(t,is,0)
 |e::o,t,is,deps,done=>if(FC t (QX x deps done e.1 e.2)).2.2≠0 then([],[],(FC t (QX x deps done e.1 e.2)).2.2)else ni x o (FC t (QX x deps done e.1 e.2)).1 (is++ [(FC t (QX x deps done e.1 e.2)).2.1]) (FT deps (FC t (QX x deps done e.1 e.2)).2.1) (ka x done e.1 (FC t (QX x deps done e.1 e.2)).2.1)
structure Ud (s:List Sto) (x:Sto) (is:List Dig):Prop where
 nz: ∀ d∈is,d≠Dig.zero
 nodup:is.Nodup
 old: ∀ d∈is,d∈ids s→d=x.id
theorem Kg {is:List Dig} {j:Nat} (h:j < is.length):is.getD j Dig.zero=is[j]:=by simp[List.getD,h]
theorem HZ.steps {s:List Sto} {x:Sto} {P:List (List Nat)} (h:HZ s x P) {is:List Dig} (hn:Ud s x is) (hk:is.length < P.length): ∀ j,j≤(P[is.length]).length→
  ((P[is.length]).take j).foldl (QD x.id x.patch.changes) ((P.take is.length).flatten.map (Kt x.id P x.patch.changes is is.length),0,[])=
   (((P.take is.length).flatten++(P[is.length]).take j).map (Kt x.id P x.patch.changes is is.length),(((((P[is.length]).take j).map fun d=>cntC (x.patch.changes.getD d Chg.zero)).sum:Nat):Int),((P[is.length]).take j).map fun c=>Eo (fS P x.patch.changes is is.length) (x.patch.changes.getD c Chg.zero)):=by
 intro j
 have hP:=h.parts
 have hlt: ∀ d∈P[is.length],d < x.patch.changes.length:=hP.lt _ (AF hk)
 induction j with
 |zero=>intro _;simp
 |succ j ih=>
  intro hj
  have hj':j < (P[is.length]).length:=by omega
  have e:(P[is.length]).take (j+1)=(P[is.length]).take j++ [(P[is.length])[j]]:=A7 hj'
  have hc:=hlt _ (AF hj')
  have hin:K3 P (P[is.length])[j]=is.length:=O4 hP.apart hk (AF hj')
  have hsta:TD P x.patch.changes (P[is.length])[j]=(((P[is.length]).take j).map fun d=>cntC (x.patch.changes.getD d Chg.zero)).sum:=by
   refine RK hP hk (b:=(P[is.length]).drop (j+1)) ?_
   rw[←CH hj',Bm]
  have hent:Kt x.id P x.patch.changes is is.length (P[is.length])[j]=⟨x.id,CP x.patch.changes (P[is.length])[j],(CP x.patch.changes (P[is.length])[j]:Int)+cntC (x.patch.changes.getD (P[is.length])[j] Chg.zero),Dig.zero,((((P[is.length]).take j).map fun d=>cntC (x.patch.changes.getD d Chg.zero)).sum:Nat)⟩:=by
   unfold Kt
   rw[if_pos hin,hsta]
  rw[e,BO,ih (by omega),BM,Ho]
  unfold QD
  dsimp only
  rw[←hent]
  have hmap:((P.take is.length).flatten++(P[is.length]).take j).map (Kt x.id P x.patch.changes is is.length)++ [Kt x.id P x.patch.changes is is.length (P[is.length])[j]]=((P.take is.length).flatten++((P[is.length]).take j++ [(P[is.length])[j]])).map (Kt x.id P x.patch.changes is is.length):=by
   simp only[Ak,Ar,CU,AU]
  rw[hmap]
  have hget:x.patch.changes.getD (P[is.length])[j] Chg.zero=x.patch.changes[(P[is.length])[j]]:=by simp[List.getD,hc]
  have hch:=h.change (is:=is) (k:=is.length) (fun i hi=>by rw[Kg hi];exact hn.nz _ (AF hi)) (fun i i' hi hi' e=>by
   rw[Kg hi,Kg hi']at e
   exact(ma hn.nodup).1 e) (fun i hi hs=>by rw[Kg hi]at hs ⊢;exact hn.old _ (AF hi) hs) hc hin
   (D:=(P.take is.length).flatten++((P[is.length]).take j++ [(P[is.length])[j]])) (fun d hd=>by
    rcases Aj.1 hd with hd|hd
    ·obtain⟨l,hl,hdl⟩:=E9.1 hd
     exact hP.lt l (Et hl) d hdl
    ·rw[←e]at hd
     exact hlt d (Et hd)) (fun d hd hor=>by
    obtain⟨hk',hdm⟩:=hP.mem hd
    rcases hor with hlt'|⟨heq,hdc⟩
    ·exact Dc _ (E9.2 ⟨_,DZ.2 ⟨K3 P d,by omega,rfl⟩,hdm⟩)
    ·refine EE _ (Dc _ ?_)
     have hdm:d∈P[is.length]:=by simp only[heq]at hdm;exact hdm
     obtain⟨i,hi,rfl⟩:=AZ.1 hdm
     have hij:i < j:=by
      rcases B9 i j with h'|h'
      ·exact h'
      ·exfalso
       rcases Nat.eq_or_lt_of_le h' with h'|h'
       ·subst h';omega
       ·have:=Ay.1 (hP.asc _ (AF hk)) j i hj' hi h'
        omega
     exact DZ.2 ⟨i,by omega,rfl⟩)
  rw[hget,←hch]
  simp only[Ak,Ar,CU,DC,DI,Jo,hget,Prod.mk.injEq,true_and,and_true]
  omega
theorem HZ.part {s:List Sto} {x:Sto} {P:List (List Nat)} (h:HZ s x P) {is:List Dig} (hn:Ud s x is) (hk:is.length < P.length) (m:Mta):
  QX x (Kj (sortD (BP x.patch++is))) ((P.take is.length).flatten.map (Kt x.id P x.patch.changes is is.length)) P[is.length] m=JB x P is P[is.length] m∧
  ∀ d,ka x ((P.take is.length).flatten.map (Kt x.id P x.patch.changes is is.length)) P[is.length] d=(P.take (is.length+1)).flatten.map (Kt x.id P x.patch.changes (is++ [d]) (is.length+1)):=by
 have hst:=h.steps hn hk (P[is.length]).length (Ah _)
 rw[AE (Ah _)]at hst
 refine⟨?_,fun d=>?_⟩
 ·unfold QX JB
  rw[hst]
 ·unfold ka
  rw[hst]
  dsimp only
  have e:P.take (is.length+1)=P.take is.length++ [P[is.length]]:=A7 hk
  rw[e,CJ,Ak,Ak,Y4,GQ,CG]
  congr 1
  ·refine CC fun c hc=>?_
   obtain⟨l,hl,hcl⟩:=E9.1 hc
   obtain⟨i,hi,rfl⟩:=DZ.1 hl
   have hin:K3 P c=i:=O4 h.parts.apart (by omega) hcl
   unfold Kt
   rw[hin,if_neg (by omega),if_neg (by omega)]
   congr 1
   rw[Kg (by omega),Kg (by simp;omega),BC]
  ·refine CC fun c hc=>?_
   have hin:K3 P c=is.length:=O4 h.parts.apart hk hc
   unfold Kt
   simp only[Function.comp_apply,hin,if_true]
   rw[if_neg (by omega),Kg (by simp)]
   simp
theorem bQ {l:List Dig} (h:Dig.zero∈l):Ir l≠0:=by
 unfold Ir
 split
 ·omega
 intro k
 obtain⟨i,hi,e⟩:=AZ.1 h
 have:=DY k i (Br.2 hi)
 unfold Hb at this
 rw[if_pos (by simp[List.getD,hi,e])]at this
 omega
theorem fV {t:List Sto} {a m:Str} {i:Int} {deps:List Dig} {cs cs':List Chg} (h:Dig.zero∈deps):FC t ⟨a,m,i,deps,cs⟩=FC t ⟨a,m,i,deps,cs'⟩∧(FC t ⟨a,m,i,deps,cs⟩).2.2≠0:=by
 have hd:=bQ h
 have hc: ∀ cs cs':List Chg,(C9 ⟨a,m,i,deps,cs⟩).2=(C9 ⟨a,m,i,deps,cs'⟩).2∧(C9 ⟨a,m,i,deps,cs⟩).2≠0:=fun cs cs'=>by
  unfold C9
  dsimp only
  split
  ·exact⟨rfl,by simp⟩
  split
  ·exact⟨rfl,by simp⟩
  split
  ·exact⟨rfl,by simp⟩
  exact⟨rfl,hd⟩
 have hr: ∀ cs:List Chg,FB ⟨a,m,i,deps,cs⟩=(Dig.zero,(C9 ⟨a,m,i,deps,cs⟩).2):=fun cs=>by
  have:=(hc cs cs).2
  unfold FB Cb
  rw[if_pos this]
  dsimp only
  rw[if_pos this]
 have ha: ∀ cs:List Chg,FC t ⟨a,m,i,deps,cs⟩=([],Dig.zero,(C9 ⟨a,m,i,deps,cs⟩).2):=fun cs=>by
  unfold FC
  rw[hr]
  dsimp only
  rw[if_pos (hc cs cs).2]
 rw[ha,ha,(hc cs cs').1]
 exact⟨rfl,by rw[←(hc cs cs').1];exact(hc cs cs').2⟩
end Go.Proofs
