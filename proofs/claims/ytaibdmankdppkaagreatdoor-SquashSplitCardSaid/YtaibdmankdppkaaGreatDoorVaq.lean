/- The example of the statements of layer 17: a file, a line in it, and a file of another author. -/
import Derived.Test.YtaibdmankdppkaaGreatDoorVap
import Derived.Test.YtaibdmankdppkaaGreatDoorVao
import Derived.Test.YtaibdmankdppkaaGreatDoorVan
set_option linter.unusedSimpArgs false
set_option linter.unusedVariables false
namespace Go.Proofs
open Go Go.Q
def c8:Dig:=⟨[209,215,128,53,238,251,106,196,245,2,206,112,154,168,198,4,66,36,85,131,114,133,77,50,25,101,179,105,218,149,57,133],rfl⟩
def rQ:Dig:=⟨[234,79,61,16,149,93,210,77,109,138,121,50,140,158,64,68,63,99,235,247,105,210,173,16,203,104,162,205,29,130,230,63],rfl⟩
def pf:Dig:=⟨[74,226,31,219,114,2,101,1,252,138,12,111,103,175,102,211,8,175,186,83,231,92,101,199,238,238,231,140,175,139,225,84],rfl⟩
def zW:Chg:={ Chg.zero with kind:=1,type:=1 }
def awI:Chg:={ Chg.zero with kind:=5,file:=⟨c8,0⟩,after:=⟨c8,0⟩,before:=⟨c8,0⟩,lines:= [[120]] }
def uQ:Pat:=⟨[97,110,110],[],0,[],[zW]⟩
def vb:Pat:=⟨[97,110,110],[],0,[],[awI]⟩
def zy:Pat:=⟨[98,111,98],[],0,[],[zW]⟩
def aw1S:List Sto:= [⟨c8,uQ⟩]
def aw2S:List Sto:= [⟨c8,uQ⟩,⟨rQ,vb⟩]
theorem uO:Ec [] uQ=(aw1S,c8,0):=by decide+kernel
theorem uM:Ec aw1S vb=(aw2S,rQ,0):=by decide+kernel
theorem eC:Ff uQ=false∧Ff vb=false∧Ff zy=false:=by decide+kernel
theorem pd:MF []=true:=by decide+kernel
theorem pc:MF aw1S=true:=by decide+kernel
theorem pb:MF aw2S=true:=by decide+kernel
def zx:Dig:=⟨[29,5,81,176,77,171,31,168,3,84,99,177,155,5,61,168,37,109,70,193,94,5,28,98,24,204,118,247,185,184,170,220],rfl⟩
def zw:Dig:=⟨[240,168,68,31,108,233,64,210,234,68,91,7,227,21,139,135,67,203,230,233,173,209,83,239,153,132,174,43,167,0,34,187],rfl⟩
end Go.Proofs
namespace Go.Proofs
open Go Go.Q Go.Sort
theorem bK {α:Type} {r:α→α→Prop} (irr: ∀ a,¬r a a) (tr: ∀ a b c,r a b→r b c→r a c): ∀ {l m:List α},l.Pairwise r→m.Pairwise r→(∀ x,x∈l↔x∈m)→l=m
 | [],[],_,_,_=>rfl
 | [],y::m,_,_,h=>absurd ((h y).2 AI) (Aa)
 |x::l,[],_,_,h=>absurd ((h x).1 AI) (Aa)
 |x::l,y::m,h1,h2,h=>by
  obtain⟨a1,a2⟩:=Bm.1 h1
  obtain⟨b1,b2⟩:=Bm.1 h2
  have e:x=y:=by
   rcases AG.1 ((h x).1 AI)with e|hx
   ·exact e
   ·rcases AG.1 ((h y).2 AI)with e|hy
    ·exact e.symm
    ·exact absurd (tr _ _ _ (b1 x hx) (a1 y hy)) (irr _)
  subst e
  rw[bK irr tr a2 b2 fun z=>?_]
  constructor
  ·intro hz
   rcases AG.1 ((h z).1 (AL _ hz))with e|h'
   ·subst e;exact absurd (a1 _ hz) (irr _)
   ·exact h'
  ·intro hz
   rcases AG.1 ((h z).2 (AL _ hz))with e|h'
   ·subst e;exact absurd (b1 _ hz) (irr _)
   ·exact h'
abbrev Uc (l:List Ident):Prop:=l.Pairwise fun a b=>Hf a b < 0
theorem lY {l m:List Ident} (h1:Uc l) (h2:Uc m) (h: ∀ x,x∈l↔x∈m):l=m:=
 bK (r:=fun a b=>Hf a b < 0) Ident.lt_irrefl (fun _ _ _=>Ident.lt_trans) h1 h2 h
theorem Uc.nodup {l:List Ident} (h:Uc l):l.Nodup:=h.imp fun {a b} hab e=>by subst e;exact Ident.lt_irrefl _ hab
theorem Tt {x d:Ident}: ∀ {l:List Ident},x∈IR l d↔x=d∨x∈l
 | []=>by simp[IR]
 |y::l=>by
  unfold IR
  split
  ·rw[AG,Tt,AG]
   constructor
   ·rintro(h|h|h)
    ·exact .inr (.inl h)
    ·exact .inl h
    ·exact .inr (.inr h)
   ·rintro(h|h|h)
    ·exact .inr (.inl h)
    ·exact .inl h
    ·exact .inr (.inr h)
  ·split
   ·rename_i e
    subst e
    constructor
    ·exact .inr
    ·rintro(h|h)
     ·subst h;exact AI
     ·exact h
   ·simp only[AG]
theorem ZW {d:Ident}: ∀ {l:List Ident},Uc l→Uc (IR l d)
 | [],_=>by unfold IR;exact Fx _ _
 |y::l,h=>by
  obtain⟨h1,h2⟩:=Bm.1 h
  unfold IR
  split
  ·rename_i hy
   refine Bm.2 ⟨fun z hz=>?_,ZW h2⟩
   rcases Tt.1 hz with rfl|hz
   ·exact hy
   ·exact h1 z hz
  ·rename_i hy
   split
   ·exact h
   ·rename_i hne
    have hlt:Hf d y < 0:=by
     rcases Ident.tri d y with h'|h'|h'
     ·exact h'
     ·exact absurd h'.symm hne
     ·exact absurd h' hy
    refine Bm.2 ⟨fun z hz=>?_,h⟩
    rcases AG.1 hz with rfl|hz
    ·exact hlt
    ·exact Ident.lt_trans hlt (h1 z hz)
theorem Kh: ∀ (m l:List Ident),Uc l→Uc (m.foldl IR l)∧ ∀ x,x∈m.foldl IR l↔x∈l∨x∈m
 | [],l,h=>⟨h,fun x=>by simp⟩
 |y::m,l,h=>by
  obtain⟨a,b⟩:=Kh m (IR l y) (ZW h)
  refine⟨a,fun x=>?_⟩
  rw[Bz,b,Tt,AG]
  constructor
  ·rintro((h|h)|h)
   ·exact .inr (.inl h)
   ·exact .inl h
   ·exact .inr (.inr h)
  ·rintro(h|h|h)
   ·exact .inl (.inr h)
   ·exact .inl (.inl h)
   ·exact .inr h
theorem eZ {l:List Ident} {d:Ident}:d∈sortI l↔d∈l:=cJ
theorem ea {l:List Ident} (hn:l.Nodup):Uc (sortI l):=by
 have h:=z8 (le:=fun x y=>!(ltOf Hf) y x) (fun a b c h1 h2=>by
  simp only[AF,ltOf,A8]at h1 h2 ⊢
  intro h3
  rcases Ident.tri a b with h|h|h
  ·exact h2 (Ident.lt_trans h3 h)
  ·subst h;exact h2 h3
  ·exact h1 h) (fun a b=>by
  simp only[qH,AF,ltOf,A8]
  rcases Ident.tri a b with h|h|h
  ·exact .inl fun k=>Ident.lt_irrefl _ (Ident.lt_trans h k)
  ·subst h;exact .inl (Ident.lt_irrefl _)
  ·exact .inr fun k=>Ident.lt_irrefl _ (Ident.lt_trans h k)) l
 have h2:(sortI l).Nodup:=(List.mergeSort_perm l _).nodup_iff.2 hn
 refine B6.2 fun i j hi hj hij=>?_
 have a:=B6.1 h i j hi hj hij
 have b:=B6.1 h2 i j hi hj hij
 rw[AF]at a
 have a: ¬Hf (sortI l)[j] (sortI l)[i] < 0:=Bl a
 rcases Ident.tri (sortI l)[i] (sortI l)[j]with h'|h'|h'
 ·exact h'
 ·exact absurd h' b
 ·exact absurd h' a
theorem ag {l:List Ident} (hn:l.Nodup):sortI l=l.foldl IR []:=
 lY (ea hn) (Kh l [] .nil).1 fun x=>by rw[eZ,(Kh l [] .nil).2];simp
def EO (x:Ident):Bool:=decide (x.patch=Dig.zero)&&decide (0≤x.n)
theorem HA {x:Ident}:EO x=true↔x.patch=Dig.zero∧0≤x.n:=by unfold EO;simp
def HP (f:Ident→Ident) (c:Chg):Chg:=
 { c with file:=if 2≤c.kind∧c.kind≤6 then f c.file else c.file,parent:=if c.kind=2 then f c.parent else c.parent,after:=if c.kind=5∨c.kind=6 then f c.after else c.after,before:=if c.kind=5∨c.kind=6 then f c.before else c.before,over:=sortI (c.over.map f) }
def LV (f:Ident→Ident) (c:Chg):Chg:=
 { c with file:=if 2≤c.kind∧c.kind≤6 then f c.file else c.file,parent:=if c.kind=2 then f c.parent else c.parent,after:=if c.kind=5∨c.kind=6 then f c.after else c.after,before:=if c.kind=5∨c.kind=6 then f c.before else c.before,over:=(c.over.map f).foldl IR [] }
theorem Vi {c:Chg} {f g:Ident→Ident} (h:P9 c fun x=>f x=g x) (hr:f rRoot=g rRoot) (hn:(c.over.map f).Nodup):HP f c=LV g c:=by
 have ho:c.over.map f=c.over.map g:=DF fun x hx=>h.over x hx
 unfold HP LV
 rw[ag hn,ho]
 congr 1
 ·split
  ·rename_i k;exact h.file k.1 k.2
  ·rfl
 ·split
  ·rename_i k
   by_cases hp:c.parent=rRoot
   ·rw[hp];exact hr
   ·exact h.parent k hp
  ·rfl
 ·split
  ·rename_i k;exact h.after k
  ·rfl
 ·split
  ·rename_i k;exact h.before k
  ·rfl
structure WG (cnt:Dig→Nat) (st:List (Dig × Int)) (n:Int):Prop where
 nodup:(st.map (·.1)).Nodup
 pos:0≤n
 le: ∀ e∈st,0≤e.2∧e.2+cnt e.1≤n
 apart: ∀ e∈st,∀ f∈st,e.1≠f.1→e.2+cnt e.1≤f.2∨f.2+cnt f.1≤e.2
theorem Pn {κ:Type} [DecidableEq κ] {k:κ}: ∀ {l:List κ},k∉l→Hx k l=none
 | [],_=>rfl
 |a::l,h=>by
  have h1: ¬k=a:=fun e=>h (e ▸ AI)
  simp only[Hx,if_neg h1,Pn fun hl=>h (AL _ hl),Option.map_none]
theorem QY {κ α:Type} [DecidableEq κ] {k:κ} {x:α}: ∀ {l:List (κ × α)},CY k l=some x→(k,x)∈l
 | [],h=>by simp[CY]at h
 |(a,y)::l,h=>by
  unfold CY at h
  split at h
  ·rename_i e;cases h;subst e;exact AI
  ·exact AL _ (QY h)
theorem Tw {κ α:Type} [DecidableEq κ] {k:κ}: ∀ {l:List (κ × α)},k∈l.map (·.1)→ ∃ x,CY k l=some x
 | [],h=>by simp at h
 |(a,y)::l,h=>by
  unfold CY
  split
  ·exact⟨y,rfl⟩
  ·rename_i e
   rcases AG.1 h with h|h
   ·exact absurd h e
   ·exact Tw h
theorem WG.step {cnt:Dig→Nat} {st:List (Dig × Int)} {n:Int} (h:WG cnt st n) {d:Dig} (hd:d∉st.map (·.1)):WG cnt (Dd d n st) (n+cnt d):=by
 rw[Gl d n (Pn hd)]
 have hp:=h.pos
 refine⟨?_,by omega,fun e he=>?_,fun e he f hf hne=>?_⟩
 ·rw[Au]
  refine Ez.2 ⟨h.nodup,by simp,fun a ha b hb e=>?_⟩
  simp only[Aq,CC,Aj]at hb
  subst e;subst hb;exact hd ha
 ·rcases Ah.1 he with he|he
  ·have:=h.le e he;omega
  ·rw[Aj.1 he];dsimp only;omega
 ·rcases Ah.1 he with he|he<;>rcases Ah.1 hf with hf|hf
  ·exact h.apart e he f hf hne
  ·have:=h.le e he
   rw[Aj.1 hf];dsimp only;omega
  ·have:=h.le f hf
   rw[Aj.1 he];dsimp only;omega
  ·rw[Aj.1 he,Aj.1 hf]at hne
   exact absurd rfl hne
def fJ (st:List (Dig × Int)) (d:Dig) (x:Ident):Ident:=match CY (if EO x=true then d else x.patch) st with
 |some k=>if 0≤x.n then⟨Dig.zero,k+x.n⟩else x
 |none=>x
def N9:List Mvd→Ident→Ident
 | [],x=>x
 |m::l,x=>if x.patch=m.old∧m.lo≤x.n∧x.n < m.hi then⟨m.patch,m.dst+x.n - m.lo⟩else N9 l x
def gM (l:List Mvd) (d:Dig) (x:Ident):Ident:=N9 l (if EO x=true then⟨d,x.n⟩else x)
def tW (cnt:Dig→Nat) (e:Dig × Int):Mvd:=⟨e.1,0,cnt e.1,Dig.zero,e.2⟩
theorem RV {l:List Mvd} {x:Ident} (h: ∀ m∈l,x.patch=m.old→m.lo≤x.n→ ¬x.n < m.hi):N9 l x=x:=by
 induction l with
 |nil=>rfl
 |cons m l ih=>
  unfold N9
  rw[if_neg fun k=>h m AI k.1 k.2.1 k.2.2]
  exact ih fun m hm=>h m (AL _ hm)
theorem RY (cnt:Dig→Nat): ∀ {st:List (Dig × Int)} {y:Ident} {k:Int},CY y.patch st=some k→0≤y.n→y.n < cnt y.patch→N9 (st.map (tW cnt)) y=⟨Dig.zero,k+y.n⟩
 | [],y,k,h,_,_=>by simp[CY]at h
 |(a,j)::st,y,k,h,h0,h1=>by
  unfold CY at h
  simp only[Aq,N9,tW]
  split at h
  ·rename_i e
   cases h
   rw[if_pos ⟨e,h0,by rw[←e];exact h1⟩]
   congr 1;omega
  ·rename_i e
   rw[if_neg fun k=>e k.1]
   exact RY cnt h h0 h1
theorem Tv {κ α:Type} [DecidableEq κ] {k:κ} {l:List (κ × α)} (h:CY k l=none):k∉l.map (·.1):=fun hk=>by
 obtain⟨x,hx⟩:=Tw hk
 rw[hx]at h;cases h
def cntS (s:List Sto) (d:Dig):Nat:=NL ((getS s d).getD Pat.zero)
theorem Bx.cntS {s:List Sto} (v:Bx s) {x:Sto} (hx:x∈s):cntS s x.id=NL x.patch:=by
 unfold Go.Proofs.cntS;rw[v.getS hx];rfl
theorem xi {s:List Sto} (v:Bx s) {st:List (Dig × Int)} {x:Sto} (hx:x∈s) (hd:x.id∈st.map (·.1)) {y:Ident} (h:Qu (NL x.patch) y∧Kr s y):fJ st x.id y=gM (st.map (tW (cntS s))) x.id y:=by
 obtain⟨⟨h0,h1⟩,h2⟩:=h
 unfold fJ gM
 by_cases ho:EO y=true
 ·rw[if_pos ho,if_pos ho]
  obtain⟨k,hk⟩:=Tw hd
  have:=h1 (HA.1 ho).1
  rw[hk,RY (y:=⟨x.id,y.n⟩) (cntS s) hk h0 (by rw[v.cntS hx];exact this)]
  dsimp only
  rw[if_pos h0]
 ·rw[if_neg ho,if_neg ho]
  have hz:y.patch≠Dig.zero:=fun e=>ho (HA.2 ⟨e,h0⟩)
  obtain⟨z,hzs,e,_,hlt⟩:=h2 hz
  cases hg:CY y.patch st with
  |none=>
   dsimp only
   refine(RV fun m hm e2=>?_).symm
   obtain⟨a,ha,rfl⟩:=AY.1 hm
   exact absurd (AY.2 ⟨a,ha,e2.symm⟩) (Tv hg)
  |some k=>
   dsimp only
   rw[if_pos h0,RY (cntS s) hg h0 (by rw[←e,v.cntS hzs];exact hlt)]
theorem pA (st:List (Dig × Int)) (d:Dig):fJ st d rRoot=rRoot:=by
 unfold fJ
 split<;>rfl
theorem oh {s:List Sto} (st:List (Dig × Int)) (d:Dig):gM (st.map (tW (cntS s))) d rRoot=rRoot:=by
 unfold gM
 rw[if_neg (by decide)]
 refine RV fun m hm _ h=>?_
 obtain⟨a,_,rfl⟩:=AY.1 hm
 exact absurd h (show ¬(0:Int)≤ -1 by decide)
theorem ji {l:List Ident} (h:Ph l=true):Uc l:=by
 have step: ∀ i (h:i+1 < l.length),Hf l[i] l[i+1] < 0:=fun i hi=>by
  unfold Ph at h
  have:=Bf.1 h i (BZ.2 (by omega))
  simpa [List.getD,hi,show i < l.length by omega]using this
 refine B6.2 fun i j hi hj hij=>?_
 obtain⟨k,rfl⟩: ∃ k,j=i+1+k:=⟨j - i - 1,by omega⟩
 induction k with
 |zero=>exact step i hj
 |succ k ih=>exact Ident.lt_trans (ih (by omega) (by omega)) (step (i+1+k) hj)
theorem ZE {c:Chg} (h:C0 c=0):Uc c.over:=by
 unfold C0 at h
 split at h
 ·omega
 rename_i h1
 split at h
 ·omega
 rename_i h2
 split at h
 ·omega
 split at h
 ·omega
 split at h
 ·omega
 split at h
 ·omega
 split at h
 ·rename_i h5
  have h2:Fg (Hp c)=true:=by simpa using h2
  unfold Fg at h2
  simp only[BQ,AA]at h2
  have h3:=h2.2
  have:(Hp c).over=c.over:=by unfold Hp;dsimp only;rw[if_neg (by omega)]
  rw[this]at h3
  have:c.over= []:=BA (by omega)
  rw[this]
  exact .nil
 split at h
 ·omega
 split at h
 ·omega
 split at h
 ·omega
 rename_i h9
 exact ji (by simpa using h9)
def SK (d:Dig) (y:Ident):Dig:=if EO y=true then d else y.patch
theorem uC {s:List Sto} (v:Bx s) {st:List (Dig × Int)} {n:Int} (hL:WG (cntS s) st n) {x:Sto} (hx:x∈s) (hd:x.id∈st.map (·.1)) {y z:Ident} (hy:Qu (NL x.patch) y∧Kr s y) (hz:Qu (NL x.patch) z∧Kr s z)
  (ny:y.patch≠x.id∨y.patch=Dig.zero) (nz:z.patch≠x.id∨z.patch=Dig.zero) (e:fJ st x.id y=fJ st x.id z):y=z:=by
 have src: ∀ {w:Ident},Qu (NL x.patch) w∧Kr s w→0≤w.n∧w.n < cntS s (SK x.id w)∧(EO w=false→w.patch≠Dig.zero):=fun {w} hw=>by
  obtain⟨⟨h0,h1⟩,h2⟩:=hw
  unfold SK
  by_cases ho:EO w=true
  ·rw[if_pos ho,v.cntS hx]
   exact⟨h0,h1 (HA.1 ho).1,fun k=>by rw[ho]at k;cases k⟩
  ·rw[if_neg ho]
   have hz:w.patch≠Dig.zero:=fun e=>ho (HA.2 ⟨e,h0⟩)
   obtain⟨u,hu,e1,_,h3⟩:=h2 hz
   rw[←e1,v.cntS hu]
   exact⟨h0,h3,fun _=>e1 ▸ hz⟩
 obtain⟨y0,y1,y2⟩:=src hy
 obtain⟨z0,z1,z2⟩:=src hz
 have img: ∀ {w:Ident},0≤w.n→fJ st x.id w=match CY (SK x.id w) st with|some k=>⟨Dig.zero,k+w.n⟩|none=>w:=fun {w} hw=>by
  unfold fJ SK
  cases CY (if EO w=true then x.id else w.patch) st with
  |none=>rfl
  |some k=>dsimp only;rw[if_pos hw]
 have own_in: ∀ {w:Ident},CY (SK x.id w) st=none→EO w=false:=fun {w} h=>by
  cases ho:EO w with
  |false=>rfl
  |true=>
   unfold SK at h
   rw[if_pos ho]at h
   exact absurd hd (Tv h)
 rw[img y0,img z0]at e
 cases hgy:CY (SK x.id y) st with
 |none=>
  rw[hgy]at e
  dsimp only at e
  cases hgz:CY (SK x.id z) st with
  |none=>rw[hgz]at e;exact e
  |some k=>
   rw[hgz]at e
   dsimp only at e
   exact absurd (congrArg Ident.patch e) (y2 (own_in hgy))
 |some k=>
  rw[hgy]at e
  dsimp only at e
  cases hgz:CY (SK x.id z) st with
  |none=>
   rw[hgz]at e
   dsimp only at e
   exact absurd (congrArg Ident.patch e).symm (z2 (own_in hgz))
  |some j=>
   rw[hgz]at e
   dsimp only at e
   have en:k+y.n=j+z.n:=congrArg Ident.n e
   by_cases hs:SK x.id y=SK x.id z
   ·rw[hs,hgz]at hgy
    cases hgy
    have hn:y.n=z.n:=by omega
    have hp:y.patch=z.patch:=by
     unfold SK at hs
     by_cases oy:EO y=true
     ·by_cases oz:EO z=true
      ·rw[(HA.1 oy).1,(HA.1 oz).1]
      ·rw[if_pos oy,if_neg oz]at hs
       rcases nz with h|h
       ·exact absurd hs.symm h
       ·exact absurd h (z2 (by simpa using oz))
     ·by_cases oz:EO z=true
      ·rw[if_neg oy,if_pos oz]at hs
       rcases ny with h|h
       ·exact absurd hs h
       ·exact absurd h (y2 (by simpa using oy))
      ·rw[if_neg oy,if_neg oz]at hs;exact hs
    cases y;cases z;simp_all
   ·have a:=hL.apart _ (QY hgy) _ (QY hgz) hs
    dsimp only at a
    omega
theorem aD {s:List Sto} (v:Bx s) {st:List (Dig × Int)} {n:Int} (hL:WG (cntS s) st n) {x:Sto} (hx:x∈s) (hd:x.id∈st.map (·.1)) {c:Chg} (hc:c∈x.patch.changes):HP (fJ st x.id) c=LV (gM (st.map (tW (cntS s))) x.id) c:=by
 have hu:=v.uses hx hc
 refine Vi (hu.mono fun y hy=>xi v hx hd hy) (by rw[pA,oh]) ?_
 have hp:=HC (JG (v.id x hx).1).1
 obtain⟨i,hi,rfl⟩:=Ag.1 hc
 have ha:=ZE (hp.fields i hi)
 have ns: ∀ y∈(x.patch.changes[i]).over,y.patch≠x.id∨y.patch=Dig.zero:=fun y hy=>by
  by_cases hz:y.patch=Dig.zero
  ·exact .inr hz
  ·refine .inl fun e=>?_
   have hn:=Lg (v.id x hx).1 hc (y:=y) (by unfold MC;simp[hy]) (by unfold FT;simp[hz])
   have:=v.rank hx (e ▸ hn)
   omega
 refine Qz.2 (ha.nodup.imp_of_mem fun {y z} hy hz hne e=>hne ?_)
 exact uC v hL hx hd (hu.over y hy) (hu.over z hz) (ns y hy) (ns z hz) e
def jP (s:List Sto) (l:List Dig) (r:List (Dig × Int) × Int × List Chg × List Dig) (d:Dig):List (Dig × Int) × Int × List Chg × List Dig:=
 if d∈l then(Dd d r.2.1 r.1,r.2.1+cntS s d,r.2.2.1++((getS s d).getD Pat.zero).changes.map (HP (fJ (Dd d r.2.1 r.1) d)),r.2.2.2++((getS s d).getD Pat.zero).deps.filter fun e=>decide (¬e∈l))else r
def Qb (s:List Sto) (l:List Dig) (m:Mta):Pat:=
 let r:=(DR s).foldl (jP s l) ([],0,[],[])
 ⟨m.author,m.message,m.time,Ko (sortD r.2.2.2),r.2.2.1⟩
def jR (s:List Sto) (l:List Dig) (r:List Mvd × Int × List Chg × List Dig) (d:Dig):List Mvd × Int × List Chg × List Dig:=
 if d∈l then(r.1++ [⟨d,0,cntS s d,Dig.zero,r.2.1⟩],r.2.1+cntS s d,r.2.2.1++((getS s d).getD Pat.zero).changes.map (LV (gM (r.1++ [⟨d,0,cntS s d,Dig.zero,r.2.1⟩]) d)),(((getS s d).getD Pat.zero).deps.filter fun e=>decide (¬e∈l)).foldl Ep r.2.2.2)else r
def dU (s:List Sto) (l:List Dig) (m:Mta):Pat:=
 let r:=(DR s).foldl (jR s l) ([],0,[],[])
 ⟨m.author,m.message,m.time,r.2.2.2,r.2.2.1⟩
theorem Si: ∀ (m l:List Dig),Gy l→Gy (m.foldl Ep l)∧ ∀ d,d∈m.foldl Ep l↔d∈l∨d∈m
 | [],l,h=>⟨h,fun d=>by simp⟩
 |y::m,l,h=>by
  obtain⟨a,b⟩:=Si m (Ep l y) (Lr h)
  refine⟨a,fun d=>?_⟩
  rw[Bz,b,KU,AG]
  constructor
  ·rintro((h|h)|h)
   ·exact .inr (.inl h)
   ·exact .inl h
   ·exact .inr (.inr h)
  ·rintro(h|h|h)
   ·exact .inl (.inr h)
   ·exact .inl (.inl h)
   ·exact .inr h
theorem Ie (l:List Dig):Gy (Ko (sortD l))∧ ∀ d,d∈Ko (sortD l)↔d∈l:=by
 obtain⟨a,b⟩:=Rs (KB l) (sortD l).length (Al _)
 rw[AB (Al _)]at a b
 exact⟨a,fun d=>by rw[b,VI]⟩
structure Qv (s:List Sto) (l done:List Dig) (p:List (Dig × Int) × Int × List Chg × List Dig) (r:List Mvd × Int × List Chg × List Dig):Prop where
 laid:WG (cntS s) p.1 p.2.1
 keys: ∀ d,d∈p.1.map (·.1)↔d∈done∧d∈l
 mv:r.1=p.1.map (tW (cntS s))
 n:r.2.1=p.2.1
 cs:r.2.2.1=p.2.2.1
 asc:Gy r.2.2.2
 deps: ∀ d,d∈r.2.2.2↔d∈p.2.2.2
theorem Qv.step {s:List Sto} (v:Bx s) {l done:List Dig} {p:List (Dig × Int) × Int × List Chg × List Dig} {r:List Mvd × Int × List Chg × List Dig} (h:Qv s l done p r) {d:Dig} (hd:d∈ids s) (hn:d∉done):Qv s l (done++ [d]) (jP s l p d) (jR s l r d):=by
 unfold jP jR
 by_cases hl:d∈l
 ·rw[if_pos hl,if_pos hl]
  have hk:d∉p.1.map (·.1):=fun k=>hn ((h.keys d).1 k).1
  have hnew:=Gl d p.2.1 (Pn hk)
  have hL:=h.laid.step hk
  have hmv:r.1++ [⟨d,0,cntS s d,Dig.zero,r.2.1⟩]=(Dd d p.2.1 p.1).map (tW (cntS s)):=by
   rw[h.mv,h.n,hnew,Au];rfl
  obtain⟨x,hx,rfl⟩:=AY.1 hd
  have hin:x.id∈(Dd x.id p.2.1 p.1).map (·.1):=by rw[hnew];simp
  refine⟨hL,fun e=>?_,hmv,by dsimp only;rw[h.n],?_,?_,fun e=>?_⟩
  ·dsimp only
   rw[hnew,Au,Ah,h.keys,Ah]
   constructor
   ·rintro(⟨a,b⟩|a)
    ·exact⟨.inl a,b⟩
    ·simp only[Aq,CC,Aj]at a
     subst a;exact⟨.inr (by simp),hl⟩
   ·rintro⟨a|a,b⟩
    ·exact .inl ⟨a,b⟩
    ·exact .inr (by simpa using a)
  ·dsimp only
   rw[h.cs,hmv,v.getS hx,CJ]
   congr 1
   exact DF fun c hc=>(aD v hL hx hin hc).symm
  ·exact(Si _ _ h.asc).1
  ·dsimp only
   rw[(Si _ _ h.asc).2,h.deps,Ah]
 ·rw[if_neg hl,if_neg hl]
  refine⟨h.laid,fun e=>?_,h.mv,h.n,h.cs,h.asc,h.deps⟩
  rw[h.keys,Ah]
  constructor
  ·rintro⟨a,b⟩;exact⟨.inl a,b⟩
  ·rintro⟨a|a,b⟩
   ·exact⟨a,b⟩
   ·rw[Aj.1 a]at b;exact absurd b hl
theorem Qv.all {s:List Sto} (v:Bx s) {l:List Dig}: ∀ (o done:List Dig) {p:List (Dig × Int) × Int × List Chg × List Dig} {r:List Mvd × Int × List Chg × List Dig},Qv s l done p r→(∀ d∈o,d∈ids s)→(done++o).Nodup→Qv s l (done++o) (o.foldl (jP s l) p) (o.foldl (jR s l) r)
 | [],done,_,_,h,_,_=>by rw[BJ];exact h
 |d::o,done,_,_,h,h1,h2=>by
  have hn:d∉done:=fun k=>(Ez.1 h2).2.2 d k d AI rfl
  have e:done++d::o=(done++ [d])++o:=by simp
  rw[e]at h2 ⊢
  exact Qv.all v o _ (h.step v (h1 d AI) hn) (fun d hd=>h1 d (AL _ hd)) h2
theorem fo {s:List Sto} (v:Bx s) (l:List Dig):Qv s l (DR s) ((DR s).foldl (jP s l) ([],0,[],[])) ((DR s).foldl (jR s l) ([],0,[],[])):=by
 have ho:=H8 s
 have:=Qv.all v (l:=l) (DR s) [] (p:=([],0,[],[])) (r:=([],0,[],[])) ⟨⟨.nil,by decide,(fun e he=>absurd he Aa),(fun e he=>absurd he Aa)⟩,fun d=>by simp,rfl,rfl,rfl,.nil,fun d=>by simp⟩ ho.sub (by simpa using ho.nodup)
 simpa using this
theorem SA {s:List Sto} (v:Bx s) (l:List Dig) (m:Mta):Qb s l m=dU s l m:=by
 have h:=fo v l
 unfold Qb dU
 obtain⟨a,b⟩:=Ie ((DR s).foldl (jP s l) ([],0,[],[])).2.2.2
 have e:Ko (sortD ((DR s).foldl (jP s l) ([],0,[],[])).2.2.2)=((DR s).foldl (jR s l) ([],0,[],[])).2.2.2:=a.ext h.asc fun d=>by rw[b,h.deps]
 dsimp only
 rw[e,h.cs]
theorem ey {nd:Dig→List Dig} {l:List Dig} {d:Dig}:Q.Reach nd l d↔ ∃ q∈l,Q.Reach nd [q] d:=by
 constructor
 ·intro h
  induction h with
  |base h=>exact⟨_,h,.base (by simp)⟩
  |step _ hd ih=>
   obtain⟨q,hq,hr⟩:=ih
   exact⟨q,hq,.step hr hd⟩
 ·rintro⟨q,hq,hr⟩
  exact Reach.trans' (.base hq) hr
theorem Qa {s:List Sto} (v:Bx s) {p:Dig} (hp:p∈ids s) (q:Dig):O4 s p q=decide (q∈Py s p):=by
 have h:Da (ids s) [p]=true:=by simp[Da,hp]
 have e:Dj s [p]=(Py s p,0):=by unfold Py Dj;rw[if_neg (by simp[h])]
 rw[v.knows,e];rfl
def vX (s:List Sto) (l:List Dig):Bool:=Da (ids s) l&&!((LX s l).1.any fun d=>decide (d∈(Dj s l).1)&&!decide (d∈l))
def zU (s:List Sto) (l:List Dig):Bool:=Da (ids s) l&&s.all fun x=>decide (x.id∈l)||!(l.any (fun q=>O4 s x.id q)&&l.any fun q=>O4 s q x.id)
theorem gZ {u l:List Dig} (h:Da u l=true): ∀ d∈l,d∈u:=fun d hd=>by simpa using Bf.1 h d hd
theorem pJ {s:List Sto} (v:Bx s) (l:List Dig):vX s l=zU s l:=by
 unfold vX zU
 by_cases h:Da (ids s) l=true
 ·rw[h,EJ,EJ]
  have hl:=gZ h
  have hc: ∀ d,d∈(Dj s l).1↔ ∃ q∈l,d∈Py s q:=fun d=>by
   obtain⟨L,e,_,hm⟩:=v.closedM hl
   rw[e]
   dsimp only
   rw[hm,ey]
   constructor
   ·rintro⟨q,hq,hr⟩;exact⟨q,hq,(v.mem_clo (hl q hq) d).2 hr⟩
   ·rintro⟨q,hq,hr⟩;exact⟨q,hq,(v.mem_clo (hl q hq) d).1 hr⟩
  have hu:(LX s l).1=Y5 s l s:=by unfold LX;rw[if_neg (by simp[h])]
  rw[hu,H0,AF,Bc,Bf]
  constructor
  ·intro k x hx
   have hx':x.id∈ids s:=AY.2 ⟨x,hx,rfl⟩
   by_cases hin:x.id∈l
   ·simp[hin]
   ·simp only[hin,decide_false,Fc,AF,VA,Bc]
    by_cases ha: ∃ q∈l,q∈Py s x.id
    ·refine .inr fun q hq hk=>k x.id (Tr.2 ⟨hx',ha⟩) ?_
     rw[Qa v (hl q hq)]at hk
     simp only[BQ,AA,AF,A8]
     exact⟨(hc x.id).2 ⟨q,hq,BP hk⟩,hin⟩
    ·refine .inl fun q hq hk=>ha ⟨q,hq,?_⟩
     rw[Qa v hx']at hk
     exact BP hk
  ·intro k d hd hk
   obtain⟨hd1,q,hq,hqd⟩:=Tr.1 hd
   simp only[BQ,AA,AF,A8]at hk
   obtain⟨x,hx,rfl⟩:=AY.1 hd1
   obtain⟨p,hp,hdp⟩:=(hc x.id).1 hk.1
   have:=k x hx
   simp only[hk.2,decide_false,Fc,AF,VA,Bc]at this
   rcases this with h1|h1
   ·exact h1 q hq (by rw[Qa v hd1];exact BC hqd)
   ·exact h1 p hp (by rw[Qa v (hl p hp)];exact BC hdp)
 ·have h:Da (ids s) l=false:=by simpa using h
  rw[h];rfl
def Nc (s:List Sto) (l:List Dig):Bool:=s.any fun x=>!decide (x.id∈l)&&(BL x.patch).any fun d=>decide (d∈l)
def Gf (s:List Sto) (l:List Dig):List Sto:=s.filter fun x=>decide (¬x.id∈l)
theorem fR (s:List Sto) (l:List Dig):Gf s l=Ha s ((ids s).filter fun d=>decide (¬d∈l)):=by
 unfold Gf Ha
 refine gn fun x hx=>?_
 have hx':x.id∈ids s:=AY.2 ⟨x,hx,rfl⟩
 rw[decide_eq_decide,GI]
 simp[hx']
theorem Bx.out {s:List Sto} (v:Bx s) {l:List Dig} (h:Nc s l=false):Bx (Gf s l):=by
 rw[fR]
 refine v.keep fun x hx hxc d hd=>?_
 have hxl: ¬x.id∈l:=by simpa using (GI.1 hxc).2
 have:=Bc.1 h x hx
 simp only[hxl,decide_false,Bool.not_false,EJ,Bn,AA,not_exists,not_and]at this
 exact GI.2 ⟨v.close.2 x hx d hd,BC (this d hd)⟩
def eY (s:List Sto) (l:List Dig) (m:Mta):List Sto × Dig × Int:=
 if Da (ids s) l=false then([],Dig.zero,7)else if l.length=0∨vX s l=false then([],Dig.zero,1)else if Nc s l=true then([],Dig.zero,19)else Ec (Gf s l) (Qb s l m)
def zI (s:List Sto) (l:List Dig) (m:Mta):List Sto × Dig × Int:=
 if Da (ids s) l=false then([],Dig.zero,7)else if l.length=0∨zU s l=false then([],Dig.zero,1)else if Nc s l=true then([],Dig.zero,19)else Ec (Gf s l) (dU s l m)
theorem mz {s:List Sto} (v:Bx s) (l:List Dig) (m:Mta):eY s l m=zI s l m:=by
 unfold eY zI
 rw[pJ v,SA v]
theorem iY {α:Type} {f:α→Nat} {l m:List α} (h:l.Perm m):(l.map f).sum=(m.map f).sum:=by
 induction h with
 |nil=>rfl
 |cons x _ ih=>simp only[Aq,Cr,ih]
 |swap x y l=>simp only[Aq,Cr];omega
 |trans _ _ h1 h2=>rw[h1,h2]
theorem SY {α:Type} [DecidableEq α] {f:α→Nat}: ∀ {l u:List α},l.Nodup→(∀ x∈l,x∈u)→(l.map f).sum≤(u.map f).sum
 | [],u,_,_=>Xt _
 |x::l,u,hn,h=>by
  obtain⟨h1,h2⟩:=Bo.1 hn
  have hx:=h x AI
  have hp:=List.perm_cons_erase hx
  rw[iY hp]
  simp only[Aq,Cr]
  have:=SY (f:=f) (u:=u.erase x) h2 fun y hy=>by
   have hne:y≠x:=fun e=>h1 (e ▸ hy)
   exact(List.mem_erase_of_ne hne).2 (h y (AL _ hy))
  omega
theorem gL (l:List Dig):(Ko l).length≤l.length:=by
 have h: ∀ k,k≤l.length→(Ko (l.take k)).length≤k:=fun k=>by
  induction k with
  |zero=>intro _;simp[Ko]
  |succ k ih=>
   intro hk
   have:=ih (by omega)
   rcases Ks k with rfl|h0
   ·have e:l.take (0+1)= []++ [l[0]]:=by rw[A7 (by omega)];rfl
    rw[e,UO]
    split
    ·simp[Ko]
    ·simp[Ko]
   ·rw[Ql h0 (by omega)]
    split
    ·omega
    ·rw[AD,Ax];omega
 have:=h l.length (Al _)
 rwa [AB (Al _)]at this
theorem fh (f:Ident→Ident) (c:Chg):(HP f c).over.length=c.over.length:=by
 show(sortI (c.over.map f)).length=_
 unfold sortI
 rw[Dn,AQ]
theorem Rf (f:Ident→Ident) (c:Chg):Yj (HP f c)=Yj c∧Fq (HP f c)=Fq c∧Hq (HP f c)=Hq c:=by
 have h:=fh f c
 refine⟨?_,rfl,?_⟩
 ·unfold Yj;rw[h];rfl
 ·unfold Hq;rw[h];rfl
theorem kA {s:List Sto} {l:List Dig} {x:Sto}:x∈Gf s l↔x∈s∧ ¬x.id∈l:=by
 unfold Gf
 rw[GI,AA]
theorem Bx.not_self {s:List Sto} (v:Bx s) {x:Sto} (hx:x∈s) {c:Chg} (hc:c∈x.patch.changes) {y:Ident} (hy:y∈MC c):y.patch≠x.id∨y.patch=Dig.zero:=by
 by_cases hz:y.patch=Dig.zero
 ·exact .inr hz
 ·refine .inl fun e=>?_
  have hn:=Lg (v.id x hx).1 hc hy (by unfold FT;simp[hz])
  have:=v.rank hx (e ▸ hn)
  omega
def Jo (c:Chg):Nat:=(Df c 0).length
theorem Oj (c:Chg) (n:Int):(Df c n).length=Jo c:=by
 unfold Jo Df
 repeat' split
 all_goals simp
def Cg (cs:List Chg) (i:Nat):Nat:=((cs.take i).map Jo).sum
theorem Ps: ∀ (l:List Chg) (own:List Atm),(l.foldl (fun own c=>own++Df c own.length) own).length=own.length+(l.map Jo).sum
 | [],own=>by simp
 |c::l,own=>by
  rw[Bz,Ps l,AD,Oj,Aq,Cr];omega
theorem fO (cs:List Chg) (i:Nat):(ZD cs i).length=Cg cs i:=by
 unfold ZD Cg
 rw[Ps];simp
theorem WJ.cnt {p:Pat} (h:WJ p):NL p=Cg p.changes p.changes.length:=by
 unfold NL Cg
 rw[h.made,Ps,AB (Al _)];simp
theorem HS {cs:List Chg} {i:Nat} (h:i < cs.length):Cg cs (i+1)=Cg cs i+Jo cs[i]:=by
 unfold Cg
 rw[KA h]
theorem MO (cs:List Chg):Cg cs 0=0:=by simp[Cg]
theorem EU (cs:List Chg) {i j:Nat} (h:i≤j):Cg cs i≤Cg cs j:=by
 obtain⟨k,rfl⟩: ∃ k,j=i+k:=⟨j - i,by omega⟩
 induction k with
 |zero=>exact Al _
 |succ k ih=>
  refine Cq (ih (by omega)) ?_
  by_cases hk:i+k < cs.length
  ·rw[show i+(k+1)=i+k+1 from rfl,HS hk];omega
  ·unfold Cg
   rw[AB (by omega),AB (by omega)];exact Al _
def Dz (cs:List Chg) (n:Int):Nat:=((List.range cs.length).filter fun i=>decide ((Cg cs i:Int)≤n)).length - 1
theorem OI {f:Nat→Nat} (hf: ∀ i j,i≤j→f i≤f j) {n:Int} {k:Nat}: ∀ {m:Nat},k < m→(f k:Int)≤n→(∀ i,k < i→i < m→ ¬(f i:Int)≤n)→((List.range m).filter fun i=>decide ((f i:Int)≤n)).length=k+1
 |0,h,_,_=>absurd h (DB _)
 |m+1,h,h1,h2=>by
  rw[EI,Ej,AD]
  by_cases hk:k=m
  ·subst hk
   have hall:((List.range k).filter fun i=>decide ((f i:Int)≤n))=List.range k:=by
    rw[aL]
    intro i hi
    have:=hf i k (by have:=BZ.1 hi;omega)
    exact BC (by omega)
   rw[hall,GA (by simpa using h1)];simp
  ·have:=OI (n:=n) hf (m:=m) (by omega) h1 fun i a b=>h2 i a (by omega)
   rw[this,GB (by simpa using h2 m (by omega) (by omega))];simp
theorem dQ {cs:List Chg} {n:Int} {k:Nat} (hk:k < cs.length) (h1:(Cg cs k:Int)≤n) (h2:n < Cg cs (k+1)):Dz cs n=k:=by
 unfold Dz
 rw[OI (f:=Cg cs) (fun i j h=>EU cs h) hk h1 fun i a _=>?_]
 ·rfl
 ·have:=EU cs (show k+1≤i by omega)
  omega
theorem dR (cs:List Chg) (n:Int) (h0:0≤n): ∀ m,m≤cs.length→n < Cg cs m→ ∃ k,k < m∧(Cg cs k:Int)≤n∧n < Cg cs (k+1)
 |0,_,h=>by rw[MO]at h;omega
 |m+1,hm,h=>by
  by_cases hn:n < Cg cs m
  ·obtain⟨k,a,b,c⟩:=dR cs n h0 m (by omega) hn
   exact⟨k,by omega,b,c⟩
  ·exact⟨m,by omega,by omega,h⟩
theorem QW {cs:List Chg} {n:Int} {m:Nat} (hm:m≤cs.length) (h0:0≤n) (h:n < Cg cs m):Dz cs n < m∧(Cg cs (Dz cs n):Int)≤n∧n < Cg cs (Dz cs n+1):=by
 obtain⟨k,a,b,c⟩:=dR cs n h0 m hm h
 rw[dQ (by omega) b c]
 exact⟨a,b,c⟩
structure KL (P:List (List Nat)) (n:Nat):Prop where
 ne: ∀ l∈P,l≠ []
 asc: ∀ l∈P,l.Pairwise fun a b=>a < b
 lt: ∀ l∈P,∀ c∈l,c < n
 apart:P.Pairwise fun l m=> ∀ c∈l,c∉m
 all: ∀ c,c < n→ ∃ l∈P,c∈l
def K7 (P:List (List Nat)) (c:Nat):Nat:=P.findIdx fun l=>decide (c∈l)
theorem OD: ∀ {P:List (List Nat)},(P.Pairwise fun l m=> ∀ c∈l,c∉m)→ ∀ {k:Nat} (hk:k < P.length) {c:Nat},c∈P[k]→K7 P c=k
 | [],_,k,hk,_,_=>absurd hk (DB _)
 |l::P,h,0,_,c,hc=>by
  unfold K7
  rw[J4]
  have:decide (c∈l)=true:=BC hc
  rw[this];rfl
 |l::P,h,k+1,hk,c,hc=>by
  obtain⟨h1,h2⟩:=Bm.1 h
  have hk':k < P.length:=by simpa using hk
  have hc':c∈P[k]:=by simpa using hc
  have hn: ¬c∈l:=fun hl=>h1 _ (AH hk') c hl hc'
  have ih:=OD h2 hk' hc'
  unfold K7 at ih ⊢
  rw[J4]
  have:decide (c∈l)=false:=CG hn
  rw[this,cond_false,ih]
theorem KL.mem {P:List (List Nat)} {n:Nat} (h:KL P n) {c:Nat} (hc:c < n): ∃ hk:K7 P c < P.length,c∈P[K7 P c]:=by
 obtain⟨l,hl,hcl⟩:=h.all c hc
 obtain⟨k,hk,rfl⟩:=Ag.1 hl
 rw[OD h.apart hk hcl]
 exact⟨hk,hcl⟩
def So (P:List (List Nat)) (cs:List Chg) (c:Nat):Nat:=(((List.range c).filter fun d=>decide (K7 P d=K7 P c)).map fun d=>Jo (cs.getD d Chg.zero)).sum
theorem RE {P:List (List Nat)} {n:Nat} (h:KL P n) {cs:List Chg} {k:Nat} (hk:k < P.length) {a b:List Nat} {c:Nat} (e:P[k]=a++c::b):So P cs c=(a.map fun d=>Jo (cs.getD d Chg.zero)).sum:=by
 have hc:c∈P[k]:=by rw[e];simp
 have hi:=OD h.apart hk hc
 have hasc:=h.asc _ (AH hk)
 rw[e]at hasc
 obtain⟨ha,hb,hab⟩:=H2.1 hasc
 have hcn:c < n:=h.lt _ (AH hk) c hc
 have key:((List.range c).filter fun d=>decide (K7 P d=K7 P c))=a:=by
  refine bK (r:=fun a b:Nat=>a < b) Fa (fun _ _ _=>Nat.lt_trans) (List.pairwise_lt_range.filter _) ha fun d=>?_
  rw[GI,BZ,AA,hi]
  constructor
  ·rintro⟨h1,h2⟩
   obtain⟨hk',hd⟩:=h.mem (c:=d) (by omega)
   have hd:d∈P[k]:=by
    have:=hd
    simp only[h2]at this
    exact this
   rw[e]at hd
   rcases Ah.1 hd with hd|hd
   ·exact hd
   ·rcases AG.1 hd with hd|hd
    ·omega
    ·have:=(Bm.1 hb).1 d hd
     omega
  ·intro hd
   exact⟨hab d hd c AI,OD h.apart hk (by rw[e];exact En _ hd)⟩
 unfold So
 rw[key]
def fS (P:List (List Nat)) (cs:List Chg) (is:List Dig) (k:Nat) (y:Ident):Ident:=
 if EO y=true then⟨if K7 P (Dz cs y.n)=k then Dig.zero else is.getD (K7 P (Dz cs y.n)) Dig.zero,y.n - Cg cs (Dz cs y.n)+So P cs (Dz cs y.n)⟩else y
def Kx (id:Dig) (P:List (List Nat)) (cs:List Chg) (is:List Dig) (k:Nat) (c:Nat):Mvd:=
 ⟨id,Cg cs c,(Cg cs c:Int)+Jo (cs.getD c Chg.zero),if K7 P c=k then Dig.zero else is.getD (K7 P c) Dig.zero,So P cs c⟩
theorem oI {l:List Mvd} {e:Mvd} {x:Ident} (he:e∈l) (h1:x.patch=e.old∧e.lo≤x.n∧x.n < e.hi) (hu: ∀ m∈l,x.patch=m.old∧m.lo≤x.n∧x.n < m.hi→m=e):N9 l x=⟨e.patch,e.dst+x.n - e.lo⟩:=by
 induction l with
 |nil=>cases he
 |cons m l ih=>
  unfold N9
  by_cases h:x.patch=m.old∧m.lo≤x.n∧x.n < m.hi
  ·rw[if_pos h,hu m AI h]
  ·rw[if_neg h]
   refine ih ?_ fun m' hm=>hu m' (AL _ hm)
   rcases AG.1 he with rfl|he
   ·exact absurd h1 h
   ·exact he
theorem rI {id:Dig} {P:List (List Nat)} {cs:List Chg} {is:List Dig} {k:Nat} {D:List Nat} (hD: ∀ c∈D,c < cs.length) {y:Ident} (hy:EO y=true→y.n < Cg cs cs.length∧Dz cs y.n∈D) (hn:EO y=false→y.patch≠id∨y.n < 0):
  fS P cs is k y=gM (D.map (Kx id P cs is k)) id y:=by
 unfold fS gM
 by_cases ho:EO y=true
 ·rw[if_pos ho,if_pos ho]
  obtain⟨hlt,hin⟩:=hy ho
  have h0:=(HA.1 ho).2
  obtain⟨a,b,c⟩:=QW (Al _) h0 hlt
  have e0: ∀ {d:Nat} (hd:d < cs.length),(Cg cs d:Int)+Jo (cs.getD d Chg.zero)=Cg cs (d+1):=fun {d} hd=>by
   rw[HS hd,Ct,AW hd,CJ];omega
  rw[oI (x:=⟨id,y.n⟩) (e:=Kx id P cs is k (Dz cs y.n)) (AY.2 ⟨_,hin,rfl⟩) ⟨rfl,b,by unfold Kx;dsimp only;rw[e0 a];exact c⟩ fun m hm h=>?_]
  ·unfold Kx
   dsimp only
   congr 1
   omega
  ·obtain⟨d,hd,rfl⟩:=AY.1 hm
   unfold Kx at h
   dsimp only at h
   rw[e0 (hD d hd)]at h
   rw[dQ (hD d hd) h.2.1 h.2.2]
 ·rw[if_neg ho,if_neg ho]
  refine(RV fun m hm e h=>?_).symm
  obtain⟨d,hd,rfl⟩:=AY.1 hm
  unfold Kx at e h
  dsimp only at e h
  rcases hn (by simpa using ho)with h'|h'
  ·exact absurd e h'
  ·omega
theorem VG {P:List (List Nat)} {n:Nat} (h:KL P n) {cs:List Chg} {c d:Nat} (hc:c < d) (hd:d < n) (e:K7 P c=K7 P d):So P cs c+Jo (cs.getD c Chg.zero)≤So P cs d:=by
 obtain⟨hk,hcm⟩:=h.mem (c:=c) (by omega)
 obtain⟨hk',hdm⟩:=h.mem hd
 have hdm:d∈P[K7 P c]:=by simp only[e];exact hdm
 obtain⟨a,b,hab⟩:=List.append_of_mem hdm
 have hasc:=h.asc _ (AH hk)
 rw[hab]at hasc
 obtain⟨_,hb,_⟩:=H2.1 hasc
 have hca:c∈a:=by
  rw[hab]at hcm
  rcases Ah.1 hcm with h1|h1
  ·exact h1
  ·rcases AG.1 h1 with h1|h1
   ·omega
   ·have:=(Bm.1 hb).1 c h1
    omega
 obtain⟨a1,a2,ha⟩:=List.append_of_mem hca
 subst ha
 have hab':P[K7 P c]=a1++c::(a2++d::b):=by rw[hab];simp
 rw[RE h hk hab',RE h hk hab]
 simp only[Au,Aq,FH,Cr]
 omega
theorem uB {P:List (List Nat)} {cs:List Chg} (h:KL P cs.length) {is:List Dig} {k:Nat} (hz: ∀ j,j < k→is.getD j Dig.zero≠Dig.zero) (hn: ∀ i j,i < k→j < k→is.getD i Dig.zero=is.getD j Dig.zero→i=j)
  {G:Ident→Prop} (hG: ∀ y,G y→0≤y.n∧(EO y=true→y.n < Cg cs cs.length∧K7 P (Dz cs y.n)≤k)∧(EO y=false→y.patch≠Dig.zero∧ ∀ j,j < k→y.patch≠is.getD j Dig.zero))
  {y z:Ident} (gy:G y) (gz:G z) (e:fS P cs is k y=fS P cs is k z):y=z:=by
 obtain⟨y0,y1,y2⟩:=hG y gy
 obtain⟨z0,z1,z2⟩:=hG z gz
 have pp: ∀ {w:Ident},EO w=true→K7 P (Dz cs w.n)≤k→(fS P cs is k w).patch=Dig.zero∧K7 P (Dz cs w.n)=k∨K7 P (Dz cs w.n) < k∧(fS P cs is k w).patch=is.getD (K7 P (Dz cs w.n)) Dig.zero:=fun {w} hw hk=>by
  unfold fS
  rw[if_pos hw]
  dsimp only
  by_cases hi:K7 P (Dz cs w.n)=k
  ·rw[if_pos hi];exact .inl ⟨rfl,hi⟩
  ·rw[if_neg hi];exact .inr ⟨by omega,rfl⟩
 by_cases oy:EO y=true
 ·obtain⟨a1,a2⟩:=y1 oy
  by_cases oz:EO z=true
  ·obtain⟨b1,b2⟩:=z1 oz
   have same:K7 P (Dz cs y.n)=K7 P (Dz cs z.n):=by
    rcases pp oy a2 with ⟨p1,p2⟩|⟨p1,p2⟩<;>rcases pp oz b2 with ⟨q1,q2⟩|⟨q1,q2⟩
    ·rw[p2,q2]
    ·rw[e,q2]at p1;exact absurd p1 (hz _ q1)
    ·rw[e,q1]at p2;exact absurd p2.symm (hz _ p1)
    ·rw[e,q2]at p2;exact(hn _ _ q1 p1 p2).symm
   obtain⟨c1,c2,c3⟩:=QW (Al _) y0 a1
   obtain⟨d1,d2,d3⟩:=QW (Al _) z0 b1
   have en:y.n - Cg cs (Dz cs y.n)+So P cs (Dz cs y.n)=z.n - Cg cs (Dz cs z.n)+So P cs (Dz cs z.n):=by
    have:=congrArg Ident.n e
    unfold fS at this
    rw[if_pos oy,if_pos oz]at this
    exact this
   have cn: ∀ {d:Nat} (hd:d < cs.length),Cg cs (d+1)=Cg cs d+Jo (cs.getD d Chg.zero):=fun {d} hd=>by
    rw[HS hd,Ct,AW hd,CJ]
   rw[cn c1]at c3
   rw[cn d1]at d3
   have hnn:y.n=z.n:=by
    rcases Qy (Dz cs y.n) (Dz cs z.n)with hl|hl|hl
    ·have:=VG h (cs:=cs) hl d1 same
     omega
    ·rw[hl]at en;omega
    ·have:=VG h (cs:=cs) hl c1 same.symm
     omega
   have hp:y.patch=z.patch:=by rw[(HA.1 oy).1,(HA.1 oz).1]
   cases y;cases z;simp_all
  ·have oz:EO z=false:=by simpa using oz
   obtain⟨q1,q2⟩:=z2 oz
   have e2:fS P cs is k z=z:=by unfold fS;rw[if_neg (by simp[oz])]
   rw[e2]at e
   rcases pp oy a2 with ⟨p1,_⟩|⟨p1,p2⟩
   ·rw[e]at p1;exact absurd p1 q1
   ·rw[e]at p2;exact absurd p2 (q2 _ p1)
 ·have oy:EO y=false:=by simpa using oy
  obtain⟨p1,p2⟩:=y2 oy
  have e1:fS P cs is k y=y:=by unfold fS;rw[if_neg (by simp[oy])]
  rw[e1]at e
  by_cases oz:EO z=true
  ·obtain⟨b1,b2⟩:=z1 oz
   rcases pp oz b2 with ⟨q1,_⟩|⟨q1,q2⟩
   ·rw[←e]at q1;exact absurd q1 p1
   ·rw[←e]at q2;exact absurd q2 (p2 _ q1)
  ·have oz:EO z=false:=by simpa using oz
   have e2:fS P cs is k z=z:=by unfold fS;rw[if_neg (by simp[oz])]
   rw[e2]at e
   exact e
def Cu (c:Chg):List Ident:=(if 2≤c.kind∧c.kind≤6 then [c.file]else [])++(if c.kind=2 then [c.parent]else [])++(if c.kind=5∨c.kind=6 then [c.after,c.before]else [])++c.over
def Kn (P:List (List Nat)) (cs:List Chg):Bool:=(List.range cs.length).any fun i=>(Cu (cs.getD i Chg.zero)).any fun y=>EO y&&decide (K7 P i < K7 P (Dz cs y.n))
theorem aX {c:Chg} {G:Ident→Prop} (h: ∀ y∈Cu c,G y):P9 c G:=by
 unfold Cu at h
 refine⟨fun a b=>h _ ?_,fun a _=>h _ ?_,fun a=>h _ ?_,fun a=>h _ ?_,fun y hy=>h _ ?_⟩
 ·simp[a,b]
 ·simp[a]
 ·rw[if_pos a];simp
 ·rw[if_pos a];simp
 ·simp[hy]
def GJ (id:Dig) (cs:List Chg) (r:List Mvd × Int × List Chg) (c:Nat):List Mvd × Int × List Chg:=
 let l:=r.1++ [⟨id,Cg cs c,(Cg cs c:Int)+Jo (cs.getD c Chg.zero),Dig.zero,r.2.1⟩]
 (l,r.2.1+Jo (cs.getD c Chg.zero),r.2.2++ [LV (gM l id) (cs.getD c Chg.zero)])
structure HX (s:List Sto) (x:Sto) (P:List (List Nat)):Prop where
 val:Bx s
 mem:x∈s
 parts:KL P x.patch.changes.length
 early:Kn P x.patch.changes=false
theorem HX.uses {s:List Sto} {x:Sto} {P:List (List Nat)} (h:HX s x P) {c:Nat} (hc:c < x.patch.changes.length):
  P9 x.patch.changes[c] fun y=>0≤y.n∧(EO y=true→y.n < Cg x.patch.changes c∧K7 P (Dz x.patch.changes y.n)≤K7 P c)∧(EO y=false→y.patch≠Dig.zero∧y.patch≠x.id∧y.patch∈ids s):=by
 have hp:=HC (JG (h.val.id x h.mem).1).1
 have h1:=TN (hp.refs c hc)
 have h2:=h.val.uses h.mem (AH hc)
 have h3:P9 x.patch.changes[c] fun y=>EO y=true→K7 P (Dz x.patch.changes y.n)≤K7 P c:=aX fun y hy ho=>by
  have h0:=Bc.1 h.early c (BZ.2 hc)
  rw[Ct,AW hc,CJ,Hh]at h0
  have h1:=Bc.1 h0 y hy
  rw[ho,EJ,AA]at h1
  omega
 have h4:P9 x.patch.changes[c] fun y=>y.patch≠x.id∨y.patch=Dig.zero:=⟨fun _ _=>h.val.not_self h.mem (AH hc) (by simp[MC]),fun _ _=>h.val.not_self h.mem (AH hc) (by simp[MC]),fun _=>h.val.not_self h.mem (AH hc) (by simp[MC]),fun _=>h.val.not_self h.mem (AH hc) (by simp[MC]),fun y hy=>h.val.not_self h.mem (AH hc) (by simp[MC,hy])⟩
 refine(((h1.and h2).and h3).and h4).mono fun y ⟨⟨⟨a1,a2⟩,a3⟩,a4⟩=>⟨a1.1,fun ho=>⟨?_,a3 ho⟩,fun ho=>?_⟩
 ·have:=a1.2 (HA.1 ho).1
  rw[fO]at this
  exact this
 ·have hz:y.patch≠Dig.zero:=fun e=>by
   have:=HA.2 ⟨e,a1.1⟩
   rw[ho]at this;cases this
  obtain⟨z,hz1,hz2,_⟩:=a2.2 hz
  exact⟨hz,a4.elim id fun e=>absurd e hz,hz2 ▸ AY.2 ⟨z,hz1,rfl⟩⟩
theorem HX.change {s:List Sto} {x:Sto} {P:List (List Nat)} (h:HX s x P) {is:List Dig} {k:Nat} (hz: ∀ j,j < k→is.getD j Dig.zero≠Dig.zero) (hn: ∀ i j,i < k→j < k→is.getD i Dig.zero=is.getD j Dig.zero→i=j)
  (hs: ∀ j,j < k→is.getD j Dig.zero∈ids s→is.getD j Dig.zero=x.id) {c:Nat} (hc:c < x.patch.changes.length) (hk:K7 P c=k)
  {D:List Nat} (hD: ∀ d∈D,d < x.patch.changes.length) (hall: ∀ d,d < x.patch.changes.length→(K7 P d < k∨K7 P d=k∧d < c)→d∈D):
  HP (fS P x.patch.changes is k) x.patch.changes[c]=LV (gM (D.map (Kx x.id P x.patch.changes is k)) x.id) x.patch.changes[c]:=by
 have hp:=HC (JG (h.val.id x h.mem).1).1
 have hu:=h.uses hc
 have hm:=EU x.patch.changes (show c≤x.patch.changes.length by omega)
 refine Vi (hu.mono fun y ⟨a0,a1,a2⟩=>?_) ?_ ?_
 ·refine rI hD (fun ho=>?_) fun ho=> .inl (a2 ho).2.1
  obtain⟨b1,b2⟩:=a1 ho
  obtain⟨c1,_,_⟩:=QW (cs:=x.patch.changes) (m:=c) (by omega) a0 b1
  refine⟨by omega,hall _ (by omega) ?_⟩
  rw[hk]at b2
  omega
 ·refine rI hD (fun ho=>absurd ho (by decide)) fun _=> .inr (by decide)
 ·refine Qz.2 ((ZE (hp.fields c hc)).nodup.imp_of_mem fun {y z} hy hz' hne e=>hne ?_)
  refine uB h.parts hz hn (G:=fun y=>0≤y.n∧(EO y=true→y.n < Cg x.patch.changes c∧K7 P (Dz x.patch.changes y.n)≤K7 P c)∧(EO y=false→y.patch≠Dig.zero∧y.patch≠x.id∧y.patch∈ids s)) (fun y ⟨a0,a1,a2⟩=>⟨a0,fun ho=>?_,fun ho=>⟨(a2 ho).1,fun j hj e=>?_⟩⟩) (hu.over y hy) (hu.over z hz') e
  ·obtain⟨b1,b2⟩:=a1 ho
   exact⟨by omega,by omega⟩
  ·obtain⟨_,b2,b3⟩:=a2 ho
   rw[e]at b2 b3
   exact b2 (hs j hj b3)
def JA (x:Sto) (P:List (List Nat)) (is:List Dig) (l:List Nat) (m:Mta):Pat:=
 ⟨m.author,m.message,m.time,Ko (sortD (BL x.patch++is)),l.map fun c=>HP (fS P x.patch.changes is is.length) (x.patch.changes.getD c Chg.zero)⟩
def Wb (x:Sto) (P:List (List Nat)):List (List Nat × Mta)→List Sto→List Dig→List Sto × List Dig × Int
 | [],t,is=>(t,is,0)
 |e::o,t,is=>if(Ec t (JA x P is e.1 e.2)).2.2≠0 then([],[],(Ec t (JA x P is e.1 e.2)).2.2)else Wb x P o (Ec t (JA x P is e.1 e.2)).1 (is++ [(Ec t (JA x P is e.1 e.2)).2.1])
def K6 (x:Sto) (deps:List Dig) (done:List Mvd) (l:List Nat) (m:Mta):Pat:=
 ⟨m.author,m.message,m.time,deps,(l.foldl (GJ x.id x.patch.changes) (done,0,[])).2.2⟩
def QV (x:Sto) (done:List Mvd) (l:List Nat) (d:Dig):List Mvd:=
 done++(((l.foldl (GJ x.id x.patch.changes) (done,0,[])).1).drop done.length).map fun e=>{ e with patch:=d }
def Wa (x:Sto):List (List Nat × Mta)→List Sto→List Dig→List Dig→List Mvd→List Sto × List Dig × Int
 | [],t,is,_,_=>(t,is,0)
 |e::o,t,is,deps,done=>if(Ec t (K6 x deps done e.1 e.2)).2.2≠0 then([],[],(Ec t (K6 x deps done e.1 e.2)).2.2)else Wa x o (Ec t (K6 x deps done e.1 e.2)).1 (is++ [(Ec t (K6 x deps done e.1 e.2)).2.1]) (Ep deps (Ec t (K6 x deps done e.1 e.2)).2.1) (QV x done e.1 (Ec t (K6 x deps done e.1 e.2)).2.1)
structure Ub (s:List Sto) (x:Sto) (is:List Dig):Prop where
 nz: ∀ d∈is,d≠Dig.zero
 nodup:is.Nodup
 old: ∀ d∈is,d∈ids s→d=x.id
theorem Kk {is:List Dig} {j:Nat} (h:j < is.length):is.getD j Dig.zero=is[j]:=by simp[List.getD,h]
theorem HX.steps {s:List Sto} {x:Sto} {P:List (List Nat)} (h:HX s x P) {is:List Dig} (hn:Ub s x is) (hk:is.length < P.length): ∀ j,j≤(P[is.length]).length→
  ((P[is.length]).take j).foldl (GJ x.id x.patch.changes) ((P.take is.length).flatten.map (Kx x.id P x.patch.changes is is.length),0,[])=
   (((P.take is.length).flatten++(P[is.length]).take j).map (Kx x.id P x.patch.changes is is.length),(((((P[is.length]).take j).map fun d=>Jo (x.patch.changes.getD d Chg.zero)).sum:Nat):Int),((P[is.length]).take j).map fun c=>HP (fS P x.patch.changes is is.length) (x.patch.changes.getD c Chg.zero)):=by
 intro j
 have hP:=h.parts
 have hlt: ∀ d∈P[is.length],d < x.patch.changes.length:=hP.lt _ (AH hk)
 induction j with
 |zero=>intro _;simp
 |succ j ih=>
  intro hj
  have hj':j < (P[is.length]).length:=by omega
  have e:(P[is.length]).take (j+1)=(P[is.length]).take j++ [(P[is.length])[j]]:=A7 hj'
  have hc:=hlt _ (AH hj')
  have hin:K7 P (P[is.length])[j]=is.length:=OD hP.apart hk (AH hj')
  have hsta:So P x.patch.changes (P[is.length])[j]=(((P[is.length]).take j).map fun d=>Jo (x.patch.changes.getD d Chg.zero)).sum:=by
   refine RE hP hk (b:=(P[is.length]).drop (j+1)) ?_
   rw[←Br hj',C6]
  have hent:Kx x.id P x.patch.changes is is.length (P[is.length])[j]=⟨x.id,Cg x.patch.changes (P[is.length])[j],(Cg x.patch.changes (P[is.length])[j]:Int)+Jo (x.patch.changes.getD (P[is.length])[j] Chg.zero),Dig.zero,((((P[is.length]).take j).map fun d=>Jo (x.patch.changes.getD d Chg.zero)).sum:Nat)⟩:=by
   unfold Kx
   rw[if_pos hin,hsta]
  rw[e,CB,ih (by omega),Bz,Lj]
  unfold GJ
  dsimp only
  rw[←hent]
  have hmap:((P.take is.length).flatten++(P[is.length]).take j).map (Kx x.id P x.patch.changes is is.length)++ [Kx x.id P x.patch.changes is is.length (P[is.length])[j]]=((P.take is.length).flatten++((P[is.length]).take j++ [(P[is.length])[j]])).map (Kx x.id P x.patch.changes is is.length):=by
   simp only[Au,Aq,CC,AV]
  rw[hmap]
  have hget:x.patch.changes.getD (P[is.length])[j] Chg.zero=x.patch.changes[(P[is.length])[j]]:=by simp[List.getD,hc]
  have hch:=h.change (is:=is) (k:=is.length) (fun i hi=>by rw[Kk hi];exact hn.nz _ (AH hi)) (fun i i' hi hi' e=>by
   rw[Kk hi,Kk hi']at e
   exact(List.getElem_inj hn.nodup).1 e) (fun i hi hs=>by rw[Kk hi]at hs ⊢;exact hn.old _ (AH hi) hs) hc hin
   (D:=(P.take is.length).flatten++((P[is.length]).take j++ [(P[is.length])[j]])) (fun d hd=>by
    rcases Ah.1 hd with hd|hd
    ·obtain⟨l,hl,hdl⟩:=Db.1 hd
     exact hP.lt l (El hl) d hdl
    ·rw[←e]at hd
     exact hlt d (El hd)) (fun d hd hor=>by
    obtain⟨hk',hdm⟩:=hP.mem hd
    rcases hor with hlt'|⟨heq,hdc⟩
    ·exact En _ (Db.2 ⟨_,DD.2 ⟨K7 P d,by omega,rfl⟩,hdm⟩)
    ·refine Dm _ (En _ ?_)
     have hdm:d∈P[is.length]:=by simp only[heq]at hdm;exact hdm
     obtain⟨i,hi,rfl⟩:=Ag.1 hdm
     have hij:i < j:=by
      rcases BN i j with h'|h'
      ·exact h'
      ·exfalso
       rcases Nat.eq_or_lt_of_le h' with h'|h'
       ·subst h';omega
       ·have:=B6.1 (hP.asc _ (AH hk)) j i hj' hi h'
        omega
     exact DD.2 ⟨i,by omega,rfl⟩)
  rw[hget,←hch]
  simp only[Au,Aq,CC,FH,Cr,IU,hget,Prod.mk.injEq,true_and,and_true]
  omega
theorem HX.part {s:List Sto} {x:Sto} {P:List (List Nat)} (h:HX s x P) {is:List Dig} (hn:Ub s x is) (hk:is.length < P.length) (m:Mta):
  K6 x (Ko (sortD (BL x.patch++is))) ((P.take is.length).flatten.map (Kx x.id P x.patch.changes is is.length)) P[is.length] m=JA x P is P[is.length] m∧
  ∀ d,QV x ((P.take is.length).flatten.map (Kx x.id P x.patch.changes is is.length)) P[is.length] d=(P.take (is.length+1)).flatten.map (Kx x.id P x.patch.changes (is++ [d]) (is.length+1)):=by
 have hst:=h.steps hn hk (P[is.length]).length (Al _)
 rw[AB (Al _)]at hst
 refine⟨?_,fun d=>?_⟩
 ·unfold K6 JA
  rw[hst]
 ·unfold QV
  rw[hst]
  dsimp only
  have e:P.take (is.length+1)=P.take is.length++ [P[is.length]]:=A7 hk
  rw[e,C5,Au,Au,Ln,EN,Cd]
  congr 1
  ·refine DF fun c hc=>?_
   obtain⟨l,hl,hcl⟩:=Db.1 hc
   obtain⟨i,hi,rfl⟩:=DD.1 hl
   have hin:K7 P c=i:=OD h.parts.apart (by omega) hcl
   unfold Kx
   rw[hin,if_neg (by omega),if_neg (by omega)]
   congr 1
   rw[Kk (by omega),Kk (by simp;omega),B7]
  ·refine DF fun c hc=>?_
   have hin:K7 P c=is.length:=OD h.parts.apart hk hc
   unfold Kx
   simp only[Function.comp_apply,hin,if_true]
   rw[if_neg (by omega),Kk (by simp)]
   simp
theorem bG {l:List Dig} (h:Dig.zero∈l):Im l≠0:=by
 unfold Im
 split
 ·omega
 intro k
 obtain⟨i,hi,e⟩:=Ag.1 h
 have:=DZ k i (BZ.2 hi)
 unfold HZ at this
 rw[if_pos (by simp[List.getD,hi,e])]at this
 omega
theorem fE {t:List Sto} {a m:Str} {i:Int} {deps:List Dig} {cs cs':List Chg} (h:Dig.zero∈deps):Ec t ⟨a,m,i,deps,cs⟩=Ec t ⟨a,m,i,deps,cs'⟩∧(Ec t ⟨a,m,i,deps,cs⟩).2.2≠0:=by
 have hd:=bG h
 have hc: ∀ cs cs':List Chg,(CF ⟨a,m,i,deps,cs⟩).2=(CF ⟨a,m,i,deps,cs'⟩).2∧(CF ⟨a,m,i,deps,cs⟩).2≠0:=fun cs cs'=>by
  unfold CF
  dsimp only
  split
  ·exact⟨rfl,by simp⟩
  split
  ·exact⟨rfl,by simp⟩
  split
  ·exact⟨rfl,by simp⟩
  exact⟨rfl,hd⟩
 have hr: ∀ cs:List Chg,Ew ⟨a,m,i,deps,cs⟩=(Dig.zero,(CF ⟨a,m,i,deps,cs⟩).2):=fun cs=>by
  have:=(hc cs cs).2
  unfold Ew CU
  rw[if_pos this]
  dsimp only
  rw[if_pos this]
 have ha: ∀ cs:List Chg,Ec t ⟨a,m,i,deps,cs⟩=([],Dig.zero,(CF ⟨a,m,i,deps,cs⟩).2):=fun cs=>by
  unfold Ec
  rw[hr]
  dsimp only
  rw[if_pos (hc cs cs).2]
 rw[ha,ha,(hc cs cs').1]
 exact⟨rfl,by rw[←(hc cs cs').1];exact(hc cs cs').2⟩
end Go.Proofs
