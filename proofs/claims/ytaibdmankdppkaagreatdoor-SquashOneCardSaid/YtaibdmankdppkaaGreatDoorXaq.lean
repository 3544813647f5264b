/- The example of the statements of layer 17: a file, a line in it, and a file of another author. -/
import Derived.Test.YtaibdmankdppkaaGreatDoorXap
import Derived.Test.YtaibdmankdppkaaGreatDoorXao
import Derived.Test.YtaibdmankdppkaaGreatDoorXan
set_option linter.unusedSimpArgs false
set_option linter.unusedVariables false
namespace Go.Proofs
open Go Go.Q
def bJ:Dig:=⟨[209,215,128,53,238,251,106,196,245,2,206,112,154,168,198,4,66,36,85,131,114,133,77,50,25,101,179,105,218,149,57,133],rfl⟩
def qW:Dig:=⟨[234,79,61,16,149,93,210,77,109,138,121,50,140,158,64,68,63,99,235,247,105,210,173,16,203,104,162,205,29,130,230,63],rfl⟩
def oc:Dig:=⟨[74,226,31,219,114,2,101,1,252,138,12,111,103,175,102,211,8,175,186,83,231,92,101,199,238,238,231,140,175,139,225,84],rfl⟩
def yU:Chg:={ Chg.zero with kind:=1,type:=1 }
def zD:Chg:={ Chg.zero with kind:=5,file:=⟨bJ,0⟩,after:=⟨bJ,0⟩,before:=⟨bJ,0⟩,lines:= [[120]] }
def tK:Pat:=⟨[97,110,110],[],0,[],[yU]⟩
def uU:Pat:=⟨[97,110,110],[],0,[],[zD]⟩
def yw:Pat:=⟨[98,111,98],[],0,[],[yU]⟩
def aw1S:List Sto:= [⟨bJ,tK⟩]
def aw2S:List Sto:= [⟨bJ,tK⟩,⟨qW,uU⟩]
theorem tJ:FJ [] tK=(aw1S,bJ,0):=by decide+kernel
theorem tI:FJ aw1S uU=(aw2S,qW,0):=by decide+kernel
theorem dN:Fl tK=false∧Fl uU=false∧Fl yw=false:=by decide+kernel
theorem ob:Lq []=true:=by decide+kernel
theorem oa:Lq aw1S=true:=by decide+kernel
theorem oZ:Lq aw2S=true:=by decide+kernel
def yv:Dig:=⟨[29,5,81,176,77,171,31,168,3,84,99,177,155,5,61,168,37,109,70,193,94,5,28,98,24,204,118,247,185,184,170,220],rfl⟩
def yu:Dig:=⟨[240,168,68,31,108,233,64,210,234,68,91,7,227,21,139,135,67,203,230,233,173,209,83,239,153,132,174,43,167,0,34,187],rfl⟩
def uG:Dig:=⟨[213,83,79,138,58,73,5,36,69,187,190,214,93,193,171,28,47,86,11,254,23,204,168,89,142,6,60,190,106,212,44,43],rfl⟩
end Go.Proofs
namespace Go.Proofs
open Go Go.Q Go.Sort
theorem aN {α:Type} {r:α→α→Prop} (irr: ∀ a,¬r a a) (tr: ∀ a b c,r a b→r b c→r a c): ∀ {l m:List α},l.Pairwise r→m.Pairwise r→(∀ x,x∈l↔x∈m)→l=m
 | [],[],_,_,_=>rfl
 | [],y::m,_,_,h=>absurd ((h y).2 AF) (Ah)
 |x::l,[],_,_,h=>absurd ((h x).1 AF) (Ah)
 |x::l,y::m,h1,h2,h=>by
  obtain⟨a1,a2⟩:=Bn.1 h1
  obtain⟨b1,b2⟩:=Bn.1 h2
  have e:x=y:=by
   rcases AH.1 ((h x).1 AF)with e|hx
   ·exact e
   ·rcases AH.1 ((h y).2 AF)with e|hy
    ·exact e.symm
    ·exact absurd (tr _ _ _ (b1 x hx) (a1 y hy)) (irr _)
  subst e
  rw[aN irr tr a2 b2 fun z=>?_]
  constructor
  ·intro hz
   rcases AH.1 ((h z).1 (AI _ hz))with e|h'
   ·subst e;exact absurd (a1 _ hz) (irr _)
   ·exact h'
  ·intro hz
   rcases AH.1 ((h z).2 (AI _ hz))with e|h'
   ·subst e;exact absurd (b1 _ hz) (irr _)
   ·exact h'
abbrev SH (l:List Ident):Prop:=l.Pairwise fun a b=>Hc a b < 0
theorem ZU {l m:List Ident} (h1:SH l) (h2:SH m) (h: ∀ x,x∈l↔x∈m):l=m:=
 aN (r:=fun a b=>Hc a b < 0) Ident.lt_irrefl (fun _ _ _=>Ident.lt_trans) h1 h2 h
theorem SH.nodup {l:List Ident} (h:SH l):l.Nodup:=h.imp fun {a b} hab e=>by subst e;exact Ident.lt_irrefl _ hab
theorem TU {x d:Ident}: ∀ {l:List Ident},x∈Jq l d↔x=d∨x∈l
 | []=>by simp[Jq]
 |y::l=>by
  unfold Jq
  split
  ·rw[AH,TU,AH]
   constructor
   ·rintro(h|h|h)
    ·exact .inr (.inl h)
    ·exact .inl h
    ·exact .inr (.inr h)
   ·rintro(h|h|h)
    ·exact .inr (.inl h)
    ·exact .inl h
    ·exact .inr (.inr h)
  ·split
   ·rename_i e
    subst e
    constructor
    ·exact .inr
    ·rintro(h|h)
     ·subst h;exact AF
     ·exact h
   ·simp only[AH]
theorem Yo {d:Ident}: ∀ {l:List Ident},SH l→SH (Jq l d)
 | [],_=>by unfold Jq;exact GA _ _
 |y::l,h=>by
  obtain⟨h1,h2⟩:=Bn.1 h
  unfold Jq
  split
  ·rename_i hy
   refine Bn.2 ⟨fun z hz=>?_,Yo h2⟩
   rcases TU.1 hz with rfl|hz
   ·exact hy
   ·exact h1 z hz
  ·rename_i hy
   split
   ·exact h
   ·rename_i hne
    have hlt:Hc d y < 0:=by
     rcases Ident.tri d y with h'|h'|h'
     ·exact h'
     ·exact absurd h'.symm hne
     ·exact absurd h' hy
    refine Bn.2 ⟨fun z hz=>?_,h⟩
    rcases AH.1 hz with rfl|hz
    ·exact hlt
    ·exact Ident.lt_trans hlt (h1 z hz)
theorem PR: ∀ (m l:List Ident),SH l→SH (m.foldl Jq l)∧ ∀ x,x∈m.foldl Jq l↔x∈l∨x∈m
 | [],l,h=>⟨h,fun x=>by simp⟩
 |y::m,l,h=>by
  obtain⟨a,b⟩:=PR m (Jq l y) (Yo h)
  refine⟨a,fun x=>?_⟩
  rw[C0,b,TU,AH]
  constructor
  ·rintro((h|h)|h)
   ·exact .inr (.inl h)
   ·exact .inl h
   ·exact .inr (.inr h)
  ·rintro(h|h|h)
   ·exact .inl (.inr h)
   ·exact .inl (.inl h)
   ·exact .inr h
theorem UZ {l:List Ident} {d:Ident}:d∈sortI l↔d∈l:=bR
theorem Ua {l:List Ident} (hn:l.Nodup):SH (sortI l):=by
 have h:=y9 (le:=fun x y=>!(ltOf Hc) y x) (fun a b c h1 h2=>by
  simp only[AG,ltOf,A8]at h1 h2 ⊢
  intro h3
  rcases Ident.tri a b with h|h|h
  ·exact h2 (Ident.lt_trans h3 h)
  ·subst h;exact h2 h3
  ·exact h1 h) (fun a b=>by
  simp only[UA,AG,ltOf,A8]
  rcases Ident.tri a b with h|h|h
  ·exact .inl fun k=>Ident.lt_irrefl _ (Ident.lt_trans h k)
  ·subst h;exact .inl (Ident.lt_irrefl _)
  ·exact .inr fun k=>Ident.lt_irrefl _ (Ident.lt_trans h k)) l
 have h2:(sortI l).Nodup:=(List.mergeSort_perm l _).nodup_iff.2 hn
 refine B7.2 fun i j hi hj hij=>?_
 have a:=B7.1 h i j hi hj hij
 have b:=B7.1 h2 i j hi hj hij
 rw[AG]at a
 have a: ¬Hc (sortI l)[j] (sortI l)[i] < 0:=Bm a
 rcases Ident.tri (sortI l)[i] (sortI l)[j]with h'|h'|h'
 ·exact h'
 ·exact absurd h' b
 ·exact absurd h' a
theorem Zq {l:List Ident} (hn:l.Nodup):sortI l=l.foldl Jq []:=
 ZU (Ua hn) (PR l [] .nil).1 fun x=>by rw[UZ,(PR l [] .nil).2];simp
def EY (x:Ident):Bool:=decide (x.patch=Dig.zero)&&decide (0≤x.n)
theorem FZ {x:Ident}:EY x=true↔x.patch=Dig.zero∧0≤x.n:=by unfold EY;simp
def GP (f:Ident→Ident) (c:Chg):Chg:=
 { c with file:=if 2≤c.kind∧c.kind≤6 then f c.file else c.file,parent:=if c.kind=2 then f c.parent else c.parent,after:=if c.kind=5∨c.kind=6 then f c.after else c.after,before:=if c.kind=5∨c.kind=6 then f c.before else c.before,over:=sortI (c.over.map f) }
def dx (f:Ident→Ident) (c:Chg):Chg:=
 { c with file:=if 2≤c.kind∧c.kind≤6 then f c.file else c.file,parent:=if c.kind=2 then f c.parent else c.parent,after:=if c.kind=5∨c.kind=6 then f c.after else c.after,before:=if c.kind=5∨c.kind=6 then f c.before else c.before,over:=(c.over.map f).foldl Jq [] }
theorem VF {c:Chg} {f g:Ident→Ident} (h:OC c fun x=>f x=g x) (hr:f rRoot=g rRoot) (hn:(c.over.map f).Nodup):GP f c=dx g c:=by
 have ho:c.over.map f=c.over.map g:=C6 fun x hx=>h.over x hx
 unfold GP dx
 rw[Zq hn,ho]
 congr 1
 ·split
  ·rename_i k;exact h.file k.1 k.2
  ·rfl
 ·split
  ·rename_i k
   by_cases hp:c.parent=rRoot
   ·rw[hp];exact hr
   ·exact h.parent k hp
  ·rfl
 ·split
  ·rename_i k;exact h.after k
  ·rfl
 ·split
  ·rename_i k;exact h.before k
  ·rfl
structure Vn (cnt:Dig→Nat) (st:List (Dig × Int)) (n:Int):Prop where
 nodup:(st.map (·.1)).Nodup
 pos:0≤n
 le: ∀ e∈st,0≤e.2∧e.2+cnt e.1≤n
 apart: ∀ e∈st,∀ f∈st,e.1≠f.1→e.2+cnt e.1≤f.2∨f.2+cnt f.1≤e.2
theorem PQ {κ:Type} [DecidableEq κ] {k:κ}: ∀ {l:List κ},k∉l→Hy k l=none
 | [],_=>rfl
 |a::l,h=>by
  have h1: ¬k=a:=fun e=>h (e ▸ AF)
  simp only[Hy,if_neg h1,PQ fun hl=>h (AI _ hl),Option.map_none]
theorem Nv {κ α:Type} [DecidableEq κ] {k:κ} {x:α}: ∀ {l:List (κ × α)},CU k l=some x→(k,x)∈l
 | [],h=>by simp[CU]at h
 |(a,y)::l,h=>by
  unfold CU at h
  split at h
  ·rename_i e;cases h;subst e;exact AF
  ·exact AI _ (Nv h)
theorem TX {κ α:Type} [DecidableEq κ] {k:κ}: ∀ {l:List (κ × α)},k∈l.map (·.1)→ ∃ x,CU k l=some x
 | [],h=>by simp at h
 |(a,y)::l,h=>by
  unfold CU
  split
  ·exact⟨y,rfl⟩
  ·rename_i e
   rcases AH.1 h with h|h
   ·exact absurd h e
   ·exact TX h
theorem Vn.step {cnt:Dig→Nat} {st:List (Dig × Int)} {n:Int} (h:Vn cnt st n) {d:Dig} (hd:d∉st.map (·.1)):Vn cnt (DJ d n st) (n+cnt d):=by
 rw[Gq d n (PQ hd)]
 have hp:=h.pos
 refine⟨?_,by omega,fun e he=>?_,fun e he f hf hne=>?_⟩
 ·rw[An]
  refine EU.2 ⟨h.nodup,by simp,fun a ha b hb e=>?_⟩
  simp only[Aq,CG,Ag]at hb
  subst e;subst hb;exact hd ha
 ·rcases Ai.1 he with he|he
  ·have:=h.le e he;omega
  ·rw[Ag.1 he];dsimp only;omega
 ·rcases Ai.1 he with he|he<;>rcases Ai.1 hf with hf|hf
  ·exact h.apart e he f hf hne
  ·have:=h.le e he
   rw[Ag.1 hf];dsimp only;omega
  ·have:=h.le f hf
   rw[Ag.1 he];dsimp only;omega
  ·rw[Ag.1 he,Ag.1 hf]at hne
   exact absurd rfl hne
def fJ (st:List (Dig × Int)) (d:Dig) (x:Ident):Ident:=match CU (if EY x=true then d else x.patch) st with
 |some k=>if 0≤x.n then⟨Dig.zero,k+x.n⟩else x
 |none=>x
def Ye:List Mvd→Ident→Ident
 | [],x=>x
 |m::l,x=>if x.patch=m.old∧m.lo≤x.n∧x.n < m.hi then⟨m.patch,m.dst+x.n - m.lo⟩else Ye l x
def gM (l:List Mvd) (d:Dig) (x:Ident):Ident:=Ye l (if EY x=true then⟨d,x.n⟩else x)
def sU (cnt:Dig→Nat) (e:Dig × Int):Mvd:=⟨e.1,0,cnt e.1,Dig.zero,e.2⟩
theorem RE {l:List Mvd} {x:Ident} (h: ∀ m∈l,x.patch=m.old→m.lo≤x.n→ ¬x.n < m.hi):Ye l x=x:=by
 induction l with
 |nil=>rfl
 |cons m l ih=>
  unfold Ye
  rw[if_neg fun k=>h m AF k.1 k.2.1 k.2.2]
  exact ih fun m hm=>h m (AI _ hm)
theorem RF (cnt:Dig→Nat): ∀ {st:List (Dig × Int)} {y:Ident} {k:Int},CU y.patch st=some k→0≤y.n→y.n < cnt y.patch→Ye (st.map (sU cnt)) y=⟨Dig.zero,k+y.n⟩
 | [],y,k,h,_,_=>by simp[CU]at h
 |(a,j)::st,y,k,h,h0,h1=>by
  unfold CU at h
  simp only[Aq,Ye,sU]
  split at h
  ·rename_i e
   cases h
   rw[if_pos ⟨e,h0,by rw[←e];exact h1⟩]
   congr 1;omega
  ·rename_i e
   rw[if_neg fun k=>e k.1]
   exact RF cnt h h0 h1
theorem TW {κ α:Type} [DecidableEq κ] {k:κ} {l:List (κ × α)} (h:CU k l=none):k∉l.map (·.1):=fun hk=>by
 obtain⟨x,hx⟩:=TX hk
 rw[hx]at h;cases h
def cntS (s:List Sto) (d:Dig):Nat:=N5 ((getS s d).getD Pat.zero)
theorem Bc.cntS {s:List Sto} (v:Bc s) {x:Sto} (hx:x∈s):cntS s x.id=N5 x.patch:=by
 unfold Go.Proofs.cntS;rw[v.getS hx];rfl
theorem wJ {s:List Sto} (v:Bc s) {st:List (Dig × Int)} {x:Sto} (hx:x∈s) (hd:x.id∈st.map (·.1)) {y:Ident} (h:PB (N5 x.patch) y∧Jt s y):fJ st x.id y=gM (st.map (sU (cntS s))) x.id y:=by
 obtain⟨⟨h0,h1⟩,h2⟩:=h
 unfold fJ gM
 by_cases ho:EY y=true
 ·rw[if_pos ho,if_pos ho]
  obtain⟨k,hk⟩:=TX hd
  have:=h1 (FZ.1 ho).1
  rw[hk,RF (y:=⟨x.id,y.n⟩) (cntS s) hk h0 (by rw[v.cntS hx];exact this)]
  dsimp only
  rw[if_pos h0]
 ·rw[if_neg ho,if_neg ho]
  have hz:y.patch≠Dig.zero:=fun e=>ho (FZ.2 ⟨e,h0⟩)
  obtain⟨z,hzs,e,_,hlt⟩:=h2 hz
  cases hg:CU y.patch st with
  |none=>
   dsimp only
   refine(RE fun m hm e2=>?_).symm
   obtain⟨a,ha,rfl⟩:=AO.1 hm
   exact absurd (AO.2 ⟨a,ha,e2.symm⟩) (TW hg)
  |some k=>
   dsimp only
   rw[if_pos h0,RF (cntS s) hg h0 (by rw[←e,v.cntS hzs];exact hlt)]
theorem cz (st:List (Dig × Int)) (d:Dig):fJ st d rRoot=rRoot:=by
 unfold fJ
 split<;>rfl
theorem nr {s:List Sto} (st:List (Dig × Int)) (d:Dig):gM (st.map (sU (cntS s))) d rRoot=rRoot:=by
 unfold gM
 rw[if_neg (by decide)]
 refine RE fun m hm _ h=>?_
 obtain⟨a,_,rfl⟩:=AO.1 hm
 exact absurd h (show ¬(0:Int)≤ -1 by decide)
theorem jA {l:List Ident} (h:PK l=true):SH l:=by
 have step: ∀ i (h:i+1 < l.length),Hc l[i] l[i+1] < 0:=fun i hi=>by
  unfold PK at h
  have:=BT.1 h i (BW.2 (by omega))
  simpa [List.getD,hi,show i < l.length by omega]using this
 refine B7.2 fun i j hi hj hij=>?_
 obtain⟨k,rfl⟩: ∃ k,j=i+1+k:=⟨j - i - 1,by omega⟩
 induction k with
 |zero=>exact step i hj
 |succ k ih=>exact Ident.lt_trans (ih (by omega) (by omega)) (step (i+1+k) hj)
theorem QP {c:Chg} (h:Bz c=0):SH c.over:=by
 unfold Bz at h
 split at h
 ·omega
 rename_i h1
 split at h
 ·omega
 rename_i h2
 split at h
 ·omega
 split at h
 ·omega
 split at h
 ·omega
 split at h
 ·omega
 split at h
 ·rename_i h5
  have h2:Fo (Hr c)=true:=by simpa using h2
  unfold Fo at h2
  simp only[BJ,AB]at h2
  have h3:=h2.2
  have:(Hr c).over=c.over:=by unfold Hr;dsimp only;rw[if_neg (by omega)]
  rw[this]at h3
  have:c.over= []:=BO (by omega)
  rw[this]
  exact .nil
 split at h
 ·omega
 split at h
 ·omega
 split at h
 ·omega
 rename_i h9
 exact jA (by simpa using h9)
def S9 (d:Dig) (y:Ident):Dig:=if EY y=true then d else y.patch
theorem sx {s:List Sto} (v:Bc s) {st:List (Dig × Int)} {n:Int} (hL:Vn (cntS s) st n) {x:Sto} (hx:x∈s) (hd:x.id∈st.map (·.1)) {y z:Ident} (hy:PB (N5 x.patch) y∧Jt s y) (hz:PB (N5 x.patch) z∧Jt s z)
  (ny:y.patch≠x.id∨y.patch=Dig.zero) (nz:z.patch≠x.id∨z.patch=Dig.zero) (e:fJ st x.id y=fJ st x.id z):y=z:=by
 have src: ∀ {w:Ident},PB (N5 x.patch) w∧Jt s w→0≤w.n∧w.n < cntS s (S9 x.id w)∧(EY w=false→w.patch≠Dig.zero):=fun {w} hw=>by
  obtain⟨⟨h0,h1⟩,h2⟩:=hw
  unfold S9
  by_cases ho:EY w=true
  ·rw[if_pos ho,v.cntS hx]
   exact⟨h0,h1 (FZ.1 ho).1,fun k=>by rw[ho]at k;cases k⟩
  ·rw[if_neg ho]
   have hz:w.patch≠Dig.zero:=fun e=>ho (FZ.2 ⟨e,h0⟩)
   obtain⟨u,hu,e1,_,h3⟩:=h2 hz
   rw[←e1,v.cntS hu]
   exact⟨h0,h3,fun _=>e1 ▸ hz⟩
 obtain⟨y0,y1,y2⟩:=src hy
 obtain⟨z0,z1,z2⟩:=src hz
 have img: ∀ {w:Ident},0≤w.n→fJ st x.id w=match CU (S9 x.id w) st with|some k=>⟨Dig.zero,k+w.n⟩|none=>w:=fun {w} hw=>by
  unfold fJ S9
  cases CU (if EY w=true then x.id else w.patch) st with
  |none=>rfl
  |some k=>dsimp only;rw[if_pos hw]
 have own_in: ∀ {w:Ident},CU (S9 x.id w) st=none→EY w=false:=fun {w} h=>by
  cases ho:EY w with
  |false=>rfl
  |true=>
   unfold S9 at h
   rw[if_pos ho]at h
   exact absurd hd (TW h)
 rw[img y0,img z0]at e
 cases hgy:CU (S9 x.id y) st with
 |none=>
  rw[hgy]at e
  dsimp only at e
  cases hgz:CU (S9 x.id z) st with
  |none=>rw[hgz]at e;exact e
  |some k=>
   rw[hgz]at e
   dsimp only at e
   exact absurd (congrArg Ident.patch e) (y2 (own_in hgy))
 |some k=>
  rw[hgy]at e
  dsimp only at e
  cases hgz:CU (S9 x.id z) st with
  |none=>
   rw[hgz]at e
   dsimp only at e
   exact absurd (congrArg Ident.patch e).symm (z2 (own_in hgz))
  |some j=>
   rw[hgz]at e
   dsimp only at e
   have en:k+y.n=j+z.n:=congrArg Ident.n e
   by_cases hs:S9 x.id y=S9 x.id z
   ·rw[hs,hgz]at hgy
    cases hgy
    have hn:y.n=z.n:=by omega
    have hp:y.patch=z.patch:=by
     unfold S9 at hs
     by_cases oy:EY y=true
     ·by_cases oz:EY z=true
      ·rw[(FZ.1 oy).1,(FZ.1 oz).1]
      ·rw[if_pos oy,if_neg oz]at hs
       rcases nz with h|h
       ·exact absurd hs.symm h
       ·exact absurd h (z2 (by simpa using oz))
     ·by_cases oz:EY z=true
      ·rw[if_neg oy,if_pos oz]at hs
       rcases ny with h|h
       ·exact absurd hs h
       ·exact absurd h (y2 (by simpa using oy))
      ·rw[if_neg oy,if_neg oz]at hs;exact hs
    cases y;cases z;simp_all
   ·have a:=hL.apart _ (Nv hgy) _ (Nv hgz) hs
    dsimp only at a
    omega
theorem ZP {s:List Sto} (v:Bc s) {st:List (Dig × Int)} {n:Int} (hL:Vn (cntS s) st n) {x:Sto} (hx:x∈s) (hd:x.id∈st.map (·.1)) {c:Chg} (hc:c∈x.patch.changes):GP (fJ st x.id) c=dx (gM (st.map (sU (cntS s))) x.id) c:=by
 have hu:=v.uses hx hc
 refine VF (hu.mono fun y hy=>wJ v hx hd hy) (by rw[cz,nr]) ?_
 have hp:=Gl (IM (v.id x hx).1).1
 obtain⟨i,hi,rfl⟩:=Ad.1 hc
 have ha:=QP (hp.fields i hi)
 have ns: ∀ y∈(x.patch.changes[i]).over,y.patch≠x.id∨y.patch=Dig.zero:=fun y hy=>by
  by_cases hz:y.patch=Dig.zero
  ·exact .inr hz
  ·refine .inl fun e=>?_
   have hn:=Hz (v.id x hx).1 hc (y:=y) (by unfold IL;simp[hy]) (by unfold EH;simp[hz])
   have:=v.rank hx (e ▸ hn)
   omega
 refine Qq.2 (ha.nodup.imp_of_mem fun {y z} hy hz hne e=>hne ?_)
 exact sx v hL hx hd (hu.over y hy) (hu.over z hz) (ns y hy) (ns z hz) e
def jP (s:List Sto) (l:List Dig) (r:List (Dig × Int) × Int × List Chg × List Dig) (d:Dig):List (Dig × Int) × Int × List Chg × List Dig:=
 if d∈l then(DJ d r.2.1 r.1,r.2.1+cntS s d,r.2.2.1++((getS s d).getD Pat.zero).changes.map (GP (fJ (DJ d r.2.1 r.1) d)),r.2.2.2++((getS s d).getD Pat.zero).deps.filter fun e=>decide (¬e∈l))else r
def K0 (s:List Sto) (l:List Dig) (m:Mta):Pat:=
 let r:=(Cg s).foldl (jP s l) ([],0,[],[])
 ⟨m.author,m.message,m.time,Kh (sortD r.2.2.2),r.2.2.1⟩
def jR (s:List Sto) (l:List Dig) (r:List Mvd × Int × List Chg × List Dig) (d:Dig):List Mvd × Int × List Chg × List Dig:=
 if d∈l then(r.1++ [⟨d,0,cntS s d,Dig.zero,r.2.1⟩],r.2.1+cntS s d,r.2.2.1++((getS s d).getD Pat.zero).changes.map (dx (gM (r.1++ [⟨d,0,cntS s d,Dig.zero,r.2.1⟩]) d)),(((getS s d).getD Pat.zero).deps.filter fun e=>decide (¬e∈l)).foldl FU r.2.2.2)else r
def cR (s:List Sto) (l:List Dig) (m:Mta):Pat:=
 let r:=(Cg s).foldl (jR s l) ([],0,[],[])
 ⟨m.author,m.message,m.time,r.2.2.2,r.2.2.1⟩
theorem LZ: ∀ (m l:List Dig),Gm l→Gm (m.foldl FU l)∧ ∀ d,d∈m.foldl FU l↔d∈l∨d∈m
 | [],l,h=>⟨h,fun d=>by simp⟩
 |y::m,l,h=>by
  obtain⟨a,b⟩:=LZ m (FU l y) (LY h)
  refine⟨a,fun d=>?_⟩
  rw[C0,b,KM,AH]
  constructor
  ·rintro((h|h)|h)
   ·exact .inr (.inl h)
   ·exact .inl h
   ·exact .inr (.inr h)
  ·rintro(h|h|h)
   ·exact .inl (.inr h)
   ·exact .inl (.inl h)
   ·exact .inr h
theorem Fw (l:List Dig):Gm (Kh (sortD l))∧ ∀ d,d∈Kh (sortD l)↔d∈l:=by
 obtain⟨a,b⟩:=Rb (K6 l) (sortD l).length (Ak _)
 rw[AE (Ak _)]at a b
 exact⟨a,fun d=>by rw[b,Ub]⟩
structure Qk (s:List Sto) (l done:List Dig) (p:List (Dig × Int) × Int × List Chg × List Dig) (r:List Mvd × Int × List Chg × List Dig):Prop where
 laid:Vn (cntS s) p.1 p.2.1
 keys: ∀ d,d∈p.1.map (·.1)↔d∈done∧d∈l
 mv:r.1=p.1.map (sU (cntS s))
 n:r.2.1=p.2.1
 cs:r.2.2.1=p.2.2.1
 asc:Gm r.2.2.2
 deps: ∀ d,d∈r.2.2.2↔d∈p.2.2.2
theorem Qk.step {s:List Sto} (v:Bc s) {l done:List Dig} {p:List (Dig × Int) × Int × List Chg × List Dig} {r:List Mvd × Int × List Chg × List Dig} (h:Qk s l done p r) {d:Dig} (hd:d∈ids s) (hn:d∉done):Qk s l (done++ [d]) (jP s l p d) (jR s l r d):=by
 unfold jP jR
 by_cases hl:d∈l
 ·rw[if_pos hl,if_pos hl]
  have hk:d∉p.1.map (·.1):=fun k=>hn ((h.keys d).1 k).1
  have hnew:=Gq d p.2.1 (PQ hk)
  have hL:=h.laid.step hk
  have hmv:r.1++ [⟨d,0,cntS s d,Dig.zero,r.2.1⟩]=(DJ d p.2.1 p.1).map (sU (cntS s)):=by
   rw[h.mv,h.n,hnew,An];rfl
  obtain⟨x,hx,rfl⟩:=AO.1 hd
  have hin:x.id∈(DJ x.id p.2.1 p.1).map (·.1):=by rw[hnew];simp
  refine⟨hL,fun e=>?_,hmv,by dsimp only;rw[h.n],?_,?_,fun e=>?_⟩
  ·dsimp only
   rw[hnew,An,Ai,h.keys,Ai]
   constructor
   ·rintro(⟨a,b⟩|a)
    ·exact⟨.inl a,b⟩
    ·simp only[Aq,CG,Ag]at a
     subst a;exact⟨.inr (by simp),hl⟩
   ·rintro⟨a|a,b⟩
    ·exact .inl ⟨a,b⟩
    ·exact .inr (by simpa using a)
  ·dsimp only
   rw[h.cs,hmv,v.getS hx,Br]
   congr 1
   exact C6 fun c hc=>(ZP v hL hx hin hc).symm
  ·exact(LZ _ _ h.asc).1
  ·dsimp only
   rw[(LZ _ _ h.asc).2,h.deps,Ai]
 ·rw[if_neg hl,if_neg hl]
  refine⟨h.laid,fun e=>?_,h.mv,h.n,h.cs,h.asc,h.deps⟩
  rw[h.keys,Ai]
  constructor
  ·rintro⟨a,b⟩;exact⟨.inl a,b⟩
  ·rintro⟨a|a,b⟩
   ·exact⟨a,b⟩
   ·rw[Ag.1 a]at b;exact absurd b hl
theorem Qk.all {s:List Sto} (v:Bc s) {l:List Dig}: ∀ (o done:List Dig) {p:List (Dig × Int) × Int × List Chg × List Dig} {r:List Mvd × Int × List Chg × List Dig},Qk s l done p r→(∀ d∈o,d∈ids s)→(done++o).Nodup→Qk s l (done++o) (o.foldl (jP s l) p) (o.foldl (jR s l) r)
 | [],done,_,_,h,_,_=>by rw[BU];exact h
 |d::o,done,_,_,h,h1,h2=>by
  have hn:d∉done:=fun k=>(EU.1 h2).2.2 d k d AF rfl
  have e:done++d::o=(done++ [d])++o:=by simp
  rw[e]at h2 ⊢
  exact Qk.all v o _ (h.step v (h1 d AF) hn) (fun d hd=>h1 d (AI _ hd)) h2
theorem ez {s:List Sto} (v:Bc s) (l:List Dig):Qk s l (Cg s) ((Cg s).foldl (jP s l) ([],0,[],[])) ((Cg s).foldl (jR s l) ([],0,[],[])):=by
 have ho:=Ep s
 have:=Qk.all v (l:=l) (Cg s) [] (p:=([],0,[],[])) (r:=([],0,[],[])) ⟨⟨.nil,by decide,(fun e he=>absurd he Ah),(fun e he=>absurd he Ah)⟩,fun d=>by simp,rfl,rfl,rfl,.nil,fun d=>by simp⟩ ho.sub (by simpa using ho.nodup)
 simpa using this
theorem Ru {s:List Sto} (v:Bc s) (l:List Dig) (m:Mta):K0 s l m=cR s l m:=by
 have h:=ez v l
 unfold K0 cR
 obtain⟨a,b⟩:=Fw ((Cg s).foldl (jP s l) ([],0,[],[])).2.2.2
 have e:Kh (sortD ((Cg s).foldl (jP s l) ([],0,[],[])).2.2.2)=((Cg s).foldl (jR s l) ([],0,[],[])).2.2.2:=a.ext h.asc fun d=>by rw[b,h.deps]
 dsimp only
 rw[e,h.cs]
theorem dz {nd:Dig→List Dig} {l:List Dig} {d:Dig}:Q.Reach nd l d↔ ∃ q∈l,Q.Reach nd [q] d:=by
 constructor
 ·intro h
  induction h with
  |base h=>exact⟨_,h,.base (by simp)⟩
  |step _ hd ih=>
   obtain⟨q,hq,hr⟩:=ih
   exact⟨q,hq,.step hr hd⟩
 ·rintro⟨q,hq,hr⟩
  exact Reach.trans' (.base hq) hr
theorem MA {s:List Sto} (v:Bc s) {p:Dig} (hp:p∈ids s) (q:Dig):Mh s p q=decide (q∈Ot s p):=by
 have h:DM (ids s) [p]=true:=by simp[DM,hp]
 have e:Di s [p]=(Ot s p,0):=by unfold Ot Di;rw[if_neg (by simp[h])]
 rw[v.knows,e];rfl
def lS (s:List Sto) (l:List Dig):Bool:=DM (ids s) l&&!((LG s l).1.any fun d=>decide (d∈(Di s l).1)&&!decide (d∈l))
def xq (s:List Sto) (l:List Dig):Bool:=DM (ids s) l&&s.all fun x=>decide (x.id∈l)||!(l.any (fun q=>Mh s x.id q)&&l.any fun q=>Mh s q x.id)
theorem Vh {u l:List Dig} (h:DM u l=true): ∀ d∈l,d∈u:=fun d hd=>by simpa using BT.1 h d hd
theorem dF {s:List Sto} (v:Bc s) (l:List Dig):lS s l=xq s l:=by
 unfold lS xq
 by_cases h:DM (ids s) l=true
 ·rw[h,Fh,Fh]
  have hl:=Vh h
  have hc: ∀ d,d∈(Di s l).1↔ ∃ q∈l,d∈Ot s q:=fun d=>by
   obtain⟨L,e,_,hm⟩:=v.closedM hl
   rw[e]
   dsimp only
   rw[hm,dz]
   constructor
   ·rintro⟨q,hq,hr⟩;exact⟨q,hq,(v.mem_clo (hl q hq) d).2 hr⟩
   ·rintro⟨q,hq,hr⟩;exact⟨q,hq,(v.mem_clo (hl q hq) d).1 hr⟩
  have hu:(LG s l).1=Xb s l s:=by unfold LG;rw[if_neg (by simp[h])]
  rw[hu,Gz,AG,Bf,BT]
  constructor
  ·intro k x hx
   have hx':x.id∈ids s:=AO.2 ⟨x,hx,rfl⟩
   by_cases hin:x.id∈l
   ·simp[hin]
   ·simp only[hin,decide_false,Fi,AG,J0,Bf]
    by_cases ha: ∃ q∈l,q∈Ot s x.id
    ·refine .inr fun q hq hk=>k x.id (TS.2 ⟨hx',ha⟩) ?_
     rw[MA v (hl q hq)]at hk
     simp only[BJ,AB,AG,A8]
     exact⟨(hc x.id).2 ⟨q,hq,BF hk⟩,hin⟩
    ·refine .inl fun q hq hk=>ha ⟨q,hq,?_⟩
     rw[MA v hx']at hk
     exact BF hk
  ·intro k d hd hk
   obtain⟨hd1,q,hq,hqd⟩:=TS.1 hd
   simp only[BJ,AB,AG,A8]at hk
   obtain⟨x,hx,rfl⟩:=AO.1 hd1
   obtain⟨p,hp,hdp⟩:=(hc x.id).1 hk.1
   have:=k x hx
   simp only[hk.2,decide_false,Fi,AG,J0,Bf]at this
   rcases this with h1|h1
   ·exact h1 q hq (by rw[MA v hd1];exact BK hqd)
   ·exact h1 p hp (by rw[MA v (hl p hp)];exact BK hdp)
 ·have h:DM (ids s) l=false:=by simpa using h
  rw[h];rfl
def KZ (s:List Sto) (l:List Dig):Bool:=s.any fun x=>!decide (x.id∈l)&&(Ax x.patch).any fun d=>decide (d∈l)
def IR (s:List Sto) (l:List Dig):List Sto:=s.filter fun x=>decide (¬x.id∈l)
theorem VA (s:List Sto) (l:List Dig):IR s l=HX s ((ids s).filter fun d=>decide (¬d∈l)):=by
 unfold IR HX
 refine fp fun x hx=>?_
 have hx':x.id∈ids s:=AO.2 ⟨x,hx,rfl⟩
 rw[decide_eq_decide,Ef]
 simp[hx']
theorem Bc.out {s:List Sto} (v:Bc s) {l:List Dig} (h:KZ s l=false):Bc (IR s l):=by
 rw[VA]
 refine v.keep fun x hx hxc d hd=>?_
 have hxl: ¬x.id∈l:=by simpa using (Ef.1 hxc).2
 have:=Bf.1 h x hx
 simp only[hxl,decide_false,Bool.not_false,Fh,CB,AB,not_exists,not_and]at this
 exact Ef.2 ⟨v.close.2 x hx d hd,BK (this d hd)⟩
def SA (s:List Sto) (l:List Dig) (m:Mta):List Sto × Dig × Int:=
 if DM (ids s) l=false then([],Dig.zero,7)else if l.length=0∨lS s l=false then([],Dig.zero,1)else if KZ s l=true then([],Dig.zero,19)else FJ (IR s l) (K0 s l m)
def yJ (s:List Sto) (l:List Dig) (m:Mta):List Sto × Dig × Int:=
 if DM (ids s) l=false then([],Dig.zero,7)else if l.length=0∨xq s l=false then([],Dig.zero,1)else if KZ s l=true then([],Dig.zero,19)else FJ (IR s l) (cR s l m)
theorem mA {s:List Sto} (v:Bc s) (l:List Dig) (m:Mta):SA s l m=yJ s l m:=by
 unfold SA yJ
 rw[dF v,Ru v]
theorem gX {α:Type} {f:α→Nat} {l m:List α} (h:l.Perm m):(l.map f).sum=(m.map f).sum:=by
 induction h with
 |nil=>rfl
 |cons x _ ih=>simp only[Aq,DD,ih]
 |swap x y l=>simp only[Aq,DD];omega
 |trans _ _ h1 h2=>rw[h1,h2]
theorem Py {α:Type} [DecidableEq α] {f:α→Nat}: ∀ {l u:List α},l.Nodup→(∀ x∈l,x∈u)→(l.map f).sum≤(u.map f).sum
 | [],u,_,_=>XO _
 |x::l,u,hn,h=>by
  obtain⟨h1,h2⟩:=Bl.1 hn
  have hx:=h x AF
  have hp:=List.perm_cons_erase hx
  rw[gX hp]
  simp only[Aq,DD]
  have:=Py (f:=f) (u:=u.erase x) h2 fun y hy=>by
   have hne:y≠x:=fun e=>h1 (e ▸ hy)
   exact(List.mem_erase_of_ne hne).2 (h y (AI _ hy))
  omega
theorem VY (l:List Dig):(Kh l).length≤l.length:=by
 have h: ∀ k,k≤l.length→(Kh (l.take k)).length≤k:=fun k=>by
  induction k with
  |zero=>intro _;simp[Kh]
  |succ k ih=>
   intro hk
   have:=ih (by omega)
   rcases Ph k with rfl|h0
   ·have e:l.take (0+1)= []++ [l[0]]:=by rw[A7 (by omega)];rfl
    rw[e,Tw]
    split
    ·simp[Kh]
    ·simp[Kh]
   ·rw[Qd h0 (by omega)]
    split
    ·omega
    ·rw[AA,BA];omega
 have:=h l.length (Ak _)
 rwa [AE (Ak _)]at this
theorem ei (f:Ident→Ident) (c:Chg):(GP f c).over.length=c.over.length:=by
 show(sortI (c.over.map f)).length=_
 unfold sortI
 rw[DN,AR]
theorem KN (f:Ident→Ident) (c:Chg):aH (GP f c)=aH c∧GH (GP f c)=GH c∧Il (GP f c)=Il c:=by
 have h:=ei f c
 refine⟨?_,rfl,?_⟩
 ·unfold aH;rw[h];rfl
 ·unfold Il;rw[h];rfl
structure Vo (s:List Sto) (o:List Dig) (r:List (Dig × Int) × Int × List Chg × List Dig):Prop where
 cs:r.2.2.1.length=(o.map fun d=>((getS s d).getD Pat.zero).changes.length).sum
 ds:r.2.2.2.length≤(o.map fun d=>((getS s d).getD Pat.zero).deps.length).sum
 tot:(r.2.2.1.map GH).sum=(o.map fun d=>(((getS s d).getD Pat.zero).changes.map GH).sum).sum
 hv:(r.2.2.1.map Il).sum=(o.map fun d=>(((getS s d).getD Pat.zero).changes.map Il).sum).sum
 each: ∀ c∈r.2.2.1,∃ d∈o,∃ c0∈((getS s d).getD Pat.zero).changes,∃ f,c=GP f c0
theorem Vo.all (s:List Sto) (l:List Dig): ∀ (o done:List Dig) {r:List (Dig × Int) × Int × List Chg × List Dig},Vo s done r→Vo s (done++o.filter fun d=>decide (d∈l)) (o.foldl (jP s l) r)
 | [],done,_,h=>by rw[U9,BU];exact h
 |d::o,done,r,h=>by
  rw[C0]
  by_cases hl:d∈l
  ·rw[El (by simpa using hl)]
   have e:done++d::o.filter (fun d=>decide (d∈l))=(done++ [d])++o.filter fun d=>decide (d∈l):=by simp
   rw[e]
   refine Vo.all s l o (done++ [d]) ?_
   unfold jP
   rw[if_pos hl]
   have hcomp: ∀ (g:Chg→Nat),(∀ f c,g (GP f c)=g c)→ ∀ (f:Ident→Ident) (cs:List Chg),((cs.map (GP f)).map g).sum=(cs.map g).sum:=fun g hg f cs=>by
    rw[CK]
    congr 1
    exact C6 fun c _=>hg f c
   refine⟨?_,?_,?_,?_,?_⟩
   ·dsimp only
    rw[AA,AR,An,DX,h.cs];simp
   ·dsimp only
    rw[AA,An,DX]
    have a:=DP (fun e=>decide (¬e∈l)) ((getS s d).getD Pat.zero).deps
    have b:=h.ds
    simp only[Aq,CG,DD,Jm]
    omega
   ·dsimp only
    rw[An,DX,hcomp GH (fun f c=>(KN f c).2.1),An,DX,h.tot];simp
   ·dsimp only
    rw[An,DX,hcomp Il (fun f c=>(KN f c).2.2),An,DX,h.hv];simp
   ·dsimp only
    intro c hc
    rcases Ai.1 hc with hc|hc
    ·obtain⟨d',hd,rest⟩:=h.each c hc
     exact⟨d',EI _ hd,rest⟩
    ·obtain⟨c0,h0,rfl⟩:=AO.1 hc
     exact⟨d,by simp,c0,h0,_,rfl⟩
  ·rw[En (by simpa using hl)]
   have:jP s l r d=r:=by unfold jP;rw[if_neg hl]
   rw[this]
   exact Vo.all s l o done h
theorem RM {s:List Sto} (v:Bc s) (hg:Ez s=false) (l:List Dig) (m:Mta) (ha:m.author.length≤60) (hm:m.message.length≤60):E5 (K0 s l m)=false:=by
 unfold Ez at hg
 simp only[CJ,A8,Bf]at hg
 obtain⟨⟨h1,h2⟩,h3⟩:=hg
 have ht:s.take 9=s:=AE (by omega)
 rw[ht]at h1 h3
 have h1: ∀ x∈s,Fl x.patch=false:=fun x hx=>by simpa using h1 x hx
 have hs:=Vo.all s l (Cg s) [] (r:=([],0,[],[])) ⟨rfl,Ak _,rfl,rfl,fun c hc=>absurd hc Ah⟩
 rw[B9]at hs
 have hn:((Cg s).filter fun d=>decide (d∈l)).Nodup:=(Ep s).nodup.filter _
 have hin: ∀ d∈(Cg s).filter (fun d=>decide (d∈l)),d∈ids s:=fun d hd=>(Ep s).sub d (Ef.1 hd).1
 have over: ∀ (f:Pat→Nat),(((Cg s).filter fun d=>decide (d∈l)).map fun d=>f ((getS s d).getD Pat.zero)).sum≤(s.map fun x=>f x.patch).sum:=fun f=>by
  have a:=Py (f:=fun d=>f ((getS s d).getD Pat.zero)) hn hin
  have e:((ids s).map fun d=>f ((getS s d).getD Pat.zero)).sum=(s.map fun x=>f x.patch).sum:=by
   unfold ids
   rw[CK]
   congr 1
   refine C6 fun x hx=>?_
   show f ((Go.Proofs.getS s x.id).getD Pat.zero)=_
   rw[v.getS hx];rfl
  omega
 have bnd: ∀ (f:Pat→Nat) (B:Nat),(∀ x∈s,f x.patch≤B)→(s.map fun x=>f x.patch).sum≤8*B:=fun f B hB=>by
  have:=FC (l:=s) (f:=fun x=>f x.patch) (B:=B) hB
  have h8:s.length≤8:=by omega
  have:=B8 B h8
  omega
 have facts:=fun x hx=>L5 (h1 x hx)
 have gr: ∀ x∈s,Qz x.patch≤3000∧ ∀ c∈x.patch.changes,aH c=false:=fun x hx=>by
  have:=h1 x hx
  unfold Fl at this
  simp only[CJ,A8,Bf]at this
  exact⟨by omega,fun c hc=>by simpa using this.1.1.1 c hc⟩
 have b1:=CX (over fun p=>p.changes.length) (bnd (fun p=>p.changes.length) 20 fun x hx=>(facts x hx).2.2.2.1)
 have b2:=CX (over fun p=>p.deps.length) (bnd (fun p=>p.deps.length) 20 fun x hx=>(facts x hx).2.2.1)
 have b3:=CX (over fun p=>(p.changes.map GH).sum) (bnd (fun p=>(p.changes.map GH).sum) 3000 fun x hx=>by have:=(gr x hx).1;unfold Qz at this;omega)
 have b4:=over fun p=>(p.changes.map Il).sum
 have e4:(s.map fun x=>(x.patch.changes.map Il).sum).sum=(s.map u5).sum:=rfl
 have q1:=hs.cs
 have q2:=hs.ds
 have q3:=hs.tot
 have q4:=hs.hv
 have ql:=VY (sortD ((Cg s).foldl (jP s l) ([],0,[],[])).2.2.2)
 have qs:(sortD ((Cg s).foldl (jP s l) ([],0,[],[])).2.2.2).length=((Cg s).foldl (jP s l) ([],0,[],[])).2.2.2.length:=by unfold sortD;rw[DN]
 have each: ∀ c∈((Cg s).foldl (jP s l) ([],0,[],[])).2.2.1,aH c=false∧GH c≤3000:=fun c hc=>by
  obtain⟨d,hd,c0,h0,f,rfl⟩:=hs.each c hc
  obtain⟨x,hx,rfl⟩:=AO.1 (hin d hd)
  rw[v.getS hx,Br]at h0
  obtain⟨z1,z2,_⟩:=KN f c0
  rw[z1,z2]
  refine⟨(gr x hx).2 c0 h0,?_⟩
  have:=(gr x hx).1
  unfold Qz at this
  have:=IU (f:=GH) h0
  omega
 unfold E5 K0
 dsimp only
 simp only[CJ,A8,Bf]
 refine⟨⟨⟨⟨fun c hc=>?_,?_⟩,?_⟩,?_⟩,?_⟩
 ·have:=each c hc
  simp[this.1];omega
 ·unfold Qz;dsimp only;omega
 ·omega
 ·omega
 ·omega
theorem sw {st:List (Dig × Int)} {d:Dig} {y:Ident} (hz:y.patch≠Dig.zero) (h:y.patch∉st.map (·.1)):fJ st d y=y:=by
 have ho: ¬EY y=true:=fun k=>hz (FZ.1 k).1
 unfold fJ
 rw[if_neg ho]
 cases hg:CU y.patch st with
 |none=>rfl
 |some k=>exact absurd (AO.2 ⟨_,Nv hg,rfl⟩) h
structure kr (s:List Sto) (l:List Dig) (m:Mta) (t:List Sto) (id:Dig):Prop where
 all: ∀ d∈l,d∈ids s
 some:l≠ []
 convex:lS s l=true
 need:KZ s l=false
 fresh:dV (IR s l) ⟨id,K0 s l m⟩
 val:Bc t
 is:t=KY (IR s l) ⟨id,K0 s l m⟩
theorem jS {s:List Sto} {l:List Dig} {x:Sto}:x∈IR s l↔x∈s∧ ¬x.id∈l:=by
 unfold IR
 rw[Ef,AB]
theorem rF {s:List Sto} (v:Bc s) {l:List Dig} {m:Mta} (hb:E5 (K0 s l m)=false) (hs:s.length < 200) (h:(SA s l m).2.2=0): ∃ t id,SA s l m=(t,id,0)∧kr s l m t id:=by
 unfold SA at h ⊢
 by_cases h1:DM (ids s) l=false
 ·rw[if_pos h1]at h;exact absurd h (by decide)
 rw[if_neg h1]at h ⊢
 by_cases h2:l.length=0∨lS s l=false
 ·rw[if_pos h2]at h;exact absurd h (by decide)
 rw[if_neg h2]at h ⊢
 by_cases h3:KZ s l=true
 ·rw[if_pos h3]at h;exact absurd h (by decide)
 rw[if_neg h3]at h ⊢
 have h3:KZ s l=false:=by simpa using h3
 have vo:=v.out h3
 obtain⟨hf,e⟩:=vo.rAdd_ok hb h
 refine⟨_,_,e,Vh (by simpa using h1),fun k=>h2 (.inl (by rw[k];rfl)),?_,h3,hf,vo.put hf ?_,rfl⟩
 ·cases hc:lS s l with
  |true=>rfl
  |false=>exact absurd (.inr hc) h2
 ·have:(IR s l).length≤s.length:=DP _ _
  omega
theorem eF {l:List Dig} (h:H9 l=0):Gm l:=by
 unfold H9 at h
 split at h
 ·omega
 refine NA fun i hi=>?_
 have:=Cc h (i+1) (BW.2 hi)
 unfold Fj at this
 split at this
 ·omega
 split at this
 ·omega
 rename_i h2
 have e1:l.getD (i+1) Dig.zero=l[i+1]:=by simp[List.getD,hi]
 have e2:l.getD (i+1 - 1) Dig.zero=l[i]:=by simp[List.getD,show i < l.length by omega]
 rw[e1,e2]at h2
 have: ¬0≤Ea l[i] l[i+1]:=fun k=>h2 ⟨by omega,k⟩
 show Ea l[i] l[i+1] < 0
 omega
theorem WG {p:Pat} (h:(Bo p).2=0):Gm p.deps:=by
 unfold Bo at h
 split at h
 ·simp at h
 split at h
 ·simp at h
 split at h
 ·simp at h
 split at h
 ·rename_i h1;exact absurd h h1
 rename_i h1
 exact eF (CY.1 h1)
theorem VE {c:Chg} {f:Ident→Ident} (h:OC c fun x=>f x=x) (hr:f rRoot=rRoot) (ho:SH c.over):GP f c=c:=by
 have e:c.over.map f=c.over:=by
  have:c.over.map f=c.over.map id:=C6 fun x hx=>h.over x hx
  rw[this,XR]
 unfold GP
 rw[e,ZU (Ua ho.nodup) ho fun x=>UZ]
 have a1:(if 2≤c.kind∧c.kind≤6 then f c.file else c.file)=c.file:=by
  split
  ·rename_i k;exact h.file k.1 k.2
  ·rfl
 have a2:(if c.kind=2 then f c.parent else c.parent)=c.parent:=by
  split
  ·rename_i k
   by_cases hp:c.parent=rRoot
   ·rw[hp];exact hr
   ·exact h.parent k hp
  ·rfl
 have a3:(if c.kind=5∨c.kind=6 then f c.after else c.after)=c.after:=by
  split
  ·rename_i k;exact h.after k
  ·rfl
 have a4:(if c.kind=5∨c.kind=6 then f c.before else c.before)=c.before:=by
  split
  ·rename_i k;exact h.before k
  ·rfl
 rw[a1,a2,a3,a4]
theorem PX {s:List Sto} {l:List Dig}: ∀ {o:List Dig} (r:List (Dig × Int) × Int × List Chg × List Dig),(∀ d∈o,¬d∈l)→o.foldl (jP s l) r=r
 | [],_,_=>rfl
 |d::o,r,h=>by
  have:jP s l r d=r:=by unfold jP;rw[if_neg (h d AF)]
  rw[C0,this]
  exact PX r fun e he=>h e (AI _ he)
theorem Bc.not_self {s:List Sto} (v:Bc s) {x:Sto} (hx:x∈s) {c:Chg} (hc:c∈x.patch.changes) {y:Ident} (hy:y∈IL c):y.patch≠x.id∨y.patch=Dig.zero:=by
 by_cases hz:y.patch=Dig.zero
 ·exact .inr hz
 ·refine .inl fun e=>?_
  have hn:=Hz (v.id x hx).1 hc hy (by unfold EH;simp[hz])
  have:=v.rank hx (e ▸ hn)
  omega
theorem VI {s:List Sto} (v:Bc s) {x:Sto} (hx:x∈s) {l:List Dig} (hl: ∀ d,d∈l↔d=x.id) (m:Mta):K0 s l m=⟨m.author,m.message,m.time,x.patch.deps,x.patch.changes⟩:=by
 have hxi:x.id∈ids s:=AO.2 ⟨x,hx,rfl⟩
 obtain⟨a,b,e⟩:=bT (v.mem_order hxi)
 have hn:=(Ep s).nodup
 rw[e]at hn
 obtain⟨_,h2,h3⟩:=EU.1 hn
 obtain⟨h4,_⟩:=Bl.1 h2
 have ha: ∀ d∈a,¬d∈l:=fun d hd k=>h3 d hd x.id AF ((hl d).1 k)
 have hb: ∀ d∈b,¬d∈l:=fun d hd k=>h4 ((hl d).1 k ▸ hd)
 have hg:(getS s x.id).getD Pat.zero=x.patch:=by rw[v.getS hx];rfl
 have hchk:=(IM (v.id x hx).1).1
 have hp:=Gl hchk
 have hdeps:x.patch.deps.filter (fun e=>decide (¬e∈l))=x.patch.deps:=by
  rw[Oo]
  intro d hd
  refine BK fun k=>?_
  have hxe: ¬(CD x.patch).2≠0:=fun h=>by have:=(v.id x hx).1;rw[EW,if_pos h]at this;exact h this
  have:d∈Ax x.patch:=by
   rw[Ax,if_neg hxe,JH]
   exact .inl ((LZ _ [] .nil).2 d |>.2 (.inr hd))
  have:=v.rank hx this
  rw[(hl d).1 k]at this
  omega
 have hcs:x.patch.changes.map (GP (fJ (DJ x.id 0 []) x.id))=x.patch.changes:=by
  have:x.patch.changes.map (GP (fJ (DJ x.id 0 []) x.id))=x.patch.changes.map id:=by
   refine C6 fun c hc=>?_
   have hu:=v.uses hx hc
   have fix: ∀ y,(PB (N5 x.patch) y∧Jt s y)→y∈IL c→fJ (DJ x.id 0 []) x.id y=y:=fun y hy hyc=>by
    by_cases ho:EY y=true
    ·unfold fJ
     rw[if_pos ho]
     simp only[DJ,CU,if_true,if_pos hy.1.1]
     obtain⟨h1,_⟩:=FZ.1 ho
     cases y;simp_all
    ·have hz:y.patch≠Dig.zero:=fun e=>ho (FZ.2 ⟨e,hy.1.1⟩)
     refine sw hz fun k=>?_
     simp only[DJ,Aq,CG,Ag]at k
     exact(v.not_self hx hc hyc).elim (fun h=>h k) fun h=>hz h
   obtain⟨i,hi,hci⟩:=Ad.1 hc
   refine VE ⟨fun a b=>fix _ (hu.file a b) (by simp[IL]),fun a b=>fix _ (hu.parent a b) (by simp[IL]),fun a=>fix _ (hu.after a) (by simp[IL]),fun a=>fix _ (hu.before a) (by simp[IL]),fun y hy=>fix _ (hu.over y hy) (by simp[IL,hy])⟩ (cz _ _) ?_
   exact hci ▸ QP (hp.fields i hi)
  rw[this,XR]
 unfold K0
 rw[e,CH,PX _ ha,C0]
 have hj:jP s l ([],0,[],[]) x.id=(DJ x.id (0:Int) [],(0:Int)+cntS s x.id,x.patch.changes,x.patch.deps):=by
  unfold jP
  rw[if_pos ((hl x.id).2 rfl),hg]
  dsimp only
  rw[hcs,hdeps,B9,B9]
 rw[hj,PX _ hb]
 dsimp only
 have hA:=WG hchk
 rw[Gm.ext (Fw x.patch.deps).1 hA fun d=>(Fw x.patch.deps).2 d]
theorem oH {s:List Sto} (v:Bc s) {x:Sto} (hx:x∈s) {l:List Dig} (hl: ∀ d,d∈l↔d=x.id):lS s l=true:=by
 have hxi:x.id∈ids s:=AO.2 ⟨x,hx,rfl⟩
 rw[dF v]
 unfold xq
 rw[BJ]
 refine⟨BT.2 fun d hd=>BK ((hl d).1 hd ▸ hxi),BT.2 fun y hy=>?_⟩
 have hyi:y.id∈ids s:=AO.2 ⟨y,hy,rfl⟩
 by_cases hin:y.id∈l
 ·simp[hin]
 ·have hne:y.id≠x.id:=fun e=>hin ((hl _).2 e)
  simp only[hin,decide_false,Fi,AG,J0,Bf]
  by_cases hk:Mh s y.id x.id=true
  ·refine .inr fun q hq hk2=>?_
   rw[(hl q).1 hq]at hk2
   rw[MA v hyi,AB]at hk
   rw[MA v hxi,AB]at hk2
   have rk: ∀ {p q:Dig},p∈ids s→q∈Ot s p→q=p∨Q9 s q < Q9 s p:=fun {p q} hp hq=>by
    rw[v.mem_clo hp]at hq
    induction hq with
    |base h'=>exact .inl (Ag.1 h')
    |step hz hd ih=>
     have hzi:=hz.in_ (ids:= [p]) (U:=ids s) (fun y _ d hd=>v.close.nd y d hd) (fun y hy=>by rw[Ag.1 hy];exact hp)
     obtain⟨z,hzs,rfl⟩:=AO.1 hzi
     rw[v.ndS hzs]at hd
     have:=v.rank hzs hd
     rcases ih with ih|ih
     ·rw[←ih];exact .inr this
     ·exact .inr (by omega)
   rcases rk hyi hk with h1|h1
   ·exact hne h1.symm
   ·rcases rk hxi hk2 with h2|h2
    ·exact hne h2
    ·omega
  ·exact .inl fun q hq hk'=>hk ((hl q).1 hq ▸ hk')
def Kr (c:Chg):Nat:=(DZ c 0).length
theorem R6 (c:Chg) (n:Int):(DZ c n).length=Kr c:=by
 unfold Kr DZ
 repeat' split
 all_goals simp
def DT (cs:List Chg) (i:Nat):Nat:=((cs.take i).map Kr).sum
theorem PY: ∀ (l:List Chg) (own:List Atm),(l.foldl (fun own c=>own++DZ c own.length) own).length=own.length+(l.map Kr).sum
 | [],own=>by simp
 |c::l,own=>by
  rw[C0,PY l,AA,R6,Aq,DD];omega
theorem eO (cs:List Chg) (i:Nat):(YY cs i).length=DT cs i:=by
 unfold YY DT
 rw[PY];simp
theorem Vs.cnt {p:Pat} (h:Vs p):N5 p=DT p.changes p.changes.length:=by
 unfold N5 DT
 rw[h.made,PY,AE (Ak _)];simp
theorem JK {cs:List Chg} {i:Nat} (h:i < cs.length):DT cs (i+1)=DT cs i+Kr cs[i]:=by
 unfold DT
 rw[K4 h]
theorem RV (cs:List Chg):DT cs 0=0:=by simp[DT]
theorem FS (cs:List Chg) {i j:Nat} (h:i≤j):DT cs i≤DT cs j:=by
 obtain⟨k,rfl⟩: ∃ k,j=i+k:=⟨j - i,by omega⟩
 induction k with
 |zero=>exact Ak _
 |succ k ih=>
  refine CX (ih (by omega)) ?_
  by_cases hk:i+k < cs.length
  ·rw[show i+(k+1)=i+k+1 from rfl,JK hk];omega
  ·unfold DT
   rw[AE (by omega),AE (by omega)];exact Ak _
def E1 (cs:List Chg) (n:Int):Nat:=((List.range cs.length).filter fun i=>decide ((DT cs i:Int)≤n)).length - 1
theorem O4 {f:Nat→Nat} (hf: ∀ i j,i≤j→f i≤f j) {n:Int} {k:Nat}: ∀ {m:Nat},k < m→(f k:Int)≤n→(∀ i,k < i→i < m→ ¬(f i:Int)≤n)→((List.range m).filter fun i=>decide ((f i:Int)≤n)).length=k+1
 |0,h,_,_=>absurd h (Dv _)
 |m+1,h,h1,h2=>by
  rw[E8,Fc,AA]
  by_cases hk:k=m
  ·subst hk
   have hall:((List.range k).filter fun i=>decide ((f i:Int)≤n))=List.range k:=by
    rw[Oo]
    intro i hi
    have:=hf i k (by have:=BW.1 hi;omega)
    exact BK (by omega)
   rw[hall,El (by simpa using h1)];simp
  ·have:=O4 (n:=n) hf (m:=m) (by omega) h1 fun i a b=>h2 i a (by omega)
   rw[this,En (by simpa using h2 m (by omega) (by omega))];simp
theorem cK {cs:List Chg} {n:Int} {k:Nat} (hk:k < cs.length) (h1:(DT cs k:Int)≤n) (h2:n < DT cs (k+1)):E1 cs n=k:=by
 unfold E1
 rw[O4 (f:=DT cs) (fun i j h=>FS cs h) hk h1 fun i a _=>?_]
 ·rfl
 ·have:=FS cs (show k+1≤i by omega)
  omega
theorem cN (cs:List Chg) (n:Int) (h0:0≤n): ∀ m,m≤cs.length→n < DT cs m→ ∃ k,k < m∧(DT cs k:Int)≤n∧n < DT cs (k+1)
 |0,_,h=>by rw[RV]at h;omega
 |m+1,hm,h=>by
  by_cases hn:n < DT cs m
  ·obtain⟨k,a,b,c⟩:=cN cs n h0 m (by omega) hn
   exact⟨k,by omega,b,c⟩
  ·exact⟨m,by omega,by omega,h⟩
theorem Nu {cs:List Chg} {n:Int} {m:Nat} (hm:m≤cs.length) (h0:0≤n) (h:n < DT cs m):E1 cs n < m∧(DT cs (E1 cs n):Int)≤n∧n < DT cs (E1 cs n+1):=by
 obtain⟨k,a,b,c⟩:=cN cs n h0 m hm h
 rw[cK (by omega) b c]
 exact⟨a,b,c⟩
structure KG (P:List (List Nat)) (n:Nat):Prop where
 ne: ∀ l∈P,l≠ []
 asc: ∀ l∈P,l.Pairwise fun a b=>a < b
 lt: ∀ l∈P,∀ c∈l,c < n
 apart:P.Pairwise fun l m=> ∀ c∈l,c∉m
 all: ∀ c,c < n→ ∃ l∈P,c∈l
def Jn (P:List (List Nat)) (c:Nat):Nat:=P.findIdx fun l=>decide (c∈l)
theorem Nx: ∀ {P:List (List Nat)},(P.Pairwise fun l m=> ∀ c∈l,c∉m)→ ∀ {k:Nat} (hk:k < P.length) {c:Nat},c∈P[k]→Jn P c=k
 | [],_,k,hk,_,_=>absurd hk (Dv _)
 |l::P,h,0,_,c,hc=>by
  unfold Jn
  rw[H4]
  have:decide (c∈l)=true:=BK hc
  rw[this];rfl
 |l::P,h,k+1,hk,c,hc=>by
  obtain⟨h1,h2⟩:=Bn.1 h
  have hk':k < P.length:=by simpa using hk
  have hc':c∈P[k]:=by simpa using hc
  have hn: ¬c∈l:=fun hl=>h1 _ (AJ hk') c hl hc'
  have ih:=Nx h2 hk' hc'
  unfold Jn at ih ⊢
  rw[H4]
  have:decide (c∈l)=false:=Ck hn
  rw[this,cond_false,ih]
theorem KG.mem {P:List (List Nat)} {n:Nat} (h:KG P n) {c:Nat} (hc:c < n): ∃ hk:Jn P c < P.length,c∈P[Jn P c]:=by
 obtain⟨l,hl,hcl⟩:=h.all c hc
 obtain⟨k,hk,rfl⟩:=Ad.1 hl
 rw[Nx h.apart hk hcl]
 exact⟨hk,hcl⟩
def S8 (P:List (List Nat)) (cs:List Chg) (c:Nat):Nat:=(((List.range c).filter fun d=>decide (Jn P d=Jn P c)).map fun d=>Kr (cs.getD d Chg.zero)).sum
theorem OI {P:List (List Nat)} {n:Nat} (h:KG P n) {cs:List Chg} {k:Nat} (hk:k < P.length) {a b:List Nat} {c:Nat} (e:P[k]=a++c::b):S8 P cs c=(a.map fun d=>Kr (cs.getD d Chg.zero)).sum:=by
 have hc:c∈P[k]:=by rw[e];simp
 have hi:=Nx h.apart hk hc
 have hasc:=h.asc _ (AJ hk)
 rw[e]at hasc
 obtain⟨ha,hb,hab⟩:=H2.1 hasc
 have hcn:c < n:=h.lt _ (AJ hk) c hc
 have key:((List.range c).filter fun d=>decide (Jn P d=Jn P c))=a:=by
  refine aN (r:=fun a b:Nat=>a < b) Ff (fun _ _ _=>Nat.lt_trans) (List.pairwise_lt_range.filter _) ha fun d=>?_
  rw[Ef,BW,AB,hi]
  constructor
  ·rintro⟨h1,h2⟩
   obtain⟨hk',hd⟩:=h.mem (c:=d) (by omega)
   have hd:d∈P[k]:=by
    have:=hd
    simp only[h2]at this
    exact this
   rw[e]at hd
   rcases Ai.1 hd with hd|hd
   ·exact hd
   ·rcases AH.1 hd with hd|hd
    ·omega
    ·have:=(Bn.1 hb).1 d hd
     omega
  ·intro hd
   exact⟨hab d hd c AF,Nx h.apart hk (by rw[e];exact EI _ hd)⟩
 unfold S8
 rw[key]
def fS (P:List (List Nat)) (cs:List Chg) (is:List Dig) (k:Nat) (y:Ident):Ident:=
 if EY y=true then⟨if Jn P (E1 cs y.n)=k then Dig.zero else is.getD (Jn P (E1 cs y.n)) Dig.zero,y.n - DT cs (E1 cs y.n)+S8 P cs (E1 cs y.n)⟩else y
def Kp (id:Dig) (P:List (List Nat)) (cs:List Chg) (is:List Dig) (k:Nat) (c:Nat):Mvd:=
 ⟨id,DT cs c,(DT cs c:Int)+Kr (cs.getD c Chg.zero),if Jn P c=k then Dig.zero else is.getD (Jn P c) Dig.zero,S8 P cs c⟩
theorem nT {l:List Mvd} {e:Mvd} {x:Ident} (he:e∈l) (h1:x.patch=e.old∧e.lo≤x.n∧x.n < e.hi) (hu: ∀ m∈l,x.patch=m.old∧m.lo≤x.n∧x.n < m.hi→m=e):Ye l x=⟨e.patch,e.dst+x.n - e.lo⟩:=by
 induction l with
 |nil=>cases he
 |cons m l ih=>
  unfold Ye
  by_cases h:x.patch=m.old∧m.lo≤x.n∧x.n < m.hi
  ·rw[if_pos h,hu m AF h]
  ·rw[if_neg h]
   refine ih ?_ fun m' hm=>hu m' (AI _ hm)
   rcases AH.1 he with rfl|he
   ·exact absurd h1 h
   ·exact he
theorem qP {id:Dig} {P:List (List Nat)} {cs:List Chg} {is:List Dig} {k:Nat} {D:List Nat} (hD: ∀ c∈D,c < cs.length) {y:Ident} (hy:EY y=true→y.n < DT cs cs.length∧E1 cs y.n∈D) (hn:EY y=false→y.patch≠id∨y.n < 0):
  fS P cs is k y=gM (D.map (Kp id P cs is k)) id y:=by
 unfold fS gM
 by_cases ho:EY y=true
 ·rw[if_pos ho,if_pos ho]
  obtain⟨hlt,hin⟩:=hy ho
  have h0:=(FZ.1 ho).2
  obtain⟨a,b,c⟩:=Nu (Ak _) h0 hlt
  have e0: ∀ {d:Nat} (hd:d < cs.length),(DT cs d:Int)+Kr (cs.getD d Chg.zero)=DT cs (d+1):=fun {d} hd=>by
   rw[JK hd,Cr,AW hd,Br];omega
  rw[nT (x:=⟨id,y.n⟩) (e:=Kp id P cs is k (E1 cs y.n)) (AO.2 ⟨_,hin,rfl⟩) ⟨rfl,b,by unfold Kp;dsimp only;rw[e0 a];exact c⟩ fun m hm h=>?_]
  ·unfold Kp
   dsimp only
   congr 1
   omega
  ·obtain⟨d,hd,rfl⟩:=AO.1 hm
   unfold Kp at h
   dsimp only at h
   rw[e0 (hD d hd)]at h
   rw[cK (hD d hd) h.2.1 h.2.2]
 ·rw[if_neg ho,if_neg ho]
  refine(RE fun m hm e h=>?_).symm
  obtain⟨d,hd,rfl⟩:=AO.1 hm
  unfold Kp at e h
  dsimp only at e h
  rcases hn (by simpa using ho)with h'|h'
  ·exact absurd e h'
  ·omega
theorem UX {P:List (List Nat)} {n:Nat} (h:KG P n) {cs:List Chg} {c d:Nat} (hc:c < d) (hd:d < n) (e:Jn P c=Jn P d):S8 P cs c+Kr (cs.getD c Chg.zero)≤S8 P cs d:=by
 obtain⟨hk,hcm⟩:=h.mem (c:=c) (by omega)
 obtain⟨hk',hdm⟩:=h.mem hd
 have hdm:d∈P[Jn P c]:=by simp only[e];exact hdm
 obtain⟨a,b,hab⟩:=bT hdm
 have hasc:=h.asc _ (AJ hk)
 rw[hab]at hasc
 obtain⟨_,hb,_⟩:=H2.1 hasc
 have hca:c∈a:=by
  rw[hab]at hcm
  rcases Ai.1 hcm with h1|h1
  ·exact h1
  ·rcases AH.1 h1 with h1|h1
   ·omega
   ·have:=(Bn.1 hb).1 c h1
    omega
 obtain⟨a1,a2,ha⟩:=bT hca
 subst ha
 have hab':P[Jn P c]=a1++c::(a2++d::b):=by rw[hab];simp
 rw[OI h hk hab',OI h hk hab]
 simp only[An,Aq,DX,DD]
 omega
theorem sv {P:List (List Nat)} {cs:List Chg} (h:KG P cs.length) {is:List Dig} {k:Nat} (hz: ∀ j,j < k→is.getD j Dig.zero≠Dig.zero) (hn: ∀ i j,i < k→j < k→is.getD i Dig.zero=is.getD j Dig.zero→i=j)
  {G:Ident→Prop} (hG: ∀ y,G y→0≤y.n∧(EY y=true→y.n < DT cs cs.length∧Jn P (E1 cs y.n)≤k)∧(EY y=false→y.patch≠Dig.zero∧ ∀ j,j < k→y.patch≠is.getD j Dig.zero))
  {y z:Ident} (gy:G y) (gz:G z) (e:fS P cs is k y=fS P cs is k z):y=z:=by
 obtain⟨y0,y1,y2⟩:=hG y gy
 obtain⟨z0,z1,z2⟩:=hG z gz
 have pp: ∀ {w:Ident},EY w=true→Jn P (E1 cs w.n)≤k→(fS P cs is k w).patch=Dig.zero∧Jn P (E1 cs w.n)=k∨Jn P (E1 cs w.n) < k∧(fS P cs is k w).patch=is.getD (Jn P (E1 cs w.n)) Dig.zero:=fun {w} hw hk=>by
  unfold fS
  rw[if_pos hw]
  dsimp only
  by_cases hi:Jn P (E1 cs w.n)=k
  ·rw[if_pos hi];exact .inl ⟨rfl,hi⟩
  ·rw[if_neg hi];exact .inr ⟨by omega,rfl⟩
 by_cases oy:EY y=true
 ·obtain⟨a1,a2⟩:=y1 oy
  by_cases oz:EY z=true
  ·obtain⟨b1,b2⟩:=z1 oz
   have same:Jn P (E1 cs y.n)=Jn P (E1 cs z.n):=by
    rcases pp oy a2 with ⟨p1,p2⟩|⟨p1,p2⟩<;>rcases pp oz b2 with ⟨q1,q2⟩|⟨q1,q2⟩
    ·rw[p2,q2]
    ·rw[e,q2]at p1;exact absurd p1 (hz _ q1)
    ·rw[e,q1]at p2;exact absurd p2.symm (hz _ p1)
    ·rw[e,q2]at p2;exact(hn _ _ q1 p1 p2).symm
   obtain⟨c1,c2,c3⟩:=Nu (Ak _) y0 a1
   obtain⟨d1,d2,d3⟩:=Nu (Ak _) z0 b1
   have en:y.n - DT cs (E1 cs y.n)+S8 P cs (E1 cs y.n)=z.n - DT cs (E1 cs z.n)+S8 P cs (E1 cs z.n):=by
    have:=congrArg Ident.n e
    unfold fS at this
    rw[if_pos oy,if_pos oz]at this
    exact this
   have cn: ∀ {d:Nat} (hd:d < cs.length),DT cs (d+1)=DT cs d+Kr (cs.getD d Chg.zero):=fun {d} hd=>by
    rw[JK hd,Cr,AW hd,Br]
   rw[cn c1]at c3
   rw[cn d1]at d3
   have hnn:y.n=z.n:=by
    rcases Qo (E1 cs y.n) (E1 cs z.n)with hl|hl|hl
    ·have:=UX h (cs:=cs) hl d1 same
     omega
    ·rw[hl]at en;omega
    ·have:=UX h (cs:=cs) hl c1 same.symm
     omega
   have hp:y.patch=z.patch:=by rw[(FZ.1 oy).1,(FZ.1 oz).1]
   cases y;cases z;simp_all
  ·have oz:EY z=false:=by simpa using oz
   obtain⟨q1,q2⟩:=z2 oz
   have e2:fS P cs is k z=z:=by unfold fS;rw[if_neg (by simp[oz])]
   rw[e2]at e
   rcases pp oy a2 with ⟨p1,_⟩|⟨p1,p2⟩
   ·rw[e]at p1;exact absurd p1 q1
   ·rw[e]at p2;exact absurd p2 (q2 _ p1)
 ·have oy:EY y=false:=by simpa using oy
  obtain⟨p1,p2⟩:=y2 oy
  have e1:fS P cs is k y=y:=by unfold fS;rw[if_neg (by simp[oy])]
  rw[e1]at e
  by_cases oz:EY z=true
  ·obtain⟨b1,b2⟩:=z1 oz
   rcases pp oz b2 with ⟨q1,_⟩|⟨q1,q2⟩
   ·rw[←e]at q1;exact absurd q1 p1
   ·rw[←e]at q2;exact absurd q2 (p2 _ q1)
  ·have oz:EY z=false:=by simpa using oz
   have e2:fS P cs is k z=z:=by unfold fS;rw[if_neg (by simp[oz])]
   rw[e2]at e
   exact e
def Ct (c:Chg):List Ident:=(if 2≤c.kind∧c.kind≤6 then [c.file]else [])++(if c.kind=2 then [c.parent]else [])++(if c.kind=5∨c.kind=6 then [c.after,c.before]else [])++c.over
def JM (P:List (List Nat)) (cs:List Chg):Bool:=(List.range cs.length).any fun i=>(Ct (cs.getD i Chg.zero)).any fun y=>EY y&&decide (Jn P i < Jn P (E1 cs y.n))
theorem Zj {c:Chg} {G:Ident→Prop} (h: ∀ y∈Ct c,G y):OC c G:=by
 unfold Ct at h
 refine⟨fun a b=>h _ ?_,fun a _=>h _ ?_,fun a=>h _ ?_,fun a=>h _ ?_,fun y hy=>h _ ?_⟩
 ·simp[a,b]
 ·simp[a]
 ·rw[if_pos a];simp
 ·rw[if_pos a];simp
 ·simp[hy]
def Pz (id:Dig) (cs:List Chg) (r:List Mvd × Int × List Chg) (c:Nat):List Mvd × Int × List Chg:=
 let l:=r.1++ [⟨id,DT cs c,(DT cs c:Int)+Kr (cs.getD c Chg.zero),Dig.zero,r.2.1⟩]
 (l,r.2.1+Kr (cs.getD c Chg.zero),r.2.2++ [dx (gM l id) (cs.getD c Chg.zero)])
structure HR (s:List Sto) (x:Sto) (P:List (List Nat)):Prop where
 val:Bc s
 mem:x∈s
 parts:KG P x.patch.changes.length
 early:JM P x.patch.changes=false
theorem HR.uses {s:List Sto} {x:Sto} {P:List (List Nat)} (h:HR s x P) {c:Nat} (hc:c < x.patch.changes.length):
  OC x.patch.changes[c] fun y=>0≤y.n∧(EY y=true→y.n < DT x.patch.changes c∧Jn P (E1 x.patch.changes y.n)≤Jn P c)∧(EY y=false→y.patch≠Dig.zero∧y.patch≠x.id∧y.patch∈ids s):=by
 have hp:=Gl (IM (h.val.id x h.mem).1).1
 have h1:=Su (hp.refs c hc)
 have h2:=h.val.uses h.mem (AJ hc)
 have h3:OC x.patch.changes[c] fun y=>EY y=true→Jn P (E1 x.patch.changes y.n)≤Jn P c:=Zj fun y hy ho=>by
  have h0:=Bf.1 h.early c (BW.2 hc)
  rw[Cr,AW hc,Br,Hj]at h0
  have h1:=Bf.1 h0 y hy
  rw[ho,Fh,AB]at h1
  omega
 have h4:OC x.patch.changes[c] fun y=>y.patch≠x.id∨y.patch=Dig.zero:=⟨fun _ _=>h.val.not_self h.mem (AJ hc) (by simp[IL]),fun _ _=>h.val.not_self h.mem (AJ hc) (by simp[IL]),fun _=>h.val.not_self h.mem (AJ hc) (by simp[IL]),fun _=>h.val.not_self h.mem (AJ hc) (by simp[IL]),fun y hy=>h.val.not_self h.mem (AJ hc) (by simp[IL,hy])⟩
 refine(((h1.and h2).and h3).and h4).mono fun y ⟨⟨⟨a1,a2⟩,a3⟩,a4⟩=>⟨a1.1,fun ho=>⟨?_,a3 ho⟩,fun ho=>?_⟩
 ·have:=a1.2 (FZ.1 ho).1
  rw[eO]at this
  exact this
 ·have hz:y.patch≠Dig.zero:=fun e=>by
   have:=FZ.2 ⟨e,a1.1⟩
   rw[ho]at this;cases this
  obtain⟨z,hz1,hz2,_⟩:=a2.2 hz
  exact⟨hz,a4.elim id fun e=>absurd e hz,hz2 ▸ AO.2 ⟨z,hz1,rfl⟩⟩
theorem HR.change {s:List Sto} {x:Sto} {P:List (List Nat)} (h:HR s x P) {is:List Dig} {k:Nat} (hz: ∀ j,j < k→is.getD j Dig.zero≠Dig.zero) (hn: ∀ i j,i < k→j < k→is.getD i Dig.zero=is.getD j Dig.zero→i=j)
  (hs: ∀ j,j < k→is.getD j Dig.zero∈ids s→is.getD j Dig.zero=x.id) {c:Nat} (hc:c < x.patch.changes.length) (hk:Jn P c=k)
  {D:List Nat} (hD: ∀ d∈D,d < x.patch.changes.length) (hall: ∀ d,d < x.patch.changes.length→(Jn P d < k∨Jn P d=k∧d < c)→d∈D):
  GP (fS P x.patch.changes is k) x.patch.changes[c]=dx (gM (D.map (Kp x.id P x.patch.changes is k)) x.id) x.patch.changes[c]:=by
 have hp:=Gl (IM (h.val.id x h.mem).1).1
 have hu:=h.uses hc
 have hm:=FS x.patch.changes (show c≤x.patch.changes.length by omega)
 refine VF (hu.mono fun y ⟨a0,a1,a2⟩=>?_) ?_ ?_
 ·refine qP hD (fun ho=>?_) fun ho=> .inl (a2 ho).2.1
  obtain⟨b1,b2⟩:=a1 ho
  obtain⟨c1,_,_⟩:=Nu (cs:=x.patch.changes) (m:=c) (by omega) a0 b1
  refine⟨by omega,hall _ (by omega) ?_⟩
  rw[hk]at b2
  omega
 ·refine qP hD (fun ho=>absurd ho (by decide)) fun _=> .inr (by decide)
 ·refine Qq.2 ((QP (hp.fields c hc)).nodup.imp_of_mem fun {y z} hy hz' hne e=>hne ?_)
  refine sv h.parts hz hn (G:=fun y=>0≤y.n∧(EY y=true→y.n < DT x.patch.changes c∧Jn P (E1 x.patch.changes y.n)≤Jn P c)∧(EY y=false→y.patch≠Dig.zero∧y.patch≠x.id∧y.patch∈ids s)) (fun y ⟨a0,a1,a2⟩=>⟨a0,fun ho=>?_,fun ho=>⟨(a2 ho).1,fun j hj e=>?_⟩⟩) (hu.over y hy) (hu.over z hz') e
  ·obtain⟨b1,b2⟩:=a1 ho
   exact⟨by omega,by omega⟩
  ·obtain⟨_,b2,b3⟩:=a2 ho
   rw[e]at b2 b3
   exact b2 (hs j hj b3)
def Ia (x:Sto) (P:List (List Nat)) (is:List Dig) (l:List Nat) (m:Mta):Pat:=
 ⟨m.author,m.message,m.time,Kh (sortD (Ax x.patch++is)),l.map fun c=>GP (fS P x.patch.changes is is.length) (x.patch.changes.getD c Chg.zero)⟩
def SB (x:Sto) (P:List (List Nat)):List (List Nat × Mta)→List Sto→List Dig→List Sto × List Dig × Int
 | [],t,is=>(t,is,0)
 |e::o,t,is=>if(FJ t (Ia x P is e.1 e.2)).2.2≠0 then([],[],(FJ t (Ia x P is e.1 e.2)).2.2)else SB x P o (FJ t (Ia x P is e.1 e.2)).1 (is++ [(FJ t (Ia x P is e.1 e.2)).2.1])
def QN (x:Sto) (deps:List Dig) (done:List Mvd) (l:List Nat) (m:Mta):Pat:=
 ⟨m.author,m.message,m.time,deps,(l.foldl (Pz x.id x.patch.changes) (done,0,[])).2.2⟩
def jY (x:Sto) (done:List Mvd) (l:List Nat) (d:Dig):List Mvd:=
 done++(((l.foldl (Pz x.id x.patch.changes) (done,0,[])).1).drop done.length).map fun e=>{ e with patch:=d }
def mH (x:Sto):List (List Nat × Mta)→List Sto→List Dig→List Dig→List Mvd→List Sto × List Dig × Int
 | [],t,is,_,_=>(t,is,0)
 |e::o,t,is,deps,done=>if(FJ t (QN x deps done e.1 e.2)).2.2≠0 then([],[],(FJ t (QN x deps done e.1 e.2)).2.2)else mH x o (FJ t (QN x deps done e.1 e.2)).1 (is++ [(FJ t (QN x deps done e.1 e.2)).2.1]) (FU deps (FJ t (QN x deps done e.1 e.2)).2.1) (jY x done e.1 (FJ t (QN x deps done e.1 e.2)).2.1)
structure U4 (s:List Sto) (x:Sto) (is:List Dig):Prop where
 nz: ∀ d∈is,d≠Dig.zero
 nodup:is.Nodup
 old: ∀ d∈is,d∈ids s→d=x.id
theorem Kf {is:List Dig} {j:Nat} (h:j < is.length):is.getD j Dig.zero=is[j]:=by simp[List.getD,h]
theorem HR.steps {s:List Sto} {x:Sto} {P:List (List Nat)} (h:HR s x P) {is:List Dig} (hn:U4 s x is) (hk:is.length < P.length): ∀ j,j≤(P[is.length]).length→
  ((P[is.length]).take j).foldl (Pz x.id x.patch.changes) ((P.take is.length).flatten.map (Kp x.id P x.patch.changes is is.length),0,[])=
   (((P.take is.length).flatten++(P[is.length]).take j).map (Kp x.id P x.patch.changes is is.length),(((((P[is.length]).take j).map fun d=>Kr (x.patch.changes.getD d Chg.zero)).sum:Nat):Int),((P[is.length]).take j).map fun c=>GP (fS P x.patch.changes is is.length) (x.patch.changes.getD c Chg.zero)):=by
 intro j
 have hP:=h.parts
 have hlt: ∀ d∈P[is.length],d < x.patch.changes.length:=hP.lt _ (AJ hk)
 induction j with
 |zero=>intro _;simp
 |succ j ih=>
  intro hj
  have hj':j < (P[is.length]).length:=by omega
  have e:(P[is.length]).take (j+1)=(P[is.length]).take j++ [(P[is.length])[j]]:=A7 hj'
  have hc:=hlt _ (AJ hj')
  have hin:Jn P (P[is.length])[j]=is.length:=Nx hP.apart hk (AJ hj')
  have hsta:S8 P x.patch.changes (P[is.length])[j]=(((P[is.length]).take j).map fun d=>Kr (x.patch.changes.getD d Chg.zero)).sum:=by
   refine OI hP hk (b:=(P[is.length]).drop (j+1)) ?_
   rw[←CP hj',C7]
  have hent:Kp x.id P x.patch.changes is is.length (P[is.length])[j]=⟨x.id,DT x.patch.changes (P[is.length])[j],(DT x.patch.changes (P[is.length])[j]:Int)+Kr (x.patch.changes.getD (P[is.length])[j] Chg.zero),Dig.zero,((((P[is.length]).take j).map fun d=>Kr (x.patch.changes.getD d Chg.zero)).sum:Nat)⟩:=by
   unfold Kp
   rw[if_pos hin,hsta]
  rw[e,CH,ih (by omega),C0,Pn]
  unfold Pz
  dsimp only
  rw[←hent]
  have hmap:((P.take is.length).flatten++(P[is.length]).take j).map (Kp x.id P x.patch.changes is is.length)++ [Kp x.id P x.patch.changes is is.length (P[is.length])[j]]=((P.take is.length).flatten++((P[is.length]).take j++ [(P[is.length])[j]])).map (Kp x.id P x.patch.changes is is.length):=by
   simp only[An,Aq,CG,AV]
  rw[hmap]
  have hget:x.patch.changes.getD (P[is.length])[j] Chg.zero=x.patch.changes[(P[is.length])[j]]:=by simp[List.getD,hc]
  have hch:=h.change (is:=is) (k:=is.length) (fun i hi=>by rw[Kf hi];exact hn.nz _ (AJ hi)) (fun i i' hi hi' e=>by
   rw[Kf hi,Kf hi']at e
   exact(List.getElem_inj hn.nodup).1 e) (fun i hi hs=>by rw[Kf hi]at hs ⊢;exact hn.old _ (AJ hi) hs) hc hin
   (D:=(P.take is.length).flatten++((P[is.length]).take j++ [(P[is.length])[j]])) (fun d hd=>by
    rcases Ai.1 hd with hd|hd
    ·obtain⟨l,hl,hdl⟩:=EA.1 hd
     exact hP.lt l (Ek hl) d hdl
    ·rw[←e]at hd
     exact hlt d (Ek hd)) (fun d hd hor=>by
    obtain⟨hk',hdm⟩:=hP.mem hd
    rcases hor with hlt'|⟨heq,hdc⟩
    ·exact EI _ (EA.2 ⟨_,DV.2 ⟨Jn P d,by omega,rfl⟩,hdm⟩)
    ·refine ED _ (EI _ ?_)
     have hdm:d∈P[is.length]:=by simp only[heq]at hdm;exact hdm
     obtain⟨i,hi,rfl⟩:=Ad.1 hdm
     have hij:i < j:=by
      rcases BP i j with h'|h'
      ·exact h'
      ·exfalso
       rcases Nat.eq_or_lt_of_le h' with h'|h'
       ·subst h';omega
       ·have:=B7.1 (hP.asc _ (AJ hk)) j i hj' hi h'
        omega
     exact DV.2 ⟨i,by omega,rfl⟩)
  rw[hget,←hch]
  simp only[An,Aq,CG,DX,DD,Jm,hget,Prod.mk.injEq,true_and,and_true]
  omega
theorem HR.part {s:List Sto} {x:Sto} {P:List (List Nat)} (h:HR s x P) {is:List Dig} (hn:U4 s x is) (hk:is.length < P.length) (m:Mta):
  QN x (Kh (sortD (Ax x.patch++is))) ((P.take is.length).flatten.map (Kp x.id P x.patch.changes is is.length)) P[is.length] m=Ia x P is P[is.length] m∧
  ∀ d,jY x ((P.take is.length).flatten.map (Kp x.id P x.patch.changes is is.length)) P[is.length] d=(P.take (is.length+1)).flatten.map (Kp x.id P x.patch.changes (is++ [d]) (is.length+1)):=by
 have hst:=h.steps hn hk (P[is.length]).length (Ak _)
 rw[AE (Ak _)]at hst
 refine⟨?_,fun d=>?_⟩
 ·unfold QN Ia
  rw[hst]
 ·unfold jY
  rw[hst]
  dsimp only
  have e:P.take (is.length+1)=P.take is.length++ [P[is.length]]:=A7 hk
  rw[e,CF,An,An,XU,GV,CK]
  congr 1
  ·refine C6 fun c hc=>?_
   obtain⟨l,hl,hcl⟩:=EA.1 hc
   obtain⟨i,hi,rfl⟩:=DV.1 hl
   have hin:Jn P c=i:=Nx h.parts.apart (by omega) hcl
   unfold Kp
   rw[hin,if_neg (by omega),if_neg (by omega)]
   congr 1
   rw[Kf (by omega),Kf (by simp;omega),BN]
  ·refine C6 fun c hc=>?_
   have hin:Jn P c=is.length:=Nx h.parts.apart hk hc
   unfold Kp
   simp only[Function.comp_apply,hin,if_true]
   rw[if_neg (by omega),Kf (by simp)]
   simp
theorem aJ {l:List Dig} (h:Dig.zero∈l):H9 l≠0:=by
 unfold H9
 split
 ·omega
 intro k
 obtain⟨i,hi,e⟩:=Ad.1 h
 have:=Cc k i (BW.2 hi)
 unfold Fj at this
 rw[if_pos (by simp[List.getD,hi,e])]at this
 omega
theorem eH {t:List Sto} {a m:Str} {i:Int} {deps:List Dig} {cs cs':List Chg} (h:Dig.zero∈deps):FJ t ⟨a,m,i,deps,cs⟩=FJ t ⟨a,m,i,deps,cs'⟩∧(FJ t ⟨a,m,i,deps,cs⟩).2.2≠0:=by
 have hd:=aJ h
 have hc: ∀ cs cs':List Chg,(Bo ⟨a,m,i,deps,cs⟩).2=(Bo ⟨a,m,i,deps,cs'⟩).2∧(Bo ⟨a,m,i,deps,cs⟩).2≠0:=fun cs cs'=>by
  unfold Bo
  dsimp only
  split
  ·exact⟨rfl,by simp⟩
  split
  ·exact⟨rfl,by simp⟩
  split
  ·exact⟨rfl,by simp⟩
  exact⟨rfl,hd⟩
 have hr: ∀ cs:List Chg,EW ⟨a,m,i,deps,cs⟩=(Dig.zero,(Bo ⟨a,m,i,deps,cs⟩).2):=fun cs=>by
  have:=(hc cs cs).2
  unfold EW CD
  rw[if_pos this]
  dsimp only
  rw[if_pos this]
 have ha: ∀ cs:List Chg,FJ t ⟨a,m,i,deps,cs⟩=([],Dig.zero,(Bo ⟨a,m,i,deps,cs⟩).2):=fun cs=>by
  unfold FJ
  rw[hr]
  dsimp only
  rw[if_pos (hc cs cs).2]
 rw[ha,ha,(hc cs cs').1]
 exact⟨rfl,by rw[←(hc cs cs').1];exact(hc cs cs').2⟩
end Go.Proofs
