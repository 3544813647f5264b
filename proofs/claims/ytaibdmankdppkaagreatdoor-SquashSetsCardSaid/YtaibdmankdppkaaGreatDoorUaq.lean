/- The example of the statements of layer 17: a file, a line in it, and a file of another author. -/
import Derived.Test.YtaibdmankdppkaaGreatDoorUap
import Derived.Test.YtaibdmankdppkaaGreatDoorUao
import Derived.Test.YtaibdmankdppkaaGreatDoorUan
set_option linter.unusedSimpArgs false
set_option linter.unusedVariables false
namespace Go.Proofs
open Go Go.Q
def cN:Dig:=⟨[209,215,128,53,238,251,106,196,245,2,206,112,154,168,198,4,66,36,85,131,114,133,77,50,25,101,179,105,218,149,57,133],rfl⟩
def rZ:Dig:=⟨[234,79,61,16,149,93,210,77,109,138,121,50,140,158,64,68,63,99,235,247,105,210,173,16,203,104,162,205,29,130,230,63],rfl⟩
def pk:Dig:=⟨[74,226,31,219,114,2,101,1,252,138,12,111,103,175,102,211,8,175,186,83,231,92,101,199,238,238,231,140,175,139,225,84],rfl⟩
def zY:Chg:={ Chg.zero with kind:=1,type:=1 }
def awI:Chg:={ Chg.zero with kind:=5,file:=⟨cN,0⟩,after:=⟨cN,0⟩,before:=⟨cN,0⟩,lines:= [[120]] }
def uU:Pat:=⟨[97,110,110],[],0,[],[zY]⟩
def vg:Pat:=⟨[97,110,110],[],0,[],[awI]⟩
def awC:Pat:=⟨[98,111,98],[],0,[],[zY]⟩
def aw1S:List Sto:= [⟨cN,uU⟩]
def aw2S:List Sto:= [⟨cN,uU⟩,⟨rZ,vg⟩]
theorem uR:Ee [] uU=(aw1S,cN,0):=by decide+kernel
theorem uQ:Ee aw1S vg=(aw2S,rZ,0):=by decide+kernel
theorem eU:Fk uU=false∧Fk vg=false∧Fk awC=false:=by decide+kernel
theorem pj:LG []=true:=by decide+kernel
theorem ph:LG aw1S=true:=by decide+kernel
theorem pg:LG aw2S=true:=by decide+kernel
def yc:Dig:=⟨[29,5,81,176,77,171,31,168,3,84,99,177,155,5,61,168,37,109,70,193,94,5,28,98,24,204,118,247,185,184,170,220],rfl⟩
def yb:Dig:=⟨[240,168,68,31,108,233,64,210,234,68,91,7,227,21,139,135,67,203,230,233,173,209,83,239,153,132,174,43,167,0,34,187],rfl⟩
def r9:Dig:=⟨[213,83,79,138,58,73,5,36,69,187,190,214,93,193,171,28,47,86,11,254,23,204,168,89,142,6,60,190,106,212,44,43],rfl⟩
end Go.Proofs
namespace Go.Proofs
open Go Go.Q Go.Sort
theorem bQ {α:Type} {r:α→α→Prop} (irr: ∀ a,¬r a a) (tr: ∀ a b c,r a b→r b c→r a c): ∀ {l m:List α},l.Pairwise r→m.Pairwise r→(∀ x,x∈l↔x∈m)→l=m
 | [],[],_,_,_=>rfl
 | [],y::m,_,_,h=>absurd ((h y).2 AI) (Aa)
 |x::l,[],_,_,h=>absurd ((h x).1 AI) (Aa)
 |x::l,y::m,h1,h2,h=>by
  obtain⟨a1,a2⟩:=Bn.1 h1
  obtain⟨b1,b2⟩:=Bn.1 h2
  have e:x=y:=by
   rcases AF.1 ((h x).1 AI)with e|hx
   ·exact e
   ·rcases AF.1 ((h y).2 AI)with e|hy
    ·exact e.symm
    ·exact absurd (tr _ _ _ (b1 x hx) (a1 y hy)) (irr _)
  subst e
  rw[bQ irr tr a2 b2 fun z=>?_]
  constructor
  ·intro hz
   rcases AF.1 ((h z).1 (AL _ hz))with e|h'
   ·subst e;exact absurd (a1 _ hz) (irr _)
   ·exact h'
  ·intro hz
   rcases AF.1 ((h z).2 (AL _ hz))with e|h'
   ·subst e;exact absurd (b1 _ hz) (irr _)
   ·exact h'
abbrev UZ (l:List Ident):Prop:=l.Pairwise fun a b=>Hd a b < 0
theorem lf {l m:List Ident} (h1:UZ l) (h2:UZ m) (h: ∀ x,x∈l↔x∈m):l=m:=
 bQ (r:=fun a b=>Hd a b < 0) Ident.lt_irrefl (fun _ _ _=>Ident.lt_trans) h1 h2 h
theorem UZ.nodup {l:List Ident} (h:UZ l):l.Nodup:=h.imp fun {a b} hab e=>by subst e;exact Ident.lt_irrefl _ hab
theorem Tp {x d:Ident}: ∀ {l:List Ident},x∈Ik l d↔x=d∨x∈l
 | []=>by simp[Ik]
 |y::l=>by
  unfold Ik
  split
  ·rw[AF,Tp,AF]
   constructor
   ·rintro(h|h|h)
    ·exact .inr (.inl h)
    ·exact .inl h
    ·exact .inr (.inr h)
   ·rintro(h|h|h)
    ·exact .inr (.inl h)
    ·exact .inl h
    ·exact .inr (.inr h)
  ·split
   ·rename_i e
    subst e
    constructor
    ·exact .inr
    ·rintro(h|h)
     ·subst h;exact AI
     ·exact h
   ·simp only[AF]
theorem ZW {d:Ident}: ∀ {l:List Ident},UZ l→UZ (Ik l d)
 | [],_=>by unfold Ik;exact GD _ _
 |y::l,h=>by
  obtain⟨h1,h2⟩:=Bn.1 h
  unfold Ik
  split
  ·rename_i hy
   refine Bn.2 ⟨fun z hz=>?_,ZW h2⟩
   rcases Tp.1 hz with rfl|hz
   ·exact hy
   ·exact h1 z hz
  ·rename_i hy
   split
   ·exact h
   ·rename_i hne
    have hlt:Hd d y < 0:=by
     rcases Ident.tri d y with h'|h'|h'
     ·exact h'
     ·exact absurd h'.symm hne
     ·exact absurd h' hy
    refine Bn.2 ⟨fun z hz=>?_,h⟩
    rcases AF.1 hz with rfl|hz
    ·exact hlt
    ·exact Ident.lt_trans hlt (h1 z hz)
theorem Ki: ∀ (m l:List Ident),UZ l→UZ (m.foldl Ik l)∧ ∀ x,x∈m.foldl Ik l↔x∈l∨x∈m
 | [],l,h=>⟨h,fun x=>by simp⟩
 |y::m,l,h=>by
  obtain⟨a,b⟩:=Ki m (Ik l y) (ZW h)
  refine⟨a,fun x=>?_⟩
  rw[Br,b,Tp,AF]
  constructor
  ·rintro((h|h)|h)
   ·exact .inr (.inl h)
   ·exact .inl h
   ·exact .inr (.inr h)
  ·rintro(h|h|h)
   ·exact .inl (.inr h)
   ·exact .inl (.inl h)
   ·exact .inr h
theorem VK {l:List Ident} {d:Ident}:d∈sortI l↔d∈l:=cd
theorem ey {l:List Ident} (hn:l.Nodup):UZ (sortI l):=by
 have h:=zB (le:=fun x y=>!(ltOf Hd) y x) (fun a b c h1 h2=>by
  simp only[AH,ltOf,A8]at h1 h2 ⊢
  intro h3
  rcases Ident.tri a b with h|h|h
  ·exact h2 (Ident.lt_trans h3 h)
  ·subst h;exact h2 h3
  ·exact h1 h) (fun a b=>by
  simp only[qK,AH,ltOf,A8]
  rcases Ident.tri a b with h|h|h
  ·exact .inl fun k=>Ident.lt_irrefl _ (Ident.lt_trans h k)
  ·subst h;exact .inl (Ident.lt_irrefl _)
  ·exact .inr fun k=>Ident.lt_irrefl _ (Ident.lt_trans h k)) l
 have h2:(sortI l).Nodup:=(List.mergeSort_perm l _).nodup_iff.2 hn
 refine B5.2 fun i j hi hj hij=>?_
 have a:=B5.1 h i j hi hj hij
 have b:=B5.1 h2 i j hi hj hij
 rw[AH]at a
 have a: ¬Hd (sortI l)[j] (sortI l)[i] < 0:=Bf a
 rcases Ident.tri (sortI l)[i] (sortI l)[j]with h'|h'|h'
 ·exact h'
 ·exact absurd h' b
 ·exact absurd h' a
theorem ak {l:List Ident} (hn:l.Nodup):sortI l=l.foldl Ik []:=
 lf (ey hn) (Ki l [] .nil).1 fun x=>by rw[VK,(Ki l [] .nil).2];simp
def Ef (x:Ident):Bool:=decide (x.patch=Dig.zero)&&decide (0≤x.n)
theorem Gm {x:Ident}:Ef x=true↔x.patch=Dig.zero∧0≤x.n:=by unfold Ef;simp
def Gb (f:Ident→Ident) (c:Chg):Chg:=
 { c with file:=if 2≤c.kind∧c.kind≤6 then f c.file else c.file,parent:=if c.kind=2 then f c.parent else c.parent,after:=if c.kind=5∨c.kind=6 then f c.after else c.after,before:=if c.kind=5∨c.kind=6 then f c.before else c.before,over:=sortI (c.over.map f) }
def P6 (f:Ident→Ident) (c:Chg):Chg:=
 { c with file:=if 2≤c.kind∧c.kind≤6 then f c.file else c.file,parent:=if c.kind=2 then f c.parent else c.parent,after:=if c.kind=5∨c.kind=6 then f c.after else c.after,before:=if c.kind=5∨c.kind=6 then f c.before else c.before,over:=(c.over.map f).foldl Ik [] }
theorem Vj {c:Chg} {f g:Ident→Ident} (h:P9 c fun x=>f x=g x) (hr:f rRoot=g rRoot) (hn:(c.over.map f).Nodup):Gb f c=P6 g c:=by
 have ho:c.over.map f=c.over.map g:=Cc fun x hx=>h.over x hx
 unfold Gb P6
 rw[ak hn,ho]
 congr 1
 ·split
  ·rename_i k;exact h.file k.1 k.2
  ·rfl
 ·split
  ·rename_i k
   by_cases hp:c.parent=rRoot
   ·rw[hp];exact hr
   ·exact h.parent k hp
  ·rfl
 ·split
  ·rename_i k;exact h.after k
  ·rfl
 ·split
  ·rename_i k;exact h.before k
  ·rfl
structure WM (cnt:Dig→Nat) (st:List (Dig × Int)) (n:Int):Prop where
 nodup:(st.map (·.1)).Nodup
 pos:0≤n
 le: ∀ e∈st,0≤e.2∧e.2+cnt e.1≤n
 apart: ∀ e∈st,∀ f∈st,e.1≠f.1→e.2+cnt e.1≤f.2∨f.2+cnt f.1≤e.2
theorem Po {κ:Type} [DecidableEq κ] {k:κ}: ∀ {l:List κ},k∉l→Hs k l=none
 | [],_=>rfl
 |a::l,h=>by
  have h1: ¬k=a:=fun e=>h (e ▸ AI)
  simp only[Hs,if_neg h1,Po fun hl=>h (AL _ hl),Option.map_none]
theorem O8 {κ α:Type} [DecidableEq κ] {k:κ} {x:α}: ∀ {l:List (κ × α)},CZ k l=some x→(k,x)∈l
 | [],h=>by simp[CZ]at h
 |(a,y)::l,h=>by
  unfold CZ at h
  split at h
  ·rename_i e;cases h;subst e;exact AI
  ·exact AL _ (O8 h)
theorem Ts {κ α:Type} [DecidableEq κ] {k:κ}: ∀ {l:List (κ × α)},k∈l.map (·.1)→ ∃ x,CZ k l=some x
 | [],h=>by simp at h
 |(a,y)::l,h=>by
  unfold CZ
  split
  ·exact⟨y,rfl⟩
  ·rename_i e
   rcases AF.1 h with h|h
   ·exact absurd h e
   ·exact Ts h
theorem WM.step {cnt:Dig→Nat} {st:List (Dig × Int)} {n:Int} (h:WM cnt st n) {d:Dig} (hd:d∉st.map (·.1)):WM cnt (Db d n st) (n+cnt d):=by
 rw[Gv d n (Po hd)]
 have hp:=h.pos
 refine⟨?_,by omega,fun e he=>?_,fun e he f hf hne=>?_⟩
 ·rw[Al]
  refine FH.2 ⟨h.nodup,by simp,fun a ha b hb e=>?_⟩
  simp only[Ar,CF,Ae]at hb
  subst e;subst hb;exact hd ha
 ·rcases Ah.1 he with he|he
  ·have:=h.le e he;omega
  ·rw[Ae.1 he];dsimp only;omega
 ·rcases Ah.1 he with he|he<;>rcases Ah.1 hf with hf|hf
  ·exact h.apart e he f hf hne
  ·have:=h.le e he
   rw[Ae.1 hf];dsimp only;omega
  ·have:=h.le f hf
   rw[Ae.1 he];dsimp only;omega
  ·rw[Ae.1 he,Ae.1 hf]at hne
   exact absurd rfl hne
def fJ (st:List (Dig × Int)) (d:Dig) (x:Ident):Ident:=match CZ (if Ef x=true then d else x.patch) st with
 |some k=>if 0≤x.n then⟨Dig.zero,k+x.n⟩else x
 |none=>x
def N2:List Mvd→Ident→Ident
 | [],x=>x
 |m::l,x=>if x.patch=m.old∧m.lo≤x.n∧x.n < m.hi then⟨m.patch,m.dst+x.n - m.lo⟩else N2 l x
def gM (l:List Mvd) (d:Dig) (x:Ident):Ident:=N2 l (if Ef x=true then⟨d,x.n⟩else x)
def tb (cnt:Dig→Nat) (e:Dig × Int):Mvd:=⟨e.1,0,cnt e.1,Dig.zero,e.2⟩
theorem RZ {l:List Mvd} {x:Ident} (h: ∀ m∈l,x.patch=m.old→m.lo≤x.n→ ¬x.n < m.hi):N2 l x=x:=by
 induction l with
 |nil=>rfl
 |cons m l ih=>
  unfold N2
  rw[if_neg fun k=>h m AI k.1 k.2.1 k.2.2]
  exact ih fun m hm=>h m (AL _ hm)
theorem Ra (cnt:Dig→Nat): ∀ {st:List (Dig × Int)} {y:Ident} {k:Int},CZ y.patch st=some k→0≤y.n→y.n < cnt y.patch→N2 (st.map (tb cnt)) y=⟨Dig.zero,k+y.n⟩
 | [],y,k,h,_,_=>by simp[CZ]at h
 |(a,j)::st,y,k,h,h0,h1=>by
  unfold CZ at h
  simp only[Ar,N2,tb]
  split at h
  ·rename_i e
   cases h
   rw[if_pos ⟨e,h0,by rw[←e];exact h1⟩]
   congr 1;omega
  ·rename_i e
   rw[if_neg fun k=>e k.1]
   exact Ra cnt h h0 h1
theorem Tr {κ α:Type} [DecidableEq κ] {k:κ} {l:List (κ × α)} (h:CZ k l=none):k∉l.map (·.1):=fun hk=>by
 obtain⟨x,hx⟩:=Ts hk
 rw[hx]at h;cases h
def cntS (s:List Sto) (d:Dig):Nat:=Nc ((getS s d).getD Pat.zero)
theorem Bc.cntS {s:List Sto} (v:Bc s) {x:Sto} (hx:x∈s):cntS s x.id=Nc x.patch:=by
 unfold Go.Proofs.cntS;rw[v.getS hx];rfl
theorem xk {s:List Sto} (v:Bc s) {st:List (Dig × Int)} {x:Sto} (hx:x∈s) (hd:x.id∈st.map (·.1)) {y:Ident} (h:Qy (Nc x.patch) y∧Kt s y):fJ st x.id y=gM (st.map (tb (cntS s))) x.id y:=by
 obtain⟨⟨h0,h1⟩,h2⟩:=h
 unfold fJ gM
 by_cases ho:Ef y=true
 ·rw[if_pos ho,if_pos ho]
  obtain⟨k,hk⟩:=Ts hd
  have:=h1 (Gm.1 ho).1
  rw[hk,Ra (y:=⟨x.id,y.n⟩) (cntS s) hk h0 (by rw[v.cntS hx];exact this)]
  dsimp only
  rw[if_pos h0]
 ·rw[if_neg ho,if_neg ho]
  have hz:y.patch≠Dig.zero:=fun e=>ho (Gm.2 ⟨e,h0⟩)
  obtain⟨z,hzs,e,_,hlt⟩:=h2 hz
  cases hg:CZ y.patch st with
  |none=>
   dsimp only
   refine(RZ fun m hm e2=>?_).symm
   obtain⟨a,ha,rfl⟩:=AQ.1 hm
   exact absurd (AQ.2 ⟨a,ha,e2.symm⟩) (Tr hg)
  |some k=>
   dsimp only
   rw[if_pos h0,Ra (cntS s) hg h0 (by rw[←e,v.cntS hzs];exact hlt)]
theorem pF (st:List (Dig × Int)) (d:Dig):fJ st d rRoot=rRoot:=by
 unfold fJ
 split<;>rfl
theorem ou {s:List Sto} (st:List (Dig × Int)) (d:Dig):gM (st.map (tb (cntS s))) d rRoot=rRoot:=by
 unfold gM
 rw[if_neg (by decide)]
 refine RZ fun m hm _ h=>?_
 obtain⟨a,_,rfl⟩:=AQ.1 hm
 exact absurd h (show ¬(0:Int)≤ -1 by decide)
theorem jn {l:List Ident} (h:Pj l=true):UZ l:=by
 have step: ∀ i (h:i+1 < l.length),Hd l[i] l[i+1] < 0:=fun i hi=>by
  unfold Pj at h
  have:=BH.1 h i (Ba.2 (by omega))
  simpa [List.getD,hi,show i < l.length by omega]using this
 refine B5.2 fun i j hi hj hij=>?_
 obtain⟨k,rfl⟩: ∃ k,j=i+1+k:=⟨j - i - 1,by omega⟩
 induction k with
 |zero=>exact step i hj
 |succ k ih=>exact Ident.lt_trans (ih (by omega) (by omega)) (step (i+1+k) hj)
theorem ZE {c:Chg} (h:C3 c=0):UZ c.over:=by
 unfold C3 at h
 split at h
 ·omega
 rename_i h1
 split at h
 ·omega
 rename_i h2
 split at h
 ·omega
 split at h
 ·omega
 split at h
 ·omega
 split at h
 ·omega
 split at h
 ·rename_i h5
  have h2:Fl (Hn c)=true:=by simpa using h2
  unfold Fl at h2
  simp only[BP,AB]at h2
  have h3:=h2.2
  have:(Hn c).over=c.over:=by unfold Hn;dsimp only;rw[if_neg (by omega)]
  rw[this]at h3
  have:c.over= []:=BL (by omega)
  rw[this]
  exact .nil
 split at h
 ·omega
 split at h
 ·omega
 split at h
 ·omega
 rename_i h9
 exact jn (by simpa using h9)
def SN (d:Dig) (y:Ident):Dig:=if Ef y=true then d else y.patch
theorem uE {s:List Sto} (v:Bc s) {st:List (Dig × Int)} {n:Int} (hL:WM (cntS s) st n) {x:Sto} (hx:x∈s) (hd:x.id∈st.map (·.1)) {y z:Ident} (hy:Qy (Nc x.patch) y∧Kt s y) (hz:Qy (Nc x.patch) z∧Kt s z)
  (ny:y.patch≠x.id∨y.patch=Dig.zero) (nz:z.patch≠x.id∨z.patch=Dig.zero) (e:fJ st x.id y=fJ st x.id z):y=z:=by
 have src: ∀ {w:Ident},Qy (Nc x.patch) w∧Kt s w→0≤w.n∧w.n < cntS s (SN x.id w)∧(Ef w=false→w.patch≠Dig.zero):=fun {w} hw=>by
  obtain⟨⟨h0,h1⟩,h2⟩:=hw
  unfold SN
  by_cases ho:Ef w=true
  ·rw[if_pos ho,v.cntS hx]
   exact⟨h0,h1 (Gm.1 ho).1,fun k=>by rw[ho]at k;cases k⟩
  ·rw[if_neg ho]
   have hz:w.patch≠Dig.zero:=fun e=>ho (Gm.2 ⟨e,h0⟩)
   obtain⟨u,hu,e1,_,h3⟩:=h2 hz
   rw[←e1,v.cntS hu]
   exact⟨h0,h3,fun _=>e1 ▸ hz⟩
 obtain⟨y0,y1,y2⟩:=src hy
 obtain⟨z0,z1,z2⟩:=src hz
 have img: ∀ {w:Ident},0≤w.n→fJ st x.id w=match CZ (SN x.id w) st with|some k=>⟨Dig.zero,k+w.n⟩|none=>w:=fun {w} hw=>by
  unfold fJ SN
  cases CZ (if Ef w=true then x.id else w.patch) st with
  |none=>rfl
  |some k=>dsimp only;rw[if_pos hw]
 have own_in: ∀ {w:Ident},CZ (SN x.id w) st=none→Ef w=false:=fun {w} h=>by
  cases ho:Ef w with
  |false=>rfl
  |true=>
   unfold SN at h
   rw[if_pos ho]at h
   exact absurd hd (Tr h)
 rw[img y0,img z0]at e
 cases hgy:CZ (SN x.id y) st with
 |none=>
  rw[hgy]at e
  dsimp only at e
  cases hgz:CZ (SN x.id z) st with
  |none=>rw[hgz]at e;exact e
  |some k=>
   rw[hgz]at e
   dsimp only at e
   exact absurd (congrArg Ident.patch e) (y2 (own_in hgy))
 |some k=>
  rw[hgy]at e
  dsimp only at e
  cases hgz:CZ (SN x.id z) st with
  |none=>
   rw[hgz]at e
   dsimp only at e
   exact absurd (congrArg Ident.patch e).symm (z2 (own_in hgz))
  |some j=>
   rw[hgz]at e
   dsimp only at e
   have en:k+y.n=j+z.n:=congrArg Ident.n e
   by_cases hs:SN x.id y=SN x.id z
   ·rw[hs,hgz]at hgy
    cases hgy
    have hn:y.n=z.n:=by omega
    have hp:y.patch=z.patch:=by
     unfold SN at hs
     by_cases oy:Ef y=true
     ·by_cases oz:Ef z=true
      ·rw[(Gm.1 oy).1,(Gm.1 oz).1]
      ·rw[if_pos oy,if_neg oz]at hs
       rcases nz with h|h
       ·exact absurd hs.symm h
       ·exact absurd h (z2 (by simpa using oz))
     ·by_cases oz:Ef z=true
      ·rw[if_neg oy,if_pos oz]at hs
       rcases ny with h|h
       ·exact absurd hs h
       ·exact absurd h (y2 (by simpa using oy))
      ·rw[if_neg oy,if_neg oz]at hs;exact hs
    cases y;cases z;simp_all
   ·have a:=hL.apart _ (O8 hgy) _ (O8 hgz) hs
    dsimp only at a
    omega
theorem aD {s:List Sto} (v:Bc s) {st:List (Dig × Int)} {n:Int} (hL:WM (cntS s) st n) {x:Sto} (hx:x∈s) (hd:x.id∈st.map (·.1)) {c:Chg} (hc:c∈x.patch.changes):Gb (fJ st x.id) c=P6 (gM (st.map (tb (cntS s))) x.id) c:=by
 have hu:=v.uses hx hc
 refine Vj (hu.mono fun y hy=>xk v hx hd hy) (by rw[pF,ou]) ?_
 have hp:=Ht (Js (v.id x hx).1).1
 obtain⟨i,hi,rfl⟩:=Ai.1 hc
 have ha:=ZE (hp.fields i hi)
 have ns: ∀ y∈(x.patch.changes[i]).over,y.patch≠x.id∨y.patch=Dig.zero:=fun y hy=>by
  by_cases hz:y.patch=Dig.zero
  ·exact .inr hz
  ·refine .inl fun e=>?_
   have hn:=Lg (v.id x hx).1 hc (y:=y) (by unfold KY;simp[hy]) (by unfold FY;simp[hz])
   have:=v.rank hx (e ▸ hn)
   omega
 refine R9.2 (ha.nodup.imp_of_mem fun {y z} hy hz hne e=>hne ?_)
 exact uE v hL hx hd (hu.over y hy) (hu.over z hz) (ns y hy) (ns z hz) e
def jP (s:List Sto) (l:List Dig) (r:List (Dig × Int) × Int × List Chg × List Dig) (d:Dig):List (Dig × Int) × Int × List Chg × List Dig:=
 if d∈l then(Db d r.2.1 r.1,r.2.1+cntS s d,r.2.2.1++((getS s d).getD Pat.zero).changes.map (Gb (fJ (Db d r.2.1 r.1) d)),r.2.2.2++((getS s d).getD Pat.zero).deps.filter fun e=>decide (¬e∈l))else r
def IV (s:List Sto) (l:List Dig) (m:Mta):Pat:=
 let r:=(C5 s).foldl (jP s l) ([],0,[],[])
 ⟨m.author,m.message,m.time,Kp (sortD r.2.2.2),r.2.2.1⟩
def jR (s:List Sto) (l:List Dig) (r:List Mvd × Int × List Chg × List Dig) (d:Dig):List Mvd × Int × List Chg × List Dig:=
 if d∈l then(r.1++ [⟨d,0,cntS s d,Dig.zero,r.2.1⟩],r.2.1+cntS s d,r.2.2.1++((getS s d).getD Pat.zero).changes.map (P6 (gM (r.1++ [⟨d,0,cntS s d,Dig.zero,r.2.1⟩]) d)),(((getS s d).getD Pat.zero).deps.filter fun e=>decide (¬e∈l)).foldl EK r.2.2.2)else r
def Qf (s:List Sto) (l:List Dig) (m:Mta):Pat:=
 let r:=(C5 s).foldl (jR s l) ([],0,[],[])
 ⟨m.author,m.message,m.time,r.2.2.2,r.2.2.1⟩
theorem Np: ∀ (m l:List Dig),Gi l→Gi (m.foldl EK l)∧ ∀ d,d∈m.foldl EK l↔d∈l∨d∈m
 | [],l,h=>⟨h,fun d=>by simp⟩
 |y::m,l,h=>by
  obtain⟨a,b⟩:=Np m (EK l y) (Lp h)
  refine⟨a,fun d=>?_⟩
  rw[Br,b,KR,AF]
  constructor
  ·rintro((h|h)|h)
   ·exact .inr (.inl h)
   ·exact .inl h
   ·exact .inr (.inr h)
  ·rintro(h|h|h)
   ·exact .inl (.inr h)
   ·exact .inl (.inl h)
   ·exact .inr h
theorem HX (l:List Dig):Gi (Kp (sortD l))∧ ∀ d,d∈Kp (sortD l)↔d∈l:=by
 obtain⟨a,b⟩:=Rv (KA l) (sortD l).length (An _)
 rw[AA (An _)]at a b
 exact⟨a,fun d=>by rw[b,VL]⟩
structure Qz (s:List Sto) (l done:List Dig) (p:List (Dig × Int) × Int × List Chg × List Dig) (r:List Mvd × Int × List Chg × List Dig):Prop where
 laid:WM (cntS s) p.1 p.2.1
 keys: ∀ d,d∈p.1.map (·.1)↔d∈done∧d∈l
 mv:r.1=p.1.map (tb (cntS s))
 n:r.2.1=p.2.1
 cs:r.2.2.1=p.2.2.1
 asc:Gi r.2.2.2
 deps: ∀ d,d∈r.2.2.2↔d∈p.2.2.2
theorem Qz.step {s:List Sto} (v:Bc s) {l done:List Dig} {p:List (Dig × Int) × Int × List Chg × List Dig} {r:List Mvd × Int × List Chg × List Dig} (h:Qz s l done p r) {d:Dig} (hd:d∈ids s) (hn:d∉done):Qz s l (done++ [d]) (jP s l p d) (jR s l r d):=by
 unfold jP jR
 by_cases hl:d∈l
 ·rw[if_pos hl,if_pos hl]
  have hk:d∉p.1.map (·.1):=fun k=>hn ((h.keys d).1 k).1
  have hnew:=Gv d p.2.1 (Po hk)
  have hL:=h.laid.step hk
  have hmv:r.1++ [⟨d,0,cntS s d,Dig.zero,r.2.1⟩]=(Db d p.2.1 p.1).map (tb (cntS s)):=by
   rw[h.mv,h.n,hnew,Al];rfl
  obtain⟨x,hx,rfl⟩:=AQ.1 hd
  have hin:x.id∈(Db x.id p.2.1 p.1).map (·.1):=by rw[hnew];simp
  refine⟨hL,fun e=>?_,hmv,by dsimp only;rw[h.n],?_,?_,fun e=>?_⟩
  ·dsimp only
   rw[hnew,Al,Ah,h.keys,Ah]
   constructor
   ·rintro(⟨a,b⟩|a)
    ·exact⟨.inl a,b⟩
    ·simp only[Ar,CF,Ae]at a
     subst a;exact⟨.inr (by simp),hl⟩
   ·rintro⟨a|a,b⟩
    ·exact .inl ⟨a,b⟩
    ·exact .inr (by simpa using a)
  ·dsimp only
   rw[h.cs,hmv,v.getS hx,CA]
   congr 1
   exact Cc fun c hc=>(aD v hL hx hin hc).symm
  ·exact(Np _ _ h.asc).1
  ·dsimp only
   rw[(Np _ _ h.asc).2,h.deps,Ah]
 ·rw[if_neg hl,if_neg hl]
  refine⟨h.laid,fun e=>?_,h.mv,h.n,h.cs,h.asc,h.deps⟩
  rw[h.keys,Ah]
  constructor
  ·rintro⟨a,b⟩;exact⟨.inl a,b⟩
  ·rintro⟨a|a,b⟩
   ·exact⟨a,b⟩
   ·rw[Ae.1 a]at b;exact absurd b hl
theorem Qz.all {s:List Sto} (v:Bc s) {l:List Dig}: ∀ (o done:List Dig) {p:List (Dig × Int) × Int × List Chg × List Dig} {r:List Mvd × Int × List Chg × List Dig},Qz s l done p r→(∀ d∈o,d∈ids s)→(done++o).Nodup→Qz s l (done++o) (o.foldl (jP s l) p) (o.foldl (jR s l) r)
 | [],done,_,_,h,_,_=>by rw[BQ];exact h
 |d::o,done,_,_,h,h1,h2=>by
  have hn:d∉done:=fun k=>(FH.1 h2).2.2 d k d AI rfl
  have e:done++d::o=(done++ [d])++o:=by simp
  rw[e]at h2 ⊢
  exact Qz.all v o _ (h.step v (h1 d AI) hn) (fun d hd=>h1 d (AL _ hd)) h2
theorem gB {s:List Sto} (v:Bc s) (l:List Dig):Qz s l (C5 s) ((C5 s).foldl (jP s l) ([],0,[],[])) ((C5 s).foldl (jR s l) ([],0,[],[])):=by
 have ho:=Ey s
 have:=Qz.all v (l:=l) (C5 s) [] (p:=([],0,[],[])) (r:=([],0,[],[])) ⟨⟨.nil,by decide,(fun e he=>absurd he Aa),(fun e he=>absurd he Aa)⟩,fun d=>by simp,rfl,rfl,rfl,.nil,fun d=>by simp⟩ ho.sub (by simpa using ho.nodup)
 simpa using this
theorem OB {s:List Sto} (v:Bc s) (l:List Dig) (m:Mta):IV s l m=Qf s l m:=by
 have h:=gB v l
 unfold IV Qf
 obtain⟨a,b⟩:=HX ((C5 s).foldl (jP s l) ([],0,[],[])).2.2.2
 have e:Kp (sortD ((C5 s).foldl (jP s l) ([],0,[],[])).2.2.2)=((C5 s).foldl (jR s l) ([],0,[],[])).2.2.2:=a.ext h.asc fun d=>by rw[b,h.deps]
 dsimp only
 rw[e,h.cs]
theorem fM {nd:Dig→List Dig} {l:List Dig} {d:Dig}:Q.Reach nd l d↔ ∃ q∈l,Q.Reach nd [q] d:=by
 constructor
 ·intro h
  induction h with
  |base h=>exact⟨_,h,.base (by simp)⟩
  |step _ hd ih=>
   obtain⟨q,hq,hr⟩:=ih
   exact⟨q,hq,.step hr hd⟩
 ·rintro⟨q,hq,hr⟩
  exact Reach.trans' (.base hq) hr
theorem Kh {s:List Sto} (v:Bc s) {p:Dig} (hp:p∈ids s) (q:Dig):Gy s p q=decide (q∈Py s p):=by
 have h:CW (ids s) [p]=true:=by simp[CW,hp]
 have e:DN s [p]=(Py s p,0):=by unfold Py DN;rw[if_neg (by simp[h])]
 rw[v.knows,e];rfl
def mW (s:List Sto) (l:List Dig):Bool:=CW (ids s) l&&!((LY s l).1.any fun d=>decide (d∈(DN s l).1)&&!decide (d∈l))
def rS (s:List Sto) (l:List Dig):Bool:=CW (ids s) l&&s.all fun x=>decide (x.id∈l)||!(l.any (fun q=>Gy s x.id q)&&l.any fun q=>Gy s q x.id)
theorem WC {u l:List Dig} (h:CW u l=true): ∀ d∈l,d∈u:=fun d hd=>by simpa using BH.1 h d hd
theorem eL {s:List Sto} (v:Bc s) (l:List Dig):mW s l=rS s l:=by
 unfold mW rS
 by_cases h:CW (ids s) l=true
 ·rw[h,E5,E5]
  have hl:=WC h
  have hc: ∀ d,d∈(DN s l).1↔ ∃ q∈l,d∈Py s q:=fun d=>by
   obtain⟨L,e,_,hm⟩:=v.closedM hl
   rw[e]
   dsimp only
   rw[hm,fM]
   constructor
   ·rintro⟨q,hq,hr⟩;exact⟨q,hq,(v.mem_clo (hl q hq) d).2 hr⟩
   ·rintro⟨q,hq,hr⟩;exact⟨q,hq,(v.mem_clo (hl q hq) d).1 hr⟩
  have hu:(LY s l).1=Y7 s l s:=by unfold LY;rw[if_neg (by simp[h])]
  rw[hu,H7,AH,Bl,BH]
  constructor
  ·intro k x hx
   have hx':x.id∈ids s:=AQ.2 ⟨x,hx,rfl⟩
   by_cases hin:x.id∈l
   ·simp[hin]
   ·simp only[hin,decide_false,Fi,AH,VC,Bl]
    by_cases ha: ∃ q∈l,q∈Py s x.id
    ·refine .inr fun q hq hk=>k x.id (Tm.2 ⟨hx',ha⟩) ?_
     rw[Kh v (hl q hq)]at hk
     simp only[BP,AB,AH,A8]
     exact⟨(hc x.id).2 ⟨q,hq,Az hk⟩,hin⟩
    ·refine .inl fun q hq hk=>ha ⟨q,hq,?_⟩
     rw[Kh v hx']at hk
     exact Az hk
  ·intro k d hd hk
   obtain⟨hd1,q,hq,hqd⟩:=Tm.1 hd
   simp only[BP,AB,AH,A8]at hk
   obtain⟨x,hx,rfl⟩:=AQ.1 hd1
   obtain⟨p,hp,hdp⟩:=(hc x.id).1 hk.1
   have:=k x hx
   simp only[hk.2,decide_false,Fi,AH,VC,Bl]at this
   rcases this with h1|h1
   ·exact h1 q hq (by rw[Kh v hd1];exact BO hqd)
   ·exact h1 p hp (by rw[Kh v (hl p hp)];exact BO hdp)
 ·have h:CW (ids s) l=false:=by simpa using h
  rw[h];rfl
def Kd (s:List Sto) (l:List Dig):Bool:=s.any fun x=>!decide (x.id∈l)&&(BB x.patch).any fun d=>decide (d∈l)
def FG (s:List Sto) (l:List Dig):List Sto:=s.filter fun x=>decide (¬x.id∈l)
theorem fg (s:List Sto) (l:List Dig):FG s l=Hb s ((ids s).filter fun d=>decide (¬d∈l)):=by
 unfold FG Hb
 refine gw fun x hx=>?_
 have hx':x.id∈ids s:=AQ.2 ⟨x,hx,rfl⟩
 rw[decide_eq_decide,EE]
 simp[hx']
theorem Bc.out {s:List Sto} (v:Bc s) {l:List Dig} (h:Kd s l=false):Bc (FG s l):=by
 rw[fg]
 refine v.keep fun x hx hxc d hd=>?_
 have hxl: ¬x.id∈l:=by simpa using (EE.1 hxc).2
 have:=Bl.1 h x hx
 simp only[hxl,decide_false,Y0,E5,Bo,AB,not_exists,not_and]at this
 exact EE.2 ⟨v.close.2 x hx d hd,BO (this d hd)⟩
def Uc (s:List Sto) (l:List Dig) (m:Mta):List Sto × Dig × Int:=
 if CW (ids s) l=false then([],Dig.zero,7)else if l.length=0∨mW s l=false then([],Dig.zero,1)else if Kd s l=true then([],Dig.zero,19)else Ee (FG s l) (IV s l m)
def ai (s:List Sto) (l:List Dig) (m:Mta):List Sto × Dig × Int:=
 if CW (ids s) l=false then([],Dig.zero,7)else if l.length=0∨rS s l=false then([],Dig.zero,1)else if Kd s l=true then([],Dig.zero,19)else Ee (FG s l) (Qf s l m)
theorem dA {s:List Sto} (v:Bc s) (l:List Dig) (m:Mta):Uc s l m=ai s l m:=by
 unfold Uc ai
 rw[eL v,OB v]
theorem ib {α:Type} {f:α→Nat} {l m:List α} (h:l.Perm m):(l.map f).sum=(m.map f).sum:=by
 induction h with
 |nil=>rfl
 |cons x _ ih=>simp only[Ar,DM,ih]
 |swap x y l=>simp only[Ar,DM];omega
 |trans _ _ h1 h2=>rw[h1,h2]
theorem QC {α:Type} [DecidableEq α] {f:α→Nat}: ∀ {l u:List α},l.Nodup→(∀ x∈l,x∈u)→(l.map f).sum≤(u.map f).sum
 | [],u,_,_=>Xv _
 |x::l,u,hn,h=>by
  obtain⟨h1,h2⟩:=Bq.1 hn
  have hx:=h x AI
  have hp:=List.perm_cons_erase hx
  rw[ib hp]
  simp only[Ar,DM]
  have:=QC (f:=f) (u:=u.erase x) h2 fun y hy=>by
   have hne:y≠x:=fun e=>h1 (e ▸ hy)
   exact(List.mem_erase_of_ne hne).2 (h y (AL _ hy))
  omega
theorem W4 (l:List Dig):(Kp l).length≤l.length:=by
 have h: ∀ k,k≤l.length→(Kp (l.take k)).length≤k:=fun k=>by
  induction k with
  |zero=>intro _;simp[Kp]
  |succ k ih=>
   intro hk
   have:=ih (by omega)
   rcases Q5 k with rfl|h0
   ·have e:l.take (0+1)= []++ [l[0]]:=by rw[A6 (by omega)];rfl
    rw[e,UK]
    split
    ·simp[Kp]
    ·simp[Kp]
   ·rw[Qp h0 (by omega)]
    split
    ·omega
    ·rw[AD,B9];omega
 have:=h l.length (An _)
 rwa [AA (An _)]at this
theorem fw (f:Ident→Ident) (c:Chg):(Gb f c).over.length=c.over.length:=by
 show(sortI (c.over.map f)).length=_
 unfold sortI
 rw[DZ,AU]
theorem KS (f:Ident→Ident) (c:Chg):bM (Gb f c)=bM c∧GL (Gb f c)=GL c∧Ic (Gb f c)=Ic c:=by
 have h:=fw f c
 refine⟨?_,rfl,?_⟩
 ·unfold bM;rw[h];rfl
 ·unfold Ic;rw[h];rfl
structure WT (s:List Sto) (o:List Dig) (r:List (Dig × Int) × Int × List Chg × List Dig):Prop where
 cs:r.2.2.1.length=(o.map fun d=>((getS s d).getD Pat.zero).changes.length).sum
 ds:r.2.2.2.length≤(o.map fun d=>((getS s d).getD Pat.zero).deps.length).sum
 tot:(r.2.2.1.map GL).sum=(o.map fun d=>(((getS s d).getD Pat.zero).changes.map GL).sum).sum
 hv:(r.2.2.1.map Ic).sum=(o.map fun d=>(((getS s d).getD Pat.zero).changes.map Ic).sum).sum
 each: ∀ c∈r.2.2.1,∃ d∈o,∃ c0∈((getS s d).getD Pat.zero).changes,∃ f,c=Gb f c0
theorem WT.all (s:List Sto) (l:List Dig): ∀ (o done:List Dig) {r:List (Dig × Int) × Int × List Chg × List Dig},WT s done r→WT s (done++o.filter fun d=>decide (d∈l)) (o.foldl (jP s l) r)
 | [],done,_,h=>by rw[Ue,BQ];exact h
 |d::o,done,r,h=>by
  rw[Br]
  by_cases hl:d∈l
  ·rw[E0 (by simpa using hl)]
   have e:done++d::o.filter (fun d=>decide (d∈l))=(done++ [d])++o.filter fun d=>decide (d∈l):=by simp
   rw[e]
   refine WT.all s l o (done++ [d]) ?_
   unfold jP
   rw[if_pos hl]
   have hcomp: ∀ (g:Chg→Nat),(∀ f c,g (Gb f c)=g c)→ ∀ (f:Ident→Ident) (cs:List Chg),((cs.map (Gb f)).map g).sum=(cs.map g).sum:=fun g hg f cs=>by
    rw[CU]
    congr 1
    exact Cc fun c _=>hg f c
   refine⟨?_,?_,?_,?_,?_⟩
   ·dsimp only
    rw[AD,AU,Al,Df,h.cs];simp
   ·dsimp only
    rw[AD,Al,Df]
    have a:=CX (fun e=>decide (¬e∈l)) ((getS s d).getD Pat.zero).deps
    have b:=h.ds
    simp only[Ar,CF,DM,Jo]
    omega
   ·dsimp only
    rw[Al,Df,hcomp GL (fun f c=>(KS f c).2.1),Al,Df,h.tot];simp
   ·dsimp only
    rw[Al,Df,hcomp Ic (fun f c=>(KS f c).2.2),Al,Df,h.hv];simp
   ·dsimp only
    intro c hc
    rcases Ah.1 hc with hc|hc
    ·obtain⟨d',hd,rest⟩:=h.each c hc
     exact⟨d',Dk _ hd,rest⟩
    ·obtain⟨c0,h0,rfl⟩:=AQ.1 hc
     exact⟨d,by simp,c0,h0,_,rfl⟩
  ·rw[E1 (by simpa using hl)]
   have:jP s l r d=r:=by unfold jP;rw[if_neg hl]
   rw[this]
   exact WT.all s l o done h
theorem Vn {s:List Sto} (v:Bc s) (hg:Fv s=false) (l:List Dig) (m:Mta) (ha:m.author.length≤60) (hm:m.message.length≤60):E6 (IV s l m)=false:=by
 unfold Fv at hg
 simp only[CG,A8,Bl]at hg
 obtain⟨⟨h1,h2⟩,h3⟩:=hg
 have ht:s.take 9=s:=AA (by omega)
 rw[ht]at h1 h3
 have h1: ∀ x∈s,Fk x.patch=false:=fun x hx=>by simpa using h1 x hx
 have hs:=WT.all s l (C5 s) [] (r:=([],0,[],[])) ⟨rfl,An _,rfl,rfl,fun c hc=>absurd hc Aa⟩
 rw[B7]at hs
 have hn:((C5 s).filter fun d=>decide (d∈l)).Nodup:=(Ey s).nodup.filter _
 have hin: ∀ d∈(C5 s).filter (fun d=>decide (d∈l)),d∈ids s:=fun d hd=>(Ey s).sub d (EE.1 hd).1
 have over: ∀ (f:Pat→Nat),(((C5 s).filter fun d=>decide (d∈l)).map fun d=>f ((getS s d).getD Pat.zero)).sum≤(s.map fun x=>f x.patch).sum:=fun f=>by
  have a:=QC (f:=fun d=>f ((getS s d).getD Pat.zero)) hn hin
  have e:((ids s).map fun d=>f ((getS s d).getD Pat.zero)).sum=(s.map fun x=>f x.patch).sum:=by
   unfold ids
   rw[CU]
   congr 1
   refine Cc fun x hx=>?_
   show f ((Go.Proofs.getS s x.id).getD Pat.zero)=_
   rw[v.getS hx];rfl
  omega
 have bnd: ∀ (f:Pat→Nat) (B:Nat),(∀ x∈s,f x.patch≤B)→(s.map fun x=>f x.patch).sum≤8*B:=fun f B hB=>by
  have:=FF (l:=s) (f:=fun x=>f x.patch) (B:=B) hB
  have h8:s.length≤8:=by omega
  have:=B6 B h8
  omega
 have facts:=fun x hx=>LK (h1 x hx)
 have gr: ∀ x∈s,RL x.patch≤3000∧ ∀ c∈x.patch.changes,bM c=false:=fun x hx=>by
  have:=h1 x hx
  unfold Fk at this
  simp only[CG,A8,Bl]at this
  exact⟨by omega,fun c hc=>by simpa using this.1.1.1 c hc⟩
 have b1:=CT (over fun p=>p.changes.length) (bnd (fun p=>p.changes.length) 20 fun x hx=>(facts x hx).2.2.2.1)
 have b2:=CT (over fun p=>p.deps.length) (bnd (fun p=>p.deps.length) 20 fun x hx=>(facts x hx).2.2.1)
 have b3:=CT (over fun p=>(p.changes.map GL).sum) (bnd (fun p=>(p.changes.map GL).sum) 3000 fun x hx=>by have:=(gr x hx).1;unfold RL at this;omega)
 have b4:=over fun p=>(p.changes.map Ic).sum
 have e4:(s.map fun x=>(x.patch.changes.map Ic).sum).sum=(s.map vJ).sum:=rfl
 have q1:=hs.cs
 have q2:=hs.ds
 have q3:=hs.tot
 have q4:=hs.hv
 have ql:=W4 (sortD ((C5 s).foldl (jP s l) ([],0,[],[])).2.2.2)
 have qs:(sortD ((C5 s).foldl (jP s l) ([],0,[],[])).2.2.2).length=((C5 s).foldl (jP s l) ([],0,[],[])).2.2.2.length:=by unfold sortD;rw[DZ]
 have each: ∀ c∈((C5 s).foldl (jP s l) ([],0,[],[])).2.2.1,bM c=false∧GL c≤3000:=fun c hc=>by
  obtain⟨d,hd,c0,h0,f,rfl⟩:=hs.each c hc
  obtain⟨x,hx,rfl⟩:=AQ.1 (hin d hd)
  rw[v.getS hx,CA]at h0
  obtain⟨z1,z2,_⟩:=KS f c0
  rw[z1,z2]
  refine⟨(gr x hx).2 c0 h0,?_⟩
  have:=(gr x hx).1
  unfold RL at this
  have:=IJ (f:=GL) h0
  omega
 unfold E6 IV
 dsimp only
 simp only[CG,A8,Bl]
 refine⟨⟨⟨⟨fun c hc=>?_,?_⟩,?_⟩,?_⟩,?_⟩
 ·have:=each c hc
  simp[this.1];omega
 ·unfold RL;dsimp only;omega
 ·omega
 ·omega
 ·omega
structure ls (s:List Sto) (l done:List Dig) (r:List (Dig × Int) × Int × List Chg × List Dig):Prop where
 keys: ∀ d∈r.1.map (·.1),d∈l
 deps: ∀ d∈done,d∈l→ ∀ e∈((getS s d).getD Pat.zero).deps,¬e∈l→e∈r.2.2.2
 cs: ∀ d∈done,d∈l→ ∀ c∈((getS s d).getD Pat.zero).changes,∃ st,(∀ k∈st.map (·.1),k∈l)∧d∈st.map (·.1)∧Gb (fJ st d) c∈r.2.2.1
theorem Qc {κ α:Type} [DecidableEq κ] (k:κ) (x:α): ∀ (m:List (κ × α)) (e:κ),e∈(Db k x m).map (·.1)↔e=k∨e∈m.map (·.1)
 | [],e=>by simp[Db]
 |(a,y)::m,e=>by
  unfold Db
  split
  ·rename_i h;subst h;simp
  ·simp only[Ar,AF,Qc k x m e]
   constructor
   ·rintro(h|h|h)
    ·exact .inr (.inl h)
    ·exact .inl h
    ·exact .inr (.inr h)
   ·rintro(h|h|h)
    ·exact .inr (.inl h)
    ·exact .inl h
    ·exact .inr (.inr h)
theorem ls.all (s:List Sto) (l:List Dig): ∀ (o done:List Dig) {r:List (Dig × Int) × Int × List Chg × List Dig},ls s l done r→ls s l (done++o) (o.foldl (jP s l) r)
 | [],done,_,h=>by rw[BQ];exact h
 |d::o,done,r,h=>by
  have e:done++d::o=(done++ [d])++o:=by simp
  rw[Br,e]
  refine ls.all s l o _ ?_
  by_cases hl:d∈l
  ·unfold jP
   rw[if_pos hl]
   refine⟨fun k hk=>?_,fun d' hd hl' e he hne=>?_,fun d' hd hl' c hc=>?_⟩
   ·rcases(Qc _ _ _ _).1 hk with rfl|hk
    ·exact hl
    ·exact h.keys k hk
   ·rcases Ah.1 hd with hd|hd
    ·exact Dk _ (h.deps d' hd hl' e he hne)
    ·rw[Ae.1 hd]at he
     exact DY _ (EE.2 ⟨he,BO hne⟩)
   ·rcases Ah.1 hd with hd|hd
    ·obtain⟨st,h1,h2,h3⟩:=h.cs d' hd hl' c hc
     exact⟨st,h1,h2,Dk _ h3⟩
    ·rw[Ae.1 hd]at hc ⊢
     refine⟨Db d r.2.1 r.1,fun k hk=>?_,(Qc _ _ _ _).2 (.inl rfl),DY _ (AQ.2 ⟨c,hc,rfl⟩)⟩
     rcases(Qc _ _ _ _).1 hk with rfl|hk
     ·exact hl
     ·exact h.keys k hk
  ·have hj:jP s l r d=r:=by unfold jP;rw[if_neg hl]
   rw[hj]
   refine⟨h.keys,fun d' hd hl'=>?_,fun d' hd hl'=>?_⟩
   ·rcases Ah.1 hd with hd|hd
    ·exact h.deps d' hd hl'
    ·rw[Ae.1 hd]at hl';exact absurd hl' hl
   ·rcases Ah.1 hd with hd|hd
    ·exact h.cs d' hd hl'
    ·rw[Ae.1 hd]at hl';exact absurd hl' hl
theorem uD {st:List (Dig × Int)} {d:Dig} {y:Ident} (hz:y.patch≠Dig.zero) (h:y.patch∉st.map (·.1)):fJ st d y=y:=by
 have ho: ¬Ef y=true:=fun k=>hz (Gm.1 k).1
 unfold fJ
 rw[if_neg ho]
 cases hg:CZ y.patch st with
 |none=>rfl
 |some k=>exact absurd (AQ.2 ⟨_,O8 hg,rfl⟩) h
theorem kQ {f:Ident→Ident} {c:Chg} {y:Ident} (hy:y∈KY c) (hf:f y=y):y∈KY (Gb f c):=by
 unfold KY at hy ⊢
 simp only[B2,B7,AF]at hy ⊢
 rcases hy with rfl|rfl|rfl|rfl|hy
 ·refine .inl ?_
  show _=if 2≤c.kind∧c.kind≤6 then f c.file else c.file
  rw[hf,ite_self]
 ·refine .inr (.inl ?_)
  show _=if c.kind=2 then f c.parent else c.parent
  rw[hf,ite_self]
 ·refine .inr (.inr (.inl ?_))
  show _=if c.kind=5∨c.kind=6 then f c.after else c.after
  rw[hf,ite_self]
 ·refine .inr (.inr (.inr (.inl ?_)))
  show _=if c.kind=5∨c.kind=6 then f c.before else c.before
  rw[hf,ite_self]
 ·exact .inr (.inr (.inr (.inr (VK.2 (AQ.2 ⟨y,hy,hf⟩)))))
theorem ZR {s:List Sto} (v:Bc s) {l:List Dig} {m:Mta} (hid:(Ei (IV s l m)).2=0) {x:Sto} (hx:x∈s) (hl:x.id∈l) {d:Dig} (hd:d∈BB x.patch) (hn: ¬d∈l):d∈BB (IV s l m):=by
 have hJ:=ls.all s l (C5 s) [] (r:=([],0,[],[])) ⟨fun d hd=>absurd hd Aa,fun d hd=>absurd hd Aa,fun d hd=>absurd hd Aa⟩
 rw[B7]at hJ
 have ho:=v.mem_order (AQ.2 ⟨x,hx,rfl⟩)
 have hg:(getS s x.id).getD Pat.zero=x.patch:=by rw[v.getS hx];rfl
 have he: ¬(CN (IV s l m)).2≠0:=fun h=>by rw[Ei,if_pos h]at hid;exact h hid
 have hxe: ¬(CN x.patch).2≠0:=fun h=>by have:=(v.id x hx).1;rw[Ei,if_pos h]at this;exact h this
 rw[BB,if_neg hxe,ME]at hd
 rw[BB,if_neg he,ME]
 rcases hd with hd|⟨c,hc,hd⟩
 ·have hd:d∈x.patch.deps:=by
   have:=(Np x.patch.deps [] .nil).2 d
   exact(this.1 hd).elim (fun h=>absurd h Aa) id
  refine .inl ((Np _ [] .nil).2 d |>.2 (.inr ?_))
  exact(HX _).2 d |>.2 (hJ.deps x.id ho hl d (by rw[hg];exact hd) hn)
 ·obtain⟨st,h1,_,h3⟩:=hJ.cs x.id ho hl c (by rw[hg];exact hc)
  refine .inr ⟨_,h3,?_⟩
  obtain⟨y,hy,rfl⟩:=AQ.1 hd
  obtain⟨hy,hz⟩:=EE.1 hy
  have hz':y.patch≠Dig.zero:=by simpa using hz
  exact AQ.2 ⟨y,EE.2 ⟨kQ hy (uD hz' fun k=>hn (h1 _ k)),hz⟩,rfl⟩
structure Iu (s:List Sto) (l:List Dig) (m:Mta) (t:List Sto) (id:Dig):Prop where
 all: ∀ d∈l,d∈ids s
 some:l≠ []
 convex:mW s l=true
 need:Kd s l=false
 fresh:ed (FG s l) ⟨id,IV s l m⟩
 val:Bc t
 is:t=Jd (FG s l) ⟨id,IV s l m⟩
theorem Tc {s:List Sto} {l:List Dig} {x:Sto}:x∈FG s l↔x∈s∧ ¬x.id∈l:=by
 unfold FG
 rw[EE,AB]
theorem sS {s:List Sto} (v:Bc s) {l:List Dig} {m:Mta} (hb:E6 (IV s l m)=false) (hs:s.length < 200) (h:(Uc s l m).2.2=0): ∃ t id,Uc s l m=(t,id,0)∧Iu s l m t id:=by
 unfold Uc at h ⊢
 by_cases h1:CW (ids s) l=false
 ·rw[if_pos h1]at h;exact absurd h (by decide)
 rw[if_neg h1]at h ⊢
 by_cases h2:l.length=0∨mW s l=false
 ·rw[if_pos h2]at h;exact absurd h (by decide)
 rw[if_neg h2]at h ⊢
 by_cases h3:Kd s l=true
 ·rw[if_pos h3]at h;exact absurd h (by decide)
 rw[if_neg h3]at h ⊢
 have h3:Kd s l=false:=by simpa using h3
 have vo:=v.out h3
 obtain⟨hf,e⟩:=vo.rAdd_ok hb h
 refine⟨_,_,e,WC (by simpa using h1),fun k=>h2 (.inl (by rw[k];rfl)),?_,h3,hf,vo.put hf ?_,rfl⟩
 ·cases hc:mW s l with
  |true=>rfl
  |false=>exact absurd (.inr hc) h2
 ·have:(FG s l).length≤s.length:=CX _ _
  omega
theorem nC {s:List Sto} {l:List Dig} {m:Mta} (h:(Uc s l m).2.2≠0):(Uc s l m).1= []∧(Uc s l m).2.1=Dig.zero:=by
 unfold Uc at h ⊢
 split
 ·exact⟨rfl,rfl⟩
 rename_i h1
 rw[if_neg h1]at h
 split
 ·exact⟨rfl,rfl⟩
 rename_i h2
 rw[if_neg h2]at h
 split
 ·exact⟨rfl,rfl⟩
 rename_i h3
 rw[if_neg h3]at h
 exact jq h
theorem fe {s:List Sto} (v:Bc s) {l:List Dig} (h:Kd s l=false) {x:Sto} (hx:x∈s) (hl: ¬x.id∈l) {q:Dig} (hq:q∈l):Gy s x.id q=false:=by
 have hxi:x.id∈ids s:=AQ.2 ⟨x,hx,rfl⟩
 rw[Kh v hxi,A8,v.mem_clo hxi]
 intro hr
 have key: ∀ d,Q.Reach (ndS s) [x.id] d→ ¬d∈l:=fun d hd=>by
  induction hd with
  |base h'=>rw[Ae.1 h'];exact hl
  |step hz hd ih=>
   have hzi:=hz.in_ (ids:= [x.id]) (U:=ids s) (fun y _ d hd=>v.close.nd y d hd) (fun y hy=>by rw[Ae.1 hy];exact hxi)
   obtain⟨z,hzs,rfl⟩:=AQ.1 hzi
   rw[v.ndS hzs]at hd
   have:=Bl.1 h z hzs
   simp only[ih,decide_false,Y0,E5,Bo,AB,not_exists,not_and]at this
   exact this _ hd
 exact key q hr hq
theorem Iu.knows {s:List Sto} (v:Bc s) {l:List Dig} {m:Mta} {t:List Sto} {id:Dig} (h:Iu s l m t id) {x:Sto} (hx:x∈s) (hl: ¬x.id∈l) {q:Dig} (hq:q∈l) (hk:Gy s q x.id=true):Gy t id x.id=true:=by
 have hqi:=h.all q hq
 rw[Kh v hqi,AB,v.mem_clo hqi]at hk
 have hnew:(⟨id,IV s l m⟩:Sto)∈t:=by rw[h.is];exact Hq.2 (.inl rfl)
 have hid:id∈ids t:=AQ.2 ⟨_,hnew,rfl⟩
 rw[Kh h.val hid,AB,h.val.mem_clo hid]
 have key: ∀ d,Q.Reach (ndS s) [q] d→d∈l∨(¬d∈l∧Q.Reach (ndS t) [id] d):=fun d hd=>by
  induction hd with
  |base h'=>rw[Ae.1 h'];exact .inl hq
  |step hz hd ih=>
   rename_i z d
   have hzi:=hz.in_ (ids:= [q]) (U:=ids s) (fun y _ d hd=>v.close.nd y d hd) (fun y hy=>by rw[Ae.1 hy];exact hqi)
   obtain⟨z,hzs,rfl⟩:=AQ.1 hzi
   rw[v.ndS hzs]at hd
   rcases ih with ih|⟨ih,hr⟩
   ·by_cases hdl:d∈l
    ·exact .inl hdl
    ·refine .inr ⟨hdl,.step (show Q.Reach (ndS t) [id] id from .base (by simp)) ?_⟩
     have e:=h.val.ndS hnew
     dsimp only at e
     rw[e]
     exact ZR v h.fresh.id.1 hzs ih hd hdl
   ·have:=Bl.1 h.need z hzs
    simp only[ih,decide_false,Y0,E5,Bo,AB,not_exists,not_and]at this
    refine .inr ⟨this _ hd,.step hr ?_⟩
    have hzt:z∈t:=by rw[h.is];exact Hq.2 (.inr (Tc.2 ⟨hzs,ih⟩))
    rw[h.val.ndS hzt]
    exact hd
 exact(key x.id hk).elim (fun k=>absurd k hl) (·.2)
theorem Bc.not_self {s:List Sto} (v:Bc s) {x:Sto} (hx:x∈s) {c:Chg} (hc:c∈x.patch.changes) {y:Ident} (hy:y∈KY c):y.patch≠x.id∨y.patch=Dig.zero:=by
 by_cases hz:y.patch=Dig.zero
 ·exact .inr hz
 ·refine .inl fun e=>?_
  have hn:=Lg (v.id x hx).1 hc hy (by unfold FY;simp[hz])
  have:=v.rank hx (e ▸ hn)
  omega
def Kq (c:Chg):Nat:=(Dw c 0).length
theorem RP (c:Chg) (n:Int):(Dw c n).length=Kq c:=by
 unfold Kq Dw
 repeat' split
 all_goals simp
def DW (cs:List Chg) (i:Nat):Nat:=((cs.take i).map Kq).sum
theorem Ps: ∀ (l:List Chg) (own:List Atm),(l.foldl (fun own c=>own++Dw c own.length) own).length=own.length+(l.map Kq).sum
 | [],own=>by simp
 |c::l,own=>by
  rw[Br,Ps l,AD,RP,Ar,DM];omega
theorem fc (cs:List Chg) (i:Nat):(ZD cs i).length=DW cs i:=by
 unfold ZD DW
 rw[Ps];simp
theorem WX.cnt {p:Pat} (h:WX p):Nc p=DW p.changes p.changes.length:=by
 unfold Nc DW
 rw[h.made,Ps,AA (An _)];simp
theorem IW {cs:List Chg} {i:Nat} (h:i < cs.length):DW cs (i+1)=DW cs i+Kq cs[i]:=by
 unfold DW
 rw[K9 h]
theorem Ow (cs:List Chg):DW cs 0=0:=by simp[DW]
theorem Eo (cs:List Chg) {i j:Nat} (h:i≤j):DW cs i≤DW cs j:=by
 obtain⟨k,rfl⟩: ∃ k,j=i+k:=⟨j - i,by omega⟩
 induction k with
 |zero=>exact An _
 |succ k ih=>
  refine CT (ih (by omega)) ?_
  by_cases hk:i+k < cs.length
  ·rw[show i+(k+1)=i+k+1 from rfl,IW hk];omega
  ·unfold DW
   rw[AA (by omega),AA (by omega)];exact An _
def E7 (cs:List Chg) (n:Int):Nat:=((List.range cs.length).filter fun i=>decide ((DW cs i:Int)≤n)).length - 1
theorem OH {f:Nat→Nat} (hf: ∀ i j,i≤j→f i≤f j) {n:Int} {k:Nat}: ∀ {m:Nat},k < m→(f k:Int)≤n→(∀ i,k < i→i < m→ ¬(f i:Int)≤n)→((List.range m).filter fun i=>decide ((f i:Int)≤n)).length=k+1
 |0,h,_,_=>absurd h (Dy _)
 |m+1,h,h1,h2=>by
  rw[ER,DU,AD]
  by_cases hk:k=m
  ·subst hk
   have hall:((List.range k).filter fun i=>decide ((f i:Int)≤n))=List.range k:=by
    rw[aN]
    intro i hi
    have:=hf i k (by have:=Ba.1 hi;omega)
    exact BO (by omega)
   rw[hall,E0 (by simpa using h1)];simp
  ·have:=OH (n:=n) hf (m:=m) (by omega) h1 fun i a b=>h2 i a (by omega)
   rw[this,E1 (by simpa using h2 m (by omega) (by omega))];simp
theorem dh {cs:List Chg} {n:Int} {k:Nat} (hk:k < cs.length) (h1:(DW cs k:Int)≤n) (h2:n < DW cs (k+1)):E7 cs n=k:=by
 unfold E7
 rw[OH (f:=DW cs) (fun i j h=>Eo cs h) hk h1 fun i a _=>?_]
 ·rfl
 ·have:=Eo cs (show k+1≤i by omega)
  omega
theorem di (cs:List Chg) (n:Int) (h0:0≤n): ∀ m,m≤cs.length→n < DW cs m→ ∃ k,k < m∧(DW cs k:Int)≤n∧n < DW cs (k+1)
 |0,_,h=>by rw[Ow]at h;omega
 |m+1,hm,h=>by
  by_cases hn:n < DW cs m
  ·obtain⟨k,a,b,c⟩:=di cs n h0 m (by omega) hn
   exact⟨k,by omega,b,c⟩
  ·exact⟨m,by omega,by omega,h⟩
theorem Qa {cs:List Chg} {n:Int} {m:Nat} (hm:m≤cs.length) (h0:0≤n) (h:n < DW cs m):E7 cs n < m∧(DW cs (E7 cs n):Int)≤n∧n < DW cs (E7 cs n+1):=by
 obtain⟨k,a,b,c⟩:=di cs n h0 m hm h
 rw[dh (by omega) b c]
 exact⟨a,b,c⟩
structure LQ (P:List (List Nat)) (n:Nat):Prop where
 ne: ∀ l∈P,l≠ []
 asc: ∀ l∈P,l.Pairwise fun a b=>a < b
 lt: ∀ l∈P,∀ c∈l,c < n
 apart:P.Pairwise fun l m=> ∀ c∈l,c∉m
 all: ∀ c,c < n→ ∃ l∈P,c∈l
def K5 (P:List (List Nat)) (c:Nat):Nat:=P.findIdx fun l=>decide (c∈l)
theorem OC: ∀ {P:List (List Nat)},(P.Pairwise fun l m=> ∀ c∈l,c∉m)→ ∀ {k:Nat} (hk:k < P.length) {c:Nat},c∈P[k]→K5 P c=k
 | [],_,k,hk,_,_=>absurd hk (Dy _)
 |l::P,h,0,_,c,hc=>by
  unfold K5
  rw[Iy]
  have:decide (c∈l)=true:=BO hc
  rw[this];rfl
 |l::P,h,k+1,hk,c,hc=>by
  obtain⟨h1,h2⟩:=Bn.1 h
  have hk':k < P.length:=by simpa using hk
  have hc':c∈P[k]:=by simpa using hc
  have hn: ¬c∈l:=fun hl=>h1 _ (AG hk') c hl hc'
  have ih:=OC h2 hk' hc'
  unfold K5 at ih ⊢
  rw[Iy]
  have:decide (c∈l)=false:=Cf hn
  rw[this,cond_false,ih]
theorem LQ.mem {P:List (List Nat)} {n:Nat} (h:LQ P n) {c:Nat} (hc:c < n): ∃ hk:K5 P c < P.length,c∈P[K5 P c]:=by
 obtain⟨l,hl,hcl⟩:=h.all c hc
 obtain⟨k,hk,rfl⟩:=Ai.1 hl
 rw[OC h.apart hk hcl]
 exact⟨hk,hcl⟩
def Sq (P:List (List Nat)) (cs:List Chg) (c:Nat):Nat:=(((List.range c).filter fun d=>decide (K5 P d=K5 P c)).map fun d=>Kq (cs.getD d Chg.zero)).sum
theorem RF {P:List (List Nat)} {n:Nat} (h:LQ P n) {cs:List Chg} {k:Nat} (hk:k < P.length) {a b:List Nat} {c:Nat} (e:P[k]=a++c::b):Sq P cs c=(a.map fun d=>Kq (cs.getD d Chg.zero)).sum:=by
 have hc:c∈P[k]:=by rw[e];simp
 have hi:=OC h.apart hk hc
 have hasc:=h.asc _ (AG hk)
 rw[e]at hasc
 obtain⟨ha,hb,hab⟩:=H8.1 hasc
 have hcn:c < n:=h.lt _ (AG hk) c hc
 have key:((List.range c).filter fun d=>decide (K5 P d=K5 P c))=a:=by
  refine bQ (r:=fun a b:Nat=>a < b) Fg (fun _ _ _=>Nat.lt_trans) (List.pairwise_lt_range.filter _) ha fun d=>?_
  rw[EE,Ba,AB,hi]
  constructor
  ·rintro⟨h1,h2⟩
   obtain⟨hk',hd⟩:=h.mem (c:=d) (by omega)
   have hd:d∈P[k]:=by
    have:=hd
    simp only[h2]at this
    exact this
   rw[e]at hd
   rcases Ah.1 hd with hd|hd
   ·exact hd
   ·rcases AF.1 hd with hd|hd
    ·omega
    ·have:=(Bn.1 hb).1 d hd
     omega
  ·intro hd
   exact⟨hab d hd c AI,OC h.apart hk (by rw[e];exact Dk _ hd)⟩
 unfold Sq
 rw[key]
def fS (P:List (List Nat)) (cs:List Chg) (is:List Dig) (k:Nat) (y:Ident):Ident:=
 if Ef y=true then⟨if K5 P (E7 cs y.n)=k then Dig.zero else is.getD (K5 P (E7 cs y.n)) Dig.zero,y.n - DW cs (E7 cs y.n)+Sq P cs (E7 cs y.n)⟩else y
def Ky (id:Dig) (P:List (List Nat)) (cs:List Chg) (is:List Dig) (k:Nat) (c:Nat):Mvd:=
 ⟨id,DW cs c,(DW cs c:Int)+Kq (cs.getD c Chg.zero),if K5 P c=k then Dig.zero else is.getD (K5 P c) Dig.zero,Sq P cs c⟩
theorem oT {l:List Mvd} {e:Mvd} {x:Ident} (he:e∈l) (h1:x.patch=e.old∧e.lo≤x.n∧x.n < e.hi) (hu: ∀ m∈l,x.patch=m.old∧m.lo≤x.n∧x.n < m.hi→m=e):N2 l x=⟨e.patch,e.dst+x.n - e.lo⟩:=by
 induction l with
 |nil=>cases he
 |cons m l ih=>
  unfold N2
  by_cases h:x.patch=m.old∧m.lo≤x.n∧x.n < m.hi
  ·rw[if_pos h,hu m AI h]
  ·rw[if_neg h]
   refine ih ?_ fun m' hm=>hu m' (AL _ hm)
   rcases AF.1 he with rfl|he
   ·exact absurd h1 h
   ·exact he
theorem rP {id:Dig} {P:List (List Nat)} {cs:List Chg} {is:List Dig} {k:Nat} {D:List Nat} (hD: ∀ c∈D,c < cs.length) {y:Ident} (hy:Ef y=true→y.n < DW cs cs.length∧E7 cs y.n∈D) (hn:Ef y=false→y.patch≠id∨y.n < 0):
  fS P cs is k y=gM (D.map (Ky id P cs is k)) id y:=by
 unfold fS gM
 by_cases ho:Ef y=true
 ·rw[if_pos ho,if_pos ho]
  obtain⟨hlt,hin⟩:=hy ho
  have h0:=(Gm.1 ho).2
  obtain⟨a,b,c⟩:=Qa (An _) h0 hlt
  have e0: ∀ {d:Nat} (hd:d < cs.length),(DW cs d:Int)+Kq (cs.getD d Chg.zero)=DW cs (d+1):=fun {d} hd=>by
   rw[IW hd,Cv,AY hd,CA];omega
  rw[oT (x:=⟨id,y.n⟩) (e:=Ky id P cs is k (E7 cs y.n)) (AQ.2 ⟨_,hin,rfl⟩) ⟨rfl,b,by unfold Ky;dsimp only;rw[e0 a];exact c⟩ fun m hm h=>?_]
  ·unfold Ky
   dsimp only
   congr 1
   omega
  ·obtain⟨d,hd,rfl⟩:=AQ.1 hm
   unfold Ky at h
   dsimp only at h
   rw[e0 (hD d hd)]at h
   rw[dh (hD d hd) h.2.1 h.2.2]
 ·rw[if_neg ho,if_neg ho]
  refine(RZ fun m hm e h=>?_).symm
  obtain⟨d,hd,rfl⟩:=AQ.1 hm
  unfold Ky at e h
  dsimp only at e h
  rcases hn (by simpa using ho)with h'|h'
  ·exact absurd e h'
  ·omega
theorem VI {P:List (List Nat)} {n:Nat} (h:LQ P n) {cs:List Chg} {c d:Nat} (hc:c < d) (hd:d < n) (e:K5 P c=K5 P d):Sq P cs c+Kq (cs.getD c Chg.zero)≤Sq P cs d:=by
 obtain⟨hk,hcm⟩:=h.mem (c:=c) (by omega)
 obtain⟨hk',hdm⟩:=h.mem hd
 have hdm:d∈P[K5 P c]:=by simp only[e];exact hdm
 obtain⟨a,b,hab⟩:=List.append_of_mem hdm
 have hasc:=h.asc _ (AG hk)
 rw[hab]at hasc
 obtain⟨_,hb,_⟩:=H8.1 hasc
 have hca:c∈a:=by
  rw[hab]at hcm
  rcases Ah.1 hcm with h1|h1
  ·exact h1
  ·rcases AF.1 h1 with h1|h1
   ·omega
   ·have:=(Bn.1 hb).1 c h1
    omega
 obtain⟨a1,a2,ha⟩:=List.append_of_mem hca
 subst ha
 have hab':P[K5 P c]=a1++c::(a2++d::b):=by rw[hab];simp
 rw[RF h hk hab',RF h hk hab]
 simp only[Al,Ar,Df,DM]
 omega
theorem uC {P:List (List Nat)} {cs:List Chg} (h:LQ P cs.length) {is:List Dig} {k:Nat} (hz: ∀ j,j < k→is.getD j Dig.zero≠Dig.zero) (hn: ∀ i j,i < k→j < k→is.getD i Dig.zero=is.getD j Dig.zero→i=j)
  {G:Ident→Prop} (hG: ∀ y,G y→0≤y.n∧(Ef y=true→y.n < DW cs cs.length∧K5 P (E7 cs y.n)≤k)∧(Ef y=false→y.patch≠Dig.zero∧ ∀ j,j < k→y.patch≠is.getD j Dig.zero))
  {y z:Ident} (gy:G y) (gz:G z) (e:fS P cs is k y=fS P cs is k z):y=z:=by
 obtain⟨y0,y1,y2⟩:=hG y gy
 obtain⟨z0,z1,z2⟩:=hG z gz
 have pp: ∀ {w:Ident},Ef w=true→K5 P (E7 cs w.n)≤k→(fS P cs is k w).patch=Dig.zero∧K5 P (E7 cs w.n)=k∨K5 P (E7 cs w.n) < k∧(fS P cs is k w).patch=is.getD (K5 P (E7 cs w.n)) Dig.zero:=fun {w} hw hk=>by
  unfold fS
  rw[if_pos hw]
  dsimp only
  by_cases hi:K5 P (E7 cs w.n)=k
  ·rw[if_pos hi];exact .inl ⟨rfl,hi⟩
  ·rw[if_neg hi];exact .inr ⟨by omega,rfl⟩
 by_cases oy:Ef y=true
 ·obtain⟨a1,a2⟩:=y1 oy
  by_cases oz:Ef z=true
  ·obtain⟨b1,b2⟩:=z1 oz
   have same:K5 P (E7 cs y.n)=K5 P (E7 cs z.n):=by
    rcases pp oy a2 with ⟨p1,p2⟩|⟨p1,p2⟩<;>rcases pp oz b2 with ⟨q1,q2⟩|⟨q1,q2⟩
    ·rw[p2,q2]
    ·rw[e,q2]at p1;exact absurd p1 (hz _ q1)
    ·rw[e,q1]at p2;exact absurd p2.symm (hz _ p1)
    ·rw[e,q2]at p2;exact(hn _ _ q1 p1 p2).symm
   obtain⟨c1,c2,c3⟩:=Qa (An _) y0 a1
   obtain⟨d1,d2,d3⟩:=Qa (An _) z0 b1
   have en:y.n - DW cs (E7 cs y.n)+Sq P cs (E7 cs y.n)=z.n - DW cs (E7 cs z.n)+Sq P cs (E7 cs z.n):=by
    have:=congrArg Ident.n e
    unfold fS at this
    rw[if_pos oy,if_pos oz]at this
    exact this
   have cn: ∀ {d:Nat} (hd:d < cs.length),DW cs (d+1)=DW cs d+Kq (cs.getD d Chg.zero):=fun {d} hd=>by
    rw[IW hd,Cv,AY hd,CA]
   rw[cn c1]at c3
   rw[cn d1]at d3
   have hnn:y.n=z.n:=by
    rcases R6 (E7 cs y.n) (E7 cs z.n)with hl|hl|hl
    ·have:=VI h (cs:=cs) hl d1 same
     omega
    ·rw[hl]at en;omega
    ·have:=VI h (cs:=cs) hl c1 same.symm
     omega
   have hp:y.patch=z.patch:=by rw[(Gm.1 oy).1,(Gm.1 oz).1]
   cases y;cases z;simp_all
  ·have oz:Ef z=false:=by simpa using oz
   obtain⟨q1,q2⟩:=z2 oz
   have e2:fS P cs is k z=z:=by unfold fS;rw[if_neg (by simp[oz])]
   rw[e2]at e
   rcases pp oy a2 with ⟨p1,_⟩|⟨p1,p2⟩
   ·rw[e]at p1;exact absurd p1 q1
   ·rw[e]at p2;exact absurd p2 (q2 _ p1)
 ·have oy:Ef y=false:=by simpa using oy
  obtain⟨p1,p2⟩:=y2 oy
  have e1:fS P cs is k y=y:=by unfold fS;rw[if_neg (by simp[oy])]
  rw[e1]at e
  by_cases oz:Ef z=true
  ·obtain⟨b1,b2⟩:=z1 oz
   rcases pp oz b2 with ⟨q1,_⟩|⟨q1,q2⟩
   ·rw[←e]at q1;exact absurd q1 p1
   ·rw[←e]at q2;exact absurd q2 (p2 _ q1)
  ·have oz:Ef z=false:=by simpa using oz
   have e2:fS P cs is k z=z:=by unfold fS;rw[if_neg (by simp[oz])]
   rw[e2]at e
   exact e
def Cw (c:Chg):List Ident:=(if 2≤c.kind∧c.kind≤6 then [c.file]else [])++(if c.kind=2 then [c.parent]else [])++(if c.kind=5∨c.kind=6 then [c.after,c.before]else [])++c.over
def Ko (P:List (List Nat)) (cs:List Chg):Bool:=(List.range cs.length).any fun i=>(Cw (cs.getD i Chg.zero)).any fun y=>Ef y&&decide (K5 P i < K5 P (E7 cs y.n))
theorem aa {c:Chg} {G:Ident→Prop} (h: ∀ y∈Cw c,G y):P9 c G:=by
 unfold Cw at h
 refine⟨fun a b=>h _ ?_,fun a _=>h _ ?_,fun a=>h _ ?_,fun a=>h _ ?_,fun y hy=>h _ ?_⟩
 ·simp[a,b]
 ·simp[a]
 ·rw[if_pos a];simp
 ·rw[if_pos a];simp
 ·simp[hy]
def QD (id:Dig) (cs:List Chg) (r:List Mvd × Int × List Chg) (c:Nat):List Mvd × Int × List Chg:=
 let l:=r.1++ [⟨id,DW cs c,(DW cs c:Int)+Kq (cs.getD c Chg.zero),Dig.zero,r.2.1⟩]
 (l,r.2.1+Kq (cs.getD c Chg.zero),r.2.2++ [P6 (gM l id) (cs.getD c Chg.zero)])
structure HY (s:List Sto) (x:Sto) (P:List (List Nat)):Prop where
 val:Bc s
 mem:x∈s
 parts:LQ P x.patch.changes.length
 early:Ko P x.patch.changes=false
theorem HY.uses {s:List Sto} {x:Sto} {P:List (List Nat)} (h:HY s x P) {c:Nat} (hc:c < x.patch.changes.length):
  P9 x.patch.changes[c] fun y=>0≤y.n∧(Ef y=true→y.n < DW x.patch.changes c∧K5 P (E7 x.patch.changes y.n)≤K5 P c)∧(Ef y=false→y.patch≠Dig.zero∧y.patch≠x.id∧y.patch∈ids s):=by
 have hp:=Ht (Js (h.val.id x h.mem).1).1
 have h1:=TL (hp.refs c hc)
 have h2:=h.val.uses h.mem (AG hc)
 have h3:P9 x.patch.changes[c] fun y=>Ef y=true→K5 P (E7 x.patch.changes y.n)≤K5 P c:=aa fun y hy ho=>by
  have h0:=Bl.1 h.early c (Ba.2 hc)
  rw[Cv,AY hc,CA,Jq]at h0
  have h1:=Bl.1 h0 y hy
  rw[ho,E5,AB]at h1
  omega
 have h4:P9 x.patch.changes[c] fun y=>y.patch≠x.id∨y.patch=Dig.zero:=⟨fun _ _=>h.val.not_self h.mem (AG hc) (by simp[KY]),fun _ _=>h.val.not_self h.mem (AG hc) (by simp[KY]),fun _=>h.val.not_self h.mem (AG hc) (by simp[KY]),fun _=>h.val.not_self h.mem (AG hc) (by simp[KY]),fun y hy=>h.val.not_self h.mem (AG hc) (by simp[KY,hy])⟩
 refine(((h1.and h2).and h3).and h4).mono fun y ⟨⟨⟨a1,a2⟩,a3⟩,a4⟩=>⟨a1.1,fun ho=>⟨?_,a3 ho⟩,fun ho=>?_⟩
 ·have:=a1.2 (Gm.1 ho).1
  rw[fc]at this
  exact this
 ·have hz:y.patch≠Dig.zero:=fun e=>by
   have:=Gm.2 ⟨e,a1.1⟩
   rw[ho]at this;cases this
  obtain⟨z,hz1,hz2,_⟩:=a2.2 hz
  exact⟨hz,a4.elim id fun e=>absurd e hz,hz2 ▸ AQ.2 ⟨z,hz1,rfl⟩⟩
theorem HY.change {s:List Sto} {x:Sto} {P:List (List Nat)} (h:HY s x P) {is:List Dig} {k:Nat} (hz: ∀ j,j < k→is.getD j Dig.zero≠Dig.zero) (hn: ∀ i j,i < k→j < k→is.getD i Dig.zero=is.getD j Dig.zero→i=j)
  (hs: ∀ j,j < k→is.getD j Dig.zero∈ids s→is.getD j Dig.zero=x.id) {c:Nat} (hc:c < x.patch.changes.length) (hk:K5 P c=k)
  {D:List Nat} (hD: ∀ d∈D,d < x.patch.changes.length) (hall: ∀ d,d < x.patch.changes.length→(K5 P d < k∨K5 P d=k∧d < c)→d∈D):
  Gb (fS P x.patch.changes is k) x.patch.changes[c]=P6 (gM (D.map (Ky x.id P x.patch.changes is k)) x.id) x.patch.changes[c]:=by
 have hp:=Ht (Js (h.val.id x h.mem).1).1
 have hu:=h.uses hc
 have hm:=Eo x.patch.changes (show c≤x.patch.changes.length by omega)
 refine Vj (hu.mono fun y ⟨a0,a1,a2⟩=>?_) ?_ ?_
 ·refine rP hD (fun ho=>?_) fun ho=> .inl (a2 ho).2.1
  obtain⟨b1,b2⟩:=a1 ho
  obtain⟨c1,_,_⟩:=Qa (cs:=x.patch.changes) (m:=c) (by omega) a0 b1
  refine⟨by omega,hall _ (by omega) ?_⟩
  rw[hk]at b2
  omega
 ·refine rP hD (fun ho=>absurd ho (by decide)) fun _=> .inr (by decide)
 ·refine R9.2 ((ZE (hp.fields c hc)).nodup.imp_of_mem fun {y z} hy hz' hne e=>hne ?_)
  refine uC h.parts hz hn (G:=fun y=>0≤y.n∧(Ef y=true→y.n < DW x.patch.changes c∧K5 P (E7 x.patch.changes y.n)≤K5 P c)∧(Ef y=false→y.patch≠Dig.zero∧y.patch≠x.id∧y.patch∈ids s)) (fun y ⟨a0,a1,a2⟩=>⟨a0,fun ho=>?_,fun ho=>⟨(a2 ho).1,fun j hj e=>?_⟩⟩) (hu.over y hy) (hu.over z hz') e
  ·obtain⟨b1,b2⟩:=a1 ho
   exact⟨by omega,by omega⟩
  ·obtain⟨_,b2,b3⟩:=a2 ho
   rw[e]at b2 b3
   exact b2 (hs j hj b3)
def J3 (x:Sto) (P:List (List Nat)) (is:List Dig) (l:List Nat) (m:Mta):Pat:=
 ⟨m.author,m.message,m.time,Kp (sortD (BB x.patch++is)),l.map fun c=>Gb (fS P x.patch.changes is is.length) (x.patch.changes.getD c Chg.zero)⟩
def Wg (x:Sto) (P:List (List Nat)):List (List Nat × Mta)→List Sto→List Dig→List Sto × List Dig × Int
 | [],t,is=>(t,is,0)
 |e::o,t,is=>if(Ee t (J3 x P is e.1 e.2)).2.2≠0 then([],[],(Ee t (J3 x P is e.1 e.2)).2.2)else Wg x P o (Ee t (J3 x P is e.1 e.2)).1 (is++ [(Ee t (J3 x P is e.1 e.2)).2.1])
def QX (x:Sto) (deps:List Dig) (done:List Mvd) (l:List Nat) (m:Mta):Pat:=
 ⟨m.author,m.message,m.time,deps,(l.foldl (QD x.id x.patch.changes) (done,0,[])).2.2⟩
def kM (x:Sto) (done:List Mvd) (l:List Nat) (d:Dig):List Mvd:=
 done++(((l.foldl (QD x.id x.patch.changes) (done,0,[])).1).drop done.length).map fun e=>{ e with patch:=d }
def nJ (x:Sto):List (List Nat × Mta)→List Sto→List Dig→List Dig→List Mvd→List Sto × List Dig × Int
 | [],t,is,_,_=>(t,is,0)
 |e::o,t,is,deps,done=>if(Ee t (QX x deps done e.1 e.2)).2.2≠0 then([],[],(Ee t (QX x deps done e.1 e.2)).2.2)else nJ x o (Ee t (QX x deps done e.1 e.2)).1 (is++ [(Ee t (QX x deps done e.1 e.2)).2.1]) (EK deps (Ee t (QX x deps done e.1 e.2)).2.1) (kM x done e.1 (Ee t (QX x deps done e.1 e.2)).2.1)
structure UY (s:List Sto) (x:Sto) (is:List Dig):Prop where
 nz: ∀ d∈is,d≠Dig.zero
 nodup:is.Nodup
 old: ∀ d∈is,d∈ids s→d=x.id
theorem Kk {is:List Dig} {j:Nat} (h:j < is.length):is.getD j Dig.zero=is[j]:=by simp[List.getD,h]
theorem HY.steps {s:List Sto} {x:Sto} {P:List (List Nat)} (h:HY s x P) {is:List Dig} (hn:UY s x is) (hk:is.length < P.length): ∀ j,j≤(P[is.length]).length→
  ((P[is.length]).take j).foldl (QD x.id x.patch.changes) ((P.take is.length).flatten.map (Ky x.id P x.patch.changes is is.length),0,[])=
   (((P.take is.length).flatten++(P[is.length]).take j).map (Ky x.id P x.patch.changes is is.length),(((((P[is.length]).take j).map fun d=>Kq (x.patch.changes.getD d Chg.zero)).sum:Nat):Int),((P[is.length]).take j).map fun c=>Gb (fS P x.patch.changes is is.length) (x.patch.changes.getD c Chg.zero)):=by
 intro j
 have hP:=h.parts
 have hlt: ∀ d∈P[is.length],d < x.patch.changes.length:=hP.lt _ (AG hk)
 induction j with
 |zero=>intro _;simp
 |succ j ih=>
  intro hj
  have hj':j < (P[is.length]).length:=by omega
  have e:(P[is.length]).take (j+1)=(P[is.length]).take j++ [(P[is.length])[j]]:=A6 hj'
  have hc:=hlt _ (AG hj')
  have hin:K5 P (P[is.length])[j]=is.length:=OC hP.apart hk (AG hj')
  have hsta:Sq P x.patch.changes (P[is.length])[j]=(((P[is.length]).take j).map fun d=>Kq (x.patch.changes.getD d Chg.zero)).sum:=by
   refine RF hP hk (b:=(P[is.length]).drop (j+1)) ?_
   rw[←CP hj',CH]
  have hent:Ky x.id P x.patch.changes is is.length (P[is.length])[j]=⟨x.id,DW x.patch.changes (P[is.length])[j],(DW x.patch.changes (P[is.length])[j]:Int)+Kq (x.patch.changes.getD (P[is.length])[j] Chg.zero),Dig.zero,((((P[is.length]).take j).map fun d=>Kq (x.patch.changes.getD d Chg.zero)).sum:Nat)⟩:=by
   unfold Ky
   rw[if_pos hin,hsta]
  rw[e,Bk,ih (by omega),Br,JK]
  unfold QD
  dsimp only
  rw[←hent]
  have hmap:((P.take is.length).flatten++(P[is.length]).take j).map (Ky x.id P x.patch.changes is is.length)++ [Ky x.id P x.patch.changes is is.length (P[is.length])[j]]=((P.take is.length).flatten++((P[is.length]).take j++ [(P[is.length])[j]])).map (Ky x.id P x.patch.changes is is.length):=by
   simp only[Al,Ar,CF,AX]
  rw[hmap]
  have hget:x.patch.changes.getD (P[is.length])[j] Chg.zero=x.patch.changes[(P[is.length])[j]]:=by simp[List.getD,hc]
  have hch:=h.change (is:=is) (k:=is.length) (fun i hi=>by rw[Kk hi];exact hn.nz _ (AG hi)) (fun i i' hi hi' e=>by
   rw[Kk hi,Kk hi']at e
   exact(List.getElem_inj hn.nodup).1 e) (fun i hi hs=>by rw[Kk hi]at hs ⊢;exact hn.old _ (AG hi) hs) hc hin
   (D:=(P.take is.length).flatten++((P[is.length]).take j++ [(P[is.length])[j]])) (fun d hd=>by
    rcases Ah.1 hd with hd|hd
    ·obtain⟨l,hl,hdl⟩:=EJ.1 hd
     exact hP.lt l (E8 hl) d hdl
    ·rw[←e]at hd
     exact hlt d (E8 hd)) (fun d hd hor=>by
    obtain⟨hk',hdm⟩:=hP.mem hd
    rcases hor with hlt'|⟨heq,hdc⟩
    ·exact Dk _ (EJ.2 ⟨_,De.2 ⟨K5 P d,by omega,rfl⟩,hdm⟩)
    ·refine DY _ (Dk _ ?_)
     have hdm:d∈P[is.length]:=by simp only[heq]at hdm;exact hdm
     obtain⟨i,hi,rfl⟩:=Ai.1 hdm
     have hij:i < j:=by
      rcases BJ i j with h'|h'
      ·exact h'
      ·exfalso
       rcases Nat.eq_or_lt_of_le h' with h'|h'
       ·subst h';omega
       ·have:=B5.1 (hP.asc _ (AG hk)) j i hj' hi h'
        omega
     exact De.2 ⟨i,by omega,rfl⟩)
  rw[hget,←hch]
  simp only[Al,Ar,CF,Df,DM,Jo,hget,Prod.mk.injEq,true_and,and_true]
  omega
theorem HY.part {s:List Sto} {x:Sto} {P:List (List Nat)} (h:HY s x P) {is:List Dig} (hn:UY s x is) (hk:is.length < P.length) (m:Mta):
  QX x (Kp (sortD (BB x.patch++is))) ((P.take is.length).flatten.map (Ky x.id P x.patch.changes is is.length)) P[is.length] m=J3 x P is P[is.length] m∧
  ∀ d,kM x ((P.take is.length).flatten.map (Ky x.id P x.patch.changes is is.length)) P[is.length] d=(P.take (is.length+1)).flatten.map (Ky x.id P x.patch.changes (is++ [d]) (is.length+1)):=by
 have hst:=h.steps hn hk (P[is.length]).length (An _)
 rw[AA (An _)]at hst
 refine⟨?_,fun d=>?_⟩
 ·unfold QX J3
  rw[hst]
 ·unfold kM
  rw[hst]
  dsimp only
  have e:P.take (is.length+1)=P.take is.length++ [P[is.length]]:=A6 hk
  rw[e,CD,Al,Al,Xz,GW,CU]
  congr 1
  ·refine Cc fun c hc=>?_
   obtain⟨l,hl,hcl⟩:=EJ.1 hc
   obtain⟨i,hi,rfl⟩:=De.1 hl
   have hin:K5 P c=i:=OC h.parts.apart (by omega) hcl
   unfold Ky
   rw[hin,if_neg (by omega),if_neg (by omega)]
   congr 1
   rw[Kk (by omega),Kk (by simp;omega),BA]
  ·refine Cc fun c hc=>?_
   have hin:K5 P c=is.length:=OC h.parts.apart hk hc
   unfold Ky
   simp only[Function.comp_apply,hin,if_true]
   rw[if_neg (by omega),Kk (by simp)]
   simp
theorem bN {l:List Dig} (h:Dig.zero∈l):Ie l≠0:=by
 unfold Ie
 split
 ·omega
 intro k
 obtain⟨i,hi,e⟩:=Ai.1 h
 have:=Cy k i (Ba.2 hi)
 unfold Ha at this
 rw[if_pos (by simp[List.getD,hi,e])]at this
 omega
theorem fV {t:List Sto} {a m:Str} {i:Int} {deps:List Dig} {cs cs':List Chg} (h:Dig.zero∈deps):Ee t ⟨a,m,i,deps,cs⟩=Ee t ⟨a,m,i,deps,cs'⟩∧(Ee t ⟨a,m,i,deps,cs⟩).2.2≠0:=by
 have hd:=bN h
 have hc: ∀ cs cs':List Chg,(CB ⟨a,m,i,deps,cs⟩).2=(CB ⟨a,m,i,deps,cs'⟩).2∧(CB ⟨a,m,i,deps,cs⟩).2≠0:=fun cs cs'=>by
  unfold CB
  dsimp only
  split
  ·exact⟨rfl,by simp⟩
  split
  ·exact⟨rfl,by simp⟩
  split
  ·exact⟨rfl,by simp⟩
  exact⟨rfl,hd⟩
 have hr: ∀ cs:List Chg,Ei ⟨a,m,i,deps,cs⟩=(Dig.zero,(CB ⟨a,m,i,deps,cs⟩).2):=fun cs=>by
  have:=(hc cs cs).2
  unfold Ei CN
  rw[if_pos this]
  dsimp only
  rw[if_pos this]
 have ha: ∀ cs:List Chg,Ee t ⟨a,m,i,deps,cs⟩=([],Dig.zero,(CB ⟨a,m,i,deps,cs⟩).2):=fun cs=>by
  unfold Ee
  rw[hr]
  dsimp only
  rw[if_pos (hc cs cs).2]
 rw[ha,ha,(hc cs cs').1]
 exact⟨rfl,by rw[←(hc cs cs').1];exact(hc cs cs').2⟩
end Go.Proofs
