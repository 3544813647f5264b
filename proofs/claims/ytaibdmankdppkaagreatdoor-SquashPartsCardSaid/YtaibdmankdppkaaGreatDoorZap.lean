/- Plain laws: what is pushed onto a heap and popped from it. -/
import Derived.Test.YtaibdmankdppkaaGreatDoorZao
import Derived.Test.YtaibdmankdppkaaGreatDoorZam
set_option linter.unusedSimpArgs false
set_option linter.unusedVariables false
namespace Go.Proofs
open Go Go.Q
theorem MQ {a:List Sto} {d:Dig} {p:Pat} (h:getS a d=some p):(⟨d,p⟩:Sto)∈a:=by
 obtain⟨x,hx,e1,e2⟩:=Kh h
 rw[←e1,←e2];exact hx
structure Ko (s:List Sto) (l L:List Dig):Prop where
 has: ∀ d∈l,d∈L
 sub: ∀ d∈L,d∈ids s
 asc:HB L
 nd: ∀ d∈L,∀ n∈ndS s d,n∈L
theorem BP.closed {s:List Sto} (v:BP s) {l:List Dig} (hl: ∀ d∈l,d∈ids s): ∃ L,Dk s l=(L,0)∧Ko s l L:=by
 have h:DI (ids s) l=true:=Bc.2 fun d hd=>BF (hl d hd)
 have hcl: ∀ x∈ids s,∀ d∈Go.Proofs.ndS s x,d∈ids s:=fun x _ d hd=>v.close.nd x d hd
 have hm: ∀ d,d∈MN (Go.Proofs.ndS s) s.length (Di [] l)↔Q.Reach (Go.Proofs.ndS s) l d:=fun d=>MJ hcl hl (by rw[Hj];exact Ak _)
 refine⟨MN (Go.Proofs.ndS s) s.length (Di [] l),by rw[Dk,if_neg (by simp[h])],fun d hd=>(hm d).2 (.base hd),fun d hd=>((hm d).1 hd).in_ hcl hl,P4 (GB .nil),fun d hd n hn=>(hm n).2 (.step ((hm d).1 hd) hn)⟩
theorem BP.closedM {s:List Sto} (v:BP s) {l:List Dig} (hl: ∀ d∈l,d∈ids s): ∃ L,Dk s l=(L,0)∧Ko s l L∧ ∀ d,d∈L↔Q.Reach (Go.Proofs.ndS s) l d:=by
 obtain⟨L,e,h⟩:=v.closed hl
 refine⟨L,e,h,fun d=>?_⟩
 have hA:DI (ids s) l=true:=Bc.2 fun d hd=>BF (hl d hd)
 have hcl: ∀ x∈ids s,∀ d∈Go.Proofs.ndS s x,d∈ids s:=fun x _ d hd=>v.close.nd x d hd
 rw[Dk,if_neg (by simp[hA])]at e
 rw[←(Prod.mk.inj e).1,MJ hcl hl (by rw[Hj];exact Ak _)]
def qz (l:List Dig) (i:Nat):List Dig:=(l.set i (l.getD (i+1) Dig.zero)).set (i+1) (l.getD i Dig.zero)
@[simp] theorem vW (l:List Dig) (i:Nat):(qz l i).length=l.length:=by simp[qz]
section
variable {β:Type} [DecidableEq β] (K:Sto→β)
end
theorem Reach.trans' {nd:Dig→List Dig} {l:List Dig} {x d:Dig} (h1:Q.Reach nd l x) (h2:Q.Reach nd [x] d):Q.Reach nd l d:=by
 induction h2 with
 |base h=>rw[Ah.1 h];exact h1
 |step _ h ih=>exact .step ih h
structure QI (nd:Dig→List Dig) (U:List Dig) (T:List (Dig × List Dig)):Prop where
 is: ∀ d,(CB d T).isSome=decide (d∈U)
 mem: ∀ x y,y∈ndG T x↔y∈U∧x∈nd y
 len: ∀ x,(ndG T x).length≤400
theorem QI.ok {nd:Dig→List Dig} {U:List Dig} {T:List (Dig × List Dig)} (h:QI nd U T) (hU:U.length≤200):mf T U:=
 ⟨h.is,hU,fun x _ d hd=>((h.mem x d).1 hd).1,h.len⟩
theorem QI.reach {nd:Dig→List Dig} {U:List Dig} {T:List (Dig × List Dig)} (h:QI nd U T) (hcl: ∀ x∈U,∀ d∈nd x,d∈U) {l:List Dig} (hl: ∀ d∈l,d∈U) (d:Dig):Q.Reach (ndG T) l d↔d∈U∧ ∃ q∈l,Q.Reach nd [d] q:=by
 constructor
 ·intro hr
  induction hr with
  |base hd=>exact⟨hl _ hd,_,hd,.base (by simp)⟩
  |step _ hd ih=>
   obtain⟨_,q,hq,hr⟩:=ih
   obtain⟨hu,hn⟩:=(h.mem _ _).1 hd
   exact⟨hu,q,hq,Reach.trans' (.step (.base (by simp)) hn) hr⟩
 ·rintro⟨hd,q,hq,hr⟩
  have key: ∀ q,Q.Reach nd [d] q→Q.Reach (ndG T) [q] d:=fun q hr=>by
   induction hr with
   |base h'=>rw[Ah.1 h'];exact .base (by simp)
   |step hx hn ih=>
    have hxU:=hx.in_ hcl (ids:= [d]) (fun y hy=>by rw[Ah.1 hy];exact hd)
    exact Reach.trans' (.step (.base (by simp)) ((h.mem _ _).2 ⟨hxU,hn⟩)) ih
  exact Reach.trans' (.base hq) (key q hr)
def Wm (s:List Sto) (l out:List Dig) (x:Sto):List Dig:=l.foldl (fun out k=>if k∈QF s x.id then FX out x.id else out) out
def YF (s:List Sto) (l:List Dig) (t:List Sto):List Dig:=t.foldl (Wm s l) []
def LN (s:List Sto) (l:List Dig):List Dig × Int:=if DI (ids s) l=false then([],7)else(YF s l s,0)
theorem YG {s:List Sto} {x:Sto}: ∀ {l out:List Dig},HB out→HB (Wm s l out x)
 | [],_,h=>h
 |k::l,out,h=>by
  unfold Wm
  rw[Bp]
  refine YG (l:=l) ?_
  split
  ·exact Lk h
  ·exact h
theorem ZQ {s:List Sto} {x:Sto}: ∀ {l out:List Dig} {d:Dig},d∈Wm s l out x↔d∈out∨(d=x.id∧ ∃ k∈l,k∈QF s x.id)
 | [],out,d=>by simp[Wm]
 |k::l,out,d=>by
  have e:Wm s (k::l) out x=Wm s l (if k∈QF s x.id then FX out x.id else out) x:=rfl
  rw[e,ZQ]
  by_cases h:k∈QF s x.id
  ·rw[if_pos h,KV]
   constructor
   ·rintro((h1|h1)|⟨h1,k',h2,h3⟩)
    ·exact .inr ⟨h1,k,by simp,h⟩
    ·exact .inl h1
    ·exact .inr ⟨h1,k',AJ _ h2,h3⟩
   ·rintro(h1|⟨h1,_⟩)
    ·exact .inl (.inr h1)
    ·exact .inl (.inl h1)
  ·rw[if_neg h]
   constructor
   ·rintro(h1|⟨h1,k',h2,h3⟩)
    ·exact .inl h1
    ·exact .inr ⟨h1,k',AJ _ h2,h3⟩
   ·rintro(h1|⟨h1,k',h2,h3⟩)
    ·exact .inl h1
    ·rcases AH.1 h2 with rfl|h2
     ·exact absurd h3 h
     ·exact .inr ⟨h1,k',h2,h3⟩
theorem Se {s:List Sto} {l:List Dig}: ∀ {t:List Sto} {out:List Dig},HB out→HB (t.foldl (Wm s l) out)
 | [],_,h=>h
 |x::t,out,h=>Se (t:=t) (YG h)
theorem SX {s:List Sto} {l:List Dig}: ∀ {t:List Sto} {out:List Dig} {d:Dig},d∈t.foldl (Wm s l) out↔d∈out∨ ∃ x∈t,d=x.id∧ ∃ k∈l,k∈QF s x.id
 | [],out,d=>by simp
 |x::t,out,d=>by
  rw[Bp,SX,ZQ]
  constructor
  ·rintro((h|h)|⟨y,hy,h⟩)
   ·exact .inl h
   ·exact .inr ⟨x,by simp,h⟩
   ·exact .inr ⟨y,AJ _ hy,h⟩
  ·rintro(h|⟨y,hy,h⟩)
   ·exact .inl (.inl h)
   ·rcases AH.1 hy with rfl|hy
    ·exact .inl (.inr h)
    ·exact .inr ⟨y,hy,h⟩
theorem fG {s:List Sto} {l:List Dig}:HB (YF s l s):=Se .nil
theorem U9 {s:List Sto} {l:List Dig} {d:Dig}:d∈YF s l s↔d∈ids s∧ ∃ k∈l,k∈QF s d:=by
 unfold YF
 rw[SX]
 constructor
 ·rintro(h|⟨x,hx,rfl,h⟩)
  ·cases h
  ·exact⟨AQ.2 ⟨x,hx,rfl⟩,h⟩
 ·rintro⟨h,h2⟩
  obtain⟨x,hx,rfl⟩:=AQ.1 h
  exact .inr ⟨x,hx,rfl,h2⟩
theorem BP.turned {s:List Sto} (v:BP s) {T:List (Dig × List Dig)} (h:QI (Go.Proofs.ndS s) (ids s) T) (l:List Dig):(Go.Proofs.clG T (ids s) l).1=(LN s l).1∧(LN s l).2=if(Go.Proofs.clG T (ids s) l).2=false then 7 else 0:=by
 have h1:PJ T l=DI (ids s) l:=by
  unfold PJ DI
  congr 1
  funext d
  exact h.is d
 unfold Go.Proofs.clG LN
 rw[h1]
 by_cases hl:DI (ids s) l=false
 ·rw[if_pos hl,if_pos hl];simp
 rw[if_neg hl,if_neg hl]
 refine⟨?_,by simp⟩
 have hlU: ∀ d∈l,d∈ids s:=fun d hd=>by
  have hl:DI (ids s) l=true:=by simpa using hl
  simpa using Bc.1 hl d hd
 have hT: ∀ x∈ids s,∀ d∈Go.Proofs.ndG T x,d∈ids s:=fun x _ d hd=>((h.mem x d).1 hd).1
 refine HB.ext (P4 (GB .nil)) fG fun d=>?_
 rw[MJ hT hlU (Ak _),h.reach (fun x _ d hd=>v.close.nd x d hd) hlU,U9]
 constructor
 ·rintro⟨hd,q,hq,hr⟩
  exact⟨hd,q,hq,(v.mem_clo hd q).2 hr⟩
 ·rintro⟨hd,q,hq,hr⟩
  exact⟨hd,q,hq,(v.mem_clo hd q).1 hr⟩
def Kb (s:List Sto) (p q:Dig):Bool:=decide ((Dk s [p]).2=0)&&(decide (q∈ids s)&&decide (q∈(Dk s [p]).1))
theorem BP.knows {s:List Sto} (v:BP s) (p q:Dig):Kb s p q=(decide ((Dk s [p]).2=0)&&decide (q∈(Dk s [p]).1)):=by
 unfold Kb
 by_cases h:(Dk s [p]).2=0
 ·by_cases hq:q∈(Dk s [p]).1
  ·have hp:p∈ids s:=by
    unfold Dk at h
    by_cases h1:DI (ids s) [p]=false
    ·rw[if_pos h1]at h;exact absurd h (by decide)
    ·simpa [DI]using h1
   have e:(Dk s [p]).1=QF s p:=rfl
   rw[e]at hq ⊢
   have hin:q∈ids s:=by
    have h:=(v.mem_clo hp q).1 hq
    exact h.in_ (fun x _ d hd=>v.close.nd x d hd) (ids:= [p]) (fun y hy=>by rw[Ah.1 hy];exact hp)
   simp[h,hq,hin]
  ·simp[hq]
 ·simp[h]
def cz:Dig:=⟨[209,215,128,53,238,251,106,196,245,2,206,112,154,168,198,4,66,36,85,131,114,133,77,50,25,101,179,105,218,149,57,133],rfl⟩
def sI:Dig:=⟨[234,79,61,16,149,93,210,77,109,138,121,50,140,158,64,68,63,99,235,247,105,210,173,16,203,104,162,205,29,130,230,63],rfl⟩
def qY:Dig:=⟨[74,226,31,219,114,2,101,1,252,138,12,111,103,175,102,211,8,175,186,83,231,92,101,199,238,238,231,140,175,139,225,84],rfl⟩
def awF:Chg:={ Chg.zero with kind:=1,type:=1 }
def awI:Chg:={ Chg.zero with kind:=5,file:=⟨cz,0⟩,after:=⟨cz,0⟩,before:=⟨cz,0⟩,lines:= [[120]] }
def uz:Pat:=⟨[97,110,110],[],0,[],[awF]⟩
def w7:Pat:=⟨[97,110,110],[],0,[],[awI]⟩
def awC:Pat:=⟨[98,111,98],[],0,[],[awF]⟩
def aw1S:List Sto:= [⟨cz,uz⟩]
def aw2S:List Sto:= [⟨cz,uz⟩,⟨sI,w7⟩]
theorem uy:FB [] uz=(aw1S,cz,0):=by decide+kernel
theorem ux:FB aw1S w7=(aw2S,sI,0):=by decide+kernel
theorem fA:GV uz=false∧GV w7=false∧GV awC=false:=by decide+kernel
theorem qX:MA []=true:=by decide+kernel
theorem qW:MA aw1S=true:=by decide+kernel
theorem qV:MA aw2S=true:=by decide+kernel
def hw0:Dig:=⟨[29,5,81,176,77,171,31,168,3,84,99,177,155,5,61,168,37,109,70,193,94,5,28,98,24,204,118,247,185,184,170,220],rfl⟩
def hw1:Dig:=⟨[240,168,68,31,108,233,64,210,234,68,91,7,227,21,139,135,67,203,230,233,173,209,83,239,153,132,174,43,167,0,34,187],rfl⟩
end Go.Proofs
