/- Plain laws: a heap of patches, by their times and identities. -/
import Derived.Test.YtaibdmankdppkaaGreatDoorUam
import Derived.Test.YtaibdmankdppkaaGreatDoorUan
import Derived.Test.YtaibdmankdppkaaGreatDoorUao
set_option linter.unusedSimpArgs false
set_option linter.unusedVariables false
namespace Go.Proofs
open Go Go.Q
def kX (x y:Sto):Bool:=if x.patch.time≠y.patch.time then decide (x.patch.time < y.patch.time)else decide (EW x.id y.id < 0)
def rq (q:List Sto) (i:Nat):Sto:=q.getD i Sto.zero
def YB (q:List Sto) (i j:Nat):List Sto:=(q.set i (rq q j)).set j (rq q i)
@[simp] theorem VH (q:List Sto) (i j:Nat):(YB q i j).length=q.length:=by simp[YB]
def yI:Nat→List Sto→Nat→List Sto
 |0,q,_=>q
 |n+1,q,j=>if j=0 then q else if kX (rq q j) (rq q ((j - 1) / 2))=true then yI n (YB q ((j - 1) / 2) j) ((j - 1) / 2)else q
def zS (q:List Sto) (i n:Nat):Nat:=if 2*i+2 < n∧kX (rq q (2*i+2)) (rq q (2*i+1))=true then 2*i+2 else 2*i+1
def yn:Nat→List Sto→Nat→Nat→List Sto
 |0,q,_,_=>q
 |f+1,q,i,n=>if n≤2*i+1 then q else if kX (rq q (zS q i n)) (rq q i)=true then yn f (YB q i (zS q i n)) (zS q i n) n else q
def qv (q:List Sto) (x:Sto):List Sto:=yI q.length (q++ [x]) q.length
def qm (q:List Sto):List Sto:=yn (q.length - 1) (YB q 0 (q.length - 1)) 0 (q.length - 1)
theorem cw: ∀ (n:Nat) (q:List Sto) (j:Nat),(yI n q j).length=q.length
 |0,_,_=>rfl
 |n+1,q,j=>by
  rw[yI]
  split
  ·rfl
  ·split
   ·rw[cw,VH]
   ·rfl
theorem eK: ∀ (f:Nat) (q:List Sto) (i n:Nat),(yn f q i n).length=q.length
 |0,_,_,_=>rfl
 |f+1,q,i,n=>by
  rw[yn]
  split
  ·rfl
  ·split
   ·rw[eK,VH]
   ·rfl
@[simp] theorem vL (q:List Sto) (x:Sto):(qv q x).length=q.length+1:=by simp[qv,cw]
@[simp] theorem vI (q:List Sto):(qm q).length=q.length:=by simp[qm,eK]
theorem Vu {a:List Sto} {d:Dig} {p:Pat} (h:getS a d=some p):(⟨d,p⟩:Sto)∈a:=by
 obtain⟨x,hx,e1,e2⟩:=Jg h
 rw[←e1,←e2];exact hx
structure Jw (s:List Sto) (l L:List Dig):Prop where
 has: ∀ d∈l,d∈L
 sub: ∀ d∈L,d∈ids s
 asc:Gi L
 nd: ∀ d∈L,∀ n∈ndS s d,n∈L
theorem Bc.closed {s:List Sto} (v:Bc s) {l:List Dig} (hl: ∀ d∈l,d∈ids s): ∃ L,DN s l=(L,0)∧Jw s l L:=by
 have h:CW (ids s) l=true:=BH.2 fun d hd=>BO (hl d hd)
 have hcl: ∀ x∈ids s,∀ d∈Go.Proofs.ndS s x,d∈ids s:=fun x _ d hd=>v.close.nd x d hd
 have hm: ∀ d,d∈K4 (Go.Proofs.ndS s) s.length (DI [] l)↔Q.Reach (Go.Proofs.ndS s) l d:=fun d=>MF hcl hl (by rw[HT];exact An _)
 refine⟨K4 (Go.Proofs.ndS s) s.length (DI [] l),by rw[DN,if_neg (by simp[h])],fun d hd=>(hm d).2 (.base hd),fun d hd=>((hm d).1 hd).in_ hcl hl,Ov (Eu .nil),fun d hd n hn=>(hm n).2 (.step ((hm d).1 hd) hn)⟩
theorem Bc.closedM {s:List Sto} (v:Bc s) {l:List Dig} (hl: ∀ d∈l,d∈ids s): ∃ L,DN s l=(L,0)∧Jw s l L∧ ∀ d,d∈L↔Q.Reach (Go.Proofs.ndS s) l d:=by
 obtain⟨L,e,h⟩:=v.closed hl
 refine⟨L,e,h,fun d=>?_⟩
 have hA:CW (ids s) l=true:=BH.2 fun d hd=>BO (hl d hd)
 have hcl: ∀ x∈ids s,∀ d∈Go.Proofs.ndS s x,d∈ids s:=fun x _ d hd=>v.close.nd x d hd
 rw[DN,if_neg (by simp[hA])]at e
 rw[←(Prod.mk.inj e).1,MF hcl hl (by rw[HT];exact An _)]
def qO (l:List Dig) (i:Nat):List Dig:=(l.set i (l.getD (i+1) Dig.zero)).set (i+1) (l.getD i Dig.zero)
@[simp] theorem uz (l:List Dig) (i:Nat):(qO l i).length=l.length:=by simp[qO]
section
variable {β:Type} [DecidableEq β] (K:Sto→β)
end
theorem Reach.trans' {nd:Dig→List Dig} {l:List Dig} {x d:Dig} (h1:Q.Reach nd l x) (h2:Q.Reach nd [x] d):Q.Reach nd l d:=by
 induction h2 with
 |base h=>rw[Ae.1 h];exact h1
 |step _ h ih=>exact .step ih h
structure Q2 (nd:Dig→List Dig) (U:List Dig) (T:List (Dig × List Dig)):Prop where
 is: ∀ d,(CZ d T).isSome=decide (d∈U)
 mem: ∀ x y,y∈ndG T x↔y∈U∧x∈nd y
 len: ∀ x,(ndG T x).length≤400
theorem Q2.ok {nd:Dig→List Dig} {U:List Dig} {T:List (Dig × List Dig)} (h:Q2 nd U T) (hU:U.length≤200):lu T U:=
 ⟨h.is,hU,fun x _ d hd=>((h.mem x d).1 hd).1,h.len⟩
theorem Q2.reach {nd:Dig→List Dig} {U:List Dig} {T:List (Dig × List Dig)} (h:Q2 nd U T) (hcl: ∀ x∈U,∀ d∈nd x,d∈U) {l:List Dig} (hl: ∀ d∈l,d∈U) (d:Dig):Q.Reach (ndG T) l d↔d∈U∧ ∃ q∈l,Q.Reach nd [d] q:=by
 constructor
 ·intro hr
  induction hr with
  |base hd=>exact⟨hl _ hd,_,hd,.base (by simp)⟩
  |step _ hd ih=>
   obtain⟨_,q,hq,hr⟩:=ih
   obtain⟨hu,hn⟩:=(h.mem _ _).1 hd
   exact⟨hu,q,hq,Reach.trans' (.step (.base (by simp)) hn) hr⟩
 ·rintro⟨hd,q,hq,hr⟩
  have key: ∀ q,Q.Reach nd [d] q→Q.Reach (ndG T) [q] d:=fun q hr=>by
   induction hr with
   |base h'=>rw[Ae.1 h'];exact .base (by simp)
   |step hx hn ih=>
    have hxU:=hx.in_ hcl (ids:= [d]) (fun y hy=>by rw[Ae.1 hy];exact hd)
    exact Reach.trans' (.step (.base (by simp)) ((h.mem _ _).2 ⟨hxU,hn⟩)) ih
  exact Reach.trans' (.base hq) (key q hr)
def Wa (s:List Sto) (l out:List Dig) (x:Sto):List Dig:=l.foldl (fun out k=>if k∈Py s x.id then EK out x.id else out) out
def Y7 (s:List Sto) (l:List Dig) (t:List Sto):List Dig:=t.foldl (Wa s l) []
def LY (s:List Sto) (l:List Dig):List Dig × Int:=if CW (ids s) l=false then([],7)else(Y7 s l s,0)
theorem Y8 {s:List Sto} {x:Sto}: ∀ {l out:List Dig},Gi out→Gi (Wa s l out x)
 | [],_,h=>h
 |k::l,out,h=>by
  unfold Wa
  rw[Br]
  refine Y8 (l:=l) ?_
  split
  ·exact Lp h
  ·exact h
theorem ZM {s:List Sto} {x:Sto}: ∀ {l out:List Dig} {d:Dig},d∈Wa s l out x↔d∈out∨(d=x.id∧ ∃ k∈l,k∈Py s x.id)
 | [],out,d=>by simp[Wa]
 |k::l,out,d=>by
  have e:Wa s (k::l) out x=Wa s l (if k∈Py s x.id then EK out x.id else out) x:=rfl
  rw[e,ZM]
  by_cases h:k∈Py s x.id
  ·rw[if_pos h,KR]
   constructor
   ·rintro((h1|h1)|⟨h1,k',h2,h3⟩)
    ·exact .inr ⟨h1,k,by simp,h⟩
    ·exact .inl h1
    ·exact .inr ⟨h1,k',AL _ h2,h3⟩
   ·rintro(h1|⟨h1,_⟩)
    ·exact .inl (.inr h1)
    ·exact .inl (.inl h1)
  ·rw[if_neg h]
   constructor
   ·rintro(h1|⟨h1,k',h2,h3⟩)
    ·exact .inl h1
    ·exact .inr ⟨h1,k',AL _ h2,h3⟩
   ·rintro(h1|⟨h1,k',h2,h3⟩)
    ·exact .inl h1
    ·rcases AF.1 h2 with rfl|h2
     ·exact absurd h3 h
     ·exact .inr ⟨h1,k',h2,h3⟩
theorem SD {s:List Sto} {l:List Dig}: ∀ {t:List Sto} {out:List Dig},Gi out→Gi (t.foldl (Wa s l) out)
 | [],_,h=>h
 |x::t,out,h=>SD (t:=t) (Y8 h)
theorem S9 {s:List Sto} {l:List Dig}: ∀ {t:List Sto} {out:List Dig} {d:Dig},d∈t.foldl (Wa s l) out↔d∈out∨ ∃ x∈t,d=x.id∧ ∃ k∈l,k∈Py s x.id
 | [],out,d=>by simp
 |x::t,out,d=>by
  rw[Br,S9,ZM]
  constructor
  ·rintro((h|h)|⟨y,hy,h⟩)
   ·exact .inl h
   ·exact .inr ⟨x,by simp,h⟩
   ·exact .inr ⟨y,AL _ hy,h⟩
  ·rintro(h|⟨y,hy,h⟩)
   ·exact .inl (.inl h)
   ·rcases AF.1 hy with rfl|hy
    ·exact .inl (.inr h)
    ·exact .inr ⟨y,hy,h⟩
theorem ei {s:List Sto} {l:List Dig}:Gi (Y7 s l s):=SD .nil
theorem Tm {s:List Sto} {l:List Dig} {d:Dig}:d∈Y7 s l s↔d∈ids s∧ ∃ k∈l,k∈Py s d:=by
 unfold Y7
 rw[S9]
 constructor
 ·rintro(h|⟨x,hx,rfl,h⟩)
  ·cases h
  ·exact⟨AQ.2 ⟨x,hx,rfl⟩,h⟩
 ·rintro⟨h,h2⟩
  obtain⟨x,hx,rfl⟩:=AQ.1 h
  exact .inr ⟨x,hx,rfl,h2⟩
theorem Bc.turned {s:List Sto} (v:Bc s) {T:List (Dig × List Dig)} (h:Q2 (Go.Proofs.ndS s) (ids s) T) (l:List Dig):(Go.Proofs.clG T (ids s) l).1=(LY s l).1∧(LY s l).2=if(Go.Proofs.clG T (ids s) l).2=false then 7 else 0:=by
 have h1:P8 T l=CW (ids s) l:=by
  unfold P8 CW
  congr 1
  funext d
  exact h.is d
 unfold Go.Proofs.clG LY
 rw[h1]
 by_cases hl:CW (ids s) l=false
 ·rw[if_pos hl,if_pos hl];simp
 rw[if_neg hl,if_neg hl]
 refine⟨?_,by simp⟩
 have hlU: ∀ d∈l,d∈ids s:=fun d hd=>by
  have hl:CW (ids s) l=true:=by simpa using hl
  simpa using BH.1 hl d hd
 have hT: ∀ x∈ids s,∀ d∈Go.Proofs.ndG T x,d∈ids s:=fun x _ d hd=>((h.mem x d).1 hd).1
 refine Gi.ext (Ov (Eu .nil)) ei fun d=>?_
 rw[MF hT hlU (An _),h.reach (fun x _ d hd=>v.close.nd x d hd) hlU,Tm]
 constructor
 ·rintro⟨hd,q,hq,hr⟩
  exact⟨hd,q,hq,(v.mem_clo hd q).2 hr⟩
 ·rintro⟨hd,q,hq,hr⟩
  exact⟨hd,q,hq,(v.mem_clo hd q).1 hr⟩
def Gy (s:List Sto) (p q:Dig):Bool:=decide ((DN s [p]).2=0)&&(decide (q∈ids s)&&decide (q∈(DN s [p]).1))
theorem Bc.knows {s:List Sto} (v:Bc s) (p q:Dig):Gy s p q=(decide ((DN s [p]).2=0)&&decide (q∈(DN s [p]).1)):=by
 unfold Gy
 by_cases h:(DN s [p]).2=0
 ·by_cases hq:q∈(DN s [p]).1
  ·have hp:p∈ids s:=by
    unfold DN at h
    by_cases h1:CW (ids s) [p]=false
    ·rw[if_pos h1]at h;exact absurd h (by decide)
    ·simpa [CW]using h1
   have e:(DN s [p]).1=Py s p:=rfl
   rw[e]at hq ⊢
   have hin:q∈ids s:=by
    have h:=(v.mem_clo hp q).1 hq
    exact h.in_ (fun x _ d hd=>v.close.nd x d hd) (ids:= [p]) (fun y hy=>by rw[Ae.1 hy];exact hp)
   simp[h,hq,hin]
  ·simp[hq]
 ·simp[h]
end Go.Proofs
