/- Plain laws: a heap of patches, by their times and identities. -/
import Derived.Test.YtaibdmankdppkaaGreatDoorVam
import Derived.Test.YtaibdmankdppkaaGreatDoorVan
import Derived.Test.YtaibdmankdppkaaGreatDoorVao
set_option linter.unusedSimpArgs false
set_option linter.unusedVariables false
namespace Go.Proofs
open Go Go.Q
def kO (x y:Sto):Bool:=if x.patch.time≠y.patch.time then decide (x.patch.time < y.patch.time)else decide (ER x.id y.id < 0)
def rj (q:List Sto) (i:Nat):Sto:=q.getD i Sto.zero
def Y8 (q:List Sto) (i j:Nat):List Sto:=(q.set i (rj q j)).set j (rj q i)
@[simp] theorem VF (q:List Sto) (i j:Nat):(Y8 q i j).length=q.length:=by simp[Y8]
def yI:Nat→List Sto→Nat→List Sto
 |0,q,_=>q
 |n+1,q,j=>if j=0 then q else if kO (rj q j) (rj q ((j - 1) / 2))=true then yI n (Y8 q ((j - 1) / 2) j) ((j - 1) / 2)else q
def zP (q:List Sto) (i n:Nat):Nat:=if 2*i+2 < n∧kO (rj q (2*i+2)) (rj q (2*i+1))=true then 2*i+2 else 2*i+1
def yl:Nat→List Sto→Nat→Nat→List Sto
 |0,q,_,_=>q
 |f+1,q,i,n=>if n≤2*i+1 then q else if kO (rj q (zP q i n)) (rj q i)=true then yl f (Y8 q i (zP q i n)) (zP q i n) n else q
def qs (q:List Sto) (x:Sto):List Sto:=yI q.length (q++ [x]) q.length
def qk (q:List Sto):List Sto:=yl (q.length - 1) (Y8 q 0 (q.length - 1)) 0 (q.length - 1)
theorem cP: ∀ (n:Nat) (q:List Sto) (j:Nat),(yI n q j).length=q.length
 |0,_,_=>rfl
 |n+1,q,j=>by
  rw[yI]
  split
  ·rfl
  ·split
   ·rw[cP,VF]
   ·rfl
theorem du: ∀ (f:Nat) (q:List Sto) (i n:Nat),(yl f q i n).length=q.length
 |0,_,_,_=>rfl
 |f+1,q,i,n=>by
  rw[yl]
  split
  ·rfl
  ·split
   ·rw[du,VF]
   ·rfl
@[simp] theorem vG (q:List Sto) (x:Sto):(qs q x).length=q.length+1:=by simp[qs,cP]
@[simp] theorem vE (q:List Sto):(qk q).length=q.length:=by simp[qk,du]
theorem Rn {a:List Sto} {d:Dig} {p:Pat} (h:getS a d=some p):(⟨d,p⟩:Sto)∈a:=by
 obtain⟨x,hx,e1,e2⟩:=Kj h
 rw[←e1,←e2];exact hx
structure K0 (s:List Sto) (l L:List Dig):Prop where
 has: ∀ d∈l,d∈L
 sub: ∀ d∈L,d∈ids s
 asc:Gy L
 nd: ∀ d∈L,∀ n∈ndS s d,n∈L
theorem Bx.closed {s:List Sto} (v:Bx s) {l:List Dig} (hl: ∀ d∈l,d∈ids s): ∃ L,Dj s l=(L,0)∧K0 s l L:=by
 have h:Da (ids s) l=true:=Bf.2 fun d hd=>BC (hl d hd)
 have hcl: ∀ x∈ids s,∀ d∈Go.Proofs.ndS s x,d∈ids s:=fun x _ d hd=>v.close.nd x d hd
 have hm: ∀ d,d∈MN (Go.Proofs.ndS s) s.length (Dh [] l)↔Q.Reach (Go.Proofs.ndS s) l d:=fun d=>MJ hcl hl (by rw[HR];exact Al _)
 refine⟨MN (Go.Proofs.ndS s) s.length (Dh [] l),by rw[Dj,if_neg (by simp[h])],fun d hd=>(hm d).2 (.base hd),fun d hd=>((hm d).1 hd).in_ hcl hl,Oy (Fo .nil),fun d hd n hn=>(hm n).2 (.step ((hm d).1 hd) hn)⟩
theorem Bx.closedM {s:List Sto} (v:Bx s) {l:List Dig} (hl: ∀ d∈l,d∈ids s): ∃ L,Dj s l=(L,0)∧K0 s l L∧ ∀ d,d∈L↔Q.Reach (Go.Proofs.ndS s) l d:=by
 obtain⟨L,e,h⟩:=v.closed hl
 refine⟨L,e,h,fun d=>?_⟩
 have hA:Da (ids s) l=true:=Bf.2 fun d hd=>BC (hl d hd)
 have hcl: ∀ x∈ids s,∀ d∈Go.Proofs.ndS s x,d∈ids s:=fun x _ d hd=>v.close.nd x d hd
 rw[Dj,if_neg (by simp[hA])]at e
 rw[←(Prod.mk.inj e).1,MJ hcl hl (by rw[HR];exact Al _)]
def qL (l:List Dig) (i:Nat):List Dig:=(l.set i (l.getD (i+1) Dig.zero)).set (i+1) (l.getD i Dig.zero)
@[simp] theorem uu (l:List Dig) (i:Nat):(qL l i).length=l.length:=by simp[qL]
section
variable {β:Type} [DecidableEq β] (K:Sto→β)
end
theorem Reach.trans' {nd:Dig→List Dig} {l:List Dig} {x d:Dig} (h1:Q.Reach nd l x) (h2:Q.Reach nd [x] d):Q.Reach nd l d:=by
 induction h2 with
 |base h=>rw[Aj.1 h];exact h1
 |step _ h ih=>exact .step ih h
structure Q2 (nd:Dig→List Dig) (U:List Dig) (T:List (Dig × List Dig)):Prop where
 is: ∀ d,(CY d T).isSome=decide (d∈U)
 mem: ∀ x y,y∈ndG T x↔y∈U∧x∈nd y
 len: ∀ x,(ndG T x).length≤400
theorem Q2.ok {nd:Dig→List Dig} {U:List Dig} {T:List (Dig × List Dig)} (h:Q2 nd U T) (hU:U.length≤200):lk T U:=
 ⟨h.is,hU,fun x _ d hd=>((h.mem x d).1 hd).1,h.len⟩
theorem Q2.reach {nd:Dig→List Dig} {U:List Dig} {T:List (Dig × List Dig)} (h:Q2 nd U T) (hcl: ∀ x∈U,∀ d∈nd x,d∈U) {l:List Dig} (hl: ∀ d∈l,d∈U) (d:Dig):Q.Reach (ndG T) l d↔d∈U∧ ∃ q∈l,Q.Reach nd [d] q:=by
 constructor
 ·intro hr
  induction hr with
  |base hd=>exact⟨hl _ hd,_,hd,.base (by simp)⟩
  |step _ hd ih=>
   obtain⟨_,q,hq,hr⟩:=ih
   obtain⟨hu,hn⟩:=(h.mem _ _).1 hd
   exact⟨hu,q,hq,Reach.trans' (.step (.base (by simp)) hn) hr⟩
 ·rintro⟨hd,q,hq,hr⟩
  have key: ∀ q,Q.Reach nd [d] q→Q.Reach (ndG T) [q] d:=fun q hr=>by
   induction hr with
   |base h'=>rw[Aj.1 h'];exact .base (by simp)
   |step hx hn ih=>
    have hxU:=hx.in_ hcl (ids:= [d]) (fun y hy=>by rw[Aj.1 hy];exact hd)
    exact Reach.trans' (.step (.base (by simp)) ((h.mem _ _).2 ⟨hxU,hn⟩)) ih
  exact Reach.trans' (.base hq) (key q hr)
def WU (s:List Sto) (l out:List Dig) (x:Sto):List Dig:=l.foldl (fun out k=>if k∈Py s x.id then Ep out x.id else out) out
def Y5 (s:List Sto) (l:List Dig) (t:List Sto):List Dig:=t.foldl (WU s l) []
def LX (s:List Sto) (l:List Dig):List Dig × Int:=if Da (ids s) l=false then([],7)else(Y5 s l s,0)
theorem Y6 {s:List Sto} {x:Sto}: ∀ {l out:List Dig},Gy out→Gy (WU s l out x)
 | [],_,h=>h
 |k::l,out,h=>by
  unfold WU
  rw[Bz]
  refine Y6 (l:=l) ?_
  split
  ·exact Lr h
  ·exact h
theorem ZM {s:List Sto} {x:Sto}: ∀ {l out:List Dig} {d:Dig},d∈WU s l out x↔d∈out∨(d=x.id∧ ∃ k∈l,k∈Py s x.id)
 | [],out,d=>by simp[WU]
 |k::l,out,d=>by
  have e:WU s (k::l) out x=WU s l (if k∈Py s x.id then Ep out x.id else out) x:=rfl
  rw[e,ZM]
  by_cases h:k∈Py s x.id
  ·rw[if_pos h,KU]
   constructor
   ·rintro((h1|h1)|⟨h1,k',h2,h3⟩)
    ·exact .inr ⟨h1,k,by simp,h⟩
    ·exact .inl h1
    ·exact .inr ⟨h1,k',AL _ h2,h3⟩
   ·rintro(h1|⟨h1,_⟩)
    ·exact .inl (.inr h1)
    ·exact .inl (.inl h1)
  ·rw[if_neg h]
   constructor
   ·rintro(h1|⟨h1,k',h2,h3⟩)
    ·exact .inl h1
    ·exact .inr ⟨h1,k',AL _ h2,h3⟩
   ·rintro(h1|⟨h1,k',h2,h3⟩)
    ·exact .inl h1
    ·rcases AG.1 h2 with rfl|h2
     ·exact absurd h3 h
     ·exact .inr ⟨h1,k',h2,h3⟩
theorem SE {s:List Sto} {l:List Dig}: ∀ {t:List Sto} {out:List Dig},Gy out→Gy (t.foldl (WU s l) out)
 | [],_,h=>h
 |x::t,out,h=>SE (t:=t) (Y6 h)
theorem S8 {s:List Sto} {l:List Dig}: ∀ {t:List Sto} {out:List Dig} {d:Dig},d∈t.foldl (WU s l) out↔d∈out∨ ∃ x∈t,d=x.id∧ ∃ k∈l,k∈Py s x.id
 | [],out,d=>by simp
 |x::t,out,d=>by
  rw[Bz,S8,ZM]
  constructor
  ·rintro((h|h)|⟨y,hy,h⟩)
   ·exact .inl h
   ·exact .inr ⟨x,by simp,h⟩
   ·exact .inr ⟨y,AL _ hy,h⟩
  ·rintro(h|⟨y,hy,h⟩)
   ·exact .inl (.inl h)
   ·rcases AG.1 hy with rfl|hy
    ·exact .inl (.inr h)
    ·exact .inr ⟨y,hy,h⟩
theorem eK {s:List Sto} {l:List Dig}:Gy (Y5 s l s):=SE .nil
theorem Tr {s:List Sto} {l:List Dig} {d:Dig}:d∈Y5 s l s↔d∈ids s∧ ∃ k∈l,k∈Py s d:=by
 unfold Y5
 rw[S8]
 constructor
 ·rintro(h|⟨x,hx,rfl,h⟩)
  ·cases h
  ·exact⟨AY.2 ⟨x,hx,rfl⟩,h⟩
 ·rintro⟨h,h2⟩
  obtain⟨x,hx,rfl⟩:=AY.1 h
  exact .inr ⟨x,hx,rfl,h2⟩
theorem Bx.turned {s:List Sto} (v:Bx s) {T:List (Dig × List Dig)} (h:Q2 (Go.Proofs.ndS s) (ids s) T) (l:List Dig):(Go.Proofs.clG T (ids s) l).1=(LX s l).1∧(LX s l).2=if(Go.Proofs.clG T (ids s) l).2=false then 7 else 0:=by
 have h1:P8 T l=Da (ids s) l:=by
  unfold P8 Da
  congr 1
  funext d
  exact h.is d
 unfold Go.Proofs.clG LX
 rw[h1]
 by_cases hl:Da (ids s) l=false
 ·rw[if_pos hl,if_pos hl];simp
 rw[if_neg hl,if_neg hl]
 refine⟨?_,by simp⟩
 have hlU: ∀ d∈l,d∈ids s:=fun d hd=>by
  have hl:Da (ids s) l=true:=by simpa using hl
  simpa using Bf.1 hl d hd
 have hT: ∀ x∈ids s,∀ d∈Go.Proofs.ndG T x,d∈ids s:=fun x _ d hd=>((h.mem x d).1 hd).1
 refine Gy.ext (Oy (Fo .nil)) eK fun d=>?_
 rw[MJ hT hlU (Al _),h.reach (fun x _ d hd=>v.close.nd x d hd) hlU,Tr]
 constructor
 ·rintro⟨hd,q,hq,hr⟩
  exact⟨hd,q,hq,(v.mem_clo hd q).2 hr⟩
 ·rintro⟨hd,q,hq,hr⟩
  exact⟨hd,q,hq,(v.mem_clo hd q).1 hr⟩
def O4 (s:List Sto) (p q:Dig):Bool:=decide ((Dj s [p]).2=0)&&(decide (q∈ids s)&&decide (q∈(Dj s [p]).1))
theorem Bx.knows {s:List Sto} (v:Bx s) (p q:Dig):O4 s p q=(decide ((Dj s [p]).2=0)&&decide (q∈(Dj s [p]).1)):=by
 unfold O4
 by_cases h:(Dj s [p]).2=0
 ·by_cases hq:q∈(Dj s [p]).1
  ·have hp:p∈ids s:=by
    unfold Dj at h
    by_cases h1:Da (ids s) [p]=false
    ·rw[if_pos h1]at h;exact absurd h (by decide)
    ·simpa [Da]using h1
   have e:(Dj s [p]).1=Py s p:=rfl
   rw[e]at hq ⊢
   have hin:q∈ids s:=by
    have h:=(v.mem_clo hp q).1 hq
    exact h.in_ (fun x _ d hd=>v.close.nd x d hd) (ids:= [p]) (fun y hy=>by rw[Aj.1 hy];exact hp)
   simp[h,hq,hin]
  ·simp[hq]
 ·simp[h]
end Go.Proofs
