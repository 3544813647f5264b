/- Plain laws: a heap of patches, by their times and identities. -/
import Derived.Test.YtaibdmankdppkaaGreatDoorXam
import Derived.Test.YtaibdmankdppkaaGreatDoorXan
import Derived.Test.YtaibdmankdppkaaGreatDoorXao
set_option linter.unusedSimpArgs false
set_option linter.unusedVariables false
namespace Go.Proofs
open Go Go.Q
def jh (x y:Sto):Bool:=if x.patch.time≠y.patch.time then decide (x.patch.time < y.patch.time)else decide (Ea x.id y.id < 0)
def qi (q:List Sto) (i:Nat):Sto:=q.getD i Sto.zero
def Xe (q:List Sto) (i j:Nat):List Sto:=(q.set i (qi q j)).set j (qi q i)
@[simp] theorem UW (q:List Sto) (i j:Nat):(Xe q i j).length=q.length:=by simp[Xe]
def xK:Nat→List Sto→Nat→List Sto
 |0,q,_=>q
 |n+1,q,j=>if j=0 then q else if jh (qi q j) (qi q ((j - 1) / 2))=true then xK n (Xe q ((j - 1) / 2) j) ((j - 1) / 2)else q
def yP (q:List Sto) (i n:Nat):Nat:=if 2*i+2 < n∧jh (qi q (2*i+2)) (qi q (2*i+1))=true then 2*i+2 else 2*i+1
def xo:Nat→List Sto→Nat→Nat→List Sto
 |0,q,_,_=>q
 |f+1,q,i,n=>if n≤2*i+1 then q else if jh (qi q (yP q i n)) (qi q i)=true then xo f (Xe q i (yP q i n)) (yP q i n) n else q
def qB (q:List Sto) (x:Sto):List Sto:=xK q.length (q++ [x]) q.length
def pw (q:List Sto):List Sto:=xo (q.length - 1) (Xe q 0 (q.length - 1)) 0 (q.length - 1)
theorem bZ: ∀ (n:Nat) (q:List Sto) (j:Nat),(xK n q j).length=q.length
 |0,_,_=>rfl
 |n+1,q,j=>by
  rw[xK]
  split
  ·rfl
  ·split
   ·rw[bZ,UW]
   ·rfl
theorem dE: ∀ (f:Nat) (q:List Sto) (i n:Nat),(xo f q i n).length=q.length
 |0,_,_,_=>rfl
 |f+1,q,i,n=>by
  rw[xo]
  split
  ·rfl
  ·split
   ·rw[dE,UW]
   ·rfl
@[simp] theorem u7 (q:List Sto) (x:Sto):(qB q x).length=q.length+1:=by simp[qB,bZ]
@[simp] theorem u4 (q:List Sto):(pw q).length=q.length:=by simp[pw,dE]
theorem RU {a:List Sto} {d:Dig} {p:Pat} (h:getS a d=some p):(⟨d,p⟩:Sto)∈a:=by
 obtain⟨x,hx,e1,e2⟩:=Ke h
 rw[←e1,←e2];exact hx
structure Kk (s:List Sto) (l L:List Dig):Prop where
 has: ∀ d∈l,d∈L
 sub: ∀ d∈L,d∈ids s
 asc:Gm L
 nd: ∀ d∈L,∀ n∈ndS s d,n∈L
theorem Bc.closed {s:List Sto} (v:Bc s) {l:List Dig} (hl: ∀ d∈l,d∈ids s): ∃ L,Di s l=(L,0)∧Kk s l L:=by
 have h:DM (ids s) l=true:=BT.2 fun d hd=>BK (hl d hd)
 have hcl: ∀ x∈ids s,∀ d∈Go.Proofs.ndS s x,d∈ids s:=fun x _ d hd=>v.close.nd x d hd
 have hm: ∀ d,d∈MC (Go.Proofs.ndS s) s.length (Dh [] l)↔Q.Reach (Go.Proofs.ndS s) l d:=fun d=>Ly hcl hl (by rw[HO];exact Ak _)
 refine⟨MC (Go.Proofs.ndS s) s.length (Dh [] l),by rw[Di,if_neg (by simp[h])],fun d hd=>(hm d).2 (.base hd),fun d hd=>((hm d).1 hd).in_ hcl hl,Oc (Fx .nil),fun d hd n hn=>(hm n).2 (.step ((hm d).1 hd) hn)⟩
theorem Bc.closedM {s:List Sto} (v:Bc s) {l:List Dig} (hl: ∀ d∈l,d∈ids s): ∃ L,Di s l=(L,0)∧Kk s l L∧ ∀ d,d∈L↔Q.Reach (Go.Proofs.ndS s) l d:=by
 obtain⟨L,e,h⟩:=v.closed hl
 refine⟨L,e,h,fun d=>?_⟩
 have hA:DM (ids s) l=true:=BT.2 fun d hd=>BK (hl d hd)
 have hcl: ∀ x∈ids s,∀ d∈Go.Proofs.ndS s x,d∈ids s:=fun x _ d hd=>v.close.nd x d hd
 rw[Di,if_neg (by simp[hA])]at e
 rw[←(Prod.mk.inj e).1,Ly hcl hl (by rw[HO];exact Ak _)]
def pN (l:List Dig) (i:Nat):List Dig:=(l.set i (l.getD (i+1) Dig.zero)).set (i+1) (l.getD i Dig.zero)
@[simp] theorem tk (l:List Dig) (i:Nat):(pN l i).length=l.length:=by simp[pN]
section
variable {β:Type} [DecidableEq β] (K:Sto→β)
end
theorem Reach.trans' {nd:Dig→List Dig} {l:List Dig} {x d:Dig} (h1:Q.Reach nd l x) (h2:Q.Reach nd [x] d):Q.Reach nd l d:=by
 induction h2 with
 |base h=>rw[Ag.1 h];exact h1
 |step _ h ih=>exact .step ih h
structure Pf (nd:Dig→List Dig) (U:List Dig) (T:List (Dig × List Dig)):Prop where
 is: ∀ d,(CU d T).isSome=decide (d∈U)
 mem: ∀ x y,y∈ndG T x↔y∈U∧x∈nd y
 len: ∀ x,(ndG T x).length≤400
theorem Pf.ok {nd:Dig→List Dig} {U:List Dig} {T:List (Dig × List Dig)} (h:Pf nd U T) (hU:U.length≤200):ky T U:=
 ⟨h.is,hU,fun x _ d hd=>((h.mem x d).1 hd).1,h.len⟩
theorem Pf.reach {nd:Dig→List Dig} {U:List Dig} {T:List (Dig × List Dig)} (h:Pf nd U T) (hcl: ∀ x∈U,∀ d∈nd x,d∈U) {l:List Dig} (hl: ∀ d∈l,d∈U) (d:Dig):Q.Reach (ndG T) l d↔d∈U∧ ∃ q∈l,Q.Reach nd [d] q:=by
 constructor
 ·intro hr
  induction hr with
  |base hd=>exact⟨hl _ hd,_,hd,.base (by simp)⟩
  |step _ hd ih=>
   obtain⟨_,q,hq,hr⟩:=ih
   obtain⟨hu,hn⟩:=(h.mem _ _).1 hd
   exact⟨hu,q,hq,Reach.trans' (.step (.base (by simp)) hn) hr⟩
 ·rintro⟨hd,q,hq,hr⟩
  have key: ∀ q,Q.Reach nd [d] q→Q.Reach (ndG T) [q] d:=fun q hr=>by
   induction hr with
   |base h'=>rw[Ag.1 h'];exact .base (by simp)
   |step hx hn ih=>
    have hxU:=hx.in_ hcl (ids:= [d]) (fun y hy=>by rw[Ag.1 hy];exact hd)
    exact Reach.trans' (.step (.base (by simp)) ((h.mem _ _).2 ⟨hxU,hn⟩)) ih
  exact Reach.trans' (.base hq) (key q hr)
def Vu (s:List Sto) (l out:List Dig) (x:Sto):List Dig:=l.foldl (fun out k=>if k∈Ot s x.id then FU out x.id else out) out
def Xb (s:List Sto) (l:List Dig) (t:List Sto):List Dig:=t.foldl (Vu s l) []
def LG (s:List Sto) (l:List Dig):List Dig × Int:=if DM (ids s) l=false then([],7)else(Xb s l s,0)
theorem Xc {s:List Sto} {x:Sto}: ∀ {l out:List Dig},Gm out→Gm (Vu s l out x)
 | [],_,h=>h
 |k::l,out,h=>by
  unfold Vu
  rw[C0]
  refine Xc (l:=l) ?_
  split
  ·exact LY h
  ·exact h
theorem Yg {s:List Sto} {x:Sto}: ∀ {l out:List Dig} {d:Dig},d∈Vu s l out x↔d∈out∨(d=x.id∧ ∃ k∈l,k∈Ot s x.id)
 | [],out,d=>by simp[Vu]
 |k::l,out,d=>by
  have e:Vu s (k::l) out x=Vu s l (if k∈Ot s x.id then FU out x.id else out) x:=rfl
  rw[e,Yg]
  by_cases h:k∈Ot s x.id
  ·rw[if_pos h,KM]
   constructor
   ·rintro((h1|h1)|⟨h1,k',h2,h3⟩)
    ·exact .inr ⟨h1,k,by simp,h⟩
    ·exact .inl h1
    ·exact .inr ⟨h1,k',AI _ h2,h3⟩
   ·rintro(h1|⟨h1,_⟩)
    ·exact .inl (.inr h1)
    ·exact .inl (.inl h1)
  ·rw[if_neg h]
   constructor
   ·rintro(h1|⟨h1,k',h2,h3⟩)
    ·exact .inl h1
    ·exact .inr ⟨h1,k',AI _ h2,h3⟩
   ·rintro(h1|⟨h1,k',h2,h3⟩)
    ·exact .inl h1
    ·rcases AH.1 h2 with rfl|h2
     ·exact absurd h3 h
     ·exact .inr ⟨h1,k',h2,h3⟩
theorem S0 {s:List Sto} {l:List Dig}: ∀ {t:List Sto} {out:List Dig},Gm out→Gm (t.foldl (Vu s l) out)
 | [],_,h=>h
 |x::t,out,h=>S0 (t:=t) (Xc h)
theorem Rr {s:List Sto} {l:List Dig}: ∀ {t:List Sto} {out:List Dig} {d:Dig},d∈t.foldl (Vu s l) out↔d∈out∨ ∃ x∈t,d=x.id∧ ∃ k∈l,k∈Ot s x.id
 | [],out,d=>by simp
 |x::t,out,d=>by
  rw[C0,Rr,Yg]
  constructor
  ·rintro((h|h)|⟨y,hy,h⟩)
   ·exact .inl h
   ·exact .inr ⟨x,by simp,h⟩
   ·exact .inr ⟨y,AI _ hy,h⟩
  ·rintro(h|⟨y,hy,h⟩)
   ·exact .inl (.inl h)
   ·rcases AH.1 hy with rfl|hy
    ·exact .inl (.inr h)
    ·exact .inr ⟨y,hy,h⟩
theorem da {s:List Sto} {l:List Dig}:Gm (Xb s l s):=S0 .nil
theorem TS {s:List Sto} {l:List Dig} {d:Dig}:d∈Xb s l s↔d∈ids s∧ ∃ k∈l,k∈Ot s d:=by
 unfold Xb
 rw[Rr]
 constructor
 ·rintro(h|⟨x,hx,rfl,h⟩)
  ·cases h
  ·exact⟨AO.2 ⟨x,hx,rfl⟩,h⟩
 ·rintro⟨h,h2⟩
  obtain⟨x,hx,rfl⟩:=AO.1 h
  exact .inr ⟨x,hx,rfl,h2⟩
theorem Bc.turned {s:List Sto} (v:Bc s) {T:List (Dig × List Dig)} (h:Pf (Go.Proofs.ndS s) (ids s) T) (l:List Dig):(Go.Proofs.clG T (ids s) l).1=(LG s l).1∧(LG s l).2=if(Go.Proofs.clG T (ids s) l).2=false then 7 else 0:=by
 have h1:Ou T l=DM (ids s) l:=by
  unfold Ou DM
  congr 1
  funext d
  exact h.is d
 unfold Go.Proofs.clG LG
 rw[h1]
 by_cases hl:DM (ids s) l=false
 ·rw[if_pos hl,if_pos hl];simp
 rw[if_neg hl,if_neg hl]
 refine⟨?_,by simp⟩
 have hlU: ∀ d∈l,d∈ids s:=fun d hd=>by
  have hl:DM (ids s) l=true:=by simpa using hl
  simpa using BT.1 hl d hd
 have hT: ∀ x∈ids s,∀ d∈Go.Proofs.ndG T x,d∈ids s:=fun x _ d hd=>((h.mem x d).1 hd).1
 refine Gm.ext (Oc (Fx .nil)) da fun d=>?_
 rw[Ly hT hlU (Ak _),h.reach (fun x _ d hd=>v.close.nd x d hd) hlU,TS]
 constructor
 ·rintro⟨hd,q,hq,hr⟩
  exact⟨hd,q,hq,(v.mem_clo hd q).2 hr⟩
 ·rintro⟨hd,q,hq,hr⟩
  exact⟨hd,q,hq,(v.mem_clo hd q).1 hr⟩
def Mh (s:List Sto) (p q:Dig):Bool:=decide ((Di s [p]).2=0)&&(decide (q∈ids s)&&decide (q∈(Di s [p]).1))
theorem Bc.knows {s:List Sto} (v:Bc s) (p q:Dig):Mh s p q=(decide ((Di s [p]).2=0)&&decide (q∈(Di s [p]).1)):=by
 unfold Mh
 by_cases h:(Di s [p]).2=0
 ·by_cases hq:q∈(Di s [p]).1
  ·have hp:p∈ids s:=by
    unfold Di at h
    by_cases h1:DM (ids s) [p]=false
    ·rw[if_pos h1]at h;exact absurd h (by decide)
    ·simpa [DM]using h1
   have e:(Di s [p]).1=Ot s p:=rfl
   rw[e]at hq ⊢
   have hin:q∈ids s:=by
    have h:=(v.mem_clo hp q).1 hq
    exact h.in_ (fun x _ d hd=>v.close.nd x d hd) (ids:= [p]) (fun y hy=>by rw[Ag.1 hy];exact hp)
   simp[h,hq,hin]
  ·simp[hq]
 ·simp[h]
end Go.Proofs
