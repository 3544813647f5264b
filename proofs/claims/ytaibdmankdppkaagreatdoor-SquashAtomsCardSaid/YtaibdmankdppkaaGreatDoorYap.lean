/- Plain laws: what is pushed onto a heap and popped from it. -/
import Derived.Test.YtaibdmankdppkaaGreatDoorYao
import Derived.Test.YtaibdmankdppkaaGreatDoorYam
set_option linter.unusedSimpArgs false
set_option linter.unusedVariables false
namespace Go.Proofs
open Go Go.Q
theorem Rv {a:List Sto} {d:Dig} {p:Pat} (h:getS a d=some p):(⟨d,p⟩:Sto)∈a:=by
 obtain⟨x,hx,e1,e2⟩:=Kf h
 rw[←e1,←e2];exact hx
structure Ko (s:List Sto) (l L:List Dig):Prop where
 has: ∀ d∈l,d∈L
 sub: ∀ d∈L,d∈ids s
 asc:H2 L
 nd: ∀ d∈L,∀ n∈ndS s d,n∈L
theorem BH.closed {s:List Sto} (v:BH s) {l:List Dig} (hl: ∀ d∈l,d∈ids s): ∃ L,Dh s l=(L,0)∧Ko s l L:=by
 have h:DW (ids s) l=true:=Bg.2 fun d hd=>BR (hl d hd)
 have hcl: ∀ x∈ids s,∀ d∈Go.Proofs.ndS s x,d∈ids s:=fun x _ d hd=>v.close.nd x d hd
 have hm: ∀ d,d∈MG (Go.Proofs.ndS s) s.length (Df [] l)↔Q.Reach (Go.Proofs.ndS s) l d:=fun d=>ME hcl hl (by rw[HT];exact Ah _)
 refine⟨MG (Go.Proofs.ndS s) s.length (Df [] l),by rw[Dh,if_neg (by simp[h])],fun d hd=>(hm d).2 (.base hd),fun d hd=>((hm d).1 hd).in_ hcl hl,Oq (Fu .nil),fun d hd n hn=>(hm n).2 (.step ((hm d).1 hd) hn)⟩
theorem BH.closedM {s:List Sto} (v:BH s) {l:List Dig} (hl: ∀ d∈l,d∈ids s): ∃ L,Dh s l=(L,0)∧Ko s l L∧ ∀ d,d∈L↔Q.Reach (Go.Proofs.ndS s) l d:=by
 obtain⟨L,e,h⟩:=v.closed hl
 refine⟨L,e,h,fun d=>?_⟩
 have hA:DW (ids s) l=true:=Bg.2 fun d hd=>BR (hl d hd)
 have hcl: ∀ x∈ids s,∀ d∈Go.Proofs.ndS s x,d∈ids s:=fun x _ d hd=>v.close.nd x d hd
 rw[Dh,if_neg (by simp[hA])]at e
 rw[←(Prod.mk.inj e).1,ME hcl hl (by rw[HT];exact Ah _)]
def qo (l:List Dig) (i:Nat):List Dig:=(l.set i (l.getD (i+1) Dig.zero)).set (i+1) (l.getD i Dig.zero)
@[simp] theorem vL (l:List Dig) (i:Nat):(qo l i).length=l.length:=by simp[qo]
section
variable {β:Type} [DecidableEq β] (K:Sto→β)
end
theorem Reach.trans' {nd:Dig→List Dig} {l:List Dig} {x d:Dig} (h1:Q.Reach nd l x) (h2:Q.Reach nd [x] d):Q.Reach nd l d:=by
 induction h2 with
 |base h=>rw[An.1 h];exact h1
 |step _ h ih=>exact .step ih h
structure Q1 (nd:Dig→List Dig) (U:List Dig) (T:List (Dig × List Dig)):Prop where
 is: ∀ d,(C4 d T).isSome=decide (d∈U)
 mem: ∀ x y,y∈ndG T x↔y∈U∧x∈nd y
 len: ∀ x,(ndG T x).length≤400
theorem Q1.ok {nd:Dig→List Dig} {U:List Dig} {T:List (Dig × List Dig)} (h:Q1 nd U T) (hU:U.length≤200):mR T U:=
 ⟨h.is,hU,fun x _ d hd=>((h.mem x d).1 hd).1,h.len⟩
theorem Q1.reach {nd:Dig→List Dig} {U:List Dig} {T:List (Dig × List Dig)} (h:Q1 nd U T) (hcl: ∀ x∈U,∀ d∈nd x,d∈U) {l:List Dig} (hl: ∀ d∈l,d∈U) (d:Dig):Q.Reach (ndG T) l d↔d∈U∧ ∃ q∈l,Q.Reach nd [d] q:=by
 constructor
 ·intro hr
  induction hr with
  |base hd=>exact⟨hl _ hd,_,hd,.base (by simp)⟩
  |step _ hd ih=>
   obtain⟨_,q,hq,hr⟩:=ih
   obtain⟨hu,hn⟩:=(h.mem _ _).1 hd
   exact⟨hu,q,hq,Reach.trans' (.step (.base (by simp)) hn) hr⟩
 ·rintro⟨hd,q,hq,hr⟩
  have key: ∀ q,Q.Reach nd [d] q→Q.Reach (ndG T) [q] d:=fun q hr=>by
   induction hr with
   |base h'=>rw[An.1 h'];exact .base (by simp)
   |step hx hn ih=>
    have hxU:=hx.in_ hcl (ids:= [d]) (fun y hy=>by rw[An.1 hy];exact hd)
    exact Reach.trans' (.step (.base (by simp)) ((h.mem _ _).2 ⟨hxU,hn⟩)) ih
  exact Reach.trans' (.base hq) (key q hr)
def Wc (s:List Sto) (l out:List Dig) (x:Sto):List Dig:=l.foldl (fun out k=>if k∈Px s x.id then FT out x.id else out) out
def YB (s:List Sto) (l:List Dig) (t:List Sto):List Dig:=t.foldl (Wc s l) []
def LN (s:List Sto) (l:List Dig):List Dig × Int:=if DW (ids s) l=false then([],7)else(YB s l s,0)
theorem YC {s:List Sto} {x:Sto}: ∀ {l out:List Dig},H2 out→H2 (Wc s l out x)
 | [],_,h=>h
 |k::l,out,h=>by
  unfold Wc
  rw[BM]
  refine YC (l:=l) ?_
  split
  ·exact Lb h
  ·exact h
theorem ZH {s:List Sto} {x:Sto}: ∀ {l out:List Dig} {d:Dig},d∈Wc s l out x↔d∈out∨(d=x.id∧ ∃ k∈l,k∈Px s x.id)
 | [],out,d=>by simp[Wc]
 |k::l,out,d=>by
  have e:Wc s (k::l) out x=Wc s l (if k∈Px s x.id then FT out x.id else out) x:=rfl
  rw[e,ZH]
  by_cases h:k∈Px s x.id
  ·rw[if_pos h,KR]
   constructor
   ·rintro((h1|h1)|⟨h1,k',h2,h3⟩)
    ·exact .inr ⟨h1,k,by simp,h⟩
    ·exact .inl h1
    ·exact .inr ⟨h1,k',AH _ h2,h3⟩
   ·rintro(h1|⟨h1,_⟩)
    ·exact .inl (.inr h1)
    ·exact .inl (.inl h1)
  ·rw[if_neg h]
   constructor
   ·rintro(h1|⟨h1,k',h2,h3⟩)
    ·exact .inl h1
    ·exact .inr ⟨h1,k',AH _ h2,h3⟩
   ·rintro(h1|⟨h1,k',h2,h3⟩)
    ·exact .inl h1
    ·rcases AI.1 h2 with rfl|h2
     ·exact absurd h3 h
     ·exact .inr ⟨h1,k',h2,h3⟩
theorem SR {s:List Sto} {l:List Dig}: ∀ {t:List Sto} {out:List Dig},H2 out→H2 (t.foldl (Wc s l) out)
 | [],_,h=>h
 |x::t,out,h=>SR (t:=t) (YC h)
theorem SJ {s:List Sto} {l:List Dig}: ∀ {t:List Sto} {out:List Dig} {d:Dig},d∈t.foldl (Wc s l) out↔d∈out∨ ∃ x∈t,d=x.id∧ ∃ k∈l,k∈Px s x.id
 | [],out,d=>by simp
 |x::t,out,d=>by
  rw[BM,SJ,ZH]
  constructor
  ·rintro((h|h)|⟨y,hy,h⟩)
   ·exact .inl h
   ·exact .inr ⟨x,by simp,h⟩
   ·exact .inr ⟨y,AH _ hy,h⟩
  ·rintro(h|⟨y,hy,h⟩)
   ·exact .inl (.inl h)
   ·rcases AI.1 hy with rfl|hy
    ·exact .inl (.inr h)
    ·exact .inr ⟨y,hy,h⟩
theorem eo {s:List Sto} {l:List Dig}:H2 (YB s l s):=SR .nil
theorem Tw {s:List Sto} {l:List Dig} {d:Dig}:d∈YB s l s↔d∈ids s∧ ∃ k∈l,k∈Px s d:=by
 unfold YB
 rw[SJ]
 constructor
 ·rintro(h|⟨x,hx,rfl,h⟩)
  ·cases h
  ·exact⟨AQ.2 ⟨x,hx,rfl⟩,h⟩
 ·rintro⟨h,h2⟩
  obtain⟨x,hx,rfl⟩:=AQ.1 h
  exact .inr ⟨x,hx,rfl,h2⟩
theorem BH.turned {s:List Sto} (v:BH s) {T:List (Dig × List Dig)} (h:Q1 (Go.Proofs.ndS s) (ids s) T) (l:List Dig):(Go.Proofs.clG T (ids s) l).1=(LN s l).1∧(LN s l).2=if(Go.Proofs.clG T (ids s) l).2=false then 7 else 0:=by
 have h1:P4 T l=DW (ids s) l:=by
  unfold P4 DW
  congr 1
  funext d
  exact h.is d
 unfold Go.Proofs.clG LN
 rw[h1]
 by_cases hl:DW (ids s) l=false
 ·rw[if_pos hl,if_pos hl];simp
 rw[if_neg hl,if_neg hl]
 refine⟨?_,by simp⟩
 have hlU: ∀ d∈l,d∈ids s:=fun d hd=>by
  have hl:DW (ids s) l=true:=by simpa using hl
  simpa using Bg.1 hl d hd
 have hT: ∀ x∈ids s,∀ d∈Go.Proofs.ndG T x,d∈ids s:=fun x _ d hd=>((h.mem x d).1 hd).1
 refine H2.ext (Oq (Fu .nil)) eo fun d=>?_
 rw[ME hT hlU (Ah _),h.reach (fun x _ d hd=>v.close.nd x d hd) hlU,Tw]
 constructor
 ·rintro⟨hd,q,hq,hr⟩
  exact⟨hd,q,hq,(v.mem_clo hd q).2 hr⟩
 ·rintro⟨hd,q,hq,hr⟩
  exact⟨hd,q,hq,(v.mem_clo hd q).1 hr⟩
def Nw (s:List Sto) (p q:Dig):Bool:=decide ((Dh s [p]).2=0)&&(decide (q∈ids s)&&decide (q∈(Dh s [p]).1))
theorem BH.knows {s:List Sto} (v:BH s) (p q:Dig):Nw s p q=(decide ((Dh s [p]).2=0)&&decide (q∈(Dh s [p]).1)):=by
 unfold Nw
 by_cases h:(Dh s [p]).2=0
 ·by_cases hq:q∈(Dh s [p]).1
  ·have hp:p∈ids s:=by
    unfold Dh at h
    by_cases h1:DW (ids s) [p]=false
    ·rw[if_pos h1]at h;exact absurd h (by decide)
    ·simpa [DW]using h1
   have e:(Dh s [p]).1=Px s p:=rfl
   rw[e]at hq ⊢
   have hin:q∈ids s:=by
    have h:=(v.mem_clo hp q).1 hq
    exact h.in_ (fun x _ d hd=>v.close.nd x d hd) (ids:= [p]) (fun y hy=>by rw[An.1 hy];exact hp)
   simp[h,hq,hin]
  ·simp[hq]
 ·simp[h]
def cW:Dig:=⟨[209,215,128,53,238,251,106,196,245,2,206,112,154,168,198,4,66,36,85,131,114,133,77,50,25,101,179,105,218,149,57,133],rfl⟩
def sC:Dig:=⟨[234,79,61,16,149,93,210,77,109,138,121,50,140,158,64,68,63,99,235,247,105,210,173,16,203,104,162,205,29,130,230,63],rfl⟩
def qO:Dig:=⟨[74,226,31,219,114,2,101,1,252,138,12,111,103,175,102,211,8,175,186,83,231,92,101,199,238,238,231,140,175,139,225,84],rfl⟩
def zp:Chg:={ Chg.zero with kind:=1,type:=1 }
def awI:Chg:={ Chg.zero with kind:=5,file:=⟨cW,0⟩,after:=⟨cW,0⟩,before:=⟨cW,0⟩,lines:= [[120]] }
def uo:Pat:=⟨[97,110,110],[],0,[],[zp]⟩
def vv:Pat:=⟨[97,110,110],[],0,[],[awI]⟩
def awC:Pat:=⟨[98,111,98],[],0,[],[zp]⟩
def aw1S:List Sto:= [⟨cW,uo⟩]
def aw2S:List Sto:= [⟨cW,uo⟩,⟨sC,vv⟩]
theorem um:FC [] uo=(aw1S,cW,0):=by decide+kernel
theorem uk:FC aw1S vv=(aw2S,sC,0):=by decide+kernel
theorem eb:Fk uo=false∧Fk vv=false∧Fk awC=false:=by decide+kernel
theorem qN:Lx []=true:=by decide+kernel
theorem qM:Lx aw1S=true:=by decide+kernel
theorem qL:Lx aw2S=true:=by decide+kernel
def hw0:Dig:=⟨[29,5,81,176,77,171,31,168,3,84,99,177,155,5,61,168,37,109,70,193,94,5,28,98,24,204,118,247,185,184,170,220],rfl⟩
def hw1:Dig:=⟨[240,168,68,31,108,233,64,210,234,68,91,7,227,21,139,135,67,203,230,233,173,209,83,239,153,132,174,43,167,0,34,187],rfl⟩
def vk:Dig:=⟨[213,83,79,138,58,73,5,36,69,187,190,214,93,193,171,28,47,86,11,254,23,204,168,89,142,6,60,190,106,212,44,43],rfl⟩
end Go.Proofs
