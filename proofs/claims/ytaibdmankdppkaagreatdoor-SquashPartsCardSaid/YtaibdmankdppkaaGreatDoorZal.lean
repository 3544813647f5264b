/- Contracts: closures (the reference's layer 17); the questions of a search (the reference's layer 31). -/
import Derived.Test.YtaibdmankdppkaaGreatDoorZak
import Derived.Test.YtaibdmankdppkaaGreatDoorZae
import Derived.Test.YtaibdmankdppkaaGreatDoorZaf
import Derived.Shelf.SlSortCmp.NoneTotal
import Derived.Test.YtaibdmankdppkaaGreatDoorZahc
import Derived.Test.YtaibdmankdppkaaGreatDoorZaj
import Derived.Shelf.SlGeneric
import Derived.Ground.SlsfProg
set_option linter.unusedSimpArgs false
set_option linter.unusedVariables false
set_option maxHeartbeats 8000000
namespace Go.Proofs
open Go Go.Q
attribute [local irreducible] ER AU BA Fk
theorem cP:E7 Pat.zero=false:=by simp[E7,Pat.zero,XB]
theorem U6:B7 Pat.zero= []:=by
 have h:(CV Pat.zero).2≠0:=by simp[CV,CA,Jg,Pat.zero]
 rw[B7,if_pos h]
theorem Kh {s:List Sto} {d:Dig} {p:Pat} (h:getS s d=some p): ∃ x∈s,x.id=d∧x.patch=p:=by
 induction s with
 |nil=>cases h
 |cons y s ih=>
  unfold getS at h
  split at h
  ·rename_i he
   exact⟨y,by simp,he,by simpa using h⟩
  ·obtain⟨x,hx,h1⟩:=ih h
   exact⟨x,by simp[hx],h1⟩
def ndS (s:List Sto) (d:Dig):List Dig:=B7 ((getS s d).getD Pat.zero)
def Uh (s:List Sto):Prop:=Gw s∧ ∀ x∈s,∀ d∈B7 x.patch,d∈ids s
theorem Uh.nd {s:List Sto} (h:Uh s) (x:Dig): ∀ d∈ndS s x,d∈ids s:=by
 unfold ndS
 cases hg:getS s x with
 |none=>rw[NV,U6];intro d hd;cases hd
 |some p=>
  obtain⟨y,hy,_,rfl⟩:=Kh hg
  exact h.2 y hy
theorem Hj (s:List Sto):(ids s).length=s.length:=by simp[ids]
theorem Uh.small {s:List Sto} (h:Uh s) {l:List Dig} (ha:HB l) (hl: ∀ d∈l,d∈ids s):l.length≤200:=by
 have h1:=El ha.nodup hl
 have h2:=h.1.1
 rw[Hj]at h1;omega
def Dk (s:List Sto) (l:List Dig):List Dig × Int:=if DI (ids s) l=false then([],7)else(MN (ndS s) s.length (Di [] l),0)
def QF (s:List Sto) (p:Dig):List Dig:=(Dk s [p]).1
def Jz:List Ident→Ident→List Ident
 | [],d=> [d]
 |x::xs,d=>if Hr x d < 0 then x::Jz xs d else if x=d then x::xs else d::x::xs
theorem TF: ∀ {l:List Ident} {d:Ident} {k:Nat},k≤l.length→(∀ i (h:i < l.length),i < k→Hr l[i] d < 0)→(∀ h:k < l.length,¬Hr l[k] d < 0)→
  Jz l d=if ∃ h:k < l.length,l[k]=d then l else l.take k++d::l.drop k
 | [],d,k,hk,_,_=>by simp[Jz]
 |x::xs,d,0,_,_,hk=>by
  have:=hk (by simp)
  simp only[BL]at this
  simp[Jz,this]
 |x::xs,d,k+1,hl,h1,h2=>by
  have h0:=h1 0 (by simp) (by omega)
  simp only[BL]at h0
  have ih:=TF (l:=xs) (d:=d) (k:=k) (by simpa using hl) (fun i h hi=>by have:=h1 (i+1) (by simpa using h) (by omega);simpa using this) (fun h=>by have:=h2 (by simpa using h);simpa using this)
  simp only[Jz,h0,if_true,ih]
  simp only[AL,yX,DM,PB,ak]
  split<;>rfl
theorem lL (l:List Ident) (d:Ident):(Jz l d).length≤l.length+1:=by
 induction l with
 |nil=>simp[Jz]
 |cons y l ih=>
  unfold Jz
  split
  ·simp only[AL];omega
  ·split<;>simp only[AL]<;>omega
instance wC (l:List Ident) (d:Ident) (t:CC) [hs:B0 (l.length≤1000000)]:C8 Tryz.prog 135 [.slice (l.map eIdent) t,.agg (eIdent d)] (.slice ((Jz l d).map eIdent) .ro):=⟨by
 refine Av Tryz.func135 Tryz.ntmps135 rfl (rs:= [.tmp 4]) rfl rfl fun hb LF=>?_
 have hlen:l.length≤1000000:=hs.out
 refine DU fun b=>?_
 refine Ab (σ:=Nat) (fun k=>k≤l.length∧ ∀ i (h:i < l.length),i < k→Hr l[i] d < 0) (fun k=>l.length - k) (fun k=> [(0,.slice (l.map eIdent) t),(3,.raw (.pointer (some ⟨b,0,none⟩))),(5,.raw (.int .i64 k))]) (fun _=> .box b 65 (eIdent d)::LF) 0 ⟨by simp,by simp⟩ ⟨rfl,rfl,rfl⟩ (.refl _) ?_
 rintro k ⟨hk,hne⟩
 refine AZ ?_
 refine Ay (fun hp=>?_) (fun hp=>?_)
 ·have hc:(k:Int) < l.length:=BJ hp
  refine CH ?_
  refine A6 (fun h1=>?_) (fun h1=>?_)
  ·refine AZ ?_
   refine⟨k+1,⟨by omega,fun i h hi=>?_⟩,by dsimp only;omega,⟨rfl,rfl,rfl⟩,.refl _⟩
   rcases B8 i k with h'|h'
   ·exact hne i h h'
   ·have:i=k:=by omega
    subst this;exact h1
  ·refine AZ ?_
   refine A6 (fun h2=>?_) (fun h2=>?_)
   ·refine AZ ?_
    refine B1 (.ros ?_)
    rw[TF hk hne (fun _=>h1),if_pos ⟨by omega,h2⟩]
   ·refine Hz fun t1=>?_
    refine IW fun t2=>?_
    refine IW fun t3=>?_
    refine B1 (.ros ?_)
    rw[TF hk hne (fun _=>h1),if_neg (fun⟨_,e⟩=>h2 e)]
    simp
 ·have hc: ¬(k:Int) < l.length:=Bh hp
  refine CH ?_
  refine IW fun t1=>?_
  refine IW fun t2=>?_
  refine IW fun t3=>?_
  refine B1 (.ros ?_)
  rw[TF hk hne (fun h=>absurd (show(k:Int) < l.length by omega) hc),if_neg (fun⟨h,_⟩=>hc (by omega))]
  simp⟩
def kO (d:Dig) (l:List Ident):List Ident:=l.foldl (fun m y=>Jz m (Cq y d)) []
def N1 (d:Dig) (a:Atm):Atm:={ a with id:={ a.id with patch:=d } }
def Pz (d:Dig) (a:Atm):Atm:=if a.kind≠7 then { a with file:=Cq a.file d }else a
def Py (d:Dig) (a:Atm):Atm:=if a.kind=2 then { a with parent:=Cq a.parent d }else a
def O6 (d:Dig) (a:Atm):Atm:=if a.kind=6 then { a with src:=Cq a.src d,dst:=Cq a.dst d }else a
def kP (d:Dig) (a:Atm):Atm:={ a with over:=kO d a.over }
def Vs (d:Dig) (a:Atm):Atm:=kP d (O6 d (Py d (Pz d (N1 d a))))
theorem Yr (d:Dig) (a:Atm):(O6 d (Py d (Pz d (N1 d a)))).over=a.over:=by
 unfold O6 Py Pz N1
 repeat' split
 all_goals rfl
theorem bc (d:Dig) (l:List Ident) (k:Nat):((l.take k).foldl (fun m y=>Jz m (Cq y d)) []).length≤k:=by
 induction k with
 |zero=>simp
 |succ k ih=>
  by_cases h:k < l.length
  ·rw[A7 h,BX]
   have:=lL ((l.take k).foldl (fun m y=>Jz m (Cq y d)) []) (Cq l[k] d)
   simp only[Bp,La];omega
  ·rw[AF (by omega)]at ih ⊢;omega
def JO (p:Pat):List Atm × Int:=if(Ej p).2≠0 then([],(Ej p).2)else((CA p).1.map (Vs (Ej p).1),0)
theorem bg {c:Chg} {first:Int} (h:c.over.length≤40): ∀ a∈CW c first,a.over.length≤40:=by
 intro a ha
 unfold CW at ha
 repeat' split at ha
 all_goals simp only[Ah,Aj,AQ]at ha
 all_goals first
  |(subst ha;first|exact h|(show([]:List Ident).length≤40;decide))
  |(rcases ha with ⟨_,_,rfl⟩|⟨_,_,rfl⟩<;>(show([]:List Ident).length≤40;decide))
theorem O9: ∀ (l:List Chg) (own:List Atm),(∀ c∈l,WM c)→(∀ a∈own,a.over.length≤40)→(DC l own).1.length≤own.length+l.length*81∧ ∀ a∈(DC l own).1,a.over.length≤40
 | [],own,_,h=>⟨by simp[DC],by simpa [DC]using h⟩
 |c::l,own,hc,ho=>by
  unfold DC
  split
  ·exact⟨by simp,by simp⟩
  ·split
   ·exact⟨by simp,by simp⟩
   ·have hcc:=hc c (by simp)
    have h1:=Ly c own.length
    have h2:=bg (first:=own.length) hcc.over
    have h3:=hcc.lines
    have ih:=O9 l (own++CW c own.length) (fun x hx=>hc x (by simp[hx])) (fun a ha=>by
     rcases Aj.1 ha with h|h
     ·exact ho a h
     ·exact h2 a h)
    rw[AA]at ih
    refine⟨?_,ih.2⟩
    have:=ih.1
    simp only[AL,C7];omega
theorem Dc {p:Pat} (h:E7 p=false):(CA p).1.length≤16200∧ ∀ a∈(CA p).1,a.over.length≤40:=by
 obtain⟨_,_,_,hch,hcs⟩:=EW h
 unfold CA
 repeat' split
 all_goals first
  |exact⟨by simp,by simp⟩
  |(have:=O9 p.changes [] hcs (by simp)
    exact⟨by have h1:=this.1;simp only[Af]at h1;omega,this.2⟩)
instance yV (p:Pat) [hs:B0 (E7 p=false)]:C8 Tryz.prog 260 [.agg (Bn p)] (.tuple [.slice ((JO p).1.map eAtm) .ro,.raw (.int .i64 (JO p).2)]):=⟨by
 obtain⟨hal,hao⟩:=Dc hs.out
 refine Av Tryz.func260 Tryz.ntmps260 rfl (rs:= [.tmp 2,.tmp 3]) rfl rfl fun hb LF=>?_
 refine DU fun b1=>?_
 refine Fq fun b4=>?_
 refine AX (fun h=>?_) (fun h=>?_)
 ·refine AZ ?_
  refine HT ?_
  rw[JO,if_pos h]
  exact .tuple2 (.ro _ _) (.refl _)
 rw[JO,if_neg (by simp[h])]
 refine AZ ?_
 generalize (Ej p).1=d
 generalize (CA p).1=own at hal hao
 refine EO 172 ?_
 refine Ab (σ:=Nat × List Atm × CC) (fun k=>k.1≤own.length∧k.2.1=(own.take k.1).map (Vs d)) (fun k=>own.length - k.1) (fun k=> [(4,.raw (.pointer (some ⟨b4,0,none⟩))),(6,.slice (own.map eAtm) .ro),(8,.slice (k.2.1.map eAtm) k.2.2),(9,.raw (.int .i64 k.1))]) (fun k=> .tok k.2.2 k.2.1.length 172:: .box b4 31 (eDig d)::LF) (0,[],.nil) ⟨by simp,by simp⟩ ⟨rfl,rfl,rfl,rfl⟩ (.cons_cons _ (.cons_cons _ (.cons _ (.refl _)))) ?_
 rintro⟨i,out,v⟩ ⟨hi,ho⟩
 dsimp only at hi ho ⊢
 have hol:out.length=i:=by rw[ho];simp;omega
 refine AZ ?_
 refine A6 (fun hc=>?_) (fun hc=>?_)
 ·have hlt:i < own.length:=by omega
  have hov:=hao _ (AB hlt)
  refine DU fun b10=>?_
  refine Cv (σ:=Unit) (fun _=>True) (fun _=> [(4,.raw (.pointer (some ⟨b4,0,none⟩))),(6,.slice (own.map eAtm) .ro),(8,.slice (out.map eAtm) v),(9,.raw (.int .i64 i)),(10,.raw (.pointer (some ⟨b10,0,none⟩)))]) (fun _=> .box b10 125 (eAtm (Pz d (N1 d own[i]))):: .tok v out.length 172:: .box b4 31 (eDig d)::LF) ?_ ?_
  ·refine AX (fun h7=>?_) (fun h7=>?_)
   ·refine AZ ?_
    refine⟨(),trivial,⟨rfl,rfl,rfl,rfl,rfl⟩,?_⟩
    have h7':(N1 d own[i]).kind≠7:=h7
    rw[Pz,if_pos h7'];exact .refl _
   ·refine AZ ?_
    refine⟨(),trivial,⟨rfl,rfl,rfl,rfl,rfl⟩,?_⟩
    have h7':(N1 d own[i]).kind=7:=h7
    rw[Pz,if_neg (by simp[h7'])];exact .refl _
  rintro _ _
  generalize ha2:Pz d (N1 d own[i])=a2
  refine AZ ?_
  refine Cv (σ:=Unit) (fun _=>True) (fun _=> [(4,.raw (.pointer (some ⟨b4,0,none⟩))),(6,.slice (own.map eAtm) .ro),(8,.slice (out.map eAtm) v),(9,.raw (.int .i64 i)),(10,.raw (.pointer (some ⟨b10,0,none⟩)))]) (fun _=> .box b10 125 (eAtm (Py d a2)):: .tok v out.length 172:: .box b4 31 (eDig d)::LF) ?_ ?_
  ·refine A6 (fun h7=>?_) (fun h7=>?_)
   ·refine AZ ?_
    refine⟨(),trivial,⟨rfl,rfl,rfl,rfl,rfl⟩,?_⟩
    rw[Py,if_pos h7];exact .refl _
   ·refine AZ ?_
    refine⟨(),trivial,⟨rfl,rfl,rfl,rfl,rfl⟩,?_⟩
    rw[Py,if_neg h7];exact .refl _
  rintro _ _
  generalize ha3:Py d a2=a3
  refine AZ ?_
  refine Cv (σ:=Unit) (fun _=>True) (fun _=> [(4,.raw (.pointer (some ⟨b4,0,none⟩))),(6,.slice (own.map eAtm) .ro),(8,.slice (out.map eAtm) v),(9,.raw (.int .i64 i)),(10,.raw (.pointer (some ⟨b10,0,none⟩)))]) (fun _=> .box b10 125 (eAtm (O6 d a3)):: .tok v out.length 172:: .box b4 31 (eDig d)::LF) ?_ ?_
  ·refine A6 (fun h7=>?_) (fun h7=>?_)
   ·refine SQ ?_
    refine Qk [false,false,false,false,false,false,false,false,false,true,false,true] ?_ ?_
    ·decide+kernel
    refine CH ?_
    refine⟨(),trivial,⟨rfl,rfl,rfl,rfl,rfl⟩,?_⟩
    rw[O6,if_pos h7];exact .refl _
   ·refine AZ ?_
    refine⟨(),trivial,⟨rfl,rfl,rfl,rfl,rfl⟩,?_⟩
    rw[O6,if_neg h7];exact .refl _
  rintro _ _
  have hover:(O6 d a3).over=own[i].over:=by rw[←ha3,←ha2];exact Yr d own[i]
  generalize ha4:O6 d a3=a4 at hover
  have hov4:a4.over.length≤40:=by rw[hover];exact hov
  refine AZ ?_
  refine Ab (σ:=Nat × List Ident × CC) (fun j=>j.1≤a4.over.length∧j.2.1=(a4.over.take j.1).foldl (fun m y=>Jz m (Cq y d)) []) (fun j=>a4.over.length - j.1) (fun j=> [(4,.raw (.pointer (some ⟨b4,0,none⟩))),(6,.slice (own.map eAtm) .ro),(8,.slice (out.map eAtm) v),(9,.raw (.int .i64 i)),(10,.raw (.pointer (some ⟨b10,0,none⟩))),(11,.slice (j.2.1.map eIdent) j.2.2),(12,.raw (.int .i64 j.1))]) (fun _=> .box b10 125 (eAtm a4):: .tok v out.length 172:: .box b4 31 (eDig d)::LF) (0,[],.nil) ⟨by simp,by simp⟩ ⟨rfl,rfl,rfl,rfl,rfl,rfl,rfl⟩ (.refl _) ?_
  rintro⟨j,m,z⟩ ⟨hj,hm⟩
  dsimp only at hj hm ⊢
  have hml:m.length≤j:=by rw[hm];exact bc d a4.over j
  refine AZ ?_
  refine A6 (fun hc2=>?_) (fun hc2=>?_)
  ·have hlt2:j < a4.over.length:=by omega
   have:B0 (m.length≤1000000):=⟨by omega⟩
   refine AZ ?_
   refine⟨(j+1,Jz m (Cq a4.over[j] d),.ro),⟨by dsimp only;omega,?_⟩,by dsimp only;omega,⟨rfl,rfl,rfl,rfl,rfl,rfl,rfl⟩,.refl _⟩
   dsimp only
   rw[A7 hlt2,BX,←hm];rfl
  ·rw[AF (by omega)]at hm
   refine Hz fun v'=>?_
   have e:Vs d own[i]= { a4 with over:=m }:=by rw[Vs,ha2,ha3,ha4,kP,kO,←hm]
   refine⟨(i+1,out++ [{ a4 with over:=m }],v'),⟨by dsimp only;omega,?_⟩,by dsimp only;omega,⟨rfl,rfl,rfl,rfl⟩,.cons _ (.refl _)⟩
   dsimp only
   rw[A7 hlt,Aq,←ho,Ar,e];rfl
 ·rw[AF (by omega)]at ho
  refine AZ ?_
  refine HT ?_
  rw[ho]
  exact .tuple2 (.ro _ _) (.refl _)⟩
theorem J1 {b:Bool} (h:(!b)=false): ¬b=false:=by cases b<;>simp_all
theorem L9 {b:Bool} (h:(!b)=true):b=false:=by cases b<;>simp_all
theorem Gw.great {s:List Sto} (h:Gw s) (d:Dig):E7 ((getS s d).getD Pat.zero)=false:=by
 cases hg:getS s d with
 |none=>exact cP
 |some p=>
  obtain⟨x,hx,_,rfl⟩:=Kh hg
  exact h.2 x hx
def J0 (s:List Sto) (d:Dig):List Atm:=(JO ((getS s d).getD Pat.zero)).1
def Ih (s:List Sto) (x:Ident):Option Atm:=if x.n < 0∨((J0 s x.patch).length:Int)≤x.n then none else(J0 s x.patch)[x.n.toNat]?
instance w9 (s:List Sto) (x:Ident) (t:CC) [hs:B0 (Gw s)]:C8 Tryz.prog 207 [.slice (s.map eSto) t,.agg (eIdent x)] (.tuple [.agg (eAtm ((Ih s x).getD Atm.zero)),.raw (.bool (Ih s x).isSome)]):=⟨by
 have i1:B0 (E7 ((getS s x.patch).getD Pat.zero)=false):=⟨hs.out.great _⟩
 refine Av Tryz.func207 Tryz.ntmps207 rfl (rs:= [.cell 4 125,.tmp 5]) rfl rfl fun hb LF=>?_
 refine DU fun b3=>?_
 refine Fq fun b4=>?_
 refine Fq fun b6=>?_
 have e0:(JO ((getS s x.patch).getD Pat.zero)).1=J0 s x.patch:=rfl
 rw[e0]
 refine BT [(31,.raw (.bool (decide (x.n < 0∨((J0 s x.patch).length:Int)≤x.n)))),(3,.raw (.pointer (some ⟨b3,0,none⟩))),(4,.raw (.pointer (some ⟨b4,0,none⟩))),(8,.slice ((J0 s x.patch).map eAtm) .ro)] (.box b6 40 (Bn ((getS s x.patch).getD Pat.zero)):: .box b4 125 (eAtm Atm.zero):: .box b3 65 (eIdent x)::LF) ?_ ?_
 ·repeat' (first|(refine A6 (fun h=>?_) (fun h=>?_)<;>refine AZ ?_)|(refine AX (fun h=>?_) (fun h=>?_)<;>refine AZ ?_)|(refine AW (fun h=>?_) (fun h=>?_)<;>refine AZ ?_)|(refine Ay (fun h=>?_) (fun h=>?_)<;>(have h2:=h;(try simp only[AD,A8,AI,AN]at h2);refine CH ?_)))
  all_goals (refine⟨⟨C9 (by rfl) ?_,rfl,rfl,rfl⟩,.refl _⟩;first|(simp_all;done)|(simp_all;omega)|grind)
 refine AZ ?_
 refine A6 (fun h=>?_) (fun h=>?_)
 ·refine AZ ?_
  refine Jq rfl (.of_eq ?_)
  rw[Ih,if_pos h];rfl
 ·refine AZ ?_
  refine Jq rfl (.of_eq ?_)
  have hlt:x.n.toNat < (J0 s x.patch).length:=by omega
  rw[Ih,if_neg h,AO hlt];rfl⟩
def EU (o:Option Atm) (fits:Atm→Bool):Int:=if o.isSome=false then 7 else if fits (o.getD Atm.zero)=false then 8 else 0
def HC (s:List Sto) (x file:Ident) (id:Dig):Int:=if FP x=false∨x=file then 0 else EU (Ih s x) (Jh (Hf file id))
instance yB (s:List Sto) (x file:Ident) (id:Dig) (t:CC) [hs:B0 (Gw s)]:C8 Tryz.prog 210 [.slice (s.map eSto) t,.agg (eIdent x),.agg (eIdent file),.agg (eDig id)] (.raw (.int .i64 (HC s x file id))):=⟨by
 refine Av Tryz.func210 Tryz.ntmps210 rfl (rs:= [.tmp 8]) rfl rfl fun hb LF=>?_
 refine DU fun b5=>?_
 refine Fq fun b6=>?_
 refine Fq fun b7=>?_
 refine BT [(18,.raw (.bool (decide (FP x=false∨x=file)))),(0,.slice (s.map eSto) t),(5,.raw (.pointer (some ⟨b5,0,none⟩))),(6,.raw (.pointer (some ⟨b6,0,none⟩))),(7,.raw (.pointer (some ⟨b7,0,none⟩)))] (.box b7 31 (eDig id):: .box b6 65 (eIdent file):: .box b5 65 (eIdent x)::LF) ?_ ?_
 ·repeat' (first|(refine A6 (fun h=>?_) (fun h=>?_)<;>refine AZ ?_)|(refine AX (fun h=>?_) (fun h=>?_)<;>refine AZ ?_)|(refine AW (fun h=>?_) (fun h=>?_)<;>refine AZ ?_)|(refine Ay (fun h=>?_) (fun h=>?_)<;>(have h2:=h;(try simp only[AD,A8,AI,AN]at h2);refine CH ?_)))
  all_goals (refine⟨⟨C9 (by rfl) ?_,rfl,rfl,rfl,rfl⟩,.refl _⟩;first|(simp_all;done)|(simp_all;omega)|grind)
 refine AZ ?_
 refine A6 (fun h=>?_) (fun h=>?_)
 ·refine AZ ?_
  refine B1 (.of_eq ?_)
  rw[HC,if_pos h]
 rw[HC,if_neg h]
 refine DU fun b9=>?_
 refine AW (fun h2=>?_) (fun h2=>?_)
 ·refine AZ ?_
  refine B1 (.of_eq ?_)
  rw[EU,if_pos (L9 h2)]
 refine AZ ?_
 refine AW (fun h3=>?_) (fun h3=>?_)
 ·refine AZ ?_
  refine B1 (.of_eq ?_)
  rw[EU,if_neg (J1 h2),if_pos (L9 h3)]
 ·refine AZ ?_
  refine B1 (.of_eq ?_)
  rw[EU,if_neg (J1 h2),if_neg (J1 h3)]⟩
def Ji (s:List Sto) (c:Chg):Int:=if FP c.file=true then EU (Ih s c.file) (EL c.kind)else 0
def MC (s:List Sto) (c:Chg):Int:=if FP c.parent=true then EU (Ih s c.parent) rDirectory else 0
def O8 (s:List Sto) (c:Chg) (id:Dig) (x:Ident):Int:=if FP x=false then 0 else EU (Ih s x) (Hd c.kind (Hf c.file id))
def L7 (s:List Sto) (c:Chg) (id:Dig):Int:=
 if Ji s c≠0 then Ji s c else if MC s c≠0 then MC s c else if HC s c.after c.file id≠0 then HC s c.after c.file id else
 if HC s c.before c.file id≠0 then HC s c.before c.file id else Aw (O8 s c id) c.over
instance sG (s:List Sto) (c:Chg) (id:Dig) (t:CC) [hs:B0 (Gw s)]:C8 Tryz.prog 153 [.slice (s.map eSto) t,.agg (eChg c),.agg (eDig id)] (.raw (.int .i64 (L7 s c id))):=⟨by
 refine Av Tryz.func153 Tryz.ntmps153 rfl (rs:= [.tmp 6]) rfl rfl fun hb LF=>?_
 have hlen:c.over.length≤140737488355328:=((hb (.agg (eChg c)) (by simp)).agg_at (c:= .slice (c.over.map eIdent) .ro) (by simp[eChg])).slice_map
 refine DU fun b4=>?_
 refine Fq fun b5=>?_
 refine Cv (σ:=Unit) (fun _=>Ji s c=0) (fun _=> [(0,.slice (s.map eSto) t),(4,.raw (.pointer (some ⟨b4,0,none⟩))),(5,.raw (.pointer (some ⟨b5,0,none⟩)))]) (fun _=> .box b5 31 (eDig id):: .box b4 73 (eChg c)::LF) ?_ ?_
 ·refine AW (fun h=>?_) (fun h=>?_)
  ·have e:Ji s c=EU (Ih s c.file) (EL c.kind):=by rw[Ji,if_pos h]
   refine DU fun b7=>?_
   refine AW (fun h2=>?_) (fun h2=>?_)
   ·refine AZ ?_
    refine B1 (.of_eq ?_)
    rw[EU,if_pos (L9 h2)]at e
    rw[L7,if_pos (by rw[e];decide),e]
   refine AZ ?_
   refine AW (fun h3=>?_) (fun h3=>?_)
   ·refine AZ ?_
    refine B1 (.of_eq ?_)
    rw[EU,if_neg (J1 h2),if_pos (L9 h3)]at e
    rw[L7,if_pos (by rw[e];decide),e]
   ·refine AZ ?_
    rw[EU,if_neg (J1 h2),if_neg (J1 h3)]at e
    exact⟨(),e,⟨rfl,rfl,rfl⟩,.cons _ (.refl _)⟩
  ·refine AZ ?_
   exact⟨(),by rw[Ji,if_neg (by simp[h])],⟨rfl,rfl,rfl⟩,.refl _⟩
 rintro _ hF
 refine AZ ?_
 refine Cv (σ:=Unit) (fun _=>MC s c=0) (fun _=> [(0,.slice (s.map eSto) t),(4,.raw (.pointer (some ⟨b4,0,none⟩))),(5,.raw (.pointer (some ⟨b5,0,none⟩)))]) (fun _=> .box b5 31 (eDig id):: .box b4 73 (eChg c)::LF) ?_ ?_
 ·refine AW (fun h=>?_) (fun h=>?_)
  ·have e:MC s c=EU (Ih s c.parent) rDirectory:=by rw[MC,if_pos h]
   refine DU fun b7=>?_
   refine AW (fun h2=>?_) (fun h2=>?_)
   ·refine AZ ?_
    refine B1 (.of_eq ?_)
    rw[EU,if_pos (L9 h2)]at e
    rw[L7,if_neg (by simp[hF]),if_pos (by rw[e];decide),e]
   refine AZ ?_
   refine AW (fun h3=>?_) (fun h3=>?_)
   ·refine AZ ?_
    refine B1 (.of_eq ?_)
    rw[EU,if_neg (J1 h2),if_pos (L9 h3)]at e
    rw[L7,if_neg (by simp[hF]),if_pos (by rw[e];decide),e]
   ·refine AZ ?_
    rw[EU,if_neg (J1 h2),if_neg (J1 h3)]at e
    exact⟨(),e,⟨rfl,rfl,rfl⟩,.cons _ (.refl _)⟩
  ·refine AZ ?_
   exact⟨(),by rw[MC,if_neg (by simp[h])],⟨rfl,rfl,rfl⟩,.refl _⟩
 rintro _ hP
 rw[L7,if_neg (by simp[hF]),if_neg (by simp[hP])]
 refine AZ ?_
 refine AX (fun h1=>?_) (fun h1=>?_)
 ·refine AZ ?_
  refine B1 (.of_eq ?_)
  rw[if_pos h1]
 rw[if_neg (by simp[h1])]
 refine AZ ?_
 refine AX (fun h2=>?_) (fun h2=>?_)
 ·refine AZ ?_
  refine B1 (.of_eq ?_)
  rw[if_pos h2]
 rw[if_neg (by simp[h2])]
 refine AZ ?_
 refine Ab (σ:=Nat) (fun k=>k≤c.over.length∧ ∀ i (h:i < c.over.length),i < k→O8 s c id c.over[i]=0) (fun k=>c.over.length - k) (fun k=> [(0,.slice (s.map eSto) t),(4,.raw (.pointer (some ⟨b4,0,none⟩))),(5,.raw (.pointer (some ⟨b5,0,none⟩))),(13,.raw (.int .i64 k))]) (fun _=> .box b5 31 (eDig id):: .box b4 73 (eChg c)::LF) 0 ⟨by simp,by simp⟩ ⟨rfl,rfl,rfl,rfl⟩ (.refl _) ?_
 rintro k ⟨hk,he⟩
 refine AZ ?_
 refine A6 (fun hc=>?_) (fun hc=>?_)
 ·have hlt:k < c.over.length:=by omega
  refine AZ ?_
  refine AW (fun h=>?_) (fun h=>?_)
  ·refine AZ ?_
   exact⟨k+1,⟨by omega,Dj he hlt (by rw[O8,if_pos (L9 h)])⟩,by dsimp only;omega,⟨rfl,rfl,rfl,rfl⟩,.refl _⟩
  have e:O8 s c id c.over[k]=EU (Ih s c.over[k]) (Hd c.kind (Hf c.file id)):=by rw[O8,if_neg (J1 h)]
  refine DU fun b14=>?_
  refine AW (fun h3=>?_) (fun h3=>?_)
  ·refine AZ ?_
   refine B1 (.of_eq ?_)
   rw[EU,if_pos (L9 h3)]at e
   rw[Cj hlt he (by rw[e];decide),e]
  refine AZ ?_
  refine AW (fun h4=>?_) (fun h4=>?_)
  ·refine AZ ?_
   refine B1 (.of_eq ?_)
   rw[EU,if_neg (J1 h3),if_pos (L9 h4)]at e
   rw[Cj hlt he (by rw[e];decide),e]
  ·refine AZ ?_
   rw[EU,if_neg (J1 h3),if_neg (J1 h4)]at e
   exact⟨k+1,⟨by omega,Dj he hlt e⟩,by dsimp only;omega,⟨rfl,rfl,rfl,rfl⟩,.cons _ (.refl _)⟩
 ·refine AZ ?_
  refine B1 (.of_eq ?_)
  rw[DK fun i h=>he i h (by omega)]⟩
def Fb (s:List Sto) (p:Pat) (id:Dig):Int:=Aw (fun c=>L7 s c id) p.changes
instance iw (s:List Sto) (p:Pat) (id:Dig) (t:CC) [hs:B0 (Gw s)]:C8 Tryz.prog 91 [.slice (s.map eSto) t,.agg (Bn p),.agg (eDig id)] (.raw (.int .i64 (Fb s p id))):=⟨by
 refine Av Tryz.func91 Tryz.ntmps91 rfl (rs:= [.tmp 6]) rfl rfl fun hb LF=>?_
 have hlen:p.changes.length≤140737488355328:=((hb (.agg (Bn p)) (by simp)).agg_at (c:= .slice (p.changes.map eChg) .ro) (by simp[Bn])).slice_map
 refine DU fun b4=>?_
 refine Fq fun b5=>?_
 refine Ab (σ:=Nat) (fun k=>k≤p.changes.length∧ ∀ i (h:i < p.changes.length),i < k→L7 s p.changes[i] id=0) (fun k=>p.changes.length - k) (fun k=> [(0,.slice (s.map eSto) t),(4,.raw (.pointer (some ⟨b4,0,none⟩))),(5,.raw (.pointer (some ⟨b5,0,none⟩))),(7,.raw (.int .i64 k))]) (fun _=> .box b5 31 (eDig id):: .box b4 40 (Bn p)::LF) 0 ⟨by simp,by simp⟩ ⟨rfl,rfl,rfl,rfl⟩ (.refl _) ?_
 rintro k ⟨hk,he⟩
 refine AZ ?_
 refine A6 (fun hc=>?_) (fun hc=>?_)
 ·have hlt:k < p.changes.length:=by omega
  refine AZ ?_
  refine AX (fun h=>?_) (fun h=>?_)
  ·refine AZ ?_
   refine B1 (.of_eq ?_)
   rw[Fb,Cj hlt he h]
  ·refine AZ ?_
   exact⟨k+1,⟨by omega,Dj (f:=fun c=>L7 s c id) he hlt h⟩,by dsimp only;omega,⟨rfl,rfl,rfl,rfl⟩,.refl _⟩
 ·refine AZ ?_
  refine B1 (.of_eq ?_)
  rw[Fb,DK fun i h=>he i h (by omega)]⟩
theorem pK {b:Bool} (h:(!b)=false):b=true:=by cases b<;>simp_all
def FE (s:List Sto) (i:Nat):Int:=
 if(Ej (s.getD i Sto.zero).patch).2≠0 then(Ej (s.getD i Sto.zero).patch).2 else if(Ej (s.getD i Sto.zero).patch).1≠(s.getD i Sto.zero).id then 13 else
 if 0 < (i:Int)∧0≤Ec (s.getD (i - 1) Sto.zero).id (Ej (s.getD i Sto.zero).patch).1 then 9 else 0
def KH (s:List Sto):Int:=
 if 400 < (s.length:Int)then 4 else if Aw (FE s) (List.range s.length)≠0 then Aw (FE s) (List.range s.length)else
 if s.all (fun x=>DI (ids s) (B7 x.patch))=false then 19 else if((CT s).length:Int) < s.length then 20 else Aw (fun(x:Sto)=>Fb s x.patch x.id) s
instance wM (s:List Sto) (t:CC) [hs:B0 (Gw s)]:C8 Tryz.prog 34 [.slice (s.map eSto) t] (.raw (.int .i64 (KH s))):=⟨by
 obtain⟨hl8,hgr⟩:=hs.out
 refine Av Tryz.func34 Tryz.ntmps34 rfl (rs:= [.tmp 2]) rfl rfl fun hb LF=>?_
 refine AZ ?_
 refine A6 (fun h1=>?_) (fun h1=>?_)
 ·omega
 rw[KH,if_neg h1]
 refine AZ ?_
 refine Ab (σ:=Nat) (fun k=>k≤s.length∧ ∀ i (h:i < (List.range s.length).length),i < k→FE s (List.range s.length)[i]=0) (fun k=>s.length - k) (fun k=> [(0,.slice (s.map eSto) t),(3,.raw (.int .i64 k))]) (fun _=>LF) 0 ⟨by simp,by simp⟩ ⟨rfl,rfl⟩ (.refl _) ?_
 rintro k ⟨hk,he⟩
 refine AZ ?_
 refine A6 (fun hc=>?_) (fun hc=>?_)
 ·have hlt:k < s.length:=by omega
  have hltr:k < (List.range s.length).length:=by simpa using hlt
  have ek:(List.range s.length)[k]=k:=by simp
  have e0:s.getD k Sto.zero=s[k]:=by simp[List.getD,hlt]
  have i1:B0 (E7 s[k].patch=false):=⟨hgr _ (AB hlt)⟩
  refine DU fun b=>?_
  refine AX (fun h2=>?_) (fun h2=>?_)
  ·refine AZ ?_
   refine B1 (.of_eq ?_)
   have e:FE s (List.range s.length)[k]=(Ej s[k].patch).2:=by rw[ek,FE,e0,if_pos h2]
   have f:=Cj hltr he (by rw[e];exact h2)
   rw[if_pos (by rw[f,e];exact h2),f,e]
  refine AZ ?_
  refine AX (fun h3=>?_) (fun h3=>?_)
  ·refine AZ ?_
   refine B1 (.of_eq ?_)
   have e:FE s (List.range s.length)[k]=13:=by rw[ek,FE,e0,if_neg (by simp[h2]),if_pos h3]
   have f:=Cj hltr he (by rw[e];decide)
   rw[if_pos (by rw[f,e];decide),f,e]
  refine AZ ?_
  refine Ay (fun hp=>?_) (fun hp=>?_)
  ·have hp':0 < (k:Int):=BJ hp
   refine CH ?_
   have e1:s.getD (k - 1) Sto.zero=s[((k:Int) - 1).toNat]:=by
    have:((k:Int) - 1).toNat=k - 1:=by omega
    simp only[this]
    have h':k - 1 < s.length:=by omega
    simp[List.getD,h']
   refine A6 (fun h4=>?_) (fun h4=>?_)
   ·refine AZ ?_
    refine B1 (.of_eq ?_)
    have e:FE s (List.range s.length)[k]=9:=by rw[ek,FE,e0,e1,if_neg (by simp[h2]),if_neg (by simp[h3]),if_pos ⟨hp',h4⟩]
    have f:=Cj hltr he (by rw[e];decide)
    rw[if_pos (by rw[f,e];decide),f,e]
   ·refine AZ ?_
    have e:FE s (List.range s.length)[k]=0:=by rw[ek,FE,e0,e1,if_neg (by simp[h2]),if_neg (by simp[h3]),if_neg (fun h=>h4 h.2)]
    exact⟨k+1,⟨by omega,Dj he hltr e⟩,by dsimp only;omega,⟨rfl,rfl⟩,.cons _ (.refl _)⟩
  ·have hp': ¬0 < (k:Int):=Bh hp
   refine CH ?_
   have e:FE s (List.range s.length)[k]=0:=by rw[ek,FE,e0,if_neg (by simp[h2]),if_neg (by simp[h3]),if_neg (fun h=>hp' h.1)]
   exact⟨k+1,⟨by omega,Dj he hltr e⟩,by dsimp only;omega,⟨rfl,rfl⟩,.cons _ (.refl _)⟩
 have hA:Aw (FE s) (List.range s.length)=0:=DK fun i h=>he i h (by simp at h;omega)
 rw[if_neg (by simp[hA])]
 clear he hA hk hc
 refine AZ ?_
 refine Ab (σ:=Nat) (fun k=>k≤s.length∧ ∀ i (h:i < s.length),i < k→DI (ids s) (B7 s[i].patch)=true) (fun k=>s.length - k) (fun k=> [(0,.slice (s.map eSto) t),(6,.slice ((ids s).map eDig) .ro),(7,.raw (.int .i64 k))]) (fun _=>LF) 0 ⟨by simp,by simp⟩ ⟨rfl,rfl,rfl⟩ (.refl _) ?_
 rintro k ⟨hk,he⟩
 refine AZ ?_
 refine A6 (fun hc=>?_) (fun hc=>?_)
 ·have hlt:k < s.length:=by omega
  have i1:B0 (E7 s[k].patch=false):=⟨hgr _ (AB hlt)⟩
  refine AZ ?_
  refine AW (fun h=>?_) (fun h=>?_)
  ·refine AZ ?_
   refine B1 (.of_eq ?_)
   have hx:DI (ids s) (B7 s[k].patch)=false:=L9 h
   have hy:s.all (fun x=>DI (ids s) (B7 x.patch))=false:=Gn hlt hx
   rw[if_pos hy]
  ·refine AZ ?_
   have hx:DI (ids s) (B7 s[k].patch)=true:=pK h
   have hy: ∀ i (h:i < s.length),i < k+1→DI (ids s) (B7 s[i].patch)=true:=fun i hi hik=>by
    rcases B8 i k with h'|h'
    ·exact he i hi h'
    ·have e:i=k:=by omega
     subst e;exact hx
   exact⟨k+1,⟨by omega,hy⟩,by dsimp only;omega,⟨rfl,rfl,rfl⟩,.refl _⟩
 have hB:s.all (fun x=>DI (ids s) (B7 x.patch))=true:=HY fun i h=>he i h (by omega)
 rw[if_neg (by simp[hB])]
 clear he hB hk hc
 refine AZ ?_
 refine A6 (fun h=>?_) (fun h=>?_)
 ·refine AZ ?_
  refine B1 (.of_eq ?_)
  rw[if_pos h]
 rw[if_neg h]
 refine AZ ?_
 refine Ab (σ:=Nat) (fun k=>k≤s.length∧ ∀ i (h:i < s.length),i < k→Fb s s[i].patch s[i].id=0) (fun k=>s.length - k) (fun k=> [(0,.slice (s.map eSto) t),(8,.raw (.int .i64 k))]) (fun _=>LF) 0 ⟨by simp,by simp⟩ ⟨rfl,rfl⟩ (.refl _) ?_
 rintro k ⟨hk,he⟩
 refine AZ ?_
 refine A6 (fun hc=>?_) (fun hc=>?_)
 ·have hlt:k < s.length:=by omega
  refine AZ ?_
  refine AX (fun h2=>?_) (fun h2=>?_)
  ·refine AZ ?_
   refine B1 (.of_eq ?_)
   rw[Cj (f:=fun(x:Sto)=>Fb s x.patch x.id) hlt he h2]
  ·refine AZ ?_
   exact⟨k+1,⟨by omega,Dj (f:=fun(x:Sto)=>Fb s x.patch x.id) he hlt h2⟩,by dsimp only;omega,⟨rfl,rfl⟩,.refl _⟩
 ·refine AZ ?_
  refine B1 (.of_eq ?_)
  rw[DK (f:=fun(x:Sto)=>Fb s x.patch x.id) fun i h=>he i h (by omega)]⟩
theorem Zn {s:List Sto} (h:GQ s=false):Gw s:=by
 unfold GQ at h
 simp only[Cr,A8,Br]at h
 obtain⟨⟨h1,h2⟩,_⟩:=h
 refine⟨by omega,fun x hx=>?_⟩
 have:=h1 x (by rw[AF (by omega)];exact hx)
 exact Xy (by simpa using this)
def MA (s:List Sto):Bool:=!GQ s&&decide (KH s=0)
instance zU (s:List Sto) (t:CC):C8 Tryz.prog 9 [.slice (s.map eSto) t] (.raw (.bool (MA s))):=⟨by
 refine Av Tryz.func9 Tryz.ntmps9 rfl (rs:= [.tmp 2]) rfl rfl fun hb LF=>?_
 refine AZ ?_
 refine Ay (fun hp=>?_) (fun hp=>?_)
 ·have i1:B0 (Gw s):=⟨Zn (by simpa using hp)⟩
  refine CH ?_
  refine B1 (.of_eq ?_)
  rw[MA,hp,EK]
 ·refine CH ?_
  refine B1 (.of_eq ?_)
  rw[MA,hp,vS]⟩
def MF (s:List Sto) (x:Sto):List Sto:=s.takeWhile (fun y=>decide (Ec y.id x.id < 0))++x::s.dropWhile (fun y=>decide (Ec y.id x.id < 0))
theorem OI {P:Program} {ρ:Env} {L LF:List Res} {X:PV} {t u s T n b T':Nat} {cs:List PV} {x z:PV} [hT:FA P T n] (h:ρ u= .raw (.pointer (some ⟨b,0,none⟩))) (hX:Le (.tuple [x,.agg cs,z]) X) (hx:ρ t=x:=by conv=>lhs;whnf) (hz:ρ s=z:=by conv=>lhs;whnf) (hm:Res.box b T' cs∈L:=by repeat(first|exact AG|apply AJ)) (hn:cs.length=n:=by simp) (hs:LF.Sublist L:=by repeat(first|exact EZ _|apply List.Sublist.cons)):
  qf P [.tmp t,.cell u T,.tmp s] (fun r L'=>Le r X∧L'= []) LF .ret ρ L:=⟨trivial,_,[],.cons (.tmp t) (.cons (.cell u T h hm hT.out hn) (.cons (.tmp s) .nil)),hs,by subst hx;subst hz;exact hX,rfl⟩
def FB (s:List Sto) (p:Pat):List Sto × Dig × Int:=
 if(Ej p).2≠0 then([],Dig.zero,(Ej p).2)else
 if(getS s (Ej p).1).isSome=true then(if p=(getS s (Ej p).1).getD Pat.zero then([],Dig.zero,6)else([],Dig.zero,14))else
 if DI (ids s) (B7 p)=false then([],Dig.zero,19)else if Fb s p (Ej p).1≠0 then([],Dig.zero,Fb s p (Ej p).1)else
 if 400≤(s.length:Int)then([],Dig.zero,4)else(MF s ⟨(Ej p).1,p⟩,(Ej p).1,0)
end Go.Proofs
namespace Go.Proofs
open Go Go.Q
theorem Cx {α:Type} {f:α→Int} {l:List α} (h:Aw f l=0): ∀ x∈l,f x=0:=by
 induction l with
 |nil=>intro x hx;cases hx
 |cons y l ih=>
  unfold Aw at h
  split at h
  ·rename_i h0
   intro x hx
   rcases AH.1 hx with rfl|hx
   ·exact h0
   ·exact ih h x hx
  ·rename_i h0;exact absurd h h0
structure BP (s:List Sto):Prop where
 close:Uh s
 id: ∀ x∈s,(Ej x.patch).2=0∧(Ej x.patch).1=x.id
 asc:HB (ids s)
 order:s.length≤(CT s).length
 refs: ∀ x∈s,Fb s x.patch x.id=0
theorem NN: ∀ {l:List Dig},(∀ i (h:i+1 < l.length),Dig.lt l[i] l[i+1])→HB l
 | [],_=> .nil
 | [x],_=>GG _ _
 |x::y::l,h=>by
  have ih:HB (y::l):=NN fun i hi=>by have:=h (i+1) (by simpa using hi);simpa using this
  have h0:=h 0 (by simp)
  simp only[BL,DM]at h0
  refine Bq.2 ⟨fun z hz=>?_,ih⟩
  rcases AH.1 hz with rfl|hz
  ·exact h0
  ·exact Dig.lt_trans h0 ((Bq.1 ih).1 z hz)
theorem fF {s:List Sto} (hgood:Gw s) (hc:KH s=0):BP s:=by
 have hl:=hgood.1
 unfold KH at hc
 rw[if_neg (by omega)]at hc
 split at hc
 ·rename_i h0;exact absurd hc h0
 rename_i h1
 have h1:Aw (FE s) (List.range s.length)=0:=CZ.1 h1
 split at hc
 ·omega
 rename_i h2
 split at hc
 ·omega
 rename_i h3
 have hall: ∀ x∈s,DI (ids s) (B7 x.patch)=true:=by
  have:s.all (fun x=>DI (ids s) (B7 x.patch))=true:=by simpa using h2
  exact fun x hx=>Bc.1 this x hx
 have hchk: ∀ i (hi:i < s.length),(Ej s[i].patch).2=0∧(Ej s[i].patch).1=s[i].id∧(∀ h:0 < i,Ec (s[i - 1]'(by omega)).id s[i].id < 0):=by
  intro i hi
  have h4:=Cx h1 i (Bg.2 hi)
  have e0:s.getD i Sto.zero=s[i]:=by simp[List.getD,hi]
  unfold FE at h4
  rw[e0]at h4
  split at h4
  ·rename_i h5;exact absurd h4 h5
  rename_i h5
  split at h4
  ·omega
  rename_i h6
  split at h4
  ·omega
  rename_i h7
  have h6:(Ej s[i].patch).1=s[i].id:=CZ.1 h6
  refine⟨CZ.1 h5,h6,fun hp=>?_⟩
  have e1:s.getD (i - 1) Sto.zero=s[i - 1]'(by omega):=by
   have h':i - 1 < s.length:=by omega
   simp[List.getD,h']
  rw[e1,h6]at h7
  have: ¬0≤Ec (s[i - 1]'(by omega)).id s[i].id:=fun h8=>h7 ⟨by omega,h8⟩
  omega
 refine⟨⟨hgood,fun x hx d hd=>?_⟩,fun x hx=>?_,?_,by omega,fun x hx=>Cx hc x hx⟩
 ·have:=Bc.1 (hall x hx) d hd
  simpa using this
 ·obtain⟨i,hi,rfl⟩:=AY.1 hx
  exact⟨(hchk i hi).1,(hchk i hi).2.1⟩
 ·refine NN fun i hi=>?_
  rw[Hj]at hi
  have:=(hchk (i+1) hi).2.2 (by omega)
  simpa [ids,Dig.lt]using this
theorem Ll {s:List Sto} (h:MA s=true):BP s:=by
 unfold MA at h
 simp only[BR,AI,AD]at h
 exact fF (Zn h.1) h.2
def NR (s:List Sto) (out:List Dig):Prop:= ∀ k (h:k < out.length),∃ x∈s,x.id=out[k]∧(∀ d∈B7 x.patch,d∈out.take k)∧out[k]∉out.take k
theorem Tw {s:List Sto} {out:List Dig}: ∀ (n:Nat),n≤s.length→0≤(List.range n).foldl (Gk s out) (-1)→
  ∃ x∈s,s.getD ((List.range n).foldl (Gk s out) (-1)).toNat Sto.zero=x∧ ¬x.id∈out∧DI out (B7 x.patch)=true
 |0,_,h=>by simp at h
 |n+1,hn,h=>by
  rw[Bt]at h ⊢
  generalize hk:(List.range n).foldl (Gk s out) (-1)=k at h ⊢
  unfold Gk at h ⊢
  split at h
  ·rename_i hc
   rw[if_pos hc]
   have e:s.getD n Sto.zero=s[n]:=by simp[List.getD,show n < s.length by omega]
   rw[e]at hc
   exact⟨s[n],AB _,by simpa using e,hc.1⟩
  ·rename_i hc
   rw[if_neg hc]
   have:=Tw (s:=s) (out:=out) n (by omega) (by rw[hk];exact h)
   rw[hk]at this;exact this
theorem Qg {s:List Sto}: ∀ (n:Nat) (out:List Dig),NR s out→NR s (O4 s n out)
 |0,_,h=>h
 |n+1,out,h=>by
  unfold O4
  split
  ·exact h
  ·rename_i hp
   refine Qg n _ ?_
   obtain⟨x,hx,e,h1,h2⟩:=Tw (s:=s) (out:=out) s.length (Ak _) (by unfold L6 at hp;omega)
   have e':s.getD (L6 s out).toNat Sto.zero=x:=e
   rw[e']
   intro k hk
   rw[AA,Au]at hk
   by_cases hko:k < out.length
   ·obtain⟨y,hy,q1,q2,q3⟩:=h k hko
    refine⟨y,hy,by rw[BM hko];exact q1,?_,?_⟩
    ·rw[Fx (by omega)];exact q2
    ·rw[BM hko,Fx (by omega)];exact q3
   ·have hke:k=out.length:=by omega
    subst hke
    refine⟨x,hx,by simp,?_,?_⟩
    ·intro d hd
     have:=Bc.1 h2 d hd
     simpa using this
    ·simpa using h1
theorem NR.nodup {s:List Sto} {out:List Dig} (h:NR s out):out.Nodup:=by
 refine Ax.2 fun i j hi hj hij e=>?_
 obtain⟨_,_,_,_,h3⟩:=h j hj
 exact h3 (e ▸ Db.2 ⟨i,by omega,rfl⟩)
theorem gg {s:List Sto} (h:HB (ids s)):(ids s).Nodup:=h.nodup
theorem Pn {s:List Sto} (h:HB (ids s)) {x y:Sto} (hx:x∈s) (hy:y∈s) (e:x.id=y.id):x=y:=by
 obtain⟨i,hi,rfl⟩:=AY.1 hx
 obtain⟨j,hj,rfl⟩:=AY.1 hy
 have hn:=gg h
 have hi':i < (ids s).length:=by rw[Hj];exact hi
 have hj':j < (ids s).length:=by rw[Hj];exact hj
 have:(ids s)[i]=(ids s)[j]:=by simpa [ids]using e
 have hp:=Ax.1 hn
 rcases LY i j with hij|hij|hij
 ·exact absurd this (hp i j hi' hj' hij)
 ·subst hij;rfl
 ·exact absurd this.symm (hp j i hj' hi' hij)
theorem NR.sub {s:List Sto} {out:List Dig} (h:NR s out): ∀ d∈out,d∈ids s:=fun d hd=>by
 obtain⟨k,hk,rfl⟩:=AY.1 hd
 obtain⟨x,hx,e,_⟩:=h k hk
 exact AQ.2 ⟨x,hx,e⟩
theorem Da (s:List Sto):NR s (CT s):=Qg _ _ (fun k hk=>absurd hk (DF _))
theorem BP.mem_order {s:List Sto} (v:BP s) {d:Dig} (hd:d∈ids s):d∈CT s:=by
 by_cases h:d∈CT s
 ·exact h
 ·have hn:(d::CT s).Nodup:=Bo.2 ⟨h,(Da s).nodup⟩
  have:=El hn (m:=ids s) fun y hy=>by
   rcases AH.1 hy with rfl|hy
   ·exact hd
   ·exact(Da s).sub y hy
  have h2:=v.order
  rw[Hj]at this
  simp only[AL]at this
  omega
theorem Sc {l:List Dig} {i:Nat} (h:i < l.length):l.idxOf l[i]≤i:=by
 induction l generalizing i with
 |nil=>simp at h
 |cons x l ih=>
  cases i with
  |zero=>simp
  |succ i=>
   simp only[DM,List.idxOf_cons]
   have:=ih (by simpa using h)
   cases hb:(x==l[i]'(by simpa using h))with
   |true=>simp
   |false=>simp;omega
def Qc (s:List Sto) (d:Dig):Nat:=(CT s).idxOf d
theorem BP.rank {s:List Sto} (v:BP s) {x:Sto} (hx:x∈s) {d:Dig} (hd:d∈B7 x.patch):Qc s d < Qc s x.id:=by
 have hm:=v.mem_order (AQ.2 ⟨x,hx,rfl⟩)
 have hk:(CT s).idxOf x.id < (CT s).length:=sh hm
 obtain⟨y,hy,e,h1,_⟩:=Da s _ hk
 rw[List.getElem_idxOf]at e
 have:=Pn v.asc hy hx e
 subst this
 obtain⟨i,hi,rfl⟩:=Db.1 (h1 d hd)
 have h2:=Sc (l:=CT s) (i:=i) (by omega)
 unfold Qc
 omega
theorem BP.getS {s:List Sto} (v:BP s) {x:Sto} (hx:x∈s):getS s x.id=some x.patch:=by
 cases hg:Go.Proofs.getS s x.id with
 |none=>
  exfalso
  have: ∀ (l:List Sto),x∈l→Go.Proofs.getS l x.id≠none:=by
   intro l
   induction l with
   |nil=>intro h;cases h
   |cons y l ih=>
    intro h
    unfold Go.Proofs.getS
    split
    ·simp
    ·rename_i hne
     rcases AH.1 h with rfl|h
     ·exact absurd rfl hne
     ·exact ih h
  exact this s hx hg
 |some p=>
  obtain⟨y,hy,e,rfl⟩:=Kh hg
  rw[Pn v.asc hy hx e]
theorem BP.ndS {s:List Sto} (v:BP s) {x:Sto} (hx:x∈s):ndS s x.id=B7 x.patch:=by
 unfold Go.Proofs.ndS;rw[v.getS hx];rfl
theorem BP.mem_clo {s:List Sto} (v:BP s) {p:Dig} (hp:p∈ids s) (d:Dig):d∈QF s p↔Q.Reach (Go.Proofs.ndS s) [p] d:=by
 have ha:DI (ids s) [p]=true:=by simp[DI,hp]
 unfold QF Dk
 rw[if_neg (by simp[ha])]
 exact MJ (U:=ids s) (fun x _ d hd=>v.close.nd x d hd) (fun d hd=>by rw[Ah.1 hd];exact hp) (EF (Hj s))
attribute [local irreducible] ER AU BA Fk Km
theorem Vq (c:Chg) (first:Int): ∀ j (h:j < (CW c first).length),((CW c first)[j]).id=⟨Dig.zero,first+j⟩:=by
 intro j h
 have key:(∃ x:Atm,CW c first= [x]∧x.id=⟨Dig.zero,first⟩)∨CW c first=(List.range c.lines.length).map (Ft c first)++(List.range (c.lines.length+1)).map (Ey c first):=by
  unfold CW
  repeat' split
  all_goals first|exact .inl ⟨_,rfl,rfl⟩|exact .inr rfl
 rcases key with ⟨x,e,hx⟩|e
 ·have hj:j=0:=by rw[e]at h;simpa using h
  subst hj
  simp only[e,BL,hx]
  simp
 ·have h2:=h
  simp only[e]at h2 ⊢
  rw[List.getElem_append]
  split
  ·simp[Ft]
  ·rename_i h3
   simp only[AR,HH]at h3
   simp only[BK,dN,Ey,AR,HH]
   congr 1
   omega
theorem Q8 {own:List Atm} (c:Chg) (h:Nf own):Nf (own++CW c own.length):=by
 intro i hi
 rw[List.getElem_append]
 split
 ·exact h i _
 ·rename_i h3
  rw[Vq]
  congr 1
  omega
theorem N2 {c:Chg} (h:C3 c=0):1≤c.kind∧c.kind≤7:=by
 unfold C3 at h
 split at h
 ·omega
 ·omega
theorem Yt {l:List Dig} (h:Iz l=0): ∀ d∈l,d≠Dig.zero:=by
 intro d hd e
 unfold Iz at h
 split at h
 ·omega
 obtain⟨i,hi,rfl⟩:=AY.1 hd
 have h0:=Cx h i (by simpa using hi)
 rw[Ho,if_pos (by simp[List.getD,hi,e])]at h0
 omega
def Kq (p:Pat):List Atm × Str × Int:=if(CA p).2≠0 then([],[],(CA p).2)else if 65536 < ((Nk p).length:Int)then([],[],4)else((CA p).1,Nk p,0)
theorem N4 {p:Pat} (h:JG p=0):CA p=DC p.changes []:=by rw[Iq,if_neg (by simp[h])]
theorem Tm {p:Pat} (h:JG p=0):Iz p.deps=0:=by
 unfold JG at h
 split at h
 ·omega
 split at h
 ·omega
 split at h
 ·omega
 split at h
 ·rename_i h4;exact absurd h h4
 ·rename_i h4;simpa using h4
def qO (b:Nat) (s:CC × List Atm) (LF:List Res):List Res:= .box b 68 [.slice (s.2.map eAtm) s.1]:: .tok s.1 s.2.length 172::LF
instance uk (p:Pat) [hs:B0 (E7 p=false)]:C8 Tryz.prog 81 [.agg (Bn p)] (.tuple [.slice ((Kq p).1.map eAtm) .ro,.str (Kq p).2.1,.raw (.int .i64 (Kq p).2.2)]):=⟨by
 obtain⟨hg1,hg2,hg3,hg4,hg5⟩:=EW hs.out
 refine Av Tryz.func81 Tryz.ntmps81 rfl (rs:= [.tmp 2,.tmp 3,.tmp 4]) rfl rfl fun hb LF=>?_
 refine wf ?_
 refine AX (fun h1=>?_) (fun h1=>?_)
 ·refine wf ?_
  refine SD ?_
  have e:CA p=([],JG p):=by rw[Iq,if_pos h1]
  have e2:Kq p=([],[],JG p):=by rw[Kq,e,if_pos h1]
  rw[e2]
  exact .tuple3 (.ros rfl) (.refl _) (.refl _)
 have hH:=N4 h1
 refine YD fun b6=>?_
 refine EO 172 ?_
 refine E3 (.swap _ _ _) ?_
 refine Ab (σ:=Nat × CC × List Atm) (fun k=>k.1≤p.changes.length∧k.2.2.length≤k.1*81∧Nf k.2.2∧(∀ c∈p.changes.take k.1,1≤c.kind∧c.kind≤7)∧CA p=DC (p.changes.drop k.1) k.2.2) (fun k=>p.changes.length - k.1) (fun k=> [(1,.pt (Bn p) 0),(6,.raw (.pointer (some ⟨b6,0,none⟩))),(20,.slice (p.changes.map eChg) .ro),(21,.raw (.int .i64 p.changes.length)),(22,.raw (.int .i64 k.1))]) (fun k=>qO b6 k.2 LF) (0,.nil,[]) ⟨by simp,by simp,fun i h=>absurd h (by simp),by simp,hH⟩ ⟨rfl,rfl,rfl,rfl,rfl⟩ (.refl _) ?_
 rintro⟨k,v,own⟩ ⟨hk,hlen,hid,hkd,he⟩
 dsimp only at hk hlen hid hkd he
 rw[show qO b6 (k,v,own).2 LF= .box b6 68 [.slice (own.map eAtm) v]:: .tok v own.length 172::LF from rfl]
 refine wf ?_
 refine A6 (fun hc=>?_) (fun hc=>?_)
 ·have hlt:k < p.changes.length:=by omega
  rw[LP hlt]at he
  refine wz fun b8=>?_
  refine Al 8 ?_
  refine wf ?_
  refine AX (fun h2=>?_) (fun h2=>?_)
  ·refine wf ?_
   rw[if_pos h2]at he
   have e2:Kq p=([],[],C3 p.changes[k]):=by rw[Kq,he,if_pos h2]
   refine SD ?_
   rw[e2]
   exact .tuple3 (.ros rfl) (.refl _) (.refl _)
  rw[if_neg (by simp[h2])]at he
  have hll:p.changes[k].lines.length≤2000:=JZ h2
  have hkk:1≤p.changes[k].kind∧p.changes[k].kind≤7:=N2 h2
  have hmm:=Ly p.changes[k] own.length
  have hl40:=(hg5 _ (AB hlt)).lines
  have i1:B0 (C3 p.changes[k]=0∧own.length≤100000∧Nf own):=⟨h2,by omega,hid⟩
  refine wf ?_
  refine AX (fun h3=>?_) (fun h3=>?_)
  ·refine wf ?_
   rw[if_pos h3]at he
   have e2:Kq p=([],[],FC p.changes[k] own):=by rw[Kq,he,if_pos h3]
   refine SD ?_
   rw[e2]
   exact .tuple3 (.ros rfl) (.refl _) (.refl _)
  rw[if_neg (by simp[h3])]at he
  refine wf ?_
  refine GK (S4 p.changes[k] own.length hkk ⟨hll,by omega,by omega⟩) [41] (σ:=CC × List Atm) (fun pre s=>s.2=own++pre) (fun _ _=>False) (fun s LF'=>qO b6 s LF') (v,own) LF ?_ rfl (fun _=>rfl) (by simp) (fun _ _=>rfl) (.refl _) (by simp) ?_ ?_ (fun _ _ h=>h.elim)
  ·exact .refl _
  ·rintro pre x ⟨v1,own1⟩ LF' hpre hI
   dsimp only at hI
   have hpl:=hpre.length_le
   have hol:own1.length≤90000:=by
    rw[hI,AA]
    rw[AA,Au]at hpl
    omega
   rw[show qO b6 (v1,own1) LF'= .box b6 68 [.slice (own1.map eAtm) v1]:: .tok v1 own1.length 172::LF' from rfl]
   refine wz fun b11=>?_
   refine Al 11 ?_
   refine dR fun v2=>?_
   exact⟨(v2,own1++ [x]),by dsimp only;rw[hI,AV],.refl _⟩
  ·rintro⟨v1,own1⟩ hI
   dsimp only at hI
   refine wf ?_
   refine⟨(k+1,v1,own1),⟨by dsimp only;omega,?_,?_,?_,?_⟩,by dsimp only;omega,⟨rfl,rfl,rfl,rfl,rfl⟩,.refl _⟩
   ·dsimp only
    rw[hI,AA];omega
   ·dsimp only
    rw[hI];exact Q8 _ hid
   ·dsimp only
    intro c hcm
    rw[A7 hlt]at hcm
    rcases Aj.1 hcm with h|h
    ·exact hkd c h
    ·rw[Ah.1 h];exact hkk
   ·dsimp only
    rw[hI];exact he
 have hkk:k=p.changes.length:=by omega
 rw[DN (by omega)]at he
 rw[AF (by omega)]at hkd
 have he':CA p=(own,0):=he
 have i1:B0 (cZ p):=⟨⟨OM hs.out,Yt (Tm h1),hkd⟩⟩
 refine wf ?_
 have h0: ¬(CA p).2≠0:=by rw[he'];simp
 refine A6 (fun h=>?_) (fun h=>?_)
 ·refine wf ?_
  have e2:Kq p=([],[],4):=by rw[Kq,if_neg h0,if_pos h]
  refine SD ?_
  rw[e2]
  exact .tuple3 (.ros rfl) (.refl _) (.refl _)
 ·refine wf ?_
  have e2:Kq p=(own,Nk p,0):=by rw[Kq,if_neg h0,if_neg h,he']
  refine SD ?_
  rw[e2]
  exact .tuple3 (.ros rfl) (.refl _) (.refl _)⟩
end Go.Proofs
namespace Go.Proofs
open Go Go.Q
attribute [local irreducible] ER AU BA Fk
theorem XE (p:Pat):(Kq p).2.2=(CV p).2:=by
 unfold Kq CV KG
 split
 ·rfl
 ·split<;>rfl
theorem oQ (p:Pat):(Kq p).2.1=(CV p).1:=by
 unfold Kq CV KG
 split
 ·rfl
 ·split<;>rfl
instance vP (p:Pat) [hs:B0 (E7 p=false)]:C8 Tryz.prog 56 [.agg (Bn p)] (.raw (.int .i64 (CV p).2)):=⟨by
 refine Av Tryz.func56 Tryz.ntmps56 rfl (rs:= [.tmp 2]) rfl rfl fun hb LF=>?_
 refine wf ?_
 refine B1 (.of_eq ?_)
 rw[←XE]⟩
instance se (p:Pat) [hs:B0 (E7 p=false)]:C8 Tryz.prog 136 [.agg (Bn p)] (.tuple [.str (CV p).1,.raw (.int .i64 (CV p).2)]):=⟨by
 refine Av Tryz.func136 Tryz.ntmps136 rfl (rs:= [.tmp 2,.tmp 3]) rfl rfl fun hb LF=>?_
 refine wf ?_
 refine HT ?_
 rw[←XE,←oQ]
 exact .refl _⟩
def vDig (d:Dig):List Value:=Nr d.bs
instance :PK eDig vDig:=⟨fun d=>by simp[eDig,vDig,Nr,eU8];intro a _;rfl,fun d x hx=>by
 obtain⟨b,_,rfl⟩:=AQ.1 hx;rfl⟩
instance :al Tryz.prog 24 31 32 32:=⟨by
 have h2:(Tryz.prog.info? 31).map (fun i=>(i.size,i.bytes,i.zero.isSome,(i.zero.getD undef).cells.size))=some (32,32,true,32):=by kernel_rfl
 obtain⟨i,hi,e⟩:=Bl.1 h2
 simp only[Prod.mk.injEq]at e
 obtain⟨e1,e2,e3,e4⟩:=e
 obtain⟨z,hz⟩:=Fl.1 e3
 rw[hz]at e4
 exact⟨i,z,by kernel_rfl,hi,e1,e2,hz,e4,by decide,by decide⟩⟩
abbrev VN (v:Value) (l:List Dig) (R:List Res):Prop:=K2 vDig 31 32 v l R
theorem P8 (l:List Dig) (t:CC) (hl:l.length≤1000000):BA Tryz.prog 57 [.slice (l.map eDig) t] [] (fun r L'=> ∃ v,r= .raw v∧VN v l L'):=by
 refine C4 Tryz.func57 rfl Tryz.ntmps57 (rs:= [.tmp 2]) rfl rfl fun hb LF=>?_
 rw[BB]
 refine wf ?_
 refine df rfl fun b hnil=>?_
 refine wf ?_
 refine AW (fun h=>?_) (fun h=>?_)
 ·have h0:l= []:=by simpa using hnil h
  subst h0
  refine DZ ?_
  refine CK (by kernel_rfl) ?_
  refine Lr ?_
  refine AE ?_
  refine wf ?_
  exact⟨trivial,_,[],.cons (.tmp 2) .nil,.refl _,_,rfl,.nil none (by simp)⟩
 refine HQ ?_
 refine DZ ?_
 refine CK (by kernel_rfl) ?_
 refine dm (vf:=vDig) fun v0 hv0=>?_
 refine wf ?_
 refine Iy (f:=eDig) (R:= []) (LF:=LF) (fun R'=>R'++LF) rfl rfl hv0 (.refl _) (fun R'=> .refl _) (by simp only[Af];omega) (by simp only[Af];omega) fun v R' hv=>?_
 refine wf ?_
 refine wf ?_
 rw[BB]at hv
 exact⟨trivial,_,R',.cons (.tmp 2) .nil,.refl _,v,rfl,hv⟩
def yF (acc:List Dig) (x:Dig):List Dig:=if acc.getLast? =some x then acc else acc++ [x]
def KX (l:List Dig):List Dig:=l.foldl yF []
theorem Ug (l:List Dig) (x:Dig):KX (l++ [x])=if(KX l).getLast? =some x then KX l else KX l++ [x]:=by rw[KX,BX];rfl
theorem lu (l:List Dig):(KX l).getLast? =l.getLast?:=by
 rcases List.eq_nil_or_concat l with rfl|⟨m,x,rfl⟩
 ·rfl
 ·rw[List.concat_eq_append,Ug]
  split
  ·rename_i h;rw[h];simp
  ·simp
theorem R9 {l:List Dig} {j:Nat} (h0:0 < j) (h:j < l.length):KX (l.take (j+1))=if l[j]=l[j - 1]then KX (l.take j)else KX (l.take j)++ [l[j]]:=by
 rw[A7 h,Ug,lu]
 have:(l.take j).getLast? =some l[j - 1]:=by
  rw[List.getLast?_eq_getElem?,Aa,DP (by omega),Fh,if_pos (by omega)]
  simp
 rw[this]
 by_cases e:l[j]=l[j - 1]
 ·rw[if_pos (by rw[e]),if_pos e]
 ·rw[if_neg (fun h=>e (by injection h with h;exact h.symm)),if_neg e]
theorem FY (d:Dig):(vDig d).length=32:=by
 have:(eDig d).length=32:=by simp
 rw[(inferInstance:PK eDig vDig).out]at this
 simpa using this
theorem sj: ∀ i z,Tryz.prog.info? 31=some i→i.zero=some z→ ∀ x∈z.cells,x.oneCell'=true:=by
 have h:(Tryz.prog.info? 31).map (fun i=>(i.zero.getD undef).cells.all (·.oneCell'))=some true:=by kernel_rfl
 intro i z hi hz x hx
 rw[hi]at h
 simp only[Eh,hz,Bj,JA,HN]at h
 exact h x hx
theorem fI (l:List Dig) (k:Nat) (h:k≤l.length) (rest:List Value):(l.flatMap vDig++rest).take (k*32)=(l.take k).flatMap vDig:=by
 have e:(l.flatMap vDig++rest)=(l.take k).flatMap vDig++((l.drop k).flatMap vDig++rest):=by
  rw[←AV,←FK,Bf]
 rw[e]
 refine GL ?_
 rw[OC (f:=eDig) (sz:=32),Aa,DP h]
theorem QE (l:List Dig) (v:Value) (R:List Res) (hv:VN v l R) (hl:l.length≤1000000):BA Tryz.prog 62 [.raw v] R (fun r L'=>r= .slice ((KX l).map eDig) .ro∧L'= []):=by
 refine C4 Tryz.func62 rfl Tryz.ntmps62 (rs:= [.tmp 2]) rfl rfl fun hb LF=>?_
 have hmx: ∀ m:List Dig,m.length≤l.length→m.length≤maxN∧m.length*32≤maxN:=fun m h=>by
  have:maxN=140737488355328:=rfl
  omega
 obtain⟨o,c,rfl⟩:=hv.slice
 refine wf ?_
 refine KY rfl ?_
 refine wf ?_
 refine A6 (fun h1=>?_) (fun h1=>?_)
 ·refine DZ ?_
  refine CK (by kernel_rfl) ?_
  refine KD (by(conv=>lhs;whnf);done) ?_
  refine Lr ?_
  refine AE ?_
  have e:KX l=l:=by
   match l,h1 with
   | [],_=>rfl
   | [x],_=>rfl
   |_::_::_,h=>simp at h;omega
  refine H0 (f:=eDig) 2 hv (hmx l (Ak _)) (.refl _) rfl ?_
  refine wf ?_
  exact⟨trivial,_,[],.cons (.tmp 2) .nil,.refl _,by rw[e];exact⟨rfl,rfl⟩⟩
 have hne:l≠ []:=fun e=>by subst e;exact h1 (by simp)
 obtain⟨_,r,cur,rest,rfl,rfl,hcur,hsz,hlc⟩:=hv.inv hne
 refine wf ?_
 refine Ab (σ:=Nat) (fun k=>1≤k∧k≤l.length∧KX (l.take k)=l.take k) (fun k=>l.length - k) (fun k=> [(0,.raw (.slice (some ⟨r,0,none⟩) l.length c)),(3,.raw (.int .i64 (k:Int)))]) (fun _=> [.raw r (.cells cur 31 (0,0))]++LF) 1 ⟨by omega,by omega,?_⟩ ⟨rfl,rfl⟩ (.refl _) ?_
 ·match l,h1 with
  | [],_=>rfl
  |x::_,_=>rfl
 rintro k ⟨hk1,hk,he⟩
 refine wf ?_
 refine KY rfl ?_
 refine wf ?_
 refine A6 (fun hc=>?_) (fun hc=>?_)
 ·have hlt:k < l.length:=by omega
  refine wn ?_
  refine BZ 10 ?_ ?_
  ·decide+kernel
  refine wf ?_
  refine Fi (k:=k) rfl rfl hlt ?_
  refine Oj (f:=eDig) (a0:=l[k]) rfl AG (by rw[hcur,BC];exact Pr FY l k hlt rest) (by omega) ?_
  refine wf ?_
  refine Fi (k:=k - 1) rfl (by show PV.raw (Value.int .i64 ((k:Int) - 1))=PV.raw (Value.int .i64 ((k - 1:Nat):Int));congr 2;omega) (by omega) ?_
  refine Oj (f:=eDig) (a0:=l[k - 1]) rfl AG (by rw[hcur,BC];exact Pr FY l (k - 1) (by omega) rest) (by omega) ?_
  refine wf ?_
  have hd:=R9 (l:=l) (j:=k) (by omega) hlt
  refine A6 (fun h2=>?_) (fun h2=>?_)
  ·rw[if_pos h2]at hd
   refine DZ ?_
   refine CK (by kernel_rfl) ?_
   refine KD (by(conv=>lhs;whnf);done) ?_
   refine KD (by(conv=>lhs;whnf);done) ?_
   refine Ny k l.length rfl (by omega) (Ak _) (by omega) hlc (fun o e=>by cases e;exact⟨_,rfl⟩) (by simp) (by simp) (fun _=>rfl) ?_
   refine wf ?_
   refine Ab (σ:=Nat × Nat × List Dig × Array Value) (fun j=>1≤j.1∧k+j.1≤l.length∧1≤j.2.1∧j.2.1+1≤k+j.1∧j.2.2.1.length=l.length∧j.2.2.1.take j.2.1=KX (l.take (k+j.1))∧(∀ i,k+j.1≤i+1→j.2.2.1[i]? =l[i]?)∧j.2.2.2.toList=j.2.2.1.flatMap vDig++rest∧j.2.2.2.size=c*32) (fun j=>l.length - k - j.1) (fun j=> [(0,.raw (.slice (some ⟨r,0,none⟩) l.length c)),(3,.raw (.int .i64 (j.2.1:Int))),(4,.raw (.slice (some ⟨r,0+k*32,none⟩) (l.length - k) (c - k))),(5,.raw (.int .i64 (j.1:Int)))]) (fun j=> [.raw r (.cells j.2.2.2 31 (0,0))]++LF) (1,k,l,cur) ⟨by omega,by dsimp only;omega,by dsimp only;omega,by dsimp only;omega,rfl,by dsimp only;rw[hd,he],fun _ _=>rfl,hcur,hsz⟩ ⟨rfl,rfl,rfl,rfl⟩ (.refl _) ?_
   rintro⟨k2,kk,l1,cur1⟩ ⟨i1,i2,i3,i4,i5,i6,i7,i8,i9⟩
   dsimp only at i1 i2 i3 i4 i5 i6 i7 i8 i9 ⊢
   refine wf ?_
   refine KY rfl ?_
   refine wf ?_
   refine A6 (fun hc2=>?_) (fun hc2=>?_)
   ·have hlt2:k+k2 < l.length:=by omega
    have g1:l1[k+k2]'(by omega)=l[k+k2]:=by
     have:=i7 (k+k2) (by omega)
     rw[AO (by omega),AO hlt2]at this
     exact CJ this
    have g2:l1[k+(k2 - 1)]'(by omega)=l[k+k2 - 1]:=by
     have:=i7 (k+(k2 - 1)) (by omega)
     rw[AO (by omega),AO (by omega)]at this
     have e:=CJ this
     rw[e]
     congr 1
     omega
    have hd2:=R9 (l:=l) (j:=k+k2) (by omega) hlt2
    refine wn ?_
    refine BZ 10 ?_ ?_
    ·decide+kernel
    refine wf ?_
    refine Fi (k:=k2) rfl rfl (by omega) ?_
    refine Oj (f:=eDig) (a0:=l[k+k2]) rfl AG (by rw[i8,show 0+k*32+k2*32=(k+k2)*32 by omega,Pr FY l1 (k+k2) (by omega) rest,g1]) (by omega) ?_
    refine wf ?_
    refine Fi (k:=k2 - 1) rfl (by show PV.raw (Value.int .i64 ((k2:Int) - 1))=PV.raw (Value.int .i64 ((k2 - 1:Nat):Int));congr 2;omega) (by omega) ?_
    refine Oj (f:=eDig) (a0:=l[k+k2 - 1]) rfl AG (by rw[i8,show 0+k*32+(k2 - 1)*32=(k+(k2 - 1))*32 by omega,Pr FY l1 (k+(k2 - 1)) (by omega) rest,g2]) (by omega) ?_
    refine wf ?_
    refine AX (fun h3=>?_) (fun h3=>?_)
    ·rw[if_neg h3]at hd2
     refine wf ?_
     refine Fi (k:=k2) rfl rfl (by omega) ?_
     refine Oj (f:=eDig) (a0:=l[k+k2]) rfl AG (by rw[i8,show 0+k*32+k2*32=(k+k2)*32 by omega,Pr FY l1 (k+k2) (by omega) rest,g1]) (by omega) ?_
     refine wf ?_
     refine Fi (k:=kk) rfl rfl (by omega) ?_
     refine o6 (f:=eDig) (a0:=l[k+k2]) (E:=31) (cur:=cur1) (L':=LF) (fun x=> [x]++LF) rfl rfl (FY _) (by omega) (.refl _) (fun _=> .refl _) ?_
     refine wf ?_
     refine wf ?_
     have hset:(l1.set kk l[k+k2]).take (kk+1)=l1.take kk++ [l[k+k2]]:=by
      rw[A7 (by simp;omega)]
      congr 1
      ·rw[List.take_set_of_le (by omega)]
      ·simp
     have hcl:(cur1.toList.take (0+kk*32)++vDig l[k+k2]++cur1.toList.drop (0+kk*32+32))=(l1.set kk l[k+k2]).flatMap vDig++rest:=by
      rw[i8,BC];exact Zu FY l1 kk (by omega) _ rest
     refine⟨(k2+1,kk+1,l1.set kk l[k+k2],(cur1.toList.take (0+kk*32)++vDig l[k+k2]++cur1.toList.drop (0+kk*32+32)).toArray),⟨by dsimp only;omega,by dsimp only;omega,by dsimp only;omega,by dsimp only;omega,by dsimp only;rw[DQ];exact i5,by dsimp only;rw[hset,i6,←E9,hd2],fun i hi=>?_,hcl,?_⟩,by dsimp only;omega,⟨rfl,rfl,rfl,rfl⟩,.refl _⟩
     ·dsimp only at hi ⊢
      rw[Y6 (by omega)]
      exact i7 i (by omega)
     ·dsimp only
      have hv32:=FY l[k+k2]
      simp only[Cg,AA,Aa,B4,Cb,hv32]
      omega
    ·rw[if_pos h3]at hd2
     refine wf ?_
     refine⟨(k2+1,kk,l1,cur1),⟨by dsimp only;omega,by dsimp only;omega,i3,by dsimp only;omega,i5,by dsimp only;rw[i6,←E9,hd2],fun i hi=>i7 i (by dsimp only at hi;omega),i8,i9⟩,by dsimp only;omega,⟨rfl,rfl,rfl,rfl⟩,.refl _⟩
   have hkk:k+k2=l.length:=by omega
   rw[hkk,AF (Ak _)]at i6
   refine wf ?_
   refine Ny kk l.length rfl (by omega) (Ak _) (by omega) hlc (fun o e=>by cases e;exact⟨_,rfl⟩) (by simp) (by simp) (fun _=>rfl) ?_
   refine bT (E:=31) (cur:=cur1) (L':=LF) sj (fun x=> [x]++LF) rfl (by omega) (by omega) (.refl _) (fun _=> .refl _) fun zs hzs=>?_
   refine AE ?_
   refine DZ ?_
   refine CK (by kernel_rfl) ?_
   refine KD (by(conv=>lhs;whnf);done) ?_
   refine KD (by(conv=>lhs;whnf);done) ?_
   refine Ny 0 kk rfl (by omega) (by omega) (by omega) hlc (by simp) (fun _=>rfl) (fun o e=>by cases e;exact⟨_,rfl⟩) (by simp) ?_
   refine Lr ?_
   refine AE ?_
   have hlk:(l1.take kk).length=kk:=by rw[Aa,DP (by omega)]
   have hrow:K2 vDig 31 32 (.slice (some ⟨r,0,none⟩) (l1.take kk).length c) (l1.take kk) [.raw r (.cells (cur1.toList.take (0+kk*32)++zs++cur1.toList.drop (0+kk*32+(l.length - kk)*32)).toArray 31 (0,0))]:=by
    refine K2.mk (rest:=zs++cur1.toList.drop (0+kk*32+(l.length - kk)*32)) FY ?_ ?_ (by rw[hlk];omega)
    ·simp only[AV]
     rw[BC,i8,fI l1 kk (by omega)]
    ·simp only[Cg,AA,Aa,B4,Cb,hzs]
     omega
   refine H0 (f:=eDig) 2 hrow (hmx _ (by rw[hlk];omega)) (.refl _) (by
    show PV.raw (Value.slice (some ⟨r,0+0*32,none⟩) (kk - 0) (c - 0))=_
    rw[hlk];simp) ?_
   refine wf ?_
   exact⟨trivial,_,[],.cons (.tmp 2) .nil,.refl _,by rw[←i6];exact⟨rfl,rfl⟩⟩
  ·rw[if_neg h2]at hd
   refine wf ?_
   refine⟨k+1,⟨by omega,by omega,?_⟩,by dsimp only;omega,⟨rfl,rfl⟩,.refl _⟩
   rw[hd,he,←A7 hlt]
 have hkk:k=l.length:=by omega
 rw[AF (by omega)]at he
 refine Gv ?_
 refine DZ ?_
 refine CK (by kernel_rfl) ?_
 refine KD (by(conv=>lhs;whnf);done) ?_
 refine Lr ?_
 refine AE ?_
 refine H0 (f:=eDig) 2 hv (hmx l (Ak _)) (.refl _) rfl ?_
 refine wf ?_
 exact⟨trivial,_,[],.cons (.tmp 2) .nil,.refl _,by rw[he];exact⟨rfl,rfl⟩⟩
end Go.Proofs
namespace Go.Q
open Go Go.Proofs Go.Sort
theorem UY {α:Type} {k:Nat} (hk0:0 < k) {enc:α→List Value} (hk: ∀ x,(enc x).length=k): ∀ (l:List α) (t:Nat),(l.flatMap enc)[t]? =(l[t / k]?).bind fun x=>(enc x)[t % k]?
 | [],t=>by simp
 |x::l,t=>by
  rw[DR]
  by_cases h:t < k
  ·rw[CF (by rw[hk];exact h),Nat.div_eq_of_lt h,E8 h]
   simp
  ·rw[EI (by rw[hk];omega),hk,UY hk0 hk l (t - k)]
   have e1:t / k=(t - k) / k+1:=by
    rw[Nat.div_eq_sub_div hk0 (by omega)]
   have e2:t % k=(t - k) % k:=Nat.mod_eq_sub_mod (by omega)
   rw[e1,e2]
   simp
theorem R5 {α:Type} [Inhabited α] {k:Nat} (hk0:0 < k) {enc:α→List Value} (hk: ∀ x,(enc x).length=k) (l:List α):(flatK enc k l.toArray).toList=l.flatMap enc:=by
 refine iq fun t=>?_
 rw[UY hk0 hk]
 by_cases h:t < l.length*k
 ·have h1:t / k < l.length:=Y3 (by rw[PN];exact h)
  have h2:t % k < k:=dJ _ hk0
  have h3:t < (flatK enc k l.toArray).toList.length:=by simpa using h
  rw[AO h3,AO h1]
  simp only[Gg]
  rw[AO (by rw[hk];exact h2)]
  congr 1
  have:=get_flatK enc k l.toArray t (by simpa using h)
  simp only[Y9]
  rw[getElem!_pos _ t (by simpa using h)]at this
  rw[this]
  simp[h1,getElem!_pos,hk,h2]
 ·rw[FW (by simpa using h)]
  have: ¬t / k < l.length:=fun h'=>h (by
   have:=Nat.lt_mul_of_div_lt h' hk0
   first|exact this|(rw[PN];exact this))
  rw[FW (by omega)]
  rfl
section
variable {α:Type} [Inhabited α] {enc:α→List Value} {k:Nat} {w:World} {r:Nat} {cur:Array Value} {E:Nat}
theorem PY (h:w.heap[r]? =some (.cells cur E (0,0))) (m:Nat) (dk:Array α) (os:Array Obj):(sortWorldK enc k w r 0 m dk os).heap[r]? =some (.cells (putCells id 0 (flatK enc k dk) cur) E (0,0)):=by
 have hlt:=(BH.1 h).1
 show((w.heap.modify r (onCells (putCells id 0 (flatK enc k dk))))++os)[r]? =_
 rw[FJ (by simpa using hlt),Mi,if_pos rfl,h]
 rfl
theorem Fy (m:Nat) (dk:Array α) (os:Array Obj): ∀ b,b < w.heap.size→b≠r→(sortWorldK enc k w r 0 m dk os).heap[b]? =w.heap[b]?:=fun b hb hn=>by
 show((w.heap.modify r (onCells (putCells id 0 (flatK enc k dk))))++os)[b]? =_
 rw[FJ (by simpa using hb),Mi,if_neg (Ne.symm hn)]
theorem Nw (m:Nat) (dk:Array α) (os:Array Obj):w.heap.size≤(sortWorldK enc k w r 0 m dk os).heap.size:=by
 show _≤((w.heap.modify r (onCells (putCells id 0 (flatK enc k dk))))++os).size
 simp
theorem Pc (F:Array Value) (h:F.size≤cur.size):(putCells id 0 F cur).toList.take F.size=F.toList:=by
 refine EC (by simp[putCells];omega) fun j h1 h2=>?_
 have hj:j < F.size:=by simpa using h2
 simp[putCells,hj]
end
theorem Dv.laterBut {w w':World} {g:Gh} {L:List Res} {r:Nat} (hi:Dv w g L) (hH: ∀ o,g.H r o=none) (hM:g.M r=none) (hr:r∉An L) (hk: ∀ k,k < w.heap.size→k≠r→w'.heap[k]? =w.heap[k]?):Dv w' g L:=by
 refine⟨fun b i v h=>?_,fun b z h=>(hi.satM b z h).congr (hk b (hi.satM b z h).lt (fun e=>by rw[e,hM]at h;cases h)),fun r' hr'=>?_,hi.nodup,hi.glob⟩
 ·have h0:=hi.sat b i v h
  have hb:b < w.heap.size:=by
   rcases B8 b w.heap.size with h'|h'
   ·exact h'
   ·simp[World.cell?,Bm h']at h0
  simp only[World.cell?]at h0 ⊢
  rw[hk b hb (fun e=>by rw[e,hH]at h;cases h)];exact h0
 ·exact Res.holds_kept (.refl g) (hi.res r' hr') fun b hb=>⟨hk b (hi.lt (Bz.2 ⟨r',hr',hb⟩)) (fun e=>hr (Bz.2 ⟨r',hr',by rw[hb,e]⟩)),fun _=>rfl,rfl⟩
theorem Zl {w w':World} (h1:w'.os=w.os) (h2:w'.tape=w.tape) (h3:w'.output=w.output) (h4:w.drawn≤w'.drawn) (h5:w.heap.size≤w'.heap.size) (hk: ∀ k,k < w.heap.size→w'.heap[k]? =w.heap[k]?): ∃ q os,w'=grow (w.drewN q) os:=by
 refine⟨w'.drawn - w.drawn,w'.heap.extract w.heap.size w'.heap.size,?_⟩
 have hh:w'.heap=w.heap++w'.heap.extract w.heap.size w'.heap.size:=by
  refine Array.ext_getElem? fun i=>?_
  by_cases hi:i < w.heap.size
  ·rw[FJ hi,hk i hi]
  ·rw[Array.getElem?_append_right (by omega)]
   by_cases h6:i < w'.heap.size
   ·rw[CN h6,CN (by simp;omega)]
    simp
    congr 1
    omega
   ·rw[Bm (by omega),Bm (by simp;omega)]
 have hd:w'.drawn=w.drawn+(w'.drawn - w.drawn):=by omega
 obtain⟨⟩:=w'
 obtain⟨⟩:=w
 simp only at h1 h2 h3 hh hd
 subst h1 h2 h3
 simp only[grow,World.drewN]
 rw[←hh,←hd]
end Go.Q
namespace Go.Proofs
open Go Go.Q Go.Shelf Go.Sort
attribute [local irreducible] ER AU Fk
instance :Inhabited Dig:=⟨Dig.zero⟩
theorem zk:SWO (ltOf Ec) where
 irrefl x:=by
  unfold ltOf
  exact Cp (fun h=>Dig.lt_irrefl x h)
 trans x y z h1 h2:=by
  unfold ltOf at*
  exact BF (Dig.lt_trans (BJ h1) (BJ h2))
 ntrans x y z h1 h2:=by
  unfold ltOf at*
  refine Cp fun h=>?_
  have h1:=Bh h1
  have h2:=Bh h2
  rcases Dig.tri x y with h'|h'|h'
  ·exact h1 h'
  ·subst h';exact h2 h
  ·rcases Dig.tri y z with h3|h3|h3
   ·exact h2 h3
   ·subst h3;exact h1 h
   ·exact Dig.lt_irrefl x (Dig.lt_trans h (Dig.lt_trans h3 h'))
def sortD (l:List Dig):List Dig:=l.mergeSort fun x y=>!(ltOf Ec) y x
theorem lz {w:World} {g:Gh} {r n E:Nat} {cur:Array Value} (hi:Dv w g []) (h1:w.heap[r]? =some (.cells cur E (0,0))) (h2: ∀ o,g.H r o=none) (h3:g.M r=none):CmpLays Tryz.prog 61 #[] vDig 32 Ec r 0 n w:=by
 intro m os dk hdk x y
 have hI:Dv (sortWorldK vDig 32 w r 0 m dk os) g []:=hi.laterBut h2 h3 (by simp[An]) (fun k hk hn=>Fy m dk os k hk hn)
 have hv:ED g [.agg (vDig x).toArray,.agg (vDig y).toArray] [.agg (eDig x),.agg (eDig y)]:=by
  have e: ∀ d:Dig,VR g (.agg (vDig d).toArray) (.agg (eDig d)):=fun d=>by
   rw[(inferInstance:PK eDig vDig).out]
   have:ED g (vDig d) ((vDig d).map PV.raw):=⟨by simp,fun i h1 h2=>by simp;exact .raw _⟩
   exact this.agg
  exact .cons (e x) (.cons (e y) (.nil g))
 have:=(ZH x y).out _ (sortWorldK vDig 32 w r 0 m dk os) g [] hv hI
 refine Calls.mono this ?_
 rintro e w' ⟨v,x',g',L',rfl,k1,k2,k3,k4,rfl,rfl⟩
 refine⟨by rw[k1.raw_inv],?_⟩
 exact Zl k3.os k3.tape k3.output.1 k3.output.2 k3.size (fun k hk=>k3.keep k hk (by simp[An]))
theorem TA (l:List Dig) (v:Value) (R:List Res) (hv:VN v l R) (hl:l.length≤1000000):BA Tryz.prog 60 [.raw v,.raw (.func (.func 61) #[] #[])] R (fun _ L'=> ∃ v',v'=v∧VN v' (sortD l) L'):=fun vs w g LF hvs hi=>by
 obtain⟨v1,v2,rfl⟩: ∃ a b,vs= [a,b]:=by
  have:=hvs.len
  match vs,this with
  | [a,b],_=>exact⟨a,b,rfl⟩
 rw[hvs.uncons.1.raw_inv,hvs.uncons.2.uncons.1.raw_inv]
 obtain⟨o,c,rfl⟩:=hv.slice
 by_cases hne:l= []
 ·subst hne
  refine(AnyF.slices_SortFunc_none Tryz.sortD o c _ w).mono ?_
  rintro e w' ⟨rfl,rfl⟩
  exact⟨_,.raw (.tuple #[]),g,R,rfl,.raw _,hi,.refl _ _ _,.refl _ _,_,rfl,by simpa [sortD]using hv⟩
 obtain⟨_,r,cur,rest,rfl,rfl,hcur,hsz,hlc⟩:=hv.inv hne
 obtain⟨k1,k2,k3,k4,k5⟩:=hi.rawHead
 have hlt:r < w.heap.size:=(BH.1 k1).1
 have hF:(flatK vDig 32 l.toArray).toList=l.flatMap vDig:=R5 (by decide) FY l
 have hH:HoldsK vDig 32 w r 0 l.toArray:=fun j hj=>by
  have hj2:j < l.length*32:=by simpa using hj
  refine⟨?_,by simp[World.frozen?,k1]⟩
  have hj3:j < cur.size:=by omega
  simp only[World.cell?,k1,CX,BQ,if_false,BC]
  rw[getElem!_pos _ j hj]
  have e1:cur.toList[j]? =(flatK vDig 32 l.toArray).toList[j]?:=by
   rw[hcur,hF,CF (by rw[OC (f:=eDig) (sz:=32)];exact hj2)]
  rw[Mh,Mh,CN hj]at e1
  exact e1
 refine(AnyQ.slices_SortFunc_total Tryz.sortD 32 (fun w=>?_) (fun w=>Ea.run (inferInstance:Ea Tryz.prog 31 32 32) w) vDig FY (fun x v h=>(inferInstance:PK eDig vDig).one x v h) Ec zk 61 #[] r 0 c l.toArray w (fun args w=>(inferInstance:B2 Tryz.prog 61).out args w) (lz (hi.sub (List.nil_sublist _)) k1 k2 k3) hH hlt (by simp;omega) ?_).mono ?_
 ·have hu:Tryz.prog.underlying 31=some (.array 32 5):=by kernel_rfl
  show(isAgg 31).run Tryz.prog w=_
  simp[isAgg,run_underlying hu]
 ·intro x y h1 h2
  unfold ltOf at h1 h2
  have h1:=Bh h1
  have h2:=Bh h2
  rcases Dig.tri x y with h'|h'|h'
  ·exact absurd h' h1
  ·exact h'
  ·exact absurd h' h2
 ·rintro e w' ⟨rfl,n,os,rfl⟩
  have hlen:(sortD l).length=l.length:=DA _
  have hFs:(flatK vDig 32 (sortD l).toArray).toList=(sortD l).flatMap vDig:=R5 (by decide) FY (sortD l)
  have hFz:(flatK vDig 32 (sortD l).toArray).size=l.length*32:=by simp[hlen]
  have htk:=Pc (cur:=cur) (flatK vDig 32 (sortD l).toArray) (by omega)
  have hrow:K2 vDig 31 32 (.slice (some ⟨r,0,none⟩) (sortD l).length c) (sortD l) [.raw r (.cells (putCells id 0 (flatK vDig 32 (sortD l).toArray) cur) 31 (0,0))]:=by
   refine K2.mk (rest:=(putCells id 0 (flatK vDig 32 (sortD l).toArray) cur).toList.drop (l.length*32)) FY ?_ (by simp[putCells,hsz]) (by omega)
   rw[←hFs,←htk,hFz,Bf]
  rw[hlen]at hrow
  refine⟨_,.raw (.tuple #[]),g,[.raw r (.cells (putCells id 0 (flatK vDig 32 (sortD l).toArray) cur) 31 (0,0))],rfl,.raw _,?_,⟨rfl,rfl,⟨rfl,mm _ _⟩,Nw n _ os,fun b hb hn=>Fy n _ os b hb (fun e=>hn (by rw[e];simp[An,Res.block])),.refl g,fun _ _ _=>⟨fun _=>rfl,rfl⟩⟩,fun b hb _=>by simpa [An,Res.block]using hb,_,rfl,hrow⟩
  exact(k5.laterBut k2 k3 k4 (fun k hk hn=>Fy n _ os k hk hn)).addRaw (PY k1 n _ os) k2 k3 k4
end Go.Proofs
namespace Go.Proofs
open Go Go.Q
attribute [local irreducible] ER AU BA Fk
def ea (rs:List Rfc):List Dig:=(rs.filter fun r=>!decide (r.id.patch=Dig.zero)).map (·.id.patch)
theorem cX (a b:List Rfc):ea (a++b)=ea a++ea b:=by simp[ea]
theorem lf {rs:List Rfc} {j:Nat} (h:j < rs.length):ea (rs.take (j+1))=ea (rs.take j)++(if rs[j].id.patch=Dig.zero then []else [rs[j].id.patch]):=by
 rw[A7 h,cX]
 congr 1
 unfold ea
 by_cases e:rs[j].id.patch=Dig.zero<;>simp[e]
def kt (p:Pat):List Dig:=p.deps++p.changes.flatMap fun c=>ea (Ep c)
def nP (p:Pat):List Dig:=if(CV p).2≠0 then []else KX (sortD (kt p))
theorem gI (p:Pat) [hs:B0 (E7 p=false)]:C8 Tryz.prog 20 [.agg (Bn p)] (.slice ((nP p).map eDig) .ro):=⟨by
 obtain⟨hg1,hg2,hg3,hg4,hg5⟩:=EW hs.out
 refine Av Tryz.func20 Tryz.ntmps20 rfl (rs:= [.tmp 2]) rfl rfl fun hb LF=>?_
 refine wf ?_
 refine AX (fun h1=>?_) (fun h1=>?_)
 ·refine wf ?_
  refine B1 (.ros ?_)
  rw[nP,if_pos h1];rfl
 refine wf ?_
 refine CQ (xs:= [.tmp 12]) [] LF (f:=57) (cs:= []) (C5 _) rfl rfl (.refl _) _ (P8 p.deps .ro (by omega)) fun r L1 ⟨v0,hr,hv0⟩=>?_
 subst hr
 refine wf ?_
 refine wf ?_
 refine Ab (σ:=Nat × Value × List Dig × List Res) (fun k=>k.1≤p.changes.length∧k.2.2.1.length≤200+k.1*404∧k.2.2.1=p.deps++(p.changes.take k.1).flatMap (fun c=>ea (Ep c))∧VN k.2.1 k.2.2.1 k.2.2.2) (fun k=>p.changes.length - k.1) (fun k=> [(3,.raw k.2.1),(15,.slice (p.changes.map eChg) .ro),(16,.raw (.int .i64 p.changes.length)),(17,.raw (.int .i64 k.1))]) (fun k=>k.2.2.2++LF) (0,v0,p.deps,L1) ⟨by simp,by simpa using hg3,by simp,hv0⟩ ⟨rfl,rfl,rfl,rfl⟩ (.refl _) ?_
 rintro⟨k,v,l,R⟩ ⟨hk,hlen,hl,hv⟩
 dsimp only at hk hlen hl hv
 refine wf ?_
 refine A6 (fun hc=>?_) (fun hc=>?_)
 ·have hlt:k < p.changes.length:=by omega
  have hov:=(hg5 _ (AB hlt)).over
  have i1:B0 (p.changes[k].over.length≤400):=⟨by omega⟩
  have hrl:=Vm (c:=p.changes[k]) (by omega)
  refine wz fun b5=>?_
  refine Al 5 ?_
  refine wf ?_
  refine Ab (σ:=Nat × Value × List Dig × List Res) (fun j=>j.1≤(Ep p.changes[k]).length∧j.2.2.1.length≤200+k*404+j.1∧j.2.2.1=l++ea ((Ep p.changes[k]).take j.1)∧VN j.2.1 j.2.2.1 j.2.2.2) (fun j=>(Ep p.changes[k]).length - j.1) (fun j=> [(3,.raw j.2.1),(15,.slice (p.changes.map eChg) .ro),(16,.raw (.int .i64 p.changes.length)),(17,.raw (.int .i64 k)),(22,.slice ((Ep p.changes[k]).map eRfc) .ro),(23,.raw (.int .i64 (Ep p.changes[k]).length)),(24,.raw (.int .i64 j.1))]) (fun j=>j.2.2.2++LF) (0,v,l,R) ⟨by simp,by simpa using hlen,by simp[ea],hv⟩ ⟨rfl,rfl,rfl,rfl,rfl,rfl,rfl⟩ (.refl _) ?_
  rintro⟨j,v1,l1,R1⟩ ⟨hj,hlen1,hl1,hv1⟩
  dsimp only at hj hlen1 hl1 hv1
  refine wf ?_
  refine A6 (fun hd=>?_) (fun hd=>?_)
  ·have hjt:j < (Ep p.changes[k]).length:=by omega
   have ht:=lf hjt
   refine wz fun b7=>?_
   refine Al 7 ?_
   refine wf ?_
   refine AX (fun h2=>?_) (fun h2=>?_)
   ·rw[if_neg h2]at ht
    refine wf ?_
    refine Iy (f:=eDig) (m:= [(Ep p.changes[k])[j].id.patch]) (R:=R1) (LF:=LF) (fun R'=>R'++LF) rfl rfl hv1 (.refl _) (fun R'=> .refl _) (by simp only[AL,Af];omega) (by simp only[AL,Af];omega) fun v2 R2 hv2=>?_
    refine wf ?_
    refine wf ?_
    refine⟨(j+1,v2,l1++ [(Ep p.changes[k])[j].id.patch],R2),⟨by dsimp only;omega,by simp only[AA,AL,Af];omega,?_,hv2⟩,by dsimp only;omega,⟨rfl,rfl,rfl,rfl,rfl,rfl,rfl⟩,.refl _⟩
    dsimp only
    rw[ht,←AV,hl1]
   ·rw[if_pos h2,BW]at ht
    refine wf ?_
    refine⟨(j+1,v1,l1,R1),⟨by dsimp only;omega,by dsimp only;omega,?_,hv1⟩,by dsimp only;omega,⟨rfl,rfl,rfl,rfl,rfl,rfl,rfl⟩,.refl _⟩
    dsimp only
    rw[ht,hl1]
  ·rw[AF (by omega)]at hl1
   refine wf ?_
   refine⟨(k+1,v1,l1,R1),⟨by dsimp only;omega,by dsimp only;omega,?_,hv1⟩,by dsimp only;omega,⟨rfl,rfl,rfl,rfl⟩,.refl _⟩
   dsimp only
   rw[hl1,hl,A7 hlt,FK,AV]
   simp
 rw[AF (by omega)]at hl
 have hl':l=kt p:=hl
 have hsl:(sortD l).length=l.length:=DA _
 refine wf ?_
 refine CQ (xs:= [.tmp 40,.func 61]) R LF (f:=60) (cs:= []) (C5 _) rfl rfl (.refl _) _ (TA l v R hv (by omega)) fun r L2 ⟨v2,e2,hv2⟩=>?_
 subst e2
 refine wf ?_
 refine wf ?_
 refine CQ (xs:= [.tmp 42]) L2 LF (f:=62) (cs:= []) (C5 _) rfl rfl (.refl _) _ (QE (sortD l) v2 L2 hv2 (by omega)) fun r L3 ⟨hr,hL3⟩=>?_
 subst hr
 subst hL3
 refine wf ?_
 refine wf ?_
 refine B1 (.ros ?_)
 rw[nP,if_neg (by simp[h1]),←hl']⟩
end Go.Proofs
