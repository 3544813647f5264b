/- Contracts: closures (the reference's layer 17); the questions of a search (the reference's layer 31). -/
import Derived.Test.YtaibdmankdppkaaGreatDoorYak
import Derived.Test.YtaibdmankdppkaaGreatDoorYae
import Derived.Test.YtaibdmankdppkaaGreatDoorYaf
import Derived.Shelf.SlSortCmp.NoneTotal
import Derived.Test.YtaibdmankdppkaaGreatDoorYahc
import Derived.Test.YtaibdmankdppkaaGreatDoorYaj
import Derived.Shelf.SlGeneric
import Derived.Ground.SlsfProg
set_option linter.unusedSimpArgs false
set_option linter.unusedVariables false
set_option maxHeartbeats 8000000
namespace Go.Proofs
open Go Go.Q
attribute [local irreducible] ER AV BA Fc
theorem c9:ED Pat.zero=false:=by simp[ED,Pat.zero,RR]
theorem Tu:BP Pat.zero= []:=by
 have h:(Cb Pat.zero).2≠0:=by simp[Cb,C9,Ja,Pat.zero]
 rw[BP,if_pos h]
theorem Kf {s:List Sto} {d:Dig} {p:Pat} (h:getS s d=some p): ∃ x∈s,x.id=d∧x.patch=p:=by
 induction s with
 |nil=>cases h
 |cons y s ih=>
  unfold getS at h
  split at h
  ·rename_i he
   exact⟨y,by simp,he,by simpa using h⟩
  ·obtain⟨x,hx,h1⟩:=ih h
   exact⟨x,by simp[hx],h1⟩
def ndS (s:List Sto) (d:Dig):List Dig:=BP ((getS s d).getD Pat.zero)
def UW (s:List Sto):Prop:=HF s∧ ∀ x∈s,∀ d∈BP x.patch,d∈ids s
theorem UW.nd {s:List Sto} (h:UW s) (x:Dig): ∀ d∈ndS s x,d∈ids s:=by
 unfold ndS
 cases hg:getS s x with
 |none=>rw[NL,Tu];intro d hd;cases hd
 |some p=>
  obtain⟨y,hy,_,rfl⟩:=Kf hg
  exact h.2 y hy
theorem HT (s:List Sto):(ids s).length=s.length:=by simp[ids]
theorem UW.small {s:List Sto} (h:UW s) {l:List Dig} (ha:H2 l) (hl: ∀ d∈l,d∈ids s):l.length≤200:=by
 have h1:=Eg ha.nodup hl
 have h2:=h.1.1
 rw[HT]at h1;omega
def Dh (s:List Sto) (l:List Dig):List Dig × Int:=if DW (ids s) l=false then([],7)else(MG (ndS s) s.length (Df [] l),0)
def Px (s:List Sto) (p:Dig):List Dig:=(Dh s [p]).1
def Jv:List Ident→Ident→List Ident
 | [],d=> [d]
 |x::xs,d=>if Hh x d < 0 then x::Jv xs d else if x=d then x::xs else d::x::xs
theorem Sp: ∀ {l:List Ident} {d:Ident} {k:Nat},k≤l.length→(∀ i (h:i < l.length),i < k→Hh l[i] d < 0)→(∀ h:k < l.length,¬Hh l[k] d < 0)→
  Jv l d=if ∃ h:k < l.length,l[k]=d then l else l.take k++d::l.drop k
 | [],d,k,hk,_,_=>by simp[Jv]
 |x::xs,d,0,_,_,hk=>by
  have:=hk (by simp)
  simp only[BJ]at this
  simp[Jv,this]
 |x::xs,d,k+1,hl,h1,h2=>by
  have h0:=h1 0 (by simp) (by omega)
  simp only[BJ]at h0
  have ih:=Sp (l:=xs) (d:=d) (k:=k) (by simpa using hl) (fun i h hi=>by have:=h1 (i+1) (by simpa using h) (by omega);simpa using this) (fun h=>by have:=h2 (by simpa using h);simpa using this)
  simp only[Jv,h0,if_true,ih]
  simp only[AN,yP,DF,Oz,aX]
  split<;>rfl
theorem l4 (l:List Ident) (d:Ident):(Jv l d).length≤l.length+1:=by
 induction l with
 |nil=>simp[Jv]
 |cons y l ih=>
  unfold Jv
  split
  ·simp only[AN];omega
  ·split<;>simp only[AN]<;>omega
instance w5 (l:List Ident) (d:Ident) (t:CF) [hs:B1 (l.length≤1000000)]:CB Tryz.prog 135 [.slice (l.map eIdent) t,.agg (eIdent d)] (.slice ((Jv l d).map eIdent) .ro):=⟨by
 refine Au Tryz.func135 Tryz.ntmps135 rfl (rs:= [.tmp 4]) rfl rfl fun hb LF=>?_
 have hlen:l.length≤1000000:=hs.out
 refine DQ fun b=>?_
 refine Ad (σ:=Nat) (fun k=>k≤l.length∧ ∀ i (h:i < l.length),i < k→Hh l[i] d < 0) (fun k=>l.length - k) (fun k=> [(0,.slice (l.map eIdent) t),(3,.raw (.pointer (some ⟨b,0,none⟩))),(5,.raw (.int .i64 k))]) (fun _=> .box b 65 (eIdent d)::LF) 0 ⟨by simp,by simp⟩ ⟨rfl,rfl,rfl⟩ (.refl _) ?_
 rintro k ⟨hk,hne⟩
 refine AX ?_
 refine Av (fun hp=>?_) (fun hp=>?_)
 ·have hc:(k:Int) < l.length:=BB hp
  refine CK ?_
  refine A6 (fun h1=>?_) (fun h1=>?_)
  ·refine AX ?_
   refine⟨k+1,⟨by omega,fun i h hi=>?_⟩,by dsimp only;omega,⟨rfl,rfl,rfl⟩,.refl _⟩
   rcases B9 i k with h'|h'
   ·exact hne i h h'
   ·have:i=k:=by omega
    subst this;exact h1
  ·refine AX ?_
   refine A6 (fun h2=>?_) (fun h2=>?_)
   ·refine AX ?_
    refine B2 (.ros ?_)
    rw[Sp hk hne (fun _=>h1),if_pos ⟨by omega,h2⟩]
   ·refine Hq fun t1=>?_
    refine IJ fun t2=>?_
    refine IJ fun t3=>?_
    refine B2 (.ros ?_)
    rw[Sp hk hne (fun _=>h1),if_neg (fun⟨_,e⟩=>h2 e)]
    simp
 ·have hc: ¬(k:Int) < l.length:=Bp hp
  refine CK ?_
  refine IJ fun t1=>?_
  refine IJ fun t2=>?_
  refine IJ fun t3=>?_
  refine B2 (.ros ?_)
  rw[Sp hk hne (fun h=>absurd (show(k:Int) < l.length by omega) hc),if_neg (fun⟨h,_⟩=>hc (by omega))]
  simp⟩
def jw (d:Dig) (l:List Ident):List Ident:=l.foldl (fun m y=>Jv m (Cr y d)) []
def Mq (d:Dig) (a:Atm):Atm:={ a with id:={ a.id with patch:=d } }
def Pd (d:Dig) (a:Atm):Atm:=if a.kind≠7 then { a with file:=Cr a.file d }else a
def Pc (d:Dig) (a:Atm):Atm:=if a.kind=2 then { a with parent:=Cr a.parent d }else a
def Nx (d:Dig) (a:Atm):Atm:=if a.kind=6 then { a with src:=Cr a.src d,dst:=Cr a.dst d }else a
def jz (d:Dig) (a:Atm):Atm:={ a with over:=jw d a.over }
def Vh (d:Dig) (a:Atm):Atm:=jz d (Nx d (Pc d (Pd d (Mq d a))))
theorem Yk (d:Dig) (a:Atm):(Nx d (Pc d (Pd d (Mq d a)))).over=a.over:=by
 unfold Nx Pc Pd Mq
 repeat' split
 all_goals rfl
theorem bN (d:Dig) (l:List Ident) (k:Nat):((l.take k).foldl (fun m y=>Jv m (Cr y d)) []).length≤k:=by
 induction k with
 |zero=>simp
 |succ k ih=>
  by_cases h:k < l.length
  ·rw[A7 h,BO]
   have:=l4 ((l.take k).foldl (fun m y=>Jv m (Cr y d)) []) (Cr l[k] d)
   simp only[BM,Ho];omega
  ·rw[AE (by omega)]at ih ⊢;omega
def JI (p:Pat):List Atm × Int:=if(FB p).2≠0 then([],(FB p).2)else((C9 p).1.map (Vh (FB p).1),0)
theorem bO {c:Chg} {first:Int} (h:c.over.length≤40): ∀ a∈Ca c first,a.over.length≤40:=by
 intro a ha
 unfold Ca at ha
 repeat' split at ha
 all_goals simp only[An,Aj,AQ]at ha
 all_goals first
  |(subst ha;first|exact h|(show([]:List Ident).length≤40;decide))
  |(rcases ha with ⟨_,_,rfl⟩|⟨_,_,rfl⟩<;>(show([]:List Ident).length≤40;decide))
theorem O1: ∀ (l:List Chg) (own:List Atm),(∀ c∈l,W9 c)→(∀ a∈own,a.over.length≤40)→(DA l own).1.length≤own.length+l.length*81∧ ∀ a∈(DA l own).1,a.over.length≤40
 | [],own,_,h=>⟨by simp[DA],by simpa [DA]using h⟩
 |c::l,own,hc,ho=>by
  unfold DA
  split
  ·exact⟨by simp,by simp⟩
  ·split
   ·exact⟨by simp,by simp⟩
   ·have hcc:=hc c (by simp)
    have h1:=Lu c own.length
    have h2:=bO (first:=own.length) hcc.over
    have h3:=hcc.lines
    have ih:=O1 l (own++Ca c own.length) (fun x hx=>hc x (by simp[hx])) (fun a ha=>by
     rcases Aj.1 ha with h|h
     ·exact ho a h
     ·exact h2 a h)
    rw[AA]at ih
    refine⟨?_,ih.2⟩
    have:=ih.1
    simp only[AN,C7];omega
theorem E1 {p:Pat} (h:ED p=false):(C9 p).1.length≤16200∧ ∀ a∈(C9 p).1,a.over.length≤40:=by
 obtain⟨_,_,_,hch,hcs⟩:=Ek h
 unfold C9
 repeat' split
 all_goals first
  |exact⟨by simp,by simp⟩
  |(have:=O1 p.changes [] hcs (by simp)
    exact⟨by have h1:=this.1;simp only[Af]at h1;omega,this.2⟩)
instance yN (p:Pat) [hs:B1 (ED p=false)]:CB Tryz.prog 260 [.agg (Bz p)] (.tuple [.slice ((JI p).1.map eAtm) .ro,.raw (.int .i64 (JI p).2)]):=⟨by
 obtain⟨hal,hao⟩:=E1 hs.out
 refine Au Tryz.func260 Tryz.ntmps260 rfl (rs:= [.tmp 2,.tmp 3]) rfl rfl fun hb LF=>?_
 refine DQ fun b1=>?_
 refine Fh fun b4=>?_
 refine AY (fun h=>?_) (fun h=>?_)
 ·refine AX ?_
  refine HH ?_
  rw[JI,if_pos h]
  exact .tuple2 (.ro _ _) (.refl _)
 rw[JI,if_neg (by simp[h])]
 refine AX ?_
 generalize (FB p).1=d
 generalize (C9 p).1=own at hal hao
 refine EO 172 ?_
 refine Ad (σ:=Nat × List Atm × CF) (fun k=>k.1≤own.length∧k.2.1=(own.take k.1).map (Vh d)) (fun k=>own.length - k.1) (fun k=> [(4,.raw (.pointer (some ⟨b4,0,none⟩))),(6,.slice (own.map eAtm) .ro),(8,.slice (k.2.1.map eAtm) k.2.2),(9,.raw (.int .i64 k.1))]) (fun k=> .tok k.2.2 k.2.1.length 172:: .box b4 31 (eDig d)::LF) (0,[],.nil) ⟨by simp,by simp⟩ ⟨rfl,rfl,rfl,rfl⟩ (.cons_cons _ (.cons_cons _ (.cons _ (.refl _)))) ?_
 rintro⟨i,out,v⟩ ⟨hi,ho⟩
 dsimp only at hi ho ⊢
 have hol:out.length=i:=by rw[ho];simp;omega
 refine AX ?_
 refine A6 (fun hc=>?_) (fun hc=>?_)
 ·have hlt:i < own.length:=by omega
  have hov:=hao _ (AF hlt)
  refine DQ fun b10=>?_
  refine Cv (σ:=Unit) (fun _=>True) (fun _=> [(4,.raw (.pointer (some ⟨b4,0,none⟩))),(6,.slice (own.map eAtm) .ro),(8,.slice (out.map eAtm) v),(9,.raw (.int .i64 i)),(10,.raw (.pointer (some ⟨b10,0,none⟩)))]) (fun _=> .box b10 125 (eAtm (Pd d (Mq d own[i]))):: .tok v out.length 172:: .box b4 31 (eDig d)::LF) ?_ ?_
  ·refine AY (fun h7=>?_) (fun h7=>?_)
   ·refine AX ?_
    refine⟨(),trivial,⟨rfl,rfl,rfl,rfl,rfl⟩,?_⟩
    have h7':(Mq d own[i]).kind≠7:=h7
    rw[Pd,if_pos h7'];exact .refl _
   ·refine AX ?_
    refine⟨(),trivial,⟨rfl,rfl,rfl,rfl,rfl⟩,?_⟩
    have h7':(Mq d own[i]).kind=7:=h7
    rw[Pd,if_neg (by simp[h7'])];exact .refl _
  rintro _ _
  generalize ha2:Pd d (Mq d own[i])=a2
  refine AX ?_
  refine Cv (σ:=Unit) (fun _=>True) (fun _=> [(4,.raw (.pointer (some ⟨b4,0,none⟩))),(6,.slice (own.map eAtm) .ro),(8,.slice (out.map eAtm) v),(9,.raw (.int .i64 i)),(10,.raw (.pointer (some ⟨b10,0,none⟩)))]) (fun _=> .box b10 125 (eAtm (Pc d a2)):: .tok v out.length 172:: .box b4 31 (eDig d)::LF) ?_ ?_
  ·refine A6 (fun h7=>?_) (fun h7=>?_)
   ·refine AX ?_
    refine⟨(),trivial,⟨rfl,rfl,rfl,rfl,rfl⟩,?_⟩
    rw[Pc,if_pos h7];exact .refl _
   ·refine AX ?_
    refine⟨(),trivial,⟨rfl,rfl,rfl,rfl,rfl⟩,?_⟩
    rw[Pc,if_neg h7];exact .refl _
  rintro _ _
  generalize ha3:Pc d a2=a3
  refine AX ?_
  refine Cv (σ:=Unit) (fun _=>True) (fun _=> [(4,.raw (.pointer (some ⟨b4,0,none⟩))),(6,.slice (own.map eAtm) .ro),(8,.slice (out.map eAtm) v),(9,.raw (.int .i64 i)),(10,.raw (.pointer (some ⟨b10,0,none⟩)))]) (fun _=> .box b10 125 (eAtm (Nx d a3)):: .tok v out.length 172:: .box b4 31 (eDig d)::LF) ?_ ?_
  ·refine A6 (fun h7=>?_) (fun h7=>?_)
   ·refine SE ?_
    refine QU [false,false,false,false,false,false,false,false,false,true,false,true] ?_ ?_
    ·decide+kernel
    refine CK ?_
    refine⟨(),trivial,⟨rfl,rfl,rfl,rfl,rfl⟩,?_⟩
    rw[Nx,if_pos h7];exact .refl _
   ·refine AX ?_
    refine⟨(),trivial,⟨rfl,rfl,rfl,rfl,rfl⟩,?_⟩
    rw[Nx,if_neg h7];exact .refl _
  rintro _ _
  have hover:(Nx d a3).over=own[i].over:=by rw[←ha3,←ha2];exact Yk d own[i]
  generalize ha4:Nx d a3=a4 at hover
  have hov4:a4.over.length≤40:=by rw[hover];exact hov
  refine AX ?_
  refine Ad (σ:=Nat × List Ident × CF) (fun j=>j.1≤a4.over.length∧j.2.1=(a4.over.take j.1).foldl (fun m y=>Jv m (Cr y d)) []) (fun j=>a4.over.length - j.1) (fun j=> [(4,.raw (.pointer (some ⟨b4,0,none⟩))),(6,.slice (own.map eAtm) .ro),(8,.slice (out.map eAtm) v),(9,.raw (.int .i64 i)),(10,.raw (.pointer (some ⟨b10,0,none⟩))),(11,.slice (j.2.1.map eIdent) j.2.2),(12,.raw (.int .i64 j.1))]) (fun _=> .box b10 125 (eAtm a4):: .tok v out.length 172:: .box b4 31 (eDig d)::LF) (0,[],.nil) ⟨by simp,by simp⟩ ⟨rfl,rfl,rfl,rfl,rfl,rfl,rfl⟩ (.refl _) ?_
  rintro⟨j,m,z⟩ ⟨hj,hm⟩
  dsimp only at hj hm ⊢
  have hml:m.length≤j:=by rw[hm];exact bN d a4.over j
  refine AX ?_
  refine A6 (fun hc2=>?_) (fun hc2=>?_)
  ·have hlt2:j < a4.over.length:=by omega
   have:B1 (m.length≤1000000):=⟨by omega⟩
   refine AX ?_
   refine⟨(j+1,Jv m (Cr a4.over[j] d),.ro),⟨by dsimp only;omega,?_⟩,by dsimp only;omega,⟨rfl,rfl,rfl,rfl,rfl,rfl,rfl⟩,.refl _⟩
   dsimp only
   rw[A7 hlt2,BO,←hm];rfl
  ·rw[AE (by omega)]at hm
   refine Hq fun v'=>?_
   have e:Vh d own[i]= { a4 with over:=m }:=by rw[Vh,ha2,ha3,ha4,jz,jw,←hm]
   refine⟨(i+1,out++ [{ a4 with over:=m }],v'),⟨by dsimp only;omega,?_⟩,by dsimp only;omega,⟨rfl,rfl,rfl,rfl⟩,.cons _ (.refl _)⟩
   dsimp only
   rw[A7 hlt,Ak,←ho,Ar,e];rfl
 ·rw[AE (by omega)]at ho
  refine AX ?_
  refine HH ?_
  rw[ho]
  exact .tuple2 (.ro _ _) (.refl _)⟩
theorem Iv {b:Bool} (h:(!b)=false): ¬b=false:=by cases b<;>simp_all
theorem MC {b:Bool} (h:(!b)=true):b=false:=by cases b<;>simp_all
theorem HF.great {s:List Sto} (h:HF s) (d:Dig):ED ((getS s d).getD Pat.zero)=false:=by
 cases hg:getS s d with
 |none=>exact c9
 |some p=>
  obtain⟨x,hx,_,rfl⟩:=Kf hg
  exact h.2 x hx
def Iu (s:List Sto) (d:Dig):List Atm:=(JI ((getS s d).getD Pat.zero)).1
def IX (s:List Sto) (x:Ident):Option Atm:=if x.n < 0∨((Iu s x.patch).length:Int)≤x.n then none else(Iu s x.patch)[x.n.toNat]?
instance vy (s:List Sto) (x:Ident) (t:CF) [hs:B1 (HF s)]:CB Tryz.prog 207 [.slice (s.map eSto) t,.agg (eIdent x)] (.tuple [.agg (eAtm ((IX s x).getD Atm.zero)),.raw (.bool (IX s x).isSome)]):=⟨by
 have i1:B1 (ED ((getS s x.patch).getD Pat.zero)=false):=⟨hs.out.great _⟩
 refine Au Tryz.func207 Tryz.ntmps207 rfl (rs:= [.cell 4 125,.tmp 5]) rfl rfl fun hb LF=>?_
 refine DQ fun b3=>?_
 refine Fh fun b4=>?_
 refine Fh fun b6=>?_
 have e0:(JI ((getS s x.patch).getD Pat.zero)).1=Iu s x.patch:=rfl
 rw[e0]
 refine BZ [(31,.raw (.bool (decide (x.n < 0∨((Iu s x.patch).length:Int)≤x.n)))),(3,.raw (.pointer (some ⟨b3,0,none⟩))),(4,.raw (.pointer (some ⟨b4,0,none⟩))),(8,.slice ((Iu s x.patch).map eAtm) .ro)] (.box b6 40 (Bz ((getS s x.patch).getD Pat.zero)):: .box b4 125 (eAtm Atm.zero):: .box b3 65 (eIdent x)::LF) ?_ ?_
 ·repeat' (first|(refine A6 (fun h=>?_) (fun h=>?_)<;>refine AX ?_)|(refine AY (fun h=>?_) (fun h=>?_)<;>refine AX ?_)|(refine AW (fun h=>?_) (fun h=>?_)<;>refine AX ?_)|(refine Av (fun h=>?_) (fun h=>?_)<;>(have h2:=h;(try simp only[AB,A8,AJ,AL]at h2);refine CK ?_)))
  all_goals (refine⟨⟨CD (by rfl) ?_,rfl,rfl,rfl⟩,.refl _⟩;first|(simp_all;done)|(simp_all;omega)|grind)
 refine AX ?_
 refine A6 (fun h=>?_) (fun h=>?_)
 ·refine AX ?_
  refine Jk rfl (.of_eq ?_)
  rw[IX,if_pos h];rfl
 ·refine AX ?_
  refine Jk rfl (.of_eq ?_)
  have hlt:x.n.toNat < (Iu s x.patch).length:=by omega
  rw[IX,if_neg h,AO hlt];rfl⟩
def EU (o:Option Atm) (fits:Atm→Bool):Int:=if o.isSome=false then 7 else if fits (o.getD Atm.zero)=false then 8 else 0
def Gz (s:List Sto) (x file:Ident) (id:Dig):Int:=if FM x=false∨x=file then 0 else EU (IX s x) (Jb (HP file id))
instance xy (s:List Sto) (x file:Ident) (id:Dig) (t:CF) [hs:B1 (HF s)]:CB Tryz.prog 210 [.slice (s.map eSto) t,.agg (eIdent x),.agg (eIdent file),.agg (eDig id)] (.raw (.int .i64 (Gz s x file id))):=⟨by
 refine Au Tryz.func210 Tryz.ntmps210 rfl (rs:= [.tmp 8]) rfl rfl fun hb LF=>?_
 refine DQ fun b5=>?_
 refine Fh fun b6=>?_
 refine Fh fun b7=>?_
 refine BZ [(18,.raw (.bool (decide (FM x=false∨x=file)))),(0,.slice (s.map eSto) t),(5,.raw (.pointer (some ⟨b5,0,none⟩))),(6,.raw (.pointer (some ⟨b6,0,none⟩))),(7,.raw (.pointer (some ⟨b7,0,none⟩)))] (.box b7 31 (eDig id):: .box b6 65 (eIdent file):: .box b5 65 (eIdent x)::LF) ?_ ?_
 ·repeat' (first|(refine A6 (fun h=>?_) (fun h=>?_)<;>refine AX ?_)|(refine AY (fun h=>?_) (fun h=>?_)<;>refine AX ?_)|(refine AW (fun h=>?_) (fun h=>?_)<;>refine AX ?_)|(refine Av (fun h=>?_) (fun h=>?_)<;>(have h2:=h;(try simp only[AB,A8,AJ,AL]at h2);refine CK ?_)))
  all_goals (refine⟨⟨CD (by rfl) ?_,rfl,rfl,rfl,rfl⟩,.refl _⟩;first|(simp_all;done)|(simp_all;omega)|grind)
 refine AX ?_
 refine A6 (fun h=>?_) (fun h=>?_)
 ·refine AX ?_
  refine B2 (.of_eq ?_)
  rw[Gz,if_pos h]
 rw[Gz,if_neg h]
 refine DQ fun b9=>?_
 refine AW (fun h2=>?_) (fun h2=>?_)
 ·refine AX ?_
  refine B2 (.of_eq ?_)
  rw[EU,if_pos (MC h2)]
 refine AX ?_
 refine AW (fun h3=>?_) (fun h3=>?_)
 ·refine AX ?_
  refine B2 (.of_eq ?_)
  rw[EU,if_neg (Iv h2),if_pos (MC h3)]
 ·refine AX ?_
  refine B2 (.of_eq ?_)
  rw[EU,if_neg (Iv h2),if_neg (Iv h3)]⟩
def Jc (s:List Sto) (c:Chg):Int:=if FM c.file=true then EU (IX s c.file) (EL c.kind)else 0
def Lz (s:List Sto) (c:Chg):Int:=if FM c.parent=true then EU (IX s c.parent) rDirectory else 0
def O0 (s:List Sto) (c:Chg) (id:Dig) (x:Ident):Int:=if FM x=false then 0 else EU (IX s x) (HO c.kind (HP c.file id))
def L6 (s:List Sto) (c:Chg) (id:Dig):Int:=
 if Jc s c≠0 then Jc s c else if Lz s c≠0 then Lz s c else if Gz s c.after c.file id≠0 then Gz s c.after c.file id else
 if Gz s c.before c.file id≠0 then Gz s c.before c.file id else Aw (O0 s c id) c.over
instance s9 (s:List Sto) (c:Chg) (id:Dig) (t:CF) [hs:B1 (HF s)]:CB Tryz.prog 153 [.slice (s.map eSto) t,.agg (eChg c),.agg (eDig id)] (.raw (.int .i64 (L6 s c id))):=⟨by
 refine Au Tryz.func153 Tryz.ntmps153 rfl (rs:= [.tmp 6]) rfl rfl fun hb LF=>?_
 have hlen:c.over.length≤140737488355328:=((hb (.agg (eChg c)) (by simp)).agg_at (c:= .slice (c.over.map eIdent) .ro) (by simp[eChg])).slice_map
 refine DQ fun b4=>?_
 refine Fh fun b5=>?_
 refine Cv (σ:=Unit) (fun _=>Jc s c=0) (fun _=> [(0,.slice (s.map eSto) t),(4,.raw (.pointer (some ⟨b4,0,none⟩))),(5,.raw (.pointer (some ⟨b5,0,none⟩)))]) (fun _=> .box b5 31 (eDig id):: .box b4 73 (eChg c)::LF) ?_ ?_
 ·refine AW (fun h=>?_) (fun h=>?_)
  ·have e:Jc s c=EU (IX s c.file) (EL c.kind):=by rw[Jc,if_pos h]
   refine DQ fun b7=>?_
   refine AW (fun h2=>?_) (fun h2=>?_)
   ·refine AX ?_
    refine B2 (.of_eq ?_)
    rw[EU,if_pos (MC h2)]at e
    rw[L6,if_pos (by rw[e];decide),e]
   refine AX ?_
   refine AW (fun h3=>?_) (fun h3=>?_)
   ·refine AX ?_
    refine B2 (.of_eq ?_)
    rw[EU,if_neg (Iv h2),if_pos (MC h3)]at e
    rw[L6,if_pos (by rw[e];decide),e]
   ·refine AX ?_
    rw[EU,if_neg (Iv h2),if_neg (Iv h3)]at e
    exact⟨(),e,⟨rfl,rfl,rfl⟩,.cons _ (.refl _)⟩
  ·refine AX ?_
   exact⟨(),by rw[Jc,if_neg (by simp[h])],⟨rfl,rfl,rfl⟩,.refl _⟩
 rintro _ hF
 refine AX ?_
 refine Cv (σ:=Unit) (fun _=>Lz s c=0) (fun _=> [(0,.slice (s.map eSto) t),(4,.raw (.pointer (some ⟨b4,0,none⟩))),(5,.raw (.pointer (some ⟨b5,0,none⟩)))]) (fun _=> .box b5 31 (eDig id):: .box b4 73 (eChg c)::LF) ?_ ?_
 ·refine AW (fun h=>?_) (fun h=>?_)
  ·have e:Lz s c=EU (IX s c.parent) rDirectory:=by rw[Lz,if_pos h]
   refine DQ fun b7=>?_
   refine AW (fun h2=>?_) (fun h2=>?_)
   ·refine AX ?_
    refine B2 (.of_eq ?_)
    rw[EU,if_pos (MC h2)]at e
    rw[L6,if_neg (by simp[hF]),if_pos (by rw[e];decide),e]
   refine AX ?_
   refine AW (fun h3=>?_) (fun h3=>?_)
   ·refine AX ?_
    refine B2 (.of_eq ?_)
    rw[EU,if_neg (Iv h2),if_pos (MC h3)]at e
    rw[L6,if_neg (by simp[hF]),if_pos (by rw[e];decide),e]
   ·refine AX ?_
    rw[EU,if_neg (Iv h2),if_neg (Iv h3)]at e
    exact⟨(),e,⟨rfl,rfl,rfl⟩,.cons _ (.refl _)⟩
  ·refine AX ?_
   exact⟨(),by rw[Lz,if_neg (by simp[h])],⟨rfl,rfl,rfl⟩,.refl _⟩
 rintro _ hP
 rw[L6,if_neg (by simp[hF]),if_neg (by simp[hP])]
 refine AX ?_
 refine AY (fun h1=>?_) (fun h1=>?_)
 ·refine AX ?_
  refine B2 (.of_eq ?_)
  rw[if_pos h1]
 rw[if_neg (by simp[h1])]
 refine AX ?_
 refine AY (fun h2=>?_) (fun h2=>?_)
 ·refine AX ?_
  refine B2 (.of_eq ?_)
  rw[if_pos h2]
 rw[if_neg (by simp[h2])]
 refine AX ?_
 refine Ad (σ:=Nat) (fun k=>k≤c.over.length∧ ∀ i (h:i < c.over.length),i < k→O0 s c id c.over[i]=0) (fun k=>c.over.length - k) (fun k=> [(0,.slice (s.map eSto) t),(4,.raw (.pointer (some ⟨b4,0,none⟩))),(5,.raw (.pointer (some ⟨b5,0,none⟩))),(13,.raw (.int .i64 k))]) (fun _=> .box b5 31 (eDig id):: .box b4 73 (eChg c)::LF) 0 ⟨by simp,by simp⟩ ⟨rfl,rfl,rfl,rfl⟩ (.refl _) ?_
 rintro k ⟨hk,he⟩
 refine AX ?_
 refine A6 (fun hc=>?_) (fun hc=>?_)
 ·have hlt:k < c.over.length:=by omega
  refine AX ?_
  refine AW (fun h=>?_) (fun h=>?_)
  ·refine AX ?_
   exact⟨k+1,⟨by omega,EC he hlt (by rw[O0,if_pos (MC h)])⟩,by dsimp only;omega,⟨rfl,rfl,rfl,rfl⟩,.refl _⟩
  have e:O0 s c id c.over[k]=EU (IX s c.over[k]) (HO c.kind (HP c.file id)):=by rw[O0,if_neg (Iv h)]
  refine DQ fun b14=>?_
  refine AW (fun h3=>?_) (fun h3=>?_)
  ·refine AX ?_
   refine B2 (.of_eq ?_)
   rw[EU,if_pos (MC h3)]at e
   rw[DU hlt he (by rw[e];decide),e]
  refine AX ?_
  refine AW (fun h4=>?_) (fun h4=>?_)
  ·refine AX ?_
   refine B2 (.of_eq ?_)
   rw[EU,if_neg (Iv h3),if_pos (MC h4)]at e
   rw[DU hlt he (by rw[e];decide),e]
  ·refine AX ?_
   rw[EU,if_neg (Iv h3),if_neg (Iv h4)]at e
   exact⟨k+1,⟨by omega,EC he hlt e⟩,by dsimp only;omega,⟨rfl,rfl,rfl,rfl⟩,.cons _ (.refl _)⟩
 ·refine AX ?_
  refine B2 (.of_eq ?_)
  rw[E3 fun i h=>he i h (by omega)]⟩
def GZ (s:List Sto) (p:Pat) (id:Dig):Int:=Aw (fun c=>L6 s c id) p.changes
instance iU (s:List Sto) (p:Pat) (id:Dig) (t:CF) [hs:B1 (HF s)]:CB Tryz.prog 91 [.slice (s.map eSto) t,.agg (Bz p),.agg (eDig id)] (.raw (.int .i64 (GZ s p id))):=⟨by
 refine Au Tryz.func91 Tryz.ntmps91 rfl (rs:= [.tmp 6]) rfl rfl fun hb LF=>?_
 have hlen:p.changes.length≤140737488355328:=((hb (.agg (Bz p)) (by simp)).agg_at (c:= .slice (p.changes.map eChg) .ro) (by simp[Bz])).slice_map
 refine DQ fun b4=>?_
 refine Fh fun b5=>?_
 refine Ad (σ:=Nat) (fun k=>k≤p.changes.length∧ ∀ i (h:i < p.changes.length),i < k→L6 s p.changes[i] id=0) (fun k=>p.changes.length - k) (fun k=> [(0,.slice (s.map eSto) t),(4,.raw (.pointer (some ⟨b4,0,none⟩))),(5,.raw (.pointer (some ⟨b5,0,none⟩))),(7,.raw (.int .i64 k))]) (fun _=> .box b5 31 (eDig id):: .box b4 40 (Bz p)::LF) 0 ⟨by simp,by simp⟩ ⟨rfl,rfl,rfl,rfl⟩ (.refl _) ?_
 rintro k ⟨hk,he⟩
 refine AX ?_
 refine A6 (fun hc=>?_) (fun hc=>?_)
 ·have hlt:k < p.changes.length:=by omega
  refine AX ?_
  refine AY (fun h=>?_) (fun h=>?_)
  ·refine AX ?_
   refine B2 (.of_eq ?_)
   rw[GZ,DU hlt he h]
  ·refine AX ?_
   exact⟨k+1,⟨by omega,EC (f:=fun c=>L6 s c id) he hlt h⟩,by dsimp only;omega,⟨rfl,rfl,rfl,rfl⟩,.refl _⟩
 ·refine AX ?_
  refine B2 (.of_eq ?_)
  rw[GZ,E3 fun i h=>he i h (by omega)]⟩
theorem u5 {b:Bool} (h:(!b)=false):b=true:=by cases b<;>simp_all
def K2 (s:List Sto) (i:Nat):Int:=
 if(FB (s.getD i Sto.zero).patch).2≠0 then(FB (s.getD i Sto.zero).patch).2 else if(FB (s.getD i Sto.zero).patch).1≠(s.getD i Sto.zero).id then 13 else
 if 0 < (i:Int)∧0≤Ep (s.getD (i - 1) Sto.zero).id (FB (s.getD i Sto.zero).patch).1 then 9 else 0
def QS (s:List Sto):Int:=
 if 400 < (s.length:Int)then 4 else if Aw (K2 s) (List.range s.length)≠0 then Aw (K2 s) (List.range s.length)else
 if s.all (fun x=>DW (ids s) (BP x.patch))=false then 19 else if((BK s).length:Int) < s.length then 20 else Aw (fun(x:Sto)=>GZ s x.patch x.id) s
instance wB (s:List Sto) (t:CF) [hs:B1 (HF s)]:CB Tryz.prog 34 [.slice (s.map eSto) t] (.raw (.int .i64 (QS s))):=⟨by
 obtain⟨hl8,hgr⟩:=hs.out
 refine Au Tryz.func34 Tryz.ntmps34 rfl (rs:= [.tmp 2]) rfl rfl fun hb LF=>?_
 refine AX ?_
 refine A6 (fun h1=>?_) (fun h1=>?_)
 ·omega
 rw[QS,if_neg h1]
 refine AX ?_
 refine Ad (σ:=Nat) (fun k=>k≤s.length∧ ∀ i (h:i < (List.range s.length).length),i < k→K2 s (List.range s.length)[i]=0) (fun k=>s.length - k) (fun k=> [(0,.slice (s.map eSto) t),(3,.raw (.int .i64 k))]) (fun _=>LF) 0 ⟨by simp,by simp⟩ ⟨rfl,rfl⟩ (.refl _) ?_
 rintro k ⟨hk,he⟩
 refine AX ?_
 refine A6 (fun hc=>?_) (fun hc=>?_)
 ·have hlt:k < s.length:=by omega
  have hltr:k < (List.range s.length).length:=by simpa using hlt
  have ek:(List.range s.length)[k]=k:=by simp
  have e0:s.getD k Sto.zero=s[k]:=by simp[List.getD,hlt]
  have i1:B1 (ED s[k].patch=false):=⟨hgr _ (AF hlt)⟩
  refine DQ fun b=>?_
  refine AY (fun h2=>?_) (fun h2=>?_)
  ·refine AX ?_
   refine B2 (.of_eq ?_)
   have e:K2 s (List.range s.length)[k]=(FB s[k].patch).2:=by rw[ek,K2,e0,if_pos h2]
   have f:=DU hltr he (by rw[e];exact h2)
   rw[if_pos (by rw[f,e];exact h2),f,e]
  refine AX ?_
  refine AY (fun h3=>?_) (fun h3=>?_)
  ·refine AX ?_
   refine B2 (.of_eq ?_)
   have e:K2 s (List.range s.length)[k]=13:=by rw[ek,K2,e0,if_neg (by simp[h2]),if_pos h3]
   have f:=DU hltr he (by rw[e];decide)
   rw[if_pos (by rw[f,e];decide),f,e]
  refine AX ?_
  refine Av (fun hp=>?_) (fun hp=>?_)
  ·have hp':0 < (k:Int):=BB hp
   refine CK ?_
   have e1:s.getD (k - 1) Sto.zero=s[((k:Int) - 1).toNat]:=by
    have:((k:Int) - 1).toNat=k - 1:=by omega
    simp only[this]
    have h':k - 1 < s.length:=by omega
    simp[List.getD,h']
   refine A6 (fun h4=>?_) (fun h4=>?_)
   ·refine AX ?_
    refine B2 (.of_eq ?_)
    have e:K2 s (List.range s.length)[k]=9:=by rw[ek,K2,e0,e1,if_neg (by simp[h2]),if_neg (by simp[h3]),if_pos ⟨hp',h4⟩]
    have f:=DU hltr he (by rw[e];decide)
    rw[if_pos (by rw[f,e];decide),f,e]
   ·refine AX ?_
    have e:K2 s (List.range s.length)[k]=0:=by rw[ek,K2,e0,e1,if_neg (by simp[h2]),if_neg (by simp[h3]),if_neg (fun h=>h4 h.2)]
    exact⟨k+1,⟨by omega,EC he hltr e⟩,by dsimp only;omega,⟨rfl,rfl⟩,.cons _ (.refl _)⟩
  ·have hp': ¬0 < (k:Int):=Bp hp
   refine CK ?_
   have e:K2 s (List.range s.length)[k]=0:=by rw[ek,K2,e0,if_neg (by simp[h2]),if_neg (by simp[h3]),if_neg (fun h=>hp' h.1)]
   exact⟨k+1,⟨by omega,EC he hltr e⟩,by dsimp only;omega,⟨rfl,rfl⟩,.cons _ (.refl _)⟩
 have hA:Aw (K2 s) (List.range s.length)=0:=E3 fun i h=>he i h (by simp at h;omega)
 rw[if_neg (by simp[hA])]
 clear he hA hk hc
 refine AX ?_
 refine Ad (σ:=Nat) (fun k=>k≤s.length∧ ∀ i (h:i < s.length),i < k→DW (ids s) (BP s[i].patch)=true) (fun k=>s.length - k) (fun k=> [(0,.slice (s.map eSto) t),(6,.slice ((ids s).map eDig) .ro),(7,.raw (.int .i64 k))]) (fun _=>LF) 0 ⟨by simp,by simp⟩ ⟨rfl,rfl,rfl⟩ (.refl _) ?_
 rintro k ⟨hk,he⟩
 refine AX ?_
 refine A6 (fun hc=>?_) (fun hc=>?_)
 ·have hlt:k < s.length:=by omega
  have i1:B1 (ED s[k].patch=false):=⟨hgr _ (AF hlt)⟩
  refine AX ?_
  refine AW (fun h=>?_) (fun h=>?_)
  ·refine AX ?_
   refine B2 (.of_eq ?_)
   have hx:DW (ids s) (BP s[k].patch)=false:=MC h
   have hy:s.all (fun x=>DW (ids s) (BP x.patch))=false:=HY hlt hx
   rw[if_pos hy]
  ·refine AX ?_
   have hx:DW (ids s) (BP s[k].patch)=true:=u5 h
   have hy: ∀ i (h:i < s.length),i < k+1→DW (ids s) (BP s[i].patch)=true:=fun i hi hik=>by
    rcases B9 i k with h'|h'
    ·exact he i hi h'
    ·have e:i=k:=by omega
     subst e;exact hx
   exact⟨k+1,⟨by omega,hy⟩,by dsimp only;omega,⟨rfl,rfl,rfl⟩,.refl _⟩
 have hB:s.all (fun x=>DW (ids s) (BP x.patch))=true:=Ig fun i h=>he i h (by omega)
 rw[if_neg (by simp[hB])]
 clear he hB hk hc
 refine AX ?_
 refine A6 (fun h=>?_) (fun h=>?_)
 ·refine AX ?_
  refine B2 (.of_eq ?_)
  rw[if_pos h]
 rw[if_neg h]
 refine AX ?_
 refine Ad (σ:=Nat) (fun k=>k≤s.length∧ ∀ i (h:i < s.length),i < k→GZ s s[i].patch s[i].id=0) (fun k=>s.length - k) (fun k=> [(0,.slice (s.map eSto) t),(8,.raw (.int .i64 k))]) (fun _=>LF) 0 ⟨by simp,by simp⟩ ⟨rfl,rfl⟩ (.refl _) ?_
 rintro k ⟨hk,he⟩
 refine AX ?_
 refine A6 (fun hc=>?_) (fun hc=>?_)
 ·have hlt:k < s.length:=by omega
  refine AX ?_
  refine AY (fun h2=>?_) (fun h2=>?_)
  ·refine AX ?_
   refine B2 (.of_eq ?_)
   rw[DU (f:=fun(x:Sto)=>GZ s x.patch x.id) hlt he h2]
  ·refine AX ?_
   exact⟨k+1,⟨by omega,EC (f:=fun(x:Sto)=>GZ s x.patch x.id) he hlt h2⟩,by dsimp only;omega,⟨rfl,rfl⟩,.refl _⟩
 ·refine AX ?_
  refine B2 (.of_eq ?_)
  rw[E3 (f:=fun(x:Sto)=>GZ s x.patch x.id) fun i h=>he i h (by omega)]⟩
theorem Ze {s:List Sto} (h:Fv s=false):HF s:=by
 unfold Fv at h
 simp only[CT,A8,Bl]at h
 obtain⟨⟨h1,h2⟩,_⟩:=h
 refine⟨by omega,fun x hx=>?_⟩
 have:=h1 x (by rw[AE (by omega)];exact hx)
 exact Xt (by simpa using this)
def Lx (s:List Sto):Bool:=!Fv s&&decide (QS s=0)
instance zL (s:List Sto) (t:CF):CB Tryz.prog 9 [.slice (s.map eSto) t] (.raw (.bool (Lx s))):=⟨by
 refine Au Tryz.func9 Tryz.ntmps9 rfl (rs:= [.tmp 2]) rfl rfl fun hb LF=>?_
 refine AX ?_
 refine Av (fun hp=>?_) (fun hp=>?_)
 ·have i1:B1 (HF s):=⟨Ze (by simpa using hp)⟩
  refine CK ?_
  refine B2 (.of_eq ?_)
  rw[Lx,hp,EK]
 ·refine CK ?_
  refine B2 (.of_eq ?_)
  rw[Lx,hp,vJ]⟩
def Kb (s:List Sto) (x:Sto):List Sto:=s.takeWhile (fun y=>decide (Ep y.id x.id < 0))++x::s.dropWhile (fun y=>decide (Ep y.id x.id < 0))
theorem O7 {P:Program} {ρ:Env} {L LF:List Res} {X:PV} {t u s T n b T':Nat} {cs:List PV} {x z:PV} [hT:FF P T n] (h:ρ u= .raw (.pointer (some ⟨b,0,none⟩))) (hX:Le (.tuple [x,.agg cs,z]) X) (hx:ρ t=x:=by conv=>lhs;whnf) (hz:ρ s=z:=by conv=>lhs;whnf) (hm:Res.box b T' cs∈L:=by repeat(first|exact AG|apply AH)) (hn:cs.length=n:=by simp) (hs:LF.Sublist L:=by repeat(first|exact EY _|apply List.Sublist.cons)):
  qW P [.tmp t,.cell u T,.tmp s] (fun r L'=>Le r X∧L'= []) LF .ret ρ L:=⟨trivial,_,[],.cons (.tmp t) (.cons (.cell u T h hm hT.out hn) (.cons (.tmp s) .nil)),hs,by subst hx;subst hz;exact hX,rfl⟩
def FC (s:List Sto) (p:Pat):List Sto × Dig × Int:=
 if(FB p).2≠0 then([],Dig.zero,(FB p).2)else
 if(getS s (FB p).1).isSome=true then(if p=(getS s (FB p).1).getD Pat.zero then([],Dig.zero,6)else([],Dig.zero,14))else
 if DW (ids s) (BP p)=false then([],Dig.zero,19)else if GZ s p (FB p).1≠0 then([],Dig.zero,GZ s p (FB p).1)else
 if 400≤(s.length:Int)then([],Dig.zero,4)else(Kb s ⟨(FB p).1,p⟩,(FB p).1,0)
end Go.Proofs
namespace Go.Proofs
open Go Go.Q
theorem DY {α:Type} {f:α→Int} {l:List α} (h:Aw f l=0): ∀ x∈l,f x=0:=by
 induction l with
 |nil=>intro x hx;cases hx
 |cons y l ih=>
  unfold Aw at h
  split at h
  ·rename_i h0
   intro x hx
   rcases AI.1 hx with rfl|hx
   ·exact h0
   ·exact ih h x hx
  ·rename_i h0;exact absurd h h0
structure BH (s:List Sto):Prop where
 close:UW s
 id: ∀ x∈s,(FB x.patch).2=0∧(FB x.patch).1=x.id
 asc:H2 (ids s)
 order:s.length≤(BK s).length
 refs: ∀ x∈s,GZ s x.patch x.id=0
theorem R5: ∀ {l:List Dig},(∀ i (h:i+1 < l.length),Dig.lt l[i] l[i+1])→H2 l
 | [],_=> .nil
 | [x],_=>Fy _ _
 |x::y::l,h=>by
  have ih:H2 (y::l):=R5 fun i hi=>by have:=h (i+1) (by simpa using hi);simpa using this
  have h0:=h 0 (by simp)
  simp only[BJ,DF]at h0
  refine Bq.2 ⟨fun z hz=>?_,ih⟩
  rcases AI.1 hz with rfl|hz
  ·exact h0
  ·exact Dig.lt_trans h0 ((Bq.1 ih).1 z hz)
theorem ei {s:List Sto} (hgood:HF s) (hc:QS s=0):BH s:=by
 have hl:=hgood.1
 unfold QS at hc
 rw[if_neg (by omega)]at hc
 split at hc
 ·rename_i h0;exact absurd hc h0
 rename_i h1
 have h1:Aw (K2 s) (List.range s.length)=0:=Cy.1 h1
 split at hc
 ·omega
 rename_i h2
 split at hc
 ·omega
 rename_i h3
 have hall: ∀ x∈s,DW (ids s) (BP x.patch)=true:=by
  have:s.all (fun x=>DW (ids s) (BP x.patch))=true:=by simpa using h2
  exact fun x hx=>Bg.1 this x hx
 have hchk: ∀ i (hi:i < s.length),(FB s[i].patch).2=0∧(FB s[i].patch).1=s[i].id∧(∀ h:0 < i,Ep (s[i - 1]'(by omega)).id s[i].id < 0):=by
  intro i hi
  have h4:=DY h1 i (Br.2 hi)
  have e0:s.getD i Sto.zero=s[i]:=by simp[List.getD,hi]
  unfold K2 at h4
  rw[e0]at h4
  split at h4
  ·rename_i h5;exact absurd h4 h5
  rename_i h5
  split at h4
  ·omega
  rename_i h6
  split at h4
  ·omega
  rename_i h7
  have h6:(FB s[i].patch).1=s[i].id:=Cy.1 h6
  refine⟨Cy.1 h5,h6,fun hp=>?_⟩
  have e1:s.getD (i - 1) Sto.zero=s[i - 1]'(by omega):=by
   have h':i - 1 < s.length:=by omega
   simp[List.getD,h']
  rw[e1,h6]at h7
  have: ¬0≤Ep (s[i - 1]'(by omega)).id s[i].id:=fun h8=>h7 ⟨by omega,h8⟩
  omega
 refine⟨⟨hgood,fun x hx d hd=>?_⟩,fun x hx=>?_,?_,by omega,fun x hx=>DY hc x hx⟩
 ·have:=Bg.1 (hall x hx) d hd
  simpa using this
 ·obtain⟨i,hi,rfl⟩:=AZ.1 hx
  exact⟨(hchk i hi).1,(hchk i hi).2.1⟩
 ·refine R5 fun i hi=>?_
  rw[HT]at hi
  have:=(hchk (i+1) hi).2.2 (by omega)
  simpa [ids,Dig.lt]using this
theorem Lg {s:List Sto} (h:Lx s=true):BH s:=by
 unfold Lx at h
 simp only[BW,AJ,AB]at h
 exact ei (Ze h.1) h.2
def NI (s:List Sto) (out:List Dig):Prop:= ∀ k (h:k < out.length),∃ x∈s,x.id=out[k]∧(∀ d∈BP x.patch,d∈out.take k)∧out[k]∉out.take k
theorem Tk {s:List Sto} {out:List Dig}: ∀ (n:Nat),n≤s.length→0≤(List.range n).foldl (Ga s out) (-1)→
  ∃ x∈s,s.getD ((List.range n).foldl (Ga s out) (-1)).toNat Sto.zero=x∧ ¬x.id∈out∧DW out (BP x.patch)=true
 |0,_,h=>by simp at h
 |n+1,hn,h=>by
  rw[Bt]at h ⊢
  generalize hk:(List.range n).foldl (Ga s out) (-1)=k at h ⊢
  unfold Ga at h ⊢
  split at h
  ·rename_i hc
   rw[if_pos hc]
   have e:s.getD n Sto.zero=s[n]:=by simp[List.getD,show n < s.length by omega]
   rw[e]at hc
   exact⟨s[n],AF _,by simpa using e,hc.1⟩
  ·rename_i hc
   rw[if_neg hc]
   have:=Tk (s:=s) (out:=out) n (by omega) (by rw[hk];exact h)
   rw[hk]at this;exact this
theorem QN {s:List Sto}: ∀ (n:Nat) (out:List Dig),NI s out→NI s (QO s n out)
 |0,_,h=>h
 |n+1,out,h=>by
  unfold QO
  split
  ·exact h
  ·rename_i hp
   refine QN n _ ?_
   obtain⟨x,hx,e,h1,h2⟩:=Tk (s:=s) (out:=out) s.length (Ah _) (by unfold Lr at hp;omega)
   have e':s.getD (Lr s out).toNat Sto.zero=x:=e
   rw[e']
   intro k hk
   rw[AA,B6]at hk
   by_cases hko:k < out.length
   ·obtain⟨y,hy,q1,q2,q3⟩:=h k hko
    refine⟨y,hy,by rw[BC hko];exact q1,?_,?_⟩
    ·rw[Fq (by omega)];exact q2
    ·rw[BC hko,Fq (by omega)];exact q3
   ·have hke:k=out.length:=by omega
    subst hke
    refine⟨x,hx,by simp,?_,?_⟩
    ·intro d hd
     have:=Bg.1 h2 d hd
     simpa using this
    ·simpa using h1
theorem NI.nodup {s:List Sto} {out:List Dig} (h:NI s out):out.Nodup:=by
 refine Ay.2 fun i j hi hj hij e=>?_
 obtain⟨_,_,_,_,h3⟩:=h j hj
 exact h3 (e ▸ DZ.2 ⟨i,by omega,rfl⟩)
theorem gL {s:List Sto} (h:H2 (ids s)):(ids s).Nodup:=h.nodup
theorem TC {s:List Sto} (h:H2 (ids s)) {x y:Sto} (hx:x∈s) (hy:y∈s) (e:x.id=y.id):x=y:=by
 obtain⟨i,hi,rfl⟩:=AZ.1 hx
 obtain⟨j,hj,rfl⟩:=AZ.1 hy
 have hn:=gL h
 have hi':i < (ids s).length:=by rw[HT];exact hi
 have hj':j < (ids s).length:=by rw[HT];exact hj
 have:(ids s)[i]=(ids s)[j]:=by simpa [ids]using e
 have hp:=Ay.1 hn
 rcases RB i j with hij|hij|hij
 ·exact absurd this (hp i j hi' hj' hij)
 ·subst hij;rfl
 ·exact absurd this.symm (hp j i hj' hi' hij)
theorem NI.sub {s:List Sto} {out:List Dig} (h:NI s out): ∀ d∈out,d∈ids s:=fun d hd=>by
 obtain⟨k,hk,rfl⟩:=AZ.1 hd
 obtain⟨x,hx,e,_⟩:=h k hk
 exact AQ.2 ⟨x,hx,e⟩
theorem C8 (s:List Sto):NI s (BK s):=QN _ _ (fun k hk=>absurd hk (DK _))
theorem BH.mem_order {s:List Sto} (v:BH s) {d:Dig} (hd:d∈ids s):d∈BK s:=by
 by_cases h:d∈BK s
 ·exact h
 ·have hn:(d::BK s).Nodup:=Bf.2 ⟨h,(C8 s).nodup⟩
  have:=Eg hn (m:=ids s) fun y hy=>by
   rcases AI.1 hy with rfl|hy
   ·exact hd
   ·exact(C8 s).sub y hy
  have h2:=v.order
  rw[HT]at this
  simp only[AN]at this
  omega
theorem SP {l:List Dig} {i:Nat} (h:i < l.length):l.idxOf l[i]≤i:=by
 induction l generalizing i with
 |nil=>simp at h
 |cons x l ih=>
  cases i with
  |zero=>simp
  |succ i=>
   simp only[DF,List.idxOf_cons]
   have:=ih (by simpa using h)
   cases hb:(x==l[i]'(by simpa using h))with
   |true=>simp
   |false=>simp;omega
def PF (s:List Sto) (d:Dig):Nat:=(BK s).idxOf d
theorem BH.rank {s:List Sto} (v:BH s) {x:Sto} (hx:x∈s) {d:Dig} (hd:d∈BP x.patch):PF s d < PF s x.id:=by
 have hm:=v.mem_order (AQ.2 ⟨x,hx,rfl⟩)
 have hk:(BK s).idxOf x.id < (BK s).length:=sa hm
 obtain⟨y,hy,e,h1,_⟩:=C8 s _ hk
 rw[List.getElem_idxOf]at e
 have:=TC v.asc hy hx e
 subst this
 obtain⟨i,hi,rfl⟩:=DZ.1 (h1 d hd)
 have h2:=SP (l:=BK s) (i:=i) (by omega)
 unfold PF
 omega
theorem BH.getS {s:List Sto} (v:BH s) {x:Sto} (hx:x∈s):getS s x.id=some x.patch:=by
 cases hg:Go.Proofs.getS s x.id with
 |none=>
  exfalso
  have: ∀ (l:List Sto),x∈l→Go.Proofs.getS l x.id≠none:=by
   intro l
   induction l with
   |nil=>intro h;cases h
   |cons y l ih=>
    intro h
    unfold Go.Proofs.getS
    split
    ·simp
    ·rename_i hne
     rcases AI.1 h with rfl|h
     ·exact absurd rfl hne
     ·exact ih h
  exact this s hx hg
 |some p=>
  obtain⟨y,hy,e,rfl⟩:=Kf hg
  rw[TC v.asc hy hx e]
theorem BH.ndS {s:List Sto} (v:BH s) {x:Sto} (hx:x∈s):ndS s x.id=BP x.patch:=by
 unfold Go.Proofs.ndS;rw[v.getS hx];rfl
theorem BH.mem_clo {s:List Sto} (v:BH s) {p:Dig} (hp:p∈ids s) (d:Dig):d∈Px s p↔Q.Reach (Go.Proofs.ndS s) [p] d:=by
 have ha:DW (ids s) [p]=true:=by simp[DW,hp]
 unfold Px Dh
 rw[if_neg (by simp[ha])]
 exact ME (U:=ids s) (fun x _ d hd=>v.close.nd x d hd) (fun d hd=>by rw[An.1 hd];exact hp) (EG (HT s))
attribute [local irreducible] ER AV BA Fc Km
theorem Vg (c:Chg) (first:Int): ∀ j (h:j < (Ca c first).length),((Ca c first)[j]).id=⟨Dig.zero,first+j⟩:=by
 intro j h
 have key:(∃ x:Atm,Ca c first= [x]∧x.id=⟨Dig.zero,first⟩)∨Ca c first=(List.range c.lines.length).map (Fi c first)++(List.range (c.lines.length+1)).map (Ez c first):=by
  unfold Ca
  repeat' split
  all_goals first|exact .inl ⟨_,rfl,rfl⟩|exact .inr rfl
 rcases key with ⟨x,e,hx⟩|e
 ·have hj:j=0:=by rw[e]at h;simpa using h
  subst hj
  simp only[e,BJ,hx]
  simp
 ·have h2:=h
  simp only[e]at h2 ⊢
  rw[List.getElem_append]
  split
  ·simp[Fi]
  ·rename_i h3
   simp only[AR,H4]at h3
   simp only[BN,List.getElem_range,Ez,AR,H4]
   congr 1
   omega
theorem Po {own:List Atm} (c:Chg) (h:NU own):NU (own++Ca c own.length):=by
 intro i hi
 rw[List.getElem_append]
 split
 ·exact h i _
 ·rename_i h3
  rw[Vg]
  congr 1
  omega
theorem Mr {c:Chg} (h:C3 c=0):1≤c.kind∧c.kind≤7:=by
 unfold C3 at h
 split at h
 ·omega
 ·omega
theorem Ym {l:List Dig} (h:Ir l=0): ∀ d∈l,d≠Dig.zero:=by
 intro d hd e
 unfold Ir at h
 split at h
 ·omega
 obtain⟨i,hi,rfl⟩:=AZ.1 hd
 have h0:=DY h i (by simpa using hi)
 rw[Hb,if_pos (by simp[List.getD,hi,e])]at h0
 omega
def Kq (p:Pat):List Atm × Str × Int:=if(C9 p).2≠0 then([],[],(C9 p).2)else if 65536 < ((Na p).length:Int)then([],[],4)else((C9 p).1,Na p,0)
theorem Mw {p:Pat} (h:J9 p=0):C9 p=DA p.changes []:=by rw[Ie,if_neg (by simp[h])]
theorem Tb {p:Pat} (h:J9 p=0):Ir p.deps=0:=by
 unfold J9 at h
 split at h
 ·omega
 split at h
 ·omega
 split at h
 ·omega
 split at h
 ·rename_i h4;exact absurd h h4
 ·rename_i h4;simpa using h4
def qF (b:Nat) (s:CF × List Atm) (LF:List Res):List Res:= .box b 68 [.slice (s.2.map eAtm) s.1]:: .tok s.1 s.2.length 172::LF
instance ud (p:Pat) [hs:B1 (ED p=false)]:CB Tryz.prog 81 [.agg (Bz p)] (.tuple [.slice ((Kq p).1.map eAtm) .ro,.str (Kq p).2.1,.raw (.int .i64 (Kq p).2.2)]):=⟨by
 obtain⟨hg1,hg2,hg3,hg4,hg5⟩:=Ek hs.out
 refine Au Tryz.func81 Tryz.ntmps81 rfl (rs:= [.tmp 2,.tmp 3,.tmp 4]) rfl rfl fun hb LF=>?_
 refine wf ?_
 refine AY (fun h1=>?_) (fun h1=>?_)
 ·refine wf ?_
  refine S4 ?_
  have e:C9 p=([],J9 p):=by rw[Ie,if_pos h1]
  have e2:Kq p=([],[],J9 p):=by rw[Kq,e,if_pos h1]
  rw[e2]
  exact .tuple3 (.ros rfl) (.refl _) (.refl _)
 have hH:=Mw h1
 refine Y9 fun b6=>?_
 refine EO 172 ?_
 refine E0 (.swap _ _ _) ?_
 refine Ad (σ:=Nat × CF × List Atm) (fun k=>k.1≤p.changes.length∧k.2.2.length≤k.1*81∧NU k.2.2∧(∀ c∈p.changes.take k.1,1≤c.kind∧c.kind≤7)∧C9 p=DA (p.changes.drop k.1) k.2.2) (fun k=>p.changes.length - k.1) (fun k=> [(1,.pt (Bz p) 0),(6,.raw (.pointer (some ⟨b6,0,none⟩))),(20,.slice (p.changes.map eChg) .ro),(21,.raw (.int .i64 p.changes.length)),(22,.raw (.int .i64 k.1))]) (fun k=>qF b6 k.2 LF) (0,.nil,[]) ⟨by simp,by simp,fun i h=>absurd h (by simp),by simp,hH⟩ ⟨rfl,rfl,rfl,rfl,rfl⟩ (.refl _) ?_
 rintro⟨k,v,own⟩ ⟨hk,hlen,hid,hkd,he⟩
 dsimp only at hk hlen hid hkd he
 rw[show qF b6 (k,v,own).2 LF= .box b6 68 [.slice (own.map eAtm) v]:: .tok v own.length 172::LF from rfl]
 refine wf ?_
 refine A6 (fun hc=>?_) (fun hc=>?_)
 ·have hlt:k < p.changes.length:=by omega
  rw[LP hlt]at he
  refine wz fun b8=>?_
  refine Ao 8 ?_
  refine wf ?_
  refine AY (fun h2=>?_) (fun h2=>?_)
  ·refine wf ?_
   rw[if_pos h2]at he
   have e2:Kq p=([],[],C3 p.changes[k]):=by rw[Kq,he,if_pos h2]
   refine S4 ?_
   rw[e2]
   exact .tuple3 (.ros rfl) (.refl _) (.refl _)
  rw[if_neg (by simp[h2])]at he
  have hll:p.changes[k].lines.length≤2000:=JT h2
  have hkk:1≤p.changes[k].kind∧p.changes[k].kind≤7:=Mr h2
  have hmm:=Lu p.changes[k] own.length
  have hl40:=(hg5 _ (AF hlt)).lines
  have i1:B1 (C3 p.changes[k]=0∧own.length≤100000∧NU own):=⟨h2,by omega,hid⟩
  refine wf ?_
  refine AY (fun h3=>?_) (fun h3=>?_)
  ·refine wf ?_
   rw[if_pos h3]at he
   have e2:Kq p=([],[],FA p.changes[k] own):=by rw[Kq,he,if_pos h3]
   refine S4 ?_
   rw[e2]
   exact .tuple3 (.ros rfl) (.refl _) (.refl _)
  rw[if_neg (by simp[h3])]at he
  refine wf ?_
  refine GD (Rp p.changes[k] own.length hkk ⟨hll,by omega,by omega⟩) [41] (σ:=CF × List Atm) (fun pre s=>s.2=own++pre) (fun _ _=>False) (fun s LF'=>qF b6 s LF') (v,own) LF ?_ rfl (fun _=>rfl) (by simp) (fun _ _=>rfl) (.refl _) (by simp) ?_ ?_ (fun _ _ h=>h.elim)
  ·exact .refl _
  ·rintro pre x ⟨v1,own1⟩ LF' hpre hI
   dsimp only at hI
   have hpl:=hpre.length_le
   have hol:own1.length≤90000:=by
    rw[hI,AA]
    rw[AA,B6]at hpl
    omega
   rw[show qF b6 (v1,own1) LF'= .box b6 68 [.slice (own1.map eAtm) v1]:: .tok v1 own1.length 172::LF' from rfl]
   refine wz fun b11=>?_
   refine Ao 11 ?_
   refine dB fun v2=>?_
   exact⟨(v2,own1++ [x]),by dsimp only;rw[hI,AU],.refl _⟩
  ·rintro⟨v1,own1⟩ hI
   dsimp only at hI
   refine wf ?_
   refine⟨(k+1,v1,own1),⟨by dsimp only;omega,?_,?_,?_,?_⟩,by dsimp only;omega,⟨rfl,rfl,rfl,rfl,rfl⟩,.refl _⟩
   ·dsimp only
    rw[hI,AA];omega
   ·dsimp only
    rw[hI];exact Po _ hid
   ·dsimp only
    intro c hcm
    rw[A7 hlt]at hcm
    rcases Aj.1 hcm with h|h
    ·exact hkd c h
    ·rw[An.1 h];exact hkk
   ·dsimp only
    rw[hI];exact he
 have hkk:k=p.changes.length:=by omega
 rw[DH (by omega)]at he
 rw[AE (by omega)]at hkd
 have he':C9 p=(own,0):=he
 have i1:B1 (cK p):=⟨⟨O9 hs.out,Ym (Tb h1),hkd⟩⟩
 refine wf ?_
 have h0: ¬(C9 p).2≠0:=by rw[he'];simp
 refine A6 (fun h=>?_) (fun h=>?_)
 ·refine wf ?_
  have e2:Kq p=([],[],4):=by rw[Kq,if_neg h0,if_pos h]
  refine S4 ?_
  rw[e2]
  exact .tuple3 (.ros rfl) (.refl _) (.refl _)
 ·refine wf ?_
  have e2:Kq p=(own,Na p,0):=by rw[Kq,if_neg h0,if_neg h,he']
  refine S4 ?_
  rw[e2]
  exact .tuple3 (.ros rfl) (.refl _) (.refl _)⟩
end Go.Proofs
namespace Go.Proofs
open Go Go.Q
attribute [local irreducible] ER AV BA Fc
theorem X7 (p:Pat):(Kq p).2.2=(Cb p).2:=by
 unfold Kq Cb KD
 split
 ·rfl
 ·split<;>rfl
theorem oA (p:Pat):(Kq p).2.1=(Cb p).1:=by
 unfold Kq Cb KD
 split
 ·rfl
 ·split<;>rfl
instance vI (p:Pat) [hs:B1 (ED p=false)]:CB Tryz.prog 56 [.agg (Bz p)] (.raw (.int .i64 (Cb p).2)):=⟨by
 refine Au Tryz.func56 Tryz.ntmps56 rfl (rs:= [.tmp 2]) rfl rfl fun hb LF=>?_
 refine wf ?_
 refine B2 (.of_eq ?_)
 rw[←X7]⟩
instance sX (p:Pat) [hs:B1 (ED p=false)]:CB Tryz.prog 136 [.agg (Bz p)] (.tuple [.str (Cb p).1,.raw (.int .i64 (Cb p).2)]):=⟨by
 refine Au Tryz.func136 Tryz.ntmps136 rfl (rs:= [.tmp 2,.tmp 3]) rfl rfl fun hb LF=>?_
 refine wf ?_
 refine HH ?_
 rw[←X7,←oA]
 exact .refl _⟩
def vDig (d:Dig):List Value:=Ni d.bs
instance :P5 eDig vDig:=⟨fun d=>by simp[eDig,vDig,Ni,eU8];intro a _;rfl,fun d x hx=>by
 obtain⟨b,_,rfl⟩:=AQ.1 hx;rfl⟩
instance :aY Tryz.prog 24 31 32 32:=⟨by
 have h2:(Tryz.prog.info? 31).map (fun i=>(i.size,i.bytes,i.zero.isSome,(i.zero.getD undef).cells.size))=some (32,32,true,32):=by kernel_rfl
 obtain⟨i,hi,e⟩:=Bn.1 h2
 simp only[Prod.mk.injEq]at e
 obtain⟨e1,e2,e3,e4⟩:=e
 obtain⟨z,hz⟩:=Fe.1 e3
 rw[hz]at e4
 exact⟨i,z,by kernel_rfl,hi,e1,e2,hz,e4,by decide,by decide⟩⟩
abbrev VB (v:Value) (l:List Dig) (R:List Res):Prop:=Jy vDig 31 32 v l R
theorem Ow (l:List Dig) (t:CF) (hl:l.length≤1000000):BA Tryz.prog 57 [.slice (l.map eDig) t] [] (fun r L'=> ∃ v,r= .raw v∧VB v l L'):=by
 refine C5 Tryz.func57 rfl Tryz.ntmps57 (rs:= [.tmp 2]) rfl rfl fun hb LF=>?_
 rw[B8]
 refine wf ?_
 refine dQ rfl fun b hnil=>?_
 refine wf ?_
 refine AW (fun h=>?_) (fun h=>?_)
 ·have h0:l= []:=by simpa using hnil h
  subst h0
  refine DX ?_
  refine CQ (by kernel_rfl) ?_
  refine Ll ?_
  refine AD ?_
  refine wf ?_
  exact⟨trivial,_,[],.cons (.tmp 2) .nil,.refl _,_,rfl,.nil none (by simp)⟩
 refine HA ?_
 refine DX ?_
 refine CQ (by kernel_rfl) ?_
 refine dV (vf:=vDig) fun v0 hv0=>?_
 refine wf ?_
 refine Im (f:=eDig) (R:= []) (LF:=LF) (fun R'=>R'++LF) rfl rfl hv0 (.refl _) (fun R'=> .refl _) (by simp only[Af];omega) (by simp only[Af];omega) fun v R' hv=>?_
 refine wf ?_
 refine wf ?_
 rw[B8]at hv
 exact⟨trivial,_,R',.cons (.tmp 2) .nil,.refl _,v,rfl,hv⟩
def y7 (acc:List Dig) (x:Dig):List Dig:=if acc.getLast? =some x then acc else acc++ [x]
def Kj (l:List Dig):List Dig:=l.foldl y7 []
theorem UU (l:List Dig) (x:Dig):Kj (l++ [x])=if(Kj l).getLast? =some x then Kj l else Kj l++ [x]:=by rw[Kj,BO];rfl
theorem lb (l:List Dig):(Kj l).getLast? =l.getLast?:=by
 rcases List.eq_nil_or_concat l with rfl|⟨m,x,rfl⟩
 ·rfl
 ·rw[List.concat_eq_append,UU]
  split
  ·rename_i h;rw[h];simp
  ·simp
theorem Qt {l:List Dig} {j:Nat} (h0:0 < j) (h:j < l.length):Kj (l.take (j+1))=if l[j]=l[j - 1]then Kj (l.take j)else Kj (l.take j)++ [l[j]]:=by
 rw[A7 h,UU,lb]
 have:(l.take j).getLast? =some l[j - 1]:=by
  rw[List.getLast?_eq_getElem?,Aa,DM (by omega),Gd,if_pos (by omega)]
  simp
 rw[this]
 by_cases e:l[j]=l[j - 1]
 ·rw[if_pos (by rw[e]),if_pos e]
 ·rw[if_neg (fun h=>e (by injection h with h;exact h.symm)),if_neg e]
theorem FU (d:Dig):(vDig d).length=32:=by
 have:(eDig d).length=32:=by simp
 rw[(inferInstance:P5 eDig vDig).out]at this
 simpa using this
theorem sd: ∀ i z,Tryz.prog.info? 31=some i→i.zero=some z→ ∀ x∈z.cells,x.oneCell'=true:=by
 have h:(Tryz.prog.info? 31).map (fun i=>(i.zero.getD undef).cells.all (·.oneCell'))=some true:=by kernel_rfl
 intro i z hi hz x hx
 rw[hi]at h
 simp only[Ed,hz,BU,J3,H7]at h
 exact h x hx
theorem eu (l:List Dig) (k:Nat) (h:k≤l.length) (rest:List Value):(l.flatMap vDig++rest).take (k*32)=(l.take k).flatMap vDig:=by
 have e:(l.flatMap vDig++rest)=(l.take k).flatMap vDig++((l.drop k).flatMap vDig++rest):=by
  rw[←AU,←FI,Bm]
 rw[e]
 refine GF ?_
 rw[O3 (f:=eDig) (sz:=32),Aa,DM h]
theorem Pw (l:List Dig) (v:Value) (R:List Res) (hv:VB v l R) (hl:l.length≤1000000):BA Tryz.prog 62 [.raw v] R (fun r L'=>r= .slice ((Kj l).map eDig) .ro∧L'= []):=by
 refine C5 Tryz.func62 rfl Tryz.ntmps62 (rs:= [.tmp 2]) rfl rfl fun hb LF=>?_
 have hmx: ∀ m:List Dig,m.length≤l.length→m.length≤maxN∧m.length*32≤maxN:=fun m h=>by
  have:maxN=140737488355328:=rfl
  omega
 obtain⟨o,c,rfl⟩:=hv.slice
 refine wf ?_
 refine KU rfl ?_
 refine wf ?_
 refine A6 (fun h1=>?_) (fun h1=>?_)
 ·refine DX ?_
  refine CQ (by kernel_rfl) ?_
  refine KB (by(conv=>lhs;whnf);done) ?_
  refine Ll ?_
  refine AD ?_
  have e:Kj l=l:=by
   match l,h1 with
   | [],_=>rfl
   | [x],_=>rfl
   |_::_::_,h=>simp at h;omega
  refine Gn (f:=eDig) 2 hv (hmx l (Ah _)) (.refl _) rfl ?_
  refine wf ?_
  exact⟨trivial,_,[],.cons (.tmp 2) .nil,.refl _,by rw[e];exact⟨rfl,rfl⟩⟩
 have hne:l≠ []:=fun e=>by subst e;exact h1 (by simp)
 obtain⟨_,r,cur,rest,rfl,rfl,hcur,hsz,hlc⟩:=hv.inv hne
 refine wf ?_
 refine Ad (σ:=Nat) (fun k=>1≤k∧k≤l.length∧Kj (l.take k)=l.take k) (fun k=>l.length - k) (fun k=> [(0,.raw (.slice (some ⟨r,0,none⟩) l.length c)),(3,.raw (.int .i64 (k:Int)))]) (fun _=> [.raw r (.cells cur 31 (0,0))]++LF) 1 ⟨by omega,by omega,?_⟩ ⟨rfl,rfl⟩ (.refl _) ?_
 ·match l,h1 with
  | [],_=>rfl
  |x::_,_=>rfl
 rintro k ⟨hk1,hk,he⟩
 refine wf ?_
 refine KU rfl ?_
 refine wf ?_
 refine A6 (fun hc=>?_) (fun hc=>?_)
 ·have hlt:k < l.length:=by omega
  refine wn ?_
  refine Bj 10 ?_ ?_
  ·decide+kernel
  refine wf ?_
  refine Fb (k:=k) rfl rfl hlt ?_
  refine OW (f:=eDig) (a0:=l[k]) rfl AG (by rw[hcur,BG];exact PX FU l k hlt rest) (by omega) ?_
  refine wf ?_
  refine Fb (k:=k - 1) rfl (by show PV.raw (Value.int .i64 ((k:Int) - 1))=PV.raw (Value.int .i64 ((k - 1:Nat):Int));congr 2;omega) (by omega) ?_
  refine OW (f:=eDig) (a0:=l[k - 1]) rfl AG (by rw[hcur,BG];exact PX FU l (k - 1) (by omega) rest) (by omega) ?_
  refine wf ?_
  have hd:=Qt (l:=l) (j:=k) (by omega) hlt
  refine A6 (fun h2=>?_) (fun h2=>?_)
  ·rw[if_pos h2]at hd
   refine DX ?_
   refine CQ (by kernel_rfl) ?_
   refine KB (by(conv=>lhs;whnf);done) ?_
   refine KB (by(conv=>lhs;whnf);done) ?_
   refine Nq k l.length rfl (by omega) (Ah _) (by omega) hlc (fun o e=>by cases e;exact⟨_,rfl⟩) (by simp) (by simp) (fun _=>rfl) ?_
   refine wf ?_
   refine Ad (σ:=Nat × Nat × List Dig × Array Value) (fun j=>1≤j.1∧k+j.1≤l.length∧1≤j.2.1∧j.2.1+1≤k+j.1∧j.2.2.1.length=l.length∧j.2.2.1.take j.2.1=Kj (l.take (k+j.1))∧(∀ i,k+j.1≤i+1→j.2.2.1[i]? =l[i]?)∧j.2.2.2.toList=j.2.2.1.flatMap vDig++rest∧j.2.2.2.size=c*32) (fun j=>l.length - k - j.1) (fun j=> [(0,.raw (.slice (some ⟨r,0,none⟩) l.length c)),(3,.raw (.int .i64 (j.2.1:Int))),(4,.raw (.slice (some ⟨r,0+k*32,none⟩) (l.length - k) (c - k))),(5,.raw (.int .i64 (j.1:Int)))]) (fun j=> [.raw r (.cells j.2.2.2 31 (0,0))]++LF) (1,k,l,cur) ⟨by omega,by dsimp only;omega,by dsimp only;omega,by dsimp only;omega,rfl,by dsimp only;rw[hd,he],fun _ _=>rfl,hcur,hsz⟩ ⟨rfl,rfl,rfl,rfl⟩ (.refl _) ?_
   rintro⟨k2,kk,l1,cur1⟩ ⟨i1,i2,i3,i4,i5,i6,i7,i8,i9⟩
   dsimp only at i1 i2 i3 i4 i5 i6 i7 i8 i9 ⊢
   refine wf ?_
   refine KU rfl ?_
   refine wf ?_
   refine A6 (fun hc2=>?_) (fun hc2=>?_)
   ·have hlt2:k+k2 < l.length:=by omega
    have g1:l1[k+k2]'(by omega)=l[k+k2]:=by
     have:=i7 (k+k2) (by omega)
     rw[AO (by omega),AO hlt2]at this
     exact CN this
    have g2:l1[k+(k2 - 1)]'(by omega)=l[k+k2 - 1]:=by
     have:=i7 (k+(k2 - 1)) (by omega)
     rw[AO (by omega),AO (by omega)]at this
     have e:=CN this
     rw[e]
     congr 1
     omega
    have hd2:=Qt (l:=l) (j:=k+k2) (by omega) hlt2
    refine wn ?_
    refine Bj 10 ?_ ?_
    ·decide+kernel
    refine wf ?_
    refine Fb (k:=k2) rfl rfl (by omega) ?_
    refine OW (f:=eDig) (a0:=l[k+k2]) rfl AG (by rw[i8,show 0+k*32+k2*32=(k+k2)*32 by omega,PX FU l1 (k+k2) (by omega) rest,g1]) (by omega) ?_
    refine wf ?_
    refine Fb (k:=k2 - 1) rfl (by show PV.raw (Value.int .i64 ((k2:Int) - 1))=PV.raw (Value.int .i64 ((k2 - 1:Nat):Int));congr 2;omega) (by omega) ?_
    refine OW (f:=eDig) (a0:=l[k+k2 - 1]) rfl AG (by rw[i8,show 0+k*32+(k2 - 1)*32=(k+(k2 - 1))*32 by omega,PX FU l1 (k+(k2 - 1)) (by omega) rest,g2]) (by omega) ?_
    refine wf ?_
    refine AY (fun h3=>?_) (fun h3=>?_)
    ·rw[if_neg h3]at hd2
     refine wf ?_
     refine Fb (k:=k2) rfl rfl (by omega) ?_
     refine OW (f:=eDig) (a0:=l[k+k2]) rfl AG (by rw[i8,show 0+k*32+k2*32=(k+k2)*32 by omega,PX FU l1 (k+k2) (by omega) rest,g1]) (by omega) ?_
     refine wf ?_
     refine Fb (k:=kk) rfl rfl (by omega) ?_
     refine nk (f:=eDig) (a0:=l[k+k2]) (E:=31) (cur:=cur1) (L':=LF) (fun x=> [x]++LF) rfl rfl (FU _) (by omega) (.refl _) (fun _=> .refl _) ?_
     refine wf ?_
     refine wf ?_
     have hset:(l1.set kk l[k+k2]).take (kk+1)=l1.take kk++ [l[k+k2]]:=by
      rw[A7 (by simp;omega)]
      congr 1
      ·rw[List.take_set_of_le (by omega)]
      ·simp
     have hcl:(cur1.toList.take (0+kk*32)++vDig l[k+k2]++cur1.toList.drop (0+kk*32+32))=(l1.set kk l[k+k2]).flatMap vDig++rest:=by
      rw[i8,BG];exact Zl FU l1 kk (by omega) _ rest
     refine⟨(k2+1,kk+1,l1.set kk l[k+k2],(cur1.toList.take (0+kk*32)++vDig l[k+k2]++cur1.toList.drop (0+kk*32+32)).toArray),⟨by dsimp only;omega,by dsimp only;omega,by dsimp only;omega,by dsimp only;omega,by dsimp only;rw[DN];exact i5,by dsimp only;rw[hset,i6,←E7,hd2],fun i hi=>?_,hcl,?_⟩,by dsimp only;omega,⟨rfl,rfl,rfl,rfl⟩,.refl _⟩
     ·dsimp only at hi ⊢
      rw[Y2 (by omega)]
      exact i7 i (by omega)
     ·dsimp only
      have hv32:=FU l[k+k2]
      simp only[Cj,AA,Aa,B5,Cc,hv32]
      omega
    ·rw[if_pos h3]at hd2
     refine wf ?_
     refine⟨(k2+1,kk,l1,cur1),⟨by dsimp only;omega,by dsimp only;omega,i3,by dsimp only;omega,i5,by dsimp only;rw[i6,←E7,hd2],fun i hi=>i7 i (by dsimp only at hi;omega),i8,i9⟩,by dsimp only;omega,⟨rfl,rfl,rfl,rfl⟩,.refl _⟩
   have hkk:k+k2=l.length:=by omega
   rw[hkk,AE (Ah _)]at i6
   refine wf ?_
   refine Nq kk l.length rfl (by omega) (Ah _) (by omega) hlc (fun o e=>by cases e;exact⟨_,rfl⟩) (by simp) (by simp) (fun _=>rfl) ?_
   refine bG (E:=31) (cur:=cur1) (L':=LF) sd (fun x=> [x]++LF) rfl (by omega) (by omega) (.refl _) (fun _=> .refl _) fun zs hzs=>?_
   refine AD ?_
   refine DX ?_
   refine CQ (by kernel_rfl) ?_
   refine KB (by(conv=>lhs;whnf);done) ?_
   refine KB (by(conv=>lhs;whnf);done) ?_
   refine Nq 0 kk rfl (by omega) (by omega) (by omega) hlc (by simp) (fun _=>rfl) (fun o e=>by cases e;exact⟨_,rfl⟩) (by simp) ?_
   refine Ll ?_
   refine AD ?_
   have hlk:(l1.take kk).length=kk:=by rw[Aa,DM (by omega)]
   have hrow:Jy vDig 31 32 (.slice (some ⟨r,0,none⟩) (l1.take kk).length c) (l1.take kk) [.raw r (.cells (cur1.toList.take (0+kk*32)++zs++cur1.toList.drop (0+kk*32+(l.length - kk)*32)).toArray 31 (0,0))]:=by
    refine Jy.mk (rest:=zs++cur1.toList.drop (0+kk*32+(l.length - kk)*32)) FU ?_ ?_ (by rw[hlk];omega)
    ·simp only[AU]
     rw[BG,i8,eu l1 kk (by omega)]
    ·simp only[Cj,AA,Aa,B5,Cc,hzs]
     omega
   refine Gn (f:=eDig) 2 hrow (hmx _ (by rw[hlk];omega)) (.refl _) (by
    show PV.raw (Value.slice (some ⟨r,0+0*32,none⟩) (kk - 0) (c - 0))=_
    rw[hlk];simp) ?_
   refine wf ?_
   exact⟨trivial,_,[],.cons (.tmp 2) .nil,.refl _,by rw[←i6];exact⟨rfl,rfl⟩⟩
  ·rw[if_neg h2]at hd
   refine wf ?_
   refine⟨k+1,⟨by omega,by omega,?_⟩,by dsimp only;omega,⟨rfl,rfl⟩,.refl _⟩
   rw[hd,he,←A7 hlt]
 have hkk:k=l.length:=by omega
 rw[AE (by omega)]at he
 refine Gj ?_
 refine DX ?_
 refine CQ (by kernel_rfl) ?_
 refine KB (by(conv=>lhs;whnf);done) ?_
 refine Ll ?_
 refine AD ?_
 refine Gn (f:=eDig) 2 hv (hmx l (Ah _)) (.refl _) rfl ?_
 refine wf ?_
 exact⟨trivial,_,[],.cons (.tmp 2) .nil,.refl _,by rw[he];exact⟨rfl,rfl⟩⟩
end Go.Proofs
namespace Go.Q
open Go Go.Proofs Go.Sort
theorem UH {α:Type} {k:Nat} (hk0:0 < k) {enc:α→List Value} (hk: ∀ x,(enc x).length=k): ∀ (l:List α) (t:Nat),(l.flatMap enc)[t]? =(l[t / k]?).bind fun x=>(enc x)[t % k]?
 | [],t=>by simp
 |x::l,t=>by
  rw[DP]
  by_cases h:t < k
  ·rw[Cf (by rw[hk];exact h),Nat.div_eq_of_lt h,E6 h]
   simp
  ·rw[EI (by rw[hk];omega),hk,UH hk0 hk l (t - k)]
   have e1:t / k=(t - k) / k+1:=by
    rw[Nat.div_eq_sub_div hk0 (by omega)]
   have e2:t % k=(t - k) % k:=Nat.mod_eq_sub_mod (by omega)
   rw[e1,e2]
   simp
theorem Qo {α:Type} [Inhabited α] {k:Nat} (hk0:0 < k) {enc:α→List Value} (hk: ∀ x,(enc x).length=k) (l:List α):(flatK enc k l.toArray).toList=l.flatMap enc:=by
 refine iM fun t=>?_
 rw[UH hk0 hk]
 by_cases h:t < l.length*k
 ·have h1:t / k < l.length:=Xz (by rw[P6];exact h)
  have h2:t % k < k:=cu _ hk0
  have h3:t < (flatK enc k l.toArray).toList.length:=by simpa using h
  rw[AO h3,AO h1]
  simp only[GW]
  rw[AO (by rw[hk];exact h2)]
  congr 1
  have:=get_flatK enc k l.toArray t (by simpa using h)
  simp only[Y5]
  rw[getElem!_pos _ t (by simpa using h)]at this
  rw[this]
  simp[h1,getElem!_pos,hk,h2]
 ·rw[FS (by simpa using h)]
  have: ¬t / k < l.length:=fun h'=>h (by
   have:=Nat.lt_mul_of_div_lt h' hk0
   first|exact this|(rw[P6];exact this))
  rw[FS (by omega)]
  rfl
section
variable {α:Type} [Inhabited α] {enc:α→List Value} {k:Nat} {w:World} {r:Nat} {cur:Array Value} {E:Nat}
theorem PC (h:w.heap[r]? =some (.cells cur E (0,0))) (m:Nat) (dk:Array α) (os:Array Obj):(sortWorldK enc k w r 0 m dk os).heap[r]? =some (.cells (putCells id 0 (flatK enc k dk) cur) E (0,0)):=by
 have hlt:=(BF.1 h).1
 show((w.heap.modify r (onCells (putCells id 0 (flatK enc k dk))))++os)[r]? =_
 rw[FH (by simpa using hlt),MZ,if_pos rfl,h]
 rfl
theorem Ft (m:Nat) (dk:Array α) (os:Array Obj): ∀ b,b < w.heap.size→b≠r→(sortWorldK enc k w r 0 m dk os).heap[b]? =w.heap[b]?:=fun b hb hn=>by
 show((w.heap.modify r (onCells (putCells id 0 (flatK enc k dk))))++os)[b]? =_
 rw[FH (by simpa using hb),MZ,if_neg (Ne.symm hn)]
theorem Nn (m:Nat) (dk:Array α) (os:Array Obj):w.heap.size≤(sortWorldK enc k w r 0 m dk os).heap.size:=by
 show _≤((w.heap.modify r (onCells (putCells id 0 (flatK enc k dk))))++os).size
 simp
theorem PH (F:Array Value) (h:F.size≤cur.size):(putCells id 0 F cur).toList.take F.size=F.toList:=by
 refine EA (by simp[putCells];omega) fun j h1 h2=>?_
 have hj:j < F.size:=by simpa using h2
 simp[putCells,hj]
end
theorem Dt.laterBut {w w':World} {g:Gh} {L:List Res} {r:Nat} (hi:Dt w g L) (hH: ∀ o,g.H r o=none) (hM:g.M r=none) (hr:r∉Al L) (hk: ∀ k,k < w.heap.size→k≠r→w'.heap[k]? =w.heap[k]?):Dt w' g L:=by
 refine⟨fun b i v h=>?_,fun b z h=>(hi.satM b z h).congr (hk b (hi.satM b z h).lt (fun e=>by rw[e,hM]at h;cases h)),fun r' hr'=>?_,hi.nodup,hi.glob⟩
 ·have h0:=hi.sat b i v h
  have hb:b < w.heap.size:=by
   rcases B9 b w.heap.size with h'|h'
   ·exact h'
   ·simp[World.cell?,Bo h']at h0
  simp only[World.cell?]at h0 ⊢
  rw[hk b hb (fun e=>by rw[e,hH]at h;cases h)];exact h0
 ·exact Res.holds_kept (.refl g) (hi.res r' hr') fun b hb=>⟨hk b (hi.lt (Bw.2 ⟨r',hr',hb⟩)) (fun e=>hr (Bw.2 ⟨r',hr',by rw[hb,e]⟩)),fun _=>rfl,rfl⟩
theorem Zc {w w':World} (h1:w'.os=w.os) (h2:w'.tape=w.tape) (h3:w'.output=w.output) (h4:w.drawn≤w'.drawn) (h5:w.heap.size≤w'.heap.size) (hk: ∀ k,k < w.heap.size→w'.heap[k]? =w.heap[k]?): ∃ q os,w'=grow (w.drewN q) os:=by
 refine⟨w'.drawn - w.drawn,w'.heap.extract w.heap.size w'.heap.size,?_⟩
 have hh:w'.heap=w.heap++w'.heap.extract w.heap.size w'.heap.size:=by
  refine Array.ext_getElem? fun i=>?_
  by_cases hi:i < w.heap.size
  ·rw[FH hi,hk i hi]
  ·rw[Array.getElem?_append_right (by omega)]
   by_cases h6:i < w'.heap.size
   ·rw[CR h6,CR (by simp;omega)]
    simp
    congr 1
    omega
   ·rw[Bo (by omega),Bo (by simp;omega)]
 have hd:w'.drawn=w.drawn+(w'.drawn - w.drawn):=by omega
 obtain⟨⟩:=w'
 obtain⟨⟩:=w
 simp only at h1 h2 h3 hh hd
 subst h1 h2 h3
 simp only[grow,World.drewN]
 rw[←hh,←hd]
end Go.Q
namespace Go.Proofs
open Go Go.Q Go.Shelf Go.Sort
attribute [local irreducible] ER AV Fc
instance :Inhabited Dig:=⟨Dig.zero⟩
theorem zc:SWO (ltOf Ep) where
 irrefl x:=by
  unfold ltOf
  exact DB (fun h=>Dig.lt_irrefl x h)
 trans x y z h1 h2:=by
  unfold ltOf at*
  exact BR (Dig.lt_trans (BB h1) (BB h2))
 ntrans x y z h1 h2:=by
  unfold ltOf at*
  refine DB fun h=>?_
  have h1:=Bp h1
  have h2:=Bp h2
  rcases Dig.tri x y with h'|h'|h'
  ·exact h1 h'
  ·subst h';exact h2 h
  ·rcases Dig.tri y z with h3|h3|h3
   ·exact h2 h3
   ·subst h3;exact h1 h
   ·exact Dig.lt_irrefl x (Dig.lt_trans h (Dig.lt_trans h3 h'))
def sortD (l:List Dig):List Dig:=l.mergeSort fun x y=>!(ltOf Ep) y x
theorem lh {w:World} {g:Gh} {r n E:Nat} {cur:Array Value} (hi:Dt w g []) (h1:w.heap[r]? =some (.cells cur E (0,0))) (h2: ∀ o,g.H r o=none) (h3:g.M r=none):CmpLays Tryz.prog 61 #[] vDig 32 Ep r 0 n w:=by
 intro m os dk hdk x y
 have hI:Dt (sortWorldK vDig 32 w r 0 m dk os) g []:=hi.laterBut h2 h3 (by simp[Al]) (fun k hk hn=>Ft m dk os k hk hn)
 have hv:EB g [.agg (vDig x).toArray,.agg (vDig y).toArray] [.agg (eDig x),.agg (eDig y)]:=by
  have e: ∀ d:Dig,VR g (.agg (vDig d).toArray) (.agg (eDig d)):=fun d=>by
   rw[(inferInstance:P5 eDig vDig).out]
   have:EB g (vDig d) ((vDig d).map PV.raw):=⟨by simp,fun i h1 h2=>by simp;exact .raw _⟩
   exact this.agg
  exact .cons (e x) (.cons (e y) (.nil g))
 have:=(Z7 x y).out _ (sortWorldK vDig 32 w r 0 m dk os) g [] hv hI
 refine Calls.mono this ?_
 rintro e w' ⟨v,x',g',L',rfl,k1,k2,k3,k4,rfl,rfl⟩
 refine⟨by rw[k1.raw_inv],?_⟩
 exact Zc k3.os k3.tape k3.output.1 k3.output.2 k3.size (fun k hk=>k3.keep k hk (by simp[Al]))
theorem Sk (l:List Dig) (v:Value) (R:List Res) (hv:VB v l R) (hl:l.length≤1000000):BA Tryz.prog 60 [.raw v,.raw (.func (.func 61) #[] #[])] R (fun _ L'=> ∃ v',v'=v∧VB v' (sortD l) L'):=fun vs w g LF hvs hi=>by
 obtain⟨v1,v2,rfl⟩: ∃ a b,vs= [a,b]:=by
  have:=hvs.len
  match vs,this with
  | [a,b],_=>exact⟨a,b,rfl⟩
 rw[hvs.uncons.1.raw_inv,hvs.uncons.2.uncons.1.raw_inv]
 obtain⟨o,c,rfl⟩:=hv.slice
 by_cases hne:l= []
 ·subst hne
  refine(AnyF.slices_SortFunc_none Tryz.sortD o c _ w).mono ?_
  rintro e w' ⟨rfl,rfl⟩
  exact⟨_,.raw (.tuple #[]),g,R,rfl,.raw _,hi,.refl _ _ _,.refl _ _,_,rfl,by simpa [sortD]using hv⟩
 obtain⟨_,r,cur,rest,rfl,rfl,hcur,hsz,hlc⟩:=hv.inv hne
 obtain⟨k1,k2,k3,k4,k5⟩:=hi.rawHead
 have hlt:r < w.heap.size:=(BF.1 k1).1
 have hF:(flatK vDig 32 l.toArray).toList=l.flatMap vDig:=Qo (by decide) FU l
 have hH:HoldsK vDig 32 w r 0 l.toArray:=fun j hj=>by
  have hj2:j < l.length*32:=by simpa using hj
  refine⟨?_,by simp[World.frozen?,k1]⟩
  have hj3:j < cur.size:=by omega
  simp only[World.cell?,k1,CY,BT,if_false,BG]
  rw[getElem!_pos _ j hj]
  have e1:cur.toList[j]? =(flatK vDig 32 l.toArray).toList[j]?:=by
   rw[hcur,hF,Cf (by rw[O3 (f:=eDig) (sz:=32)];exact hj2)]
  rw[MY,MY,CR hj]at e1
  exact e1
 refine(AnyQ.slices_SortFunc_total Tryz.sortD 32 (fun w=>?_) (fun w=>EZ.run (inferInstance:EZ Tryz.prog 31 32 32) w) vDig FU (fun x v h=>(inferInstance:P5 eDig vDig).one x v h) Ep zc 61 #[] r 0 c l.toArray w (fun args w=>(inferInstance:Az Tryz.prog 61).out args w) (lh (hi.sub (List.nil_sublist _)) k1 k2 k3) hH hlt (by simp;omega) ?_).mono ?_
 ·have hu:Tryz.prog.underlying 31=some (.array 32 5):=by kernel_rfl
  show(isAgg 31).run Tryz.prog w=_
  simp[isAgg,run_underlying hu]
 ·intro x y h1 h2
  unfold ltOf at h1 h2
  have h1:=Bp h1
  have h2:=Bp h2
  rcases Dig.tri x y with h'|h'|h'
  ·exact absurd h' h1
  ·exact h'
  ·exact absurd h' h2
 ·rintro e w' ⟨rfl,n,os,rfl⟩
  have hlen:(sortD l).length=l.length:=Cg _
  have hFs:(flatK vDig 32 (sortD l).toArray).toList=(sortD l).flatMap vDig:=Qo (by decide) FU (sortD l)
  have hFz:(flatK vDig 32 (sortD l).toArray).size=l.length*32:=by simp[hlen]
  have htk:=PH (cur:=cur) (flatK vDig 32 (sortD l).toArray) (by omega)
  have hrow:Jy vDig 31 32 (.slice (some ⟨r,0,none⟩) (sortD l).length c) (sortD l) [.raw r (.cells (putCells id 0 (flatK vDig 32 (sortD l).toArray) cur) 31 (0,0))]:=by
   refine Jy.mk (rest:=(putCells id 0 (flatK vDig 32 (sortD l).toArray) cur).toList.drop (l.length*32)) FU ?_ (by simp[putCells,hsz]) (by omega)
   rw[←hFs,←htk,hFz,Bm]
  rw[hlen]at hrow
  refine⟨_,.raw (.tuple #[]),g,[.raw r (.cells (putCells id 0 (flatK vDig 32 (sortD l).toArray) cur) 31 (0,0))],rfl,.raw _,?_,⟨rfl,rfl,⟨rfl,mY _ _⟩,Nn n _ os,fun b hb hn=>Ft n _ os b hb (fun e=>hn (by rw[e];simp[Al,Res.block])),.refl g,fun _ _ _=>⟨fun _=>rfl,rfl⟩⟩,fun b hb _=>by simpa [Al,Res.block]using hb,_,rfl,hrow⟩
  exact(k5.laterBut k2 k3 k4 (fun k hk hn=>Ft n _ os k hk hn)).addRaw (PC k1 n _ os) k2 k3 k4
end Go.Proofs
namespace Go.Proofs
open Go Go.Q
attribute [local irreducible] ER AV BA Fc
def eJ (rs:List Rfc):List Dig:=(rs.filter fun r=>!decide (r.id.patch=Dig.zero)).map (·.id.patch)
theorem cH (a b:List Rfc):eJ (a++b)=eJ a++eJ b:=by simp[eJ]
theorem lP {rs:List Rfc} {j:Nat} (h:j < rs.length):eJ (rs.take (j+1))=eJ (rs.take j)++(if rs[j].id.patch=Dig.zero then []else [rs[j].id.patch]):=by
 rw[A7 h,cH]
 congr 1
 unfold eJ
 by_cases e:rs[j].id.patch=Dig.zero<;>simp[e]
def kd (p:Pat):List Dig:=p.deps++p.changes.flatMap fun c=>eJ (En c)
def nP (p:Pat):List Dig:=if(Cb p).2≠0 then []else Kj (sortD (kd p))
theorem ft (p:Pat) [hs:B1 (ED p=false)]:CB Tryz.prog 20 [.agg (Bz p)] (.slice ((nP p).map eDig) .ro):=⟨by
 obtain⟨hg1,hg2,hg3,hg4,hg5⟩:=Ek hs.out
 refine Au Tryz.func20 Tryz.ntmps20 rfl (rs:= [.tmp 2]) rfl rfl fun hb LF=>?_
 refine wf ?_
 refine AY (fun h1=>?_) (fun h1=>?_)
 ·refine wf ?_
  refine B2 (.ros ?_)
  rw[nP,if_pos h1];rfl
 refine wf ?_
 refine CW (xs:= [.tmp 12]) [] LF (f:=57) (cs:= []) (CA _) rfl rfl (.refl _) _ (Ow p.deps .ro (by omega)) fun r L1 ⟨v0,hr,hv0⟩=>?_
 subst hr
 refine wf ?_
 refine wf ?_
 refine Ad (σ:=Nat × Value × List Dig × List Res) (fun k=>k.1≤p.changes.length∧k.2.2.1.length≤200+k.1*404∧k.2.2.1=p.deps++(p.changes.take k.1).flatMap (fun c=>eJ (En c))∧VB k.2.1 k.2.2.1 k.2.2.2) (fun k=>p.changes.length - k.1) (fun k=> [(3,.raw k.2.1),(15,.slice (p.changes.map eChg) .ro),(16,.raw (.int .i64 p.changes.length)),(17,.raw (.int .i64 k.1))]) (fun k=>k.2.2.2++LF) (0,v0,p.deps,L1) ⟨by simp,by simpa using hg3,by simp,hv0⟩ ⟨rfl,rfl,rfl,rfl⟩ (.refl _) ?_
 rintro⟨k,v,l,R⟩ ⟨hk,hlen,hl,hv⟩
 dsimp only at hk hlen hl hv
 refine wf ?_
 refine A6 (fun hc=>?_) (fun hc=>?_)
 ·have hlt:k < p.changes.length:=by omega
  have hov:=(hg5 _ (AF hlt)).over
  have i1:B1 (p.changes[k].over.length≤400):=⟨by omega⟩
  have hrl:=Vb (c:=p.changes[k]) (by omega)
  refine wz fun b5=>?_
  refine Ao 5 ?_
  refine wf ?_
  refine Ad (σ:=Nat × Value × List Dig × List Res) (fun j=>j.1≤(En p.changes[k]).length∧j.2.2.1.length≤200+k*404+j.1∧j.2.2.1=l++eJ ((En p.changes[k]).take j.1)∧VB j.2.1 j.2.2.1 j.2.2.2) (fun j=>(En p.changes[k]).length - j.1) (fun j=> [(3,.raw j.2.1),(15,.slice (p.changes.map eChg) .ro),(16,.raw (.int .i64 p.changes.length)),(17,.raw (.int .i64 k)),(22,.slice ((En p.changes[k]).map eRfc) .ro),(23,.raw (.int .i64 (En p.changes[k]).length)),(24,.raw (.int .i64 j.1))]) (fun j=>j.2.2.2++LF) (0,v,l,R) ⟨by simp,by simpa using hlen,by simp[eJ],hv⟩ ⟨rfl,rfl,rfl,rfl,rfl,rfl,rfl⟩ (.refl _) ?_
  rintro⟨j,v1,l1,R1⟩ ⟨hj,hlen1,hl1,hv1⟩
  dsimp only at hj hlen1 hl1 hv1
  refine wf ?_
  refine A6 (fun hd=>?_) (fun hd=>?_)
  ·have hjt:j < (En p.changes[k]).length:=by omega
   have ht:=lP hjt
   refine wz fun b7=>?_
   refine Ao 7 ?_
   refine wf ?_
   refine AY (fun h2=>?_) (fun h2=>?_)
   ·rw[if_neg h2]at ht
    refine wf ?_
    refine Im (f:=eDig) (m:= [(En p.changes[k])[j].id.patch]) (R:=R1) (LF:=LF) (fun R'=>R'++LF) rfl rfl hv1 (.refl _) (fun R'=> .refl _) (by simp only[AN,Af];omega) (by simp only[AN,Af];omega) fun v2 R2 hv2=>?_
    refine wf ?_
    refine wf ?_
    refine⟨(j+1,v2,l1++ [(En p.changes[k])[j].id.patch],R2),⟨by dsimp only;omega,by simp only[AA,AN,Af];omega,?_,hv2⟩,by dsimp only;omega,⟨rfl,rfl,rfl,rfl,rfl,rfl,rfl⟩,.refl _⟩
    dsimp only
    rw[ht,←AU,hl1]
   ·rw[if_pos h2,BX]at ht
    refine wf ?_
    refine⟨(j+1,v1,l1,R1),⟨by dsimp only;omega,by dsimp only;omega,?_,hv1⟩,by dsimp only;omega,⟨rfl,rfl,rfl,rfl,rfl,rfl,rfl⟩,.refl _⟩
    dsimp only
    rw[ht,hl1]
  ·rw[AE (by omega)]at hl1
   refine wf ?_
   refine⟨(k+1,v1,l1,R1),⟨by dsimp only;omega,by dsimp only;omega,?_,hv1⟩,by dsimp only;omega,⟨rfl,rfl,rfl,rfl⟩,.refl _⟩
   dsimp only
   rw[hl1,hl,A7 hlt,FI,AU]
   simp
 rw[AE (by omega)]at hl
 have hl':l=kd p:=hl
 have hsl:(sortD l).length=l.length:=Cg _
 refine wf ?_
 refine CW (xs:= [.tmp 40,.func 61]) R LF (f:=60) (cs:= []) (CA _) rfl rfl (.refl _) _ (Sk l v R hv (by omega)) fun r L2 ⟨v2,e2,hv2⟩=>?_
 subst e2
 refine wf ?_
 refine wf ?_
 refine CW (xs:= [.tmp 42]) L2 LF (f:=62) (cs:= []) (CA _) rfl rfl (.refl _) _ (Pw (sortD l) v2 L2 hv2 (by omega)) fun r L3 ⟨hr,hL3⟩=>?_
 subst hr
 subst hL3
 refine wf ?_
 refine wf ?_
 refine B2 (.ros ?_)
 rw[nP,if_neg (by simp[h1]),←hl']⟩
end Go.Proofs
