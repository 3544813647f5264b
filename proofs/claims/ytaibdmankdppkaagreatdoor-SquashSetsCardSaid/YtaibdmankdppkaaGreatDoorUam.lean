/- Plain laws: what a valid set is: closed, ascending, without cycles. -/
import Derived.Test.YtaibdmankdppkaaGreatDoorUal
import Derived.Test.YtaibdmankdppkaaGreatDoorUai
import Derived.Test.YtaibdmankdppkaaGreatDoorUaf
import Derived.Shelf.SlSortCmp.NoneTotal
import Derived.Test.YtaibdmankdppkaaGreatDoorUak
import Derived.Shelf.SlGeneric
import Derived.Ground.SlsfProg
import Derived.Test.YtaibdmankdppkaaGreatDoorUaj
set_option linter.unusedSimpArgs false
set_option linter.unusedVariables false
set_option maxHeartbeats 8000000
namespace Go.Proofs
open Go Go.Q
theorem Cy {α:Type} {f:α→Int} {l:List α} (h:Ay f l=0): ∀ x∈l,f x=0:=by
 induction l with
 |nil=>intro x hx;cases hx
 |cons y l ih=>
  unfold Ay at h
  split at h
  ·rename_i h0
   intro x hx
   rcases AF.1 hx with rfl|hx
   ·exact h0
   ·exact ih h x hx
  ·rename_i h0;exact absurd h h0
structure Bc (s:List Sto):Prop where
 close:Lj s
 id: ∀ x∈s,(Ei x.patch).2=0∧(Ei x.patch).1=x.id
 asc:Gi (ids s)
 order:s.length≤(C5 s).length
 refs: ∀ x∈s,FX s x.patch x.id=0
theorem NI: ∀ {l:List Dig},(∀ i (h:i+1 < l.length),Dig.lt l[i] l[i+1])→Gi l
 | [],_=> .nil
 | [x],_=>GD _ _
 |x::y::l,h=>by
  have ih:Gi (y::l):=NI fun i hi=>by have:=h (i+1) (by simpa using hi);simpa using this
  have h0:=h 0 (by simp)
  simp only[BK,DK]at h0
  refine Bn.2 ⟨fun z hz=>?_,ih⟩
  rcases AF.1 hz with rfl|hz
  ·exact h0
  ·exact Dig.lt_trans h0 ((Bn.1 ih).1 z hz)
theorem eh {s:List Sto} (hgood:GQ s) (hc:JR s=0):Bc s:=by
 have hl:=hgood.1
 unfold JR at hc
 rw[if_neg (by omega)]at hc
 split at hc
 ·rename_i h0;exact absurd hc h0
 rename_i h1
 have h1:Ay (FC s) (List.range s.length)=0:=Cp.1 h1
 split at hc
 ·omega
 rename_i h2
 split at hc
 ·omega
 rename_i h3
 have hall: ∀ x∈s,CW (ids s) (BB x.patch)=true:=by
  have:s.all (fun x=>CW (ids s) (BB x.patch))=true:=by simpa using h2
  exact fun x hx=>BH.1 this x hx
 have hchk: ∀ i (hi:i < s.length),(Ei s[i].patch).2=0∧(Ei s[i].patch).1=s[i].id∧(∀ h:0 < i,EW (s[i - 1]'(by omega)).id s[i].id < 0):=by
  intro i hi
  have h4:=Cy h1 i (Ba.2 hi)
  have e0:s.getD i Sto.zero=s[i]:=by simp[List.getD,hi]
  unfold FC at h4
  rw[e0]at h4
  split at h4
  ·rename_i h5;exact absurd h4 h5
  rename_i h5
  split at h4
  ·omega
  rename_i h6
  split at h4
  ·omega
  rename_i h7
  have h6:(Ei s[i].patch).1=s[i].id:=Cp.1 h6
  refine⟨Cp.1 h5,h6,fun hp=>?_⟩
  have e1:s.getD (i - 1) Sto.zero=s[i - 1]'(by omega):=by
   have h':i - 1 < s.length:=by omega
   simp[List.getD,h']
  rw[e1,h6]at h7
  have: ¬0≤EW (s[i - 1]'(by omega)).id s[i].id:=fun h8=>h7 ⟨by omega,h8⟩
  omega
 refine⟨⟨hgood,fun x hx d hd=>?_⟩,fun x hx=>?_,?_,by omega,fun x hx=>Cy hc x hx⟩
 ·have:=BH.1 (hall x hx) d hd
  simpa using this
 ·obtain⟨i,hi,rfl⟩:=Ai.1 hx
  exact⟨(hchk i hi).1,(hchk i hi).2.1⟩
 ·refine NI fun i hi=>?_
  rw[HT]at hi
  have:=(hchk (i+1) hi).2.2 (by omega)
  simpa [ids,Dig.lt]using this
theorem KU {s:List Sto} (h:LG s=true):Bc s:=by
 unfold LG at h
 simp only[BP,AH,AB]at h
 exact eh (Ze h.1) h.2
def NL (s:List Sto) (out:List Dig):Prop:= ∀ k (h:k < out.length),∃ x∈s,x.id=out[k]∧(∀ d∈BB x.patch,d∈out.take k)∧out[k]∉out.take k
theorem TZ {s:List Sto} {out:List Dig}: ∀ (n:Nat),n≤s.length→0≤(List.range n).foldl (GZ s out) (-1)→
  ∃ x∈s,s.getD ((List.range n).foldl (GZ s out) (-1)).toNat Sto.zero=x∧ ¬x.id∈out∧CW out (BB x.patch)=true
 |0,_,h=>by simp at h
 |n+1,hn,h=>by
  rw[Bt]at h ⊢
  generalize hk:(List.range n).foldl (GZ s out) (-1)=k at h ⊢
  unfold GZ at h ⊢
  split at h
  ·rename_i hc
   rw[if_pos hc]
   have e:s.getD n Sto.zero=s[n]:=by simp[List.getD,show n < s.length by omega]
   rw[e]at hc
   exact⟨s[n],AG _,by simpa using e,hc.1⟩
  ·rename_i hc
   rw[if_neg hc]
   have:=TZ (s:=s) (out:=out) n (by omega) (by rw[hk];exact h)
   rw[hk]at this;exact this
theorem QS {s:List Sto}: ∀ (n:Nat) (out:List Dig),NL s out→NL s (Ny s n out)
 |0,_,h=>h
 |n+1,out,h=>by
  unfold Ny
  split
  ·exact h
  ·rename_i hp
   refine QS n _ ?_
   obtain⟨x,hx,e,h1,h2⟩:=TZ (s:=s) (out:=out) s.length (An _) (by unfold LB at hp;omega)
   have e':s.getD (LB s out).toNat Sto.zero=x:=e
   rw[e']
   intro k hk
   rw[AD,B9]at hk
   by_cases hko:k < out.length
   ·obtain⟨y,hy,q1,q2,q3⟩:=h k hko
    refine⟨y,hy,by rw[BA hko];exact q1,?_,?_⟩
    ·rw[IC (by omega)];exact q2
    ·rw[BA hko,IC (by omega)];exact q3
   ·have hke:k=out.length:=by omega
    subst hke
    refine⟨x,hx,by simp,?_,?_⟩
    ·intro d hd
     have:=BH.1 h2 d hd
     simpa using this
    ·simpa using h1
theorem NL.nodup {s:List Sto} {out:List Dig} (h:NL s out):out.Nodup:=by
 refine B5.2 fun i j hi hj hij e=>?_
 obtain⟨_,_,_,_,h3⟩:=h j hj
 exact h3 (e ▸ De.2 ⟨i,by omega,rfl⟩)
theorem gG {s:List Sto} (h:Gi (ids s)):(ids s).Nodup:=h.nodup
theorem Sp {s:List Sto} (h:Gi (ids s)) {x y:Sto} (hx:x∈s) (hy:y∈s) (e:x.id=y.id):x=y:=by
 obtain⟨i,hi,rfl⟩:=Ai.1 hx
 obtain⟨j,hj,rfl⟩:=Ai.1 hy
 have hn:=gG h
 have hi':i < (ids s).length:=by rw[HT];exact hi
 have hj':j < (ids s).length:=by rw[HT];exact hj
 have:(ids s)[i]=(ids s)[j]:=by simpa [ids]using e
 have hp:=B5.1 hn
 rcases R6 i j with hij|hij|hij
 ·exact absurd this (hp i j hi' hj' hij)
 ·subst hij;rfl
 ·exact absurd this.symm (hp j i hj' hi' hij)
theorem NL.sub {s:List Sto} {out:List Dig} (h:NL s out): ∀ d∈out,d∈ids s:=fun d hd=>by
 obtain⟨k,hk,rfl⟩:=Ai.1 hd
 obtain⟨x,hx,e,_⟩:=h k hk
 exact AQ.2 ⟨x,hx,e⟩
theorem Ey (s:List Sto):NL s (C5 s):=QS _ _ (fun k hk=>absurd hk (Dy _))
theorem Bc.mem_order {s:List Sto} (v:Bc s) {d:Dig} (hd:d∈ids s):d∈C5 s:=by
 by_cases h:d∈C5 s
 ·exact h
 ·have hn:(d::C5 s).Nodup:=Bq.2 ⟨h,(Ey s).nodup⟩
  have:=FE hn (m:=ids s) fun y hy=>by
   rcases AF.1 hy with rfl|hy
   ·exact hd
   ·exact(Ey s).sub y hy
  have h2:=v.order
  rw[HT]at this
  simp only[AN]at this
  omega
theorem ZY {l:List Dig} {i:Nat} (h:i < l.length):l.idxOf l[i]≤i:=by
 induction l generalizing i with
 |nil=>simp at h
 |cons x l ih=>
  cases i with
  |zero=>simp
  |succ i=>
   simp only[DK,List.idxOf_cons]
   have:=ih (by simpa using h)
   cases hb:(x==l[i]'(by simpa using h))with
   |true=>simp
   |false=>simp;omega
def TD (s:List Sto) (d:Dig):Nat:=(C5 s).idxOf d
theorem Bc.rank {s:List Sto} (v:Bc s) {x:Sto} (hx:x∈s) {d:Dig} (hd:d∈BB x.patch):TD s d < TD s x.id:=by
 have hm:=v.mem_order (AQ.2 ⟨x,hx,rfl⟩)
 have hk:(C5 s).idxOf x.id < (C5 s).length:=List.idxOf_lt_length_of_mem hm
 obtain⟨y,hy,e,h1,_⟩:=Ey s _ hk
 rw[List.getElem_idxOf]at e
 have:=Sp v.asc hy hx e
 subst this
 obtain⟨i,hi,rfl⟩:=De.1 (h1 d hd)
 have h2:=ZY (l:=C5 s) (i:=i) (by omega)
 unfold TD
 omega
theorem Bc.getS {s:List Sto} (v:Bc s) {x:Sto} (hx:x∈s):getS s x.id=some x.patch:=by
 cases hg:Go.Proofs.getS s x.id with
 |none=>
  exfalso
  have: ∀ (l:List Sto),x∈l→Go.Proofs.getS l x.id≠none:=by
   intro l
   induction l with
   |nil=>intro h;cases h
   |cons y l ih=>
    intro h
    unfold Go.Proofs.getS
    split
    ·simp
    ·rename_i hne
     rcases AF.1 h with rfl|h
     ·exact absurd rfl hne
     ·exact ih h
  exact this s hx hg
 |some p=>
  obtain⟨y,hy,e,rfl⟩:=Jg hg
  rw[Sp v.asc hy hx e]
theorem Bc.ndS {s:List Sto} (v:Bc s) {x:Sto} (hx:x∈s):ndS s x.id=BB x.patch:=by
 unfold Go.Proofs.ndS;rw[v.getS hx];rfl
theorem Bc.mem_clo {s:List Sto} (v:Bc s) {p:Dig} (hp:p∈ids s) (d:Dig):d∈Py s p↔Q.Reach (Go.Proofs.ndS s) [p] d:=by
 have ha:CW (ids s) [p]=true:=by simp[CW,hp]
 unfold Py DN
 rw[if_neg (by simp[ha])]
 exact MF (U:=ids s) (fun x _ d hd=>v.close.nd x d hd) (fun d hd=>by rw[Ae.1 hd];exact hp) (EN (HT s))
attribute [local irreducible] Eb AV BG Fu NK
theorem fT (c:Chg) (first:Int): ∀ j (h:j < (Dw c first).length),((Dw c first)[j]).id=⟨Dig.zero,first+j⟩:=by
 intro j h
 have key:(∃ x:Atm,Dw c first= [x]∧x.id=⟨Dig.zero,first⟩)∨Dw c first=(List.range c.lines.length).map (Fj c first)++(List.range (c.lines.length+1)).map (Ez c first):=by
  unfold Dw
  repeat' split
  all_goals first|exact .inl ⟨_,rfl,rfl⟩|exact .inr rfl
 rcases key with ⟨x,e,hx⟩|e
 ·have hj:j=0:=by rw[e]at h;simpa using h
  subst hj
  simp only[e,BK,hx]
  simp
 ·have h2:=h
  simp only[e]at h2 ⊢
  rw[List.getElem_append]
  split
  ·simp[Fj]
  ·rename_i h3
   simp only[AU,H9]at h3
   simp only[B4,ch,Ez,AU,H9]
   congr 1
   omega
theorem Pr {own:List Atm} (c:Chg) (h:NW own):NW (own++Dw c own.length):=by
 intro i hi
 rw[List.getElem_append]
 split
 ·exact h i _
 ·rename_i h3
  rw[fT]
  congr 1
  omega
theorem Mq {c:Chg} (h:C3 c=0):1≤c.kind∧c.kind≤7:=by
 unfold C3 at h
 split at h
 ·omega
 ·omega
theorem Yn {l:List Dig} (h:Ie l=0): ∀ d∈l,d≠Dig.zero:=by
 intro d hd e
 unfold Ie at h
 split at h
 ·omega
 obtain⟨i,hi,rfl⟩:=Ai.1 hd
 have h0:=Cy h i (by simpa using hi)
 rw[Ha,if_pos (by simp[List.getD,hi,e])]at h0
 omega
def Kx (p:Pat):List Atm × Str × Int:=if(CB p).2≠0 then([],[],(CB p).2)else if 65536 < ((Na p).length:Int)then([],[],4)else((CB p).1,Na p,0)
theorem Mu {p:Pat} (h:J1 p=0):CB p=DC p.changes []:=by rw[IX,if_neg (by simp[h])]
theorem TQ {p:Pat} (h:J1 p=0):Ie p.deps=0:=by
 unfold J1 at h
 split at h
 ·omega
 split at h
 ·omega
 split at h
 ·omega
 split at h
 ·rename_i h4;exact absurd h h4
 ·rename_i h4;simpa using h4
def pY (b:Nat) (s:C9 × List Atm) (LF:List Res):List Res:= .box b 68 [.slice (s.2.map eAtm) s.1]:: .tok s.1 s.2.length 172::LF
instance uF (p:Pat) [hs:Aw (E6 p=false)]:C6 Tryz.prog 81 [.agg (Bh p)] (.tuple [.slice ((Kx p).1.map eAtm) .ro,.str (Kx p).2.1,.raw (.int .i64 (Kx p).2.2)]):=⟨by
 obtain⟨hg1,hg2,hg3,hg4,hg5⟩:=EY hs.out
 refine Av Tryz.func81 Tryz.ntmps81 rfl (rs:= [.tmp 2,.tmp 3,.tmp 4]) rfl rfl fun hb LF=>?_
 refine wf ?_
 refine AR (fun h1=>?_) (fun h1=>?_)
 ·refine wf ?_
  refine Ru ?_
  have e:CB p=([],J1 p):=by rw[IX,if_pos h1]
  have e2:Kx p=([],[],J1 p):=by rw[Kx,e,if_pos h1]
  rw[e2]
  exact .tuple3 (.ros rfl) (.refl _) (.refl _)
 have hH:=Mu h1
 refine Y2 fun b6=>?_
 refine EP 172 ?_
 refine EO (.swap _ _ _) ?_
 refine AZ (σ:=Nat × C9 × List Atm) (fun k=>k.1≤p.changes.length∧k.2.2.length≤k.1*81∧NW k.2.2∧(∀ c∈p.changes.take k.1,1≤c.kind∧c.kind≤7)∧CB p=DC (p.changes.drop k.1) k.2.2) (fun k=>p.changes.length - k.1) (fun k=> [(1,.pt (Bh p) 0),(6,.raw (.pointer (some ⟨b6,0,none⟩))),(20,.slice (p.changes.map eChg) .ro),(21,.raw (.int .i64 p.changes.length)),(22,.raw (.int .i64 k.1))]) (fun k=>pY b6 k.2 LF) (0,.nil,[]) ⟨by simp,by simp,fun i h=>absurd h (by simp),by simp,hH⟩ ⟨rfl,rfl,rfl,rfl,rfl⟩ (.refl _) ?_
 rintro⟨k,v,own⟩ ⟨hk,hlen,hid,hkd,he⟩
 dsimp only at hk hlen hid hkd he
 rw[show pY b6 (k,v,own).2 LF= .box b6 68 [.slice (own.map eAtm) v]:: .tok v own.length 172::LF from rfl]
 refine wf ?_
 refine A7 (fun hc=>?_) (fun hc=>?_)
 ·have hlt:k < p.changes.length:=by omega
  rw[LZ hlt]at he
  refine wz fun b8=>?_
  refine Au 8 ?_
  refine wf ?_
  refine AR (fun h2=>?_) (fun h2=>?_)
  ·refine wf ?_
   rw[if_pos h2]at he
   have e2:Kx p=([],[],C3 p.changes[k]):=by rw[Kx,he,if_pos h2]
   refine Ru ?_
   rw[e2]
   exact .tuple3 (.ros rfl) (.refl _) (.refl _)
  rw[if_neg (by simp[h2])]at he
  have hll:p.changes[k].lines.length≤2000:=JQ h2
  have hkk:1≤p.changes[k].kind∧p.changes[k].kind≤7:=Mq h2
  have hmm:=Ly p.changes[k] own.length
  have hl40:=(hg5 _ (AG hlt)).lines
  have i1:Aw (C3 p.changes[k]=0∧own.length≤100000∧NW own):=⟨h2,by omega,hid⟩
  refine wf ?_
  refine AR (fun h3=>?_) (fun h3=>?_)
  ·refine wf ?_
   rw[if_pos h3]at he
   have e2:Kx p=([],[],FB p.changes[k] own):=by rw[Kx,he,if_pos h3]
   refine Ru ?_
   rw[e2]
   exact .tuple3 (.ros rfl) (.refl _) (.refl _)
  rw[if_neg (by simp[h3])]at he
  refine wf ?_
  refine JT (Ri p.changes[k] own.length hkk ⟨hll,by omega,by omega⟩) [41] (σ:=C9 × List Atm) (fun pre s=>s.2=own++pre) (fun _ _=>False) (fun s LF'=>pY b6 s LF') (v,own) LF ?_ rfl (fun _=>rfl) (by simp) (fun _ _=>rfl) (.refl _) (by simp) ?_ ?_ (fun _ _ h=>h.elim)
  ·exact .refl _
  ·rintro pre x ⟨v1,own1⟩ LF' hpre hI
   dsimp only at hI
   have hpl:=hpre.length_le
   have hol:own1.length≤90000:=by
    rw[hI,AD]
    rw[AD,B9]at hpl
    omega
   rw[show pY b6 (v1,own1) LF'= .box b6 68 [.slice (own1.map eAtm) v1]:: .tok v1 own1.length 172::LF' from rfl]
   refine wz fun b11=>?_
   refine Au 11 ?_
   refine aQ fun v2=>?_
   exact⟨(v2,own1++ [x]),by dsimp only;rw[hI,AX],.refl _⟩
  ·rintro⟨v1,own1⟩ hI
   dsimp only at hI
   refine wf ?_
   refine⟨(k+1,v1,own1),⟨by dsimp only;omega,?_,?_,?_,?_⟩,by dsimp only;omega,⟨rfl,rfl,rfl,rfl,rfl⟩,.refl _⟩
   ·dsimp only
    rw[hI,AD];omega
   ·dsimp only
    rw[hI];exact Pr _ hid
   ·dsimp only
    intro c hcm
    rw[A6 hlt]at hcm
    rcases Ah.1 hcm with h|h
    ·exact hkd c h
    ·rw[Ae.1 h];exact hkk
   ·dsimp only
    rw[hI];exact he
 have hkk:k=p.changes.length:=by omega
 rw[CJ (by omega)]at he
 rw[AA (by omega)]at hkd
 have he':CB p=(own,0):=he
 have i1:Aw (cD p):=⟨⟨OG hs.out,Yn (TQ h1),hkd⟩⟩
 refine wf ?_
 have h0: ¬(CB p).2≠0:=by rw[he'];simp
 refine A7 (fun h=>?_) (fun h=>?_)
 ·refine wf ?_
  have e2:Kx p=([],[],4):=by rw[Kx,if_neg h0,if_pos h]
  refine Ru ?_
  rw[e2]
  exact .tuple3 (.ros rfl) (.refl _) (.refl _)
 ·refine wf ?_
  have e2:Kx p=(own,Na p,0):=by rw[Kx,if_neg h0,if_neg h,he']
  refine Ru ?_
  rw[e2]
  exact .tuple3 (.ros rfl) (.refl _) (.refl _)⟩
end Go.Proofs
namespace Go.Proofs
open Go Go.Q
attribute [local irreducible] Eb AV BG Fu
theorem X7 (p:Pat):(Kx p).2.2=(CN p).2:=by
 unfold Kx CN KD
 split
 ·rfl
 ·split<;>rfl
theorem nh (p:Pat):(Kx p).2.1=(CN p).1:=by
 unfold Kx CN KD
 split
 ·rfl
 ·split<;>rfl
instance ux (p:Pat) [hs:Aw (E6 p=false)]:C6 Tryz.prog 56 [.agg (Bh p)] (.raw (.int .i64 (CN p).2)):=⟨by
 refine Av Tryz.func56 Tryz.ntmps56 rfl (rs:= [.tmp 2]) rfl rfl fun hb LF=>?_
 refine wf ?_
 refine Ax (.of_eq ?_)
 rw[←X7]⟩
instance s8 (p:Pat) [hs:Aw (E6 p=false)]:C6 Tryz.prog 136 [.agg (Bh p)] (.tuple [.str (CN p).1,.raw (.int .i64 (CN p).2)]):=⟨by
 refine Av Tryz.func136 Tryz.ntmps136 rfl (rs:= [.tmp 2,.tmp 3]) rfl rfl fun hb LF=>?_
 refine wf ?_
 refine H2 ?_
 rw[←X7,←nh]
 exact .refl _⟩
def vDig (d:Dig):List Value:=Nj d.bs
instance :PA eDig vDig:=⟨fun d=>by simp[eDig,vDig,Nj,eU8];intro a _;rfl,fun d x hx=>by
 obtain⟨b,_,rfl⟩:=AQ.1 hx;rfl⟩
instance :Y4 Tryz.prog 24 31 32 32:=⟨by
 have h2:(Tryz.prog.info? 31).map (fun i=>(i.size,i.bytes,i.zero.isSome,(i.zero.getD undef).cells.size))=some (32,32,true,32):=by kernel_rfl
 obtain⟨i,hi,e⟩:=BR.1 h2
 simp only[Prod.mk.injEq]at e
 obtain⟨e1,e2,e3,e4⟩:=e
 obtain⟨z,hz⟩:=Ff.1 e3
 rw[hz]at e4
 exact⟨i,z,by kernel_rfl,hi,e1,e2,hz,e4,by decide,by decide⟩⟩
abbrev V7 (v:Value) (l:List Dig) (R:List Res):Prop:=JI vDig 31 32 v l R
theorem Oy (l:List Dig) (t:C9) (hl:l.length≤1000000):BG Tryz.prog 57 [.slice (l.map eDig) t] [] (fun r L'=> ∃ v,r= .raw v∧V7 v l L'):=by
 refine C7 Tryz.func57 rfl Tryz.ntmps57 (rs:= [.tmp 2]) rfl rfl fun hb LF=>?_
 rw[B7]
 refine wf ?_
 refine dM rfl fun b hnil=>?_
 refine wf ?_
 refine AO (fun h=>?_) (fun h=>?_)
 ·have h0:l= []:=by simpa using hnil h
  subst h0
  refine DP ?_
  refine CC (by kernel_rfl) ?_
  refine Lr ?_
  refine AE ?_
  refine wf ?_
  exact⟨trivial,_,[],.cons (.tmp 2) .nil,.refl _,_,rfl,.nil none (by simp)⟩
 refine HG ?_
 refine DP ?_
 refine CC (by kernel_rfl) ?_
 refine X0 (vf:=vDig) fun v0 hv0=>?_
 refine wf ?_
 refine Ib (f:=eDig) (R:= []) (LF:=LF) (fun R'=>R'++LF) rfl rfl hv0 (.refl _) (fun R'=> .refl _) (by simp only[Af];omega) (by simp only[Af];omega) fun v R' hv=>?_
 refine wf ?_
 refine wf ?_
 rw[B7]at hv
 exact⟨trivial,_,R',.cons (.tmp 2) .nil,.refl _,v,rfl,hv⟩
def xp (acc:List Dig) (x:Dig):List Dig:=if acc.getLast? =some x then acc else acc++ [x]
def Kp (l:List Dig):List Dig:=l.foldl xp []
theorem UK (l:List Dig) (x:Dig):Kp (l++ [x])=if(Kp l).getLast? =some x then Kp l else Kp l++ [x]:=by rw[Kp,Bk];rfl
theorem l9 (l:List Dig):(Kp l).getLast? =l.getLast?:=by
 rcases List.eq_nil_or_concat l with rfl|⟨m,x,rfl⟩
 ·rfl
 ·rw[List.concat_eq_append,UK]
  split
  ·rename_i h;rw[h];simp
  ·simp
theorem Qp {l:List Dig} {j:Nat} (h0:0 < j) (h:j < l.length):Kp (l.take (j+1))=if l[j]=l[j - 1]then Kp (l.take j)else Kp (l.take j)++ [l[j]]:=by
 rw[A6 h,UK,l9]
 have:(l.take j).getLast? =some l[j - 1]:=by
  rw[List.getLast?_eq_getElem?,Ab,DD (by omega),Fc,if_pos (by omega)]
  simp
 rw[this]
 by_cases e:l[j]=l[j - 1]
 ·rw[if_pos (by rw[e]),if_pos e]
 ·rw[if_neg (fun h=>e (by injection h with h;exact h.symm)),if_neg e]
theorem FT (d:Dig):(vDig d).length=32:=by
 have:(eDig d).length=32:=by simp
 rw[(inferInstance:PA eDig vDig).out]at this
 simpa using this
theorem sE: ∀ i z,Tryz.prog.info? 31=some i→i.zero=some z→ ∀ x∈z.cells,x.oneCell'=true:=by
 have h:(Tryz.prog.info? 31).map (fun i=>(i.zero.getD undef).cells.all (·.oneCell'))=some true:=by kernel_rfl
 intro i z hi hz x hx
 rw[hi]at h
 simp only[H6,hz,CA,Iw,HC]at h
 exact h x hx
theorem ep (l:List Dig) (k:Nat) (h:k≤l.length) (rest:List Value):(l.flatMap vDig++rest).take (k*32)=(l.take k).flatMap vDig:=by
 have e:(l.flatMap vDig++rest)=(l.take k).flatMap vDig++((l.drop k).flatMap vDig++rest):=by
  rw[←AX,←K0,CH]
 rw[e]
 refine GJ ?_
 rw[OA (f:=eDig) (sz:=32),Ab,DD h]
theorem Px (l:List Dig) (v:Value) (R:List Res) (hv:V7 v l R) (hl:l.length≤1000000):BG Tryz.prog 62 [.raw v] R (fun r L'=>r= .slice ((Kp l).map eDig) .ro∧L'= []):=by
 refine C7 Tryz.func62 rfl Tryz.ntmps62 (rs:= [.tmp 2]) rfl rfl fun hb LF=>?_
 have hmx: ∀ m:List Dig,m.length≤l.length→m.length≤maxN∧m.length*32≤maxN:=fun m h=>by
  have:maxN=140737488355328:=rfl
  omega
 obtain⟨o,c,rfl⟩:=hv.slice
 refine wf ?_
 refine Ia rfl ?_
 refine wf ?_
 refine A7 (fun h1=>?_) (fun h1=>?_)
 ·refine DP ?_
  refine CC (by kernel_rfl) ?_
  refine KB (by(conv=>lhs;whnf);done) ?_
  refine Lr ?_
  refine AE ?_
  have e:Kp l=l:=by
   match l,h1 with
   | [],_=>rfl
   | [x],_=>rfl
   |_::_::_,h=>simp at h;omega
  refine Gu (f:=eDig) 2 hv (hmx l (An _)) (.refl _) rfl ?_
  refine wf ?_
  exact⟨trivial,_,[],.cons (.tmp 2) .nil,.refl _,by rw[e];exact⟨rfl,rfl⟩⟩
 have hne:l≠ []:=fun e=>by subst e;exact h1 (by simp)
 obtain⟨_,r,cur,rest,rfl,rfl,hcur,hsz,hlc⟩:=hv.inv hne
 refine wf ?_
 refine AZ (σ:=Nat) (fun k=>1≤k∧k≤l.length∧Kp (l.take k)=l.take k) (fun k=>l.length - k) (fun k=> [(0,.raw (.slice (some ⟨r,0,none⟩) l.length c)),(3,.raw (.int .i64 (k:Int)))]) (fun _=> [.raw r (.cells cur 31 (0,0))]++LF) 1 ⟨by omega,by omega,?_⟩ ⟨rfl,rfl⟩ (.refl _) ?_
 ·match l,h1 with
  | [],_=>rfl
  |x::_,_=>rfl
 rintro k ⟨hk1,hk,he⟩
 refine wf ?_
 refine Ia rfl ?_
 refine wf ?_
 refine A7 (fun hc=>?_) (fun hc=>?_)
 ·have hlt:k < l.length:=by omega
  refine wn ?_
  refine Bb 10 ?_ ?_
  ·decide+kernel
  refine wf ?_
  refine Dh (k:=k) rfl rfl hlt ?_
  refine Od (f:=eDig) (a0:=l[k]) rfl AI (by rw[hcur,BN];exact Pb FT l k hlt rest) (by omega) ?_
  refine wf ?_
  refine Dh (k:=k - 1) rfl (by show PV.raw (Value.int .i64 ((k:Int) - 1))=PV.raw (Value.int .i64 ((k - 1:Nat):Int));congr 2;omega) (by omega) ?_
  refine Od (f:=eDig) (a0:=l[k - 1]) rfl AI (by rw[hcur,BN];exact Pb FT l (k - 1) (by omega) rest) (by omega) ?_
  refine wf ?_
  have hd:=Qp (l:=l) (j:=k) (by omega) hlt
  refine A7 (fun h2=>?_) (fun h2=>?_)
  ·rw[if_pos h2]at hd
   refine DP ?_
   refine CC (by kernel_rfl) ?_
   refine KB (by(conv=>lhs;whnf);done) ?_
   refine KB (by(conv=>lhs;whnf);done) ?_
   refine Nt k l.length rfl (by omega) (An _) (by omega) hlc (fun o e=>by cases e;exact⟨_,rfl⟩) (by simp) (by simp) (fun _=>rfl) ?_
   refine wf ?_
   refine AZ (σ:=Nat × Nat × List Dig × Array Value) (fun j=>1≤j.1∧k+j.1≤l.length∧1≤j.2.1∧j.2.1+1≤k+j.1∧j.2.2.1.length=l.length∧j.2.2.1.take j.2.1=Kp (l.take (k+j.1))∧(∀ i,k+j.1≤i+1→j.2.2.1[i]? =l[i]?)∧j.2.2.2.toList=j.2.2.1.flatMap vDig++rest∧j.2.2.2.size=c*32) (fun j=>l.length - k - j.1) (fun j=> [(0,.raw (.slice (some ⟨r,0,none⟩) l.length c)),(3,.raw (.int .i64 (j.2.1:Int))),(4,.raw (.slice (some ⟨r,0+k*32,none⟩) (l.length - k) (c - k))),(5,.raw (.int .i64 (j.1:Int)))]) (fun j=> [.raw r (.cells j.2.2.2 31 (0,0))]++LF) (1,k,l,cur) ⟨by omega,by dsimp only;omega,by dsimp only;omega,by dsimp only;omega,rfl,by dsimp only;rw[hd,he],fun _ _=>rfl,hcur,hsz⟩ ⟨rfl,rfl,rfl,rfl⟩ (.refl _) ?_
   rintro⟨k2,kk,l1,cur1⟩ ⟨i1,i2,i3,i4,i5,i6,i7,i8,i9⟩
   dsimp only at i1 i2 i3 i4 i5 i6 i7 i8 i9 ⊢
   refine wf ?_
   refine Ia rfl ?_
   refine wf ?_
   refine A7 (fun hc2=>?_) (fun hc2=>?_)
   ·have hlt2:k+k2 < l.length:=by omega
    have g1:l1[k+k2]'(by omega)=l[k+k2]:=by
     have:=i7 (k+k2) (by omega)
     rw[AY (by omega),AY hlt2]at this
     exact Cr this
    have g2:l1[k+(k2 - 1)]'(by omega)=l[k+k2 - 1]:=by
     have:=i7 (k+(k2 - 1)) (by omega)
     rw[AY (by omega),AY (by omega)]at this
     have e:=Cr this
     rw[e]
     congr 1
     omega
    have hd2:=Qp (l:=l) (j:=k+k2) (by omega) hlt2
    refine wn ?_
    refine Bb 10 ?_ ?_
    ·decide+kernel
    refine wf ?_
    refine Dh (k:=k2) rfl rfl (by omega) ?_
    refine Od (f:=eDig) (a0:=l[k+k2]) rfl AI (by rw[i8,show 0+k*32+k2*32=(k+k2)*32 by omega,Pb FT l1 (k+k2) (by omega) rest,g1]) (by omega) ?_
    refine wf ?_
    refine Dh (k:=k2 - 1) rfl (by show PV.raw (Value.int .i64 ((k2:Int) - 1))=PV.raw (Value.int .i64 ((k2 - 1:Nat):Int));congr 2;omega) (by omega) ?_
    refine Od (f:=eDig) (a0:=l[k+k2 - 1]) rfl AI (by rw[i8,show 0+k*32+(k2 - 1)*32=(k+(k2 - 1))*32 by omega,Pb FT l1 (k+(k2 - 1)) (by omega) rest,g2]) (by omega) ?_
    refine wf ?_
    refine AR (fun h3=>?_) (fun h3=>?_)
    ·rw[if_neg h3]at hd2
     refine wf ?_
     refine Dh (k:=k2) rfl rfl (by omega) ?_
     refine Od (f:=eDig) (a0:=l[k+k2]) rfl AI (by rw[i8,show 0+k*32+k2*32=(k+k2)*32 by omega,Pb FT l1 (k+k2) (by omega) rest,g1]) (by omega) ?_
     refine wf ?_
     refine Dh (k:=kk) rfl rfl (by omega) ?_
     refine nL (f:=eDig) (a0:=l[k+k2]) (E:=31) (cur:=cur1) (L':=LF) (fun x=> [x]++LF) rfl rfl (FT _) (by omega) (.refl _) (fun _=> .refl _) ?_
     refine wf ?_
     refine wf ?_
     have hset:(l1.set kk l[k+k2]).take (kk+1)=l1.take kk++ [l[k+k2]]:=by
      rw[A6 (by simp;omega)]
      congr 1
      ·rw[List.take_set_of_le (by omega)]
      ·simp
     have hcl:(cur1.toList.take (0+kk*32)++vDig l[k+k2]++cur1.toList.drop (0+kk*32+32))=(l1.set kk l[k+k2]).flatMap vDig++rest:=by
      rw[i8,BN];exact Zm FT l1 kk (by omega) _ rest
     refine⟨(k2+1,kk+1,l1.set kk l[k+k2],(cur1.toList.take (0+kk*32)++vDig l[k+k2]++cur1.toList.drop (0+kk*32+32)).toArray),⟨by dsimp only;omega,by dsimp only;omega,by dsimp only;omega,by dsimp only;omega,by dsimp only;rw[Ct];exact i5,by dsimp only;rw[hset,i6,←EH,hd2],fun i hi=>?_,hcl,?_⟩,by dsimp only;omega,⟨rfl,rfl,rfl,rfl⟩,.refl _⟩
     ·dsimp only at hi ⊢
      rw[Xy (by omega)]
      exact i7 i (by omega)
     ·dsimp only
      have hv32:=FT l[k+k2]
      simp only[Cn,AD,Ab,B8,Cd,hv32]
      omega
    ·rw[if_pos h3]at hd2
     refine wf ?_
     refine⟨(k2+1,kk,l1,cur1),⟨by dsimp only;omega,by dsimp only;omega,i3,by dsimp only;omega,i5,by dsimp only;rw[i6,←EH,hd2],fun i hi=>i7 i (by dsimp only at hi;omega),i8,i9⟩,by dsimp only;omega,⟨rfl,rfl,rfl,rfl⟩,.refl _⟩
   have hkk:k+k2=l.length:=by omega
   rw[hkk,AA (An _)]at i6
   refine wf ?_
   refine Nt kk l.length rfl (by omega) (An _) (by omega) hlc (fun o e=>by cases e;exact⟨_,rfl⟩) (by simp) (by simp) (fun _=>rfl) ?_
   refine aw (E:=31) (cur:=cur1) (L':=LF) sE (fun x=> [x]++LF) rfl (by omega) (by omega) (.refl _) (fun _=> .refl _) fun zs hzs=>?_
   refine AE ?_
   refine DP ?_
   refine CC (by kernel_rfl) ?_
   refine KB (by(conv=>lhs;whnf);done) ?_
   refine KB (by(conv=>lhs;whnf);done) ?_
   refine Nt 0 kk rfl (by omega) (by omega) (by omega) hlc (by simp) (fun _=>rfl) (fun o e=>by cases e;exact⟨_,rfl⟩) (by simp) ?_
   refine Lr ?_
   refine AE ?_
   have hlk:(l1.take kk).length=kk:=by rw[Ab,DD (by omega)]
   have hrow:JI vDig 31 32 (.slice (some ⟨r,0,none⟩) (l1.take kk).length c) (l1.take kk) [.raw r (.cells (cur1.toList.take (0+kk*32)++zs++cur1.toList.drop (0+kk*32+(l.length - kk)*32)).toArray 31 (0,0))]:=by
    refine JI.mk (rest:=zs++cur1.toList.drop (0+kk*32+(l.length - kk)*32)) FT ?_ ?_ (by rw[hlk];omega)
    ·simp only[AX]
     rw[BN,i8,ep l1 kk (by omega)]
    ·simp only[Cn,AD,Ab,B8,Cd,hzs]
     omega
   refine Gu (f:=eDig) 2 hrow (hmx _ (by rw[hlk];omega)) (.refl _) (by
    show PV.raw (Value.slice (some ⟨r,0+0*32,none⟩) (kk - 0) (c - 0))=_
    rw[hlk];simp) ?_
   refine wf ?_
   exact⟨trivial,_,[],.cons (.tmp 2) .nil,.refl _,by rw[←i6];exact⟨rfl,rfl⟩⟩
  ·rw[if_neg h2]at hd
   refine wf ?_
   refine⟨k+1,⟨by omega,by omega,?_⟩,by dsimp only;omega,⟨rfl,rfl⟩,.refl _⟩
   rw[hd,he,←A6 hlt]
 have hkk:k=l.length:=by omega
 rw[AA (by omega)]at he
 refine Gl ?_
 refine DP ?_
 refine CC (by kernel_rfl) ?_
 refine KB (by(conv=>lhs;whnf);done) ?_
 refine Lr ?_
 refine AE ?_
 refine Gu (f:=eDig) 2 hv (hmx l (An _)) (.refl _) rfl ?_
 refine wf ?_
 exact⟨trivial,_,[],.cons (.tmp 2) .nil,.refl _,by rw[he];exact⟨rfl,rfl⟩⟩
end Go.Proofs
namespace Go.Q
open Go Go.Proofs Go.Sort
theorem UC {α:Type} {k:Nat} (hk0:0 < k) {enc:α→List Value} (hk: ∀ x,(enc x).length=k): ∀ (l:List α) (t:Nat),(l.flatMap enc)[t]? =(l[t / k]?).bind fun x=>(enc x)[t % k]?
 | [],t=>by simp
 |x::l,t=>by
  rw[DT]
  by_cases h:t < k
  ·rw[DF (by rw[hk];exact h),Nat.div_eq_of_lt h,EG h]
   simp
  ·rw[FJ (by rw[hk];omega),hk,UC hk0 hk l (t - k)]
   have e1:t / k=(t - k) / k+1:=by
    rw[Nat.div_eq_sub_div hk0 (by omega)]
   have e2:t % k=(t - k) % k:=Nat.mod_eq_sub_mod (by omega)
   rw[e1,e2]
   simp
theorem Qm {α:Type} [Inhabited α] {k:Nat} (hk0:0 < k) {enc:α→List Value} (hk: ∀ x,(enc x).length=k) (l:List α):(flatK enc k l.toArray).toList=l.flatMap enc:=by
 refine gx fun t=>?_
 rw[UC hk0 hk]
 by_cases h:t < l.length*k
 ·have h1:t / k < l.length:=Xw (by rw[PB];exact h)
  have h2:t % k < k:=cY _ hk0
  have h3:t < (flatK enc k l.toArray).toList.length:=by simpa using h
  rw[AY h3,AY h1]
  simp only[Hf]
  rw[AY (by rw[hk];exact h2)]
  congr 1
  have:=get_flatK enc k l.toArray t (by simpa using h)
  simp only[Y1]
  rw[getElem!_pos _ t (by simpa using h)]at this
  rw[this]
  simp[h1,getElem!_pos,hk,h2]
 ·rw[FS (by simpa using h)]
  have: ¬t / k < l.length:=fun h'=>h (by
   have:=Nat.lt_mul_of_div_lt h' hk0
   first|exact this|(rw[PB];exact this))
  rw[FS (by omega)]
  rfl
section
variable {α:Type} [Inhabited α] {enc:α→List Value} {k:Nat} {w:World} {r:Nat} {cur:Array Value} {E:Nat}
theorem PH (h:w.heap[r]? =some (.cells cur E (0,0))) (m:Nat) (dk:Array α) (os:Array Obj):(sortWorldK enc k w r 0 m dk os).heap[r]? =some (.cells (putCells id 0 (flatK enc k dk) cur) E (0,0)):=by
 have hlt:=(BF.1 h).1
 show((w.heap.modify r (onCells (putCells id 0 (flatK enc k dk))))++os)[r]? =_
 rw[FL (by simpa using hlt),Ma,if_pos rfl,h]
 rfl
theorem Ft (m:Nat) (dk:Array α) (os:Array Obj): ∀ b,b < w.heap.size→b≠r→(sortWorldK enc k w r 0 m dk os).heap[b]? =w.heap[b]?:=fun b hb hn=>by
 show((w.heap.modify r (onCells (putCells id 0 (flatK enc k dk))))++os)[b]? =_
 rw[FL (by simpa using hb),Ma,if_neg (Ne.symm hn)]
theorem Nr (m:Nat) (dk:Array α) (os:Array Obj):w.heap.size≤(sortWorldK enc k w r 0 m dk os).heap.size:=by
 show _≤((w.heap.modify r (onCells (putCells id 0 (flatK enc k dk))))++os).size
 simp
theorem PO (F:Array Value) (h:F.size≤cur.size):(putCells id 0 F cur).toList.take F.size=F.toList:=by
 refine E3 (by simp[putCells];omega) fun j h1 h2=>?_
 have hj:j < F.size:=by simpa using h2
 simp[putCells,hj]
end
theorem Du.laterBut {w w':World} {g:Gh} {L:List Res} {r:Nat} (hi:Du w g L) (hH: ∀ o,g.H r o=none) (hM:g.M r=none) (hr:r∉Ak L) (hk: ∀ k,k < w.heap.size→k≠r→w'.heap[k]? =w.heap[k]?):Du w' g L:=by
 refine⟨fun b i v h=>?_,fun b z h=>(hi.satM b z h).congr (hk b (hi.satM b z h).lt (fun e=>by rw[e,hM]at h;cases h)),fun r' hr'=>?_,hi.nodup,hi.glob⟩
 ·have h0:=hi.sat b i v h
  have hb:b < w.heap.size:=by
   rcases BJ b w.heap.size with h'|h'
   ·exact h'
   ·simp[World.cell?,Bm h']at h0
  simp only[World.cell?]at h0 ⊢
  rw[hk b hb (fun e=>by rw[e,hH]at h;cases h)];exact h0
 ·exact Res.holds_kept (.refl g) (hi.res r' hr') fun b hb=>⟨hk b (hi.lt (Bz.2 ⟨r',hr',hb⟩)) (fun e=>hr (Bz.2 ⟨r',hr',by rw[hb,e]⟩)),fun _=>rfl,rfl⟩
theorem Zc {w w':World} (h1:w'.os=w.os) (h2:w'.tape=w.tape) (h3:w'.output=w.output) (h4:w.drawn≤w'.drawn) (h5:w.heap.size≤w'.heap.size) (hk: ∀ k,k < w.heap.size→w'.heap[k]? =w.heap[k]?): ∃ q os,w'=grow (w.drewN q) os:=by
 refine⟨w'.drawn - w.drawn,w'.heap.extract w.heap.size w'.heap.size,?_⟩
 have hh:w'.heap=w.heap++w'.heap.extract w.heap.size w'.heap.size:=by
  refine Array.ext_getElem? fun i=>?_
  by_cases hi:i < w.heap.size
  ·rw[FL hi,hk i hi]
  ·rw[Array.getElem?_append_right (by omega)]
   by_cases h6:i < w'.heap.size
   ·rw[CQ h6,CQ (by simp;omega)]
    simp
    congr 1
    omega
   ·rw[Bm (by omega),Bm (by simp;omega)]
 have hd:w'.drawn=w.drawn+(w'.drawn - w.drawn):=by omega
 obtain⟨⟩:=w'
 obtain⟨⟩:=w
 simp only at h1 h2 h3 hh hd
 subst h1 h2 h3
 simp only[grow,World.drewN]
 rw[←hh,←hd]
end Go.Q
namespace Go.Proofs
open Go Go.Q Go.Shelf Go.Sort
attribute [local irreducible] Eb AV Fu
instance :Inhabited Dig:=⟨Dig.zero⟩
theorem zK:SWO (ltOf EW) where
 irrefl x:=by
  unfold ltOf
  exact Cf (fun h=>Dig.lt_irrefl x h)
 trans x y z h1 h2:=by
  unfold ltOf at*
  exact BO (Dig.lt_trans (Az h1) (Az h2))
 ntrans x y z h1 h2:=by
  unfold ltOf at*
  refine Cf fun h=>?_
  have h1:=Bf h1
  have h2:=Bf h2
  rcases Dig.tri x y with h'|h'|h'
  ·exact h1 h'
  ·subst h';exact h2 h
  ·rcases Dig.tri y z with h3|h3|h3
   ·exact h2 h3
   ·subst h3;exact h1 h
   ·exact Dig.lt_irrefl x (Dig.lt_trans h (Dig.lt_trans h3 h'))
def sortD (l:List Dig):List Dig:=l.mergeSort fun x y=>!(ltOf EW) y x
theorem lG {w:World} {g:Gh} {r n E:Nat} {cur:Array Value} (hi:Du w g []) (h1:w.heap[r]? =some (.cells cur E (0,0))) (h2: ∀ o,g.H r o=none) (h3:g.M r=none):CmpLays Tryz.prog 61 #[] vDig 32 EW r 0 n w:=by
 intro m os dk hdk x y
 have hI:Du (sortWorldK vDig 32 w r 0 m dk os) g []:=hi.laterBut h2 h3 (by simp[Ak]) (fun k hk hn=>Ft m dk os k hk hn)
 have hv:EF g [.agg (vDig x).toArray,.agg (vDig y).toArray] [.agg (eDig x),.agg (eDig y)]:=by
  have e: ∀ d:Dig,VR g (.agg (vDig d).toArray) (.agg (eDig d)):=fun d=>by
   rw[(inferInstance:PA eDig vDig).out]
   have:EF g (vDig d) ((vDig d).map PV.raw):=⟨by simp,fun i h1 h2=>by simp;exact .raw _⟩
   exact this.agg
  exact .cons (e x) (.cons (e y) (.nil g))
 have:=(Z7 x y).out _ (sortWorldK vDig 32 w r 0 m dk os) g [] hv hI
 refine Calls.mono this ?_
 rintro e w' ⟨v,x',g',L',rfl,k1,k2,k3,k4,rfl,rfl⟩
 refine⟨by rw[k1.raw_inv],?_⟩
 exact Zc k3.os k3.tape k3.output.1 k3.output.2 k3.size (fun k hk=>k3.keep k hk (by simp[Ak]))
theorem Sb (l:List Dig) (v:Value) (R:List Res) (hv:V7 v l R) (hl:l.length≤1000000):BG Tryz.prog 60 [.raw v,.raw (.func (.func 61) #[] #[])] R (fun _ L'=> ∃ v',v'=v∧V7 v' (sortD l) L'):=fun vs w g LF hvs hi=>by
 obtain⟨v1,v2,rfl⟩: ∃ a b,vs= [a,b]:=by
  have:=hvs.len
  match vs,this with
  | [a,b],_=>exact⟨a,b,rfl⟩
 rw[hvs.uncons.1.raw_inv,hvs.uncons.2.uncons.1.raw_inv]
 obtain⟨o,c,rfl⟩:=hv.slice
 by_cases hne:l= []
 ·subst hne
  refine(AnyF.slices_SortFunc_none Tryz.sortD o c _ w).mono ?_
  rintro e w' ⟨rfl,rfl⟩
  exact⟨_,.raw (.tuple #[]),g,R,rfl,.raw _,hi,.refl _ _ _,.refl _ _,_,rfl,by simpa [sortD]using hv⟩
 obtain⟨_,r,cur,rest,rfl,rfl,hcur,hsz,hlc⟩:=hv.inv hne
 obtain⟨k1,k2,k3,k4,k5⟩:=hi.rawHead
 have hlt:r < w.heap.size:=(BF.1 k1).1
 have hF:(flatK vDig 32 l.toArray).toList=l.flatMap vDig:=Qm (by decide) FT l
 have hH:HoldsK vDig 32 w r 0 l.toArray:=fun j hj=>by
  have hj2:j < l.length*32:=by simpa using hj
  refine⟨?_,by simp[World.frozen?,k1]⟩
  have hj3:j < cur.size:=by omega
  simp only[World.cell?,k1,Ca,BX,if_false,BN]
  rw[getElem!_pos _ j hj]
  have e1:cur.toList[j]? =(flatK vDig 32 l.toArray).toList[j]?:=by
   rw[hcur,hF,DF (by rw[OA (f:=eDig) (sz:=32)];exact hj2)]
  rw[MZ,MZ,CQ hj]at e1
  exact e1
 refine(AnyQ.slices_SortFunc_total Tryz.sortD 32 (fun w=>?_) (fun w=>Eg.run (inferInstance:Eg Tryz.prog 31 32 32) w) vDig FT (fun x v h=>(inferInstance:PA eDig vDig).one x v h) EW zK 61 #[] r 0 c l.toArray w (fun args w=>(inferInstance:B1 Tryz.prog 61).out args w) (lG (hi.sub (List.nil_sublist _)) k1 k2 k3) hH hlt (by simp;omega) ?_).mono ?_
 ·have hu:Tryz.prog.underlying 31=some (.array 32 5):=by kernel_rfl
  show(isAgg 31).run Tryz.prog w=_
  simp[isAgg,run_underlying hu]
 ·intro x y h1 h2
  unfold ltOf at h1 h2
  have h1:=Bf h1
  have h2:=Bf h2
  rcases Dig.tri x y with h'|h'|h'
  ·exact absurd h' h1
  ·exact h'
  ·exact absurd h' h2
 ·rintro e w' ⟨rfl,n,os,rfl⟩
  have hlen:(sortD l).length=l.length:=DZ _
  have hFs:(flatK vDig 32 (sortD l).toArray).toList=(sortD l).flatMap vDig:=Qm (by decide) FT (sortD l)
  have hFz:(flatK vDig 32 (sortD l).toArray).size=l.length*32:=by simp[hlen]
  have htk:=PO (cur:=cur) (flatK vDig 32 (sortD l).toArray) (by omega)
  have hrow:JI vDig 31 32 (.slice (some ⟨r,0,none⟩) (sortD l).length c) (sortD l) [.raw r (.cells (putCells id 0 (flatK vDig 32 (sortD l).toArray) cur) 31 (0,0))]:=by
   refine JI.mk (rest:=(putCells id 0 (flatK vDig 32 (sortD l).toArray) cur).toList.drop (l.length*32)) FT ?_ (by simp[putCells,hsz]) (by omega)
   rw[←hFs,←htk,hFz,CH]
  rw[hlen]at hrow
  refine⟨_,.raw (.tuple #[]),g,[.raw r (.cells (putCells id 0 (flatK vDig 32 (sortD l).toArray) cur) 31 (0,0))],rfl,.raw _,?_,⟨rfl,rfl,⟨rfl,mB _ _⟩,Nr n _ os,fun b hb hn=>Ft n _ os b hb (fun e=>hn (by rw[e];simp[Ak,Res.block])),.refl g,fun _ _ _=>⟨fun _=>rfl,rfl⟩⟩,fun b hb _=>by simpa [Ak,Res.block]using hb,_,rfl,hrow⟩
  exact(k5.laterBut k2 k3 k4 (fun k hk hn=>Ft n _ os k hk hn)).addRaw (PH k1 n _ os) k2 k3 k4
end Go.Proofs
namespace Go.Proofs
open Go Go.Q
attribute [local irreducible] Eb AV BG Fu
def eE (rs:List Rfc):List Dig:=(rs.filter fun r=>!decide (r.id.patch=Dig.zero)).map (·.id.patch)
theorem cB (a b:List Rfc):eE (a++b)=eE a++eE b:=by simp[eE]
theorem kx {rs:List Rfc} {j:Nat} (h:j < rs.length):eE (rs.take (j+1))=eE (rs.take j)++(if rs[j].id.patch=Dig.zero then []else [rs[j].id.patch]):=by
 rw[A6 h,cB]
 congr 1
 unfold eE
 by_cases e:rs[j].id.patch=Dig.zero<;>simp[e]
def kP (p:Pat):List Dig:=p.deps++p.changes.flatMap fun c=>eE (Ep c)
def nP (p:Pat):List Dig:=if(CN p).2≠0 then []else Kp (sortD (kP p))
theorem fu (p:Pat) [hs:Aw (E6 p=false)]:C6 Tryz.prog 20 [.agg (Bh p)] (.slice ((nP p).map eDig) .ro):=⟨by
 obtain⟨hg1,hg2,hg3,hg4,hg5⟩:=EY hs.out
 refine Av Tryz.func20 Tryz.ntmps20 rfl (rs:= [.tmp 2]) rfl rfl fun hb LF=>?_
 refine wf ?_
 refine AR (fun h1=>?_) (fun h1=>?_)
 ·refine wf ?_
  refine Ax (.ros ?_)
  rw[nP,if_pos h1];rfl
 refine wf ?_
 refine CK (xs:= [.tmp 12]) [] LF (f:=57) (cs:= []) (Bx _) rfl rfl (.refl _) _ (Oy p.deps .ro (by omega)) fun r L1 ⟨v0,hr,hv0⟩=>?_
 subst hr
 refine wf ?_
 refine wf ?_
 refine AZ (σ:=Nat × Value × List Dig × List Res) (fun k=>k.1≤p.changes.length∧k.2.2.1.length≤200+k.1*404∧k.2.2.1=p.deps++(p.changes.take k.1).flatMap (fun c=>eE (Ep c))∧V7 k.2.1 k.2.2.1 k.2.2.2) (fun k=>p.changes.length - k.1) (fun k=> [(3,.raw k.2.1),(15,.slice (p.changes.map eChg) .ro),(16,.raw (.int .i64 p.changes.length)),(17,.raw (.int .i64 k.1))]) (fun k=>k.2.2.2++LF) (0,v0,p.deps,L1) ⟨by simp,by simpa using hg3,by simp,hv0⟩ ⟨rfl,rfl,rfl,rfl⟩ (.refl _) ?_
 rintro⟨k,v,l,R⟩ ⟨hk,hlen,hl,hv⟩
 dsimp only at hk hlen hl hv
 refine wf ?_
 refine A7 (fun hc=>?_) (fun hc=>?_)
 ·have hlt:k < p.changes.length:=by omega
  have hov:=(hg5 _ (AG hlt)).over
  have i1:Aw (p.changes[k].over.length≤400):=⟨by omega⟩
  have hrl:=VY (c:=p.changes[k]) (by omega)
  refine wz fun b5=>?_
  refine Au 5 ?_
  refine wf ?_
  refine AZ (σ:=Nat × Value × List Dig × List Res) (fun j=>j.1≤(Ep p.changes[k]).length∧j.2.2.1.length≤200+k*404+j.1∧j.2.2.1=l++eE ((Ep p.changes[k]).take j.1)∧V7 j.2.1 j.2.2.1 j.2.2.2) (fun j=>(Ep p.changes[k]).length - j.1) (fun j=> [(3,.raw j.2.1),(15,.slice (p.changes.map eChg) .ro),(16,.raw (.int .i64 p.changes.length)),(17,.raw (.int .i64 k)),(22,.slice ((Ep p.changes[k]).map eRfc) .ro),(23,.raw (.int .i64 (Ep p.changes[k]).length)),(24,.raw (.int .i64 j.1))]) (fun j=>j.2.2.2++LF) (0,v,l,R) ⟨by simp,by simpa using hlen,by simp[eE],hv⟩ ⟨rfl,rfl,rfl,rfl,rfl,rfl,rfl⟩ (.refl _) ?_
  rintro⟨j,v1,l1,R1⟩ ⟨hj,hlen1,hl1,hv1⟩
  dsimp only at hj hlen1 hl1 hv1
  refine wf ?_
  refine A7 (fun hd=>?_) (fun hd=>?_)
  ·have hjt:j < (Ep p.changes[k]).length:=by omega
   have ht:=kx hjt
   refine wz fun b7=>?_
   refine Au 7 ?_
   refine wf ?_
   refine AR (fun h2=>?_) (fun h2=>?_)
   ·rw[if_neg h2]at ht
    refine wf ?_
    refine Ib (f:=eDig) (m:= [(Ep p.changes[k])[j].id.patch]) (R:=R1) (LF:=LF) (fun R'=>R'++LF) rfl rfl hv1 (.refl _) (fun R'=> .refl _) (by simp only[AN,Af];omega) (by simp only[AN,Af];omega) fun v2 R2 hv2=>?_
    refine wf ?_
    refine wf ?_
    refine⟨(j+1,v2,l1++ [(Ep p.changes[k])[j].id.patch],R2),⟨by dsimp only;omega,by simp only[AD,AN,Af];omega,?_,hv2⟩,by dsimp only;omega,⟨rfl,rfl,rfl,rfl,rfl,rfl,rfl⟩,.refl _⟩
    dsimp only
    rw[ht,←AX,hl1]
   ·rw[if_pos h2,BQ]at ht
    refine wf ?_
    refine⟨(j+1,v1,l1,R1),⟨by dsimp only;omega,by dsimp only;omega,?_,hv1⟩,by dsimp only;omega,⟨rfl,rfl,rfl,rfl,rfl,rfl,rfl⟩,.refl _⟩
    dsimp only
    rw[ht,hl1]
  ·rw[AA (by omega)]at hl1
   refine wf ?_
   refine⟨(k+1,v1,l1,R1),⟨by dsimp only;omega,by dsimp only;omega,?_,hv1⟩,by dsimp only;omega,⟨rfl,rfl,rfl,rfl⟩,.refl _⟩
   dsimp only
   rw[hl1,hl,A6 hlt,K0,AX]
   simp
 rw[AA (by omega)]at hl
 have hl':l=kP p:=hl
 have hsl:(sortD l).length=l.length:=DZ _
 refine wf ?_
 refine CK (xs:= [.tmp 40,.func 61]) R LF (f:=60) (cs:= []) (Bx _) rfl rfl (.refl _) _ (Sb l v R hv (by omega)) fun r L2 ⟨v2,e2,hv2⟩=>?_
 subst e2
 refine wf ?_
 refine wf ?_
 refine CK (xs:= [.tmp 42]) L2 LF (f:=62) (cs:= []) (Bx _) rfl rfl (.refl _) _ (Px (sortD l) v2 L2 hv2 (by omega)) fun r L3 ⟨hr,hL3⟩=>?_
 subst hr
 subst hL3
 refine wf ?_
 refine wf ?_
 refine Ax (.ros ?_)
 rw[nP,if_neg (by simp[h1]),←hl']⟩
end Go.Proofs
namespace Go.Proofs
open Go Go.Q Go.Sort
theorem KA (l:List Dig):(sortD l).Pairwise fun x y=> ¬Dig.lt y x:=by
 have h:=zB (le:=fun x y=>!(ltOf EW) y x) (fun a b c h1 h2=>by
  simp only[AH,ltOf,A8]at h1 h2 ⊢
  intro h3
  have h1: ¬Dig.lt b a:=h1
  have h2: ¬Dig.lt c b:=h2
  have h3:Dig.lt c a:=h3
  rcases Dig.tri a b with h|h|h
  ·exact h2 (Dig.lt_trans h3 h)
  ·subst h;exact h2 h3
  ·exact h1 h) (fun a b=>by
  simp only[qK,AH,ltOf,A8]
  by_cases h:Dig.lt b a
  ·exact .inr (Dig.lt_asymm h)
  ·exact .inl h) l
 refine h.imp fun {a b} hab=>?_
 simp only[AH,ltOf,A8]at hab
 exact hab
theorem Rv {l:List Dig} (h:l.Pairwise fun x y=> ¬Dig.lt y x): ∀ j,j≤l.length→Gi (Kp (l.take j))∧ ∀ d,d∈Kp (l.take j)↔d∈l.take j:=by
 intro j
 induction j with
 |zero=>intro _;exact⟨Gi.nil,fun d=>by simp[Kp]⟩
 |succ j ih=>
  intro hj
  obtain⟨i1,i2⟩:=ih (by omega)
  have hlt:j < l.length:=by omega
  by_cases h0:j=0
  ·subst h0
   have e:l.take 1= [l[0]]:=by
    rw[A6 hlt];rfl
   rw[e]
   exact⟨GD _ _,fun d=>Iff.rfl⟩
  rw[Qp (by omega) hlt]
  by_cases e:l[j]=l[j - 1]
  ·rw[if_pos e]
   refine⟨i1,fun d=>?_⟩
   rw[i2,A6 hlt]
   simp only[Ah,Ae]
   refine⟨.inl,fun h=>h.elim id fun h=>?_⟩
   rw[h,e]
   exact De.2 ⟨j - 1,by omega,rfl⟩
  ·rw[if_neg e]
   refine⟨?_,fun d=>?_⟩
   ·refine H8.2 ⟨i1,GD _ _,fun a ha b hb=>?_⟩
    rw[Ae.1 hb]
    obtain⟨i,hi,rfl⟩:=De.1 ((i2 a).1 ha)
    have hp:=B5.1 h
    have h3: ¬Dig.lt l[j] l[j - 1]:=hp (j - 1) j (by omega) hlt (by omega)
    have h4:Dig.lt l[j - 1] l[j]:=by
     rcases Dig.tri l[j - 1] l[j]with h'|h'|h'
     ·exact h'
     ·exact absurd h'.symm e
     ·exact absurd h' h3
    by_cases h5:i=j - 1
    ·subst h5;exact h4
    ·have h6: ¬Dig.lt l[j - 1] l[i]:=hp i (j - 1) (by omega) (by omega) (by omega)
     rcases Dig.tri l[i] l[j - 1]with h'|h'|h'
     ·exact Dig.lt_trans h' h4
     ·rw[h'];exact h4
     ·exact absurd h' h6
   ·rw[A6 hlt]
    simp only[Ah,i2]
theorem ta (l:List Dig):Gi (Kp (sortD l)):=by
 have:=(Rv (KA l) (sortD l).length (An _)).1
 rwa [EI]at this
theorem tZ (l:List Dig) (d:Dig):d∈Kp (sortD l)↔d∈l:=by
 have:=(Rv (KA l) (sortD l).length (An _)).2 d
 rw[EI]at this
 rw[this]
 exact cd
theorem Qb {l:List Ident} {d:Dig}:d∈FZ l↔ ∃ x∈l,x.patch≠Dig.zero∧x.patch=d:=by
 unfold FZ
 simp only[AQ,EE,AH,A8]
 constructor
 ·rintro⟨x,⟨h1,h2⟩,h3⟩;exact⟨x,h1,h2,h3⟩
 ·rintro⟨x,h1,h2,h3⟩;exact⟨x,⟨h1,h2⟩,h3⟩
theorem tz (rs:List Rfc):eE rs=FZ (rs.map Rfc.id):=by
 unfold eE FZ
 rw[List.filter_map,CU]
 rfl
theorem sJ {c:Chg} (h:C3 c=0):(¬(2≤c.kind∧c.kind≤6)→c.file=Ident.zero)∧(c.kind≠2→c.parent=Ident.zero)∧(¬(c.kind=5∨c.kind=6)→c.after=Ident.zero∧c.before=Ident.zero):=by
 unfold C3 at h
 split at h
 ·omega
 split at h
 ·omega
 rename_i h2
 simp only[Bool.not_eq_false,Fl,BP,AB]at h2
 obtain⟨⟨⟨⟨⟨⟨⟨⟨⟨a1,_⟩,a2⟩,_⟩,_⟩,_⟩,a3⟩,a4⟩,_⟩,_⟩:=h2
 refine⟨fun h=>?_,fun h=>?_,fun h=>⟨?_,?_⟩⟩
 ·have a:(if 2≤c.kind∧c.kind≤6 then Ident.zero else c.file)=Ident.zero:=a1
  rwa [if_neg h]at a
 ·have a:(if c.kind=2 then Ident.zero else c.parent)=Ident.zero:=a2
  rwa [if_neg h]at a
 ·have a:(if c.kind=5∨c.kind=6 then Ident.zero else c.after)=Ident.zero:=a3
  rwa [if_neg h]at a
 ·have a:(if c.kind=5∨c.kind=6 then Ident.zero else c.before)=Ident.zero:=a4
  rwa [if_neg h]at a
theorem Yh {c:Chg} (h:C3 c=0) (d:Dig):d∈eE (Ep c)↔d∈FZ (KY c):=by
 obtain⟨u1,u2,u3⟩:=sJ h
 have hz:Ident.zero.patch=Dig.zero:=rfl
 rw[tz,Qb,Qb]
 have key: ∀ x:Ident,x.patch≠Dig.zero→(x∈(Ep c).map Rfc.id↔x∈KY c):=fun x hx=>by
  have hk:=Mq h
  have e4: ∀ l:List Ident,(NS c l).map Rfc.id=l:=fun l=>by
   rw[NS,CU]
   show l.map (fun x=>x)=l
   simp
  unfold Ep KY
  simp only[Al,e4,Ah,AF,Aa,or_false]
  have n1:x=Ident.zero→False:=fun e=>hx (by rw[e];rfl)
  have n2:x=⟨Dig.zero,-1⟩→False:=fun e=>hx (by rw[e])
  rcases kinds hk with k|k|k|k|k|k|k<;>simp only[Hl,KV,PK,k]at u1 u2 u3 ⊢ <;>simp<;>grind
 constructor
 ·rintro⟨x,h1,h2,h3⟩;exact⟨x,(key x h2).1 h1,h2,h3⟩
 ·rintro⟨x,h1,h2,h3⟩;exact⟨x,(key x h2).2 h1,h2,h3⟩
theorem NU: ∀ (l:List Chg) (own:List Atm),(DC l own).2=0→ ∀ c∈l,C3 c=0
 | [],_,_,c,hc=>by cases hc
 |x::l,own,h,c,hc=>by
  rw[DC]at h
  split at h
  ·rename_i h1;exact absurd h h1
  rename_i h1
  split at h
  ·rename_i h2;exact absurd h h2
  rcases AF.1 hc with rfl|hc
  ·simpa using h1
  ·exact NU l _ h c hc
theorem ME: ∀ (cs:List Chg) (m:List Dig) (d:Dig),d∈cs.foldl Oi m↔d∈m∨ ∃ c∈cs,d∈FZ (KY c)
 | [],m,d=>by simp
 |c::cs,m,d=>by
  rw[Br,ME cs,Oi,Fx]
  simp only[AF,exists_eq_or_imp,or_assoc]
theorem Rb: ∀ (cs:List Chg) (m:List Dig),Gi m→Gi (cs.foldl Oi m)
 | [],m,h=>h
 |c::cs,m,h=>Rb cs _ (Eu h)
theorem xL (p:Pat):nP p=BB p:=by
 unfold nP BB
 by_cases h:(CN p).2≠0
 ·rw[if_pos h,if_pos h]
 rw[if_neg h,if_neg h]
 have h0:(CB p).2=0:=by
  by_cases h1:(CB p).2≠0
  ·rw[CN,if_pos h1]at h;exact absurd h1 h
  ·simpa using h1
 have hF: ∀ c∈p.changes,C3 c=0:=by
  rw[IX]at h0
  split at h0
  ·rename_i h1;exact absurd h0 h1
  ·exact NU _ _ h0
 refine Gi.ext (ta _) (Rb _ _ (Eu Gi.nil)) fun d=>?_
 rw[tZ,ME,Fx,kP]
 simp only[Ah,List.mem_flatMap,Aa,false_or]
 constructor
 ·rintro(h|⟨c,hc,h⟩)
  ·exact .inl h
  ·exact .inr ⟨c,hc,(Yh (hF c hc) d).1 h⟩
 ·rintro(h|⟨c,hc,h⟩)
  ·exact .inl h
  ·exact .inr ⟨c,hc,(Yh (hF c hc) d).2 h⟩
instance vm (p:Pat) [hs:Aw (E6 p=false)]:C6 Tryz.prog 20 [.agg (Bh p)] (.slice ((BB p).map eDig) .ro):=xL p ▸ fu p
end Go.Proofs
namespace Go.Proofs
open Go Go.Q
attribute [local irreducible] Eb AV BG Fu
def gr (s:List Sto):List (Dig × List Dig):=s.foldl (fun m x=>Db x.id (BB x.patch) m) []
theorem dv {s:List Sto} {k:Nat} (h:k < s.length):gr (s.take (k+1))=Db s[k].id (BB s[k].patch) (gr (s.take k)):=by
 rw[A6 h,gr,Bk];rfl
instance tk (s:List Sto) (t:C9) [hs:Aw (GQ s)]:C6 Tryz.prog 78 [.slice (s.map eSto) t] (.fmap (BZ kDig (K1 eDig) (gr s))):=⟨by
 have hs:=hs.out
 refine Av Tryz.func78 Tryz.ntmps78 rfl (rs:= [.tmp 2]) rfl rfl fun hb LF=>?_
 refine zF fun b=>?_
 refine AZ (σ:=Nat) (fun k=>k≤s.length) (fun k=>s.length - k) (fun k=> [(3,.raw (.map (some b))),(7,.slice (s.map eSto) t),(8,.raw (.int .i64 s.length)),(9,.raw (.int .i64 k))]) (fun k=> .map b (BZ kDig (K1 eDig) (gr (s.take k)))::LF) 0 (by simp) ⟨rfl,rfl,rfl,rfl⟩ (.refl _) ?_
 intro k hk
 refine wf ?_
 refine A7 (fun hc=>?_) (fun hc=>?_)
 ·have hlt:k < s.length:=by omega
  have h8:=hs.1
  have:Aw (E6 s[k].patch=false):=⟨hs.2 _ (AG hlt)⟩
  refine wz fun b5=>?_
  refine Au 5 ?_
  refine wn ?_
  refine Bb 6 ?_ ?_
  ·decide+kernel
  refine wf ?_
  refine⟨k+1,by omega,by dsimp only;omega,⟨rfl,rfl,rfl,rfl⟩,?_⟩
  dsimp only
  rw[dv hlt]
  exact .refl _
 ·refine Gl ?_
  rw[AA (by omega)]
  refine O5 [(3,.fmap (BZ kDig (K1 eDig) (gr s)))] (.inr ⟨rfl,rfl⟩) (.refl _) ?_
  refine wf ?_
  exact Ax (.refl _)⟩
def Kr (out l:List Dig):List Dig:=l.foldl (fun o d=>if d∈o then o else o++ [d]) out
theorem gk {out l:List Dig} {k:Nat} (h:k < l.length):Kr out (l.take (k+1))=if l[k]∈Kr out (l.take k)then Kr out (l.take k)else Kr out (l.take k)++ [l[k]]:=by
 rw[A6 h,Kr,Bk];rfl
theorem lg (out:List Dig): ∀ l:List Dig,(Kr out l).length≤out.length+l.length:=by
 intro l
 induction l generalizing out with
 |nil=>simp[Kr]
 |cons x l ih=>
  have:=ih (if x∈out then out else out++ [x])
  rw[Kr,Br]
  refine CT this ?_
  split<;>simp<;>omega
def WI (met:List (Dig × Bool)) (out:List Dig):Prop:= ∀ d,(CZ d met).getD false=decide (d∈out)
theorem WI.add {met:List (Dig × Bool)} {out:List Dig} (h:WI met out) (d:Dig):WI (Db d true met) (out++ [d]):=fun x=>by
 rw[HS]
 by_cases e:x=d
 ·subst e;simp
 ·rw[if_neg e,h x];simp[e]
def qC (b6 m b7:Nat) (out:List Dig) (L:List Res):Prop:= ∃ met v R,WI met out∧V7 v out R∧L= .box b6 121 [.raw (.map (some m))]:: .map m (BZ kDig vBool met):: .box b7 24 [.raw v]::R
theorem Dz {a b c:Res} {L LF:List Res}:(a::b::c::(L++LF)).Perm (L++(a::b::c::LF)):=((BU (l₁:=L)).trans (.cons a ((BU (l₁:=L)).trans (.cons b BU)))).symm
def P8 (G:List (Dig × List Dig)) (l:List Dig):Bool:=l.all fun d=>(CZ d G).isSome
theorem eN (G:List (Dig × List Dig)) (l:List Dig) (t:C9) (b6 m b7:Nat) (out:List Dig) (L:List Res) (hL:qC b6 m b7 out L) (hb:out.length+l.length≤1000):
  BG Tryz.prog 160 [.slice (l.map eDig) t,.pt [.fmap (BZ kDig (K1 eDig) G)] 0,.raw (.pointer (some ⟨b6,0,none⟩)),.raw (.pointer (some ⟨b7,0,none⟩))] L (fun r L'=>r= .raw (.bool (P8 G l))∧ ∃ out',qC b6 m b7 out' L'∧(P8 G l=true→out'=Kr out l)):=by
 refine C7 Tryz.func160 rfl Tryz.ntmps160 (rs:= [.tmp 5]) rfl rfl fun hbd LF=>?_
 refine wf ?_
 refine AZ (σ:=Nat × List Res) (fun k=>k.1≤l.length∧(∀ i (h:i < l.length),i < k.1→(CZ l[i] G).isSome=true)∧qC b6 m b7 (Kr out (l.take k.1)) k.2) (fun k=>l.length - k.1) (fun k=> [(1,.pt [.fmap (BZ kDig (K1 eDig) G)] 0),(2,.raw (.pointer (some ⟨b6,0,none⟩))),(3,.raw (.pointer (some ⟨b7,0,none⟩))),(10,.slice (l.map eDig) t),(11,.raw (.int .i64 l.length)),(12,.raw (.int .i64 k.1))]) (fun k=>k.2++LF) (0,L) ⟨by simp,by simp,hL⟩ ⟨rfl,rfl,rfl,rfl,rfl,rfl⟩ (.refl _) ?_
 rintro⟨k,L1⟩ ⟨hk,hall,met,v,R,hm,hv,rfl⟩
 dsimp only at hk hall hm hv ⊢
 refine wf ?_
 refine A7 (fun hc=>?_) (fun hc=>?_)
 ·have hlt:k < l.length:=by omega
  refine wz fun b=>?_
  refine Au 7 ?_
  refine wf ?_
  refine AO (fun h=>?_) (fun h=>?_)
  ·have h0:(CZ l[k] G).isSome=false:=by simpa using h
   have hA:P8 G l=false:=by
    unfold P8
    exact FK.2 ⟨l[k],AG hlt,by simp[h0]⟩
   refine wf ?_
   exact⟨trivial,_,_,.cons (.tmp 5) .nil,.refl _,by rw[hA];exact rfl,_,⟨met,v,R,hm,hv,rfl⟩,fun h=>by rw[hA]at h;cases h⟩
  have hi:(CZ l[k] G).isSome=true:=by simpa using h
  have hall': ∀ i (h:i < l.length),i < k+1→(CZ l[i] G).isSome=true:=fun i hi' hik=>by
   rcases BJ i k with h'|h'
   ·exact hall i hi' h'
   ·have e:i=k:=by omega
    subst e;exact hi
  refine wf ?_
  have hml:=hm l[k]
  have ht:=gk (out:=out) hlt
  refine AO (fun h=>?_) (fun h=>?_)
  ·have hno:l[k]∉Kr out (l.take k):=by
    rw[hml]at h;simpa using h
   rw[if_neg hno]at ht
   have hol:=lg out (l.take k)
   rw[Ab]at hol
   refine wf ?_
   refine Sw (κ:=Dig) (ek:=kDig) (ev:=vBool) (k0:=l[k]) (x0:=true) (L':= .box b6 121 [.raw (.map (some m))]:: .box b7 24 [.raw v]::(R++LF)) rfl (.swap _ _ _) (.refl _) (.refl _) ?_
   refine AE ?_
   refine EO (.swap _ _ _) ?_
   refine wf ?_
   refine Ib (f:=eDig) (m:= [l[k]]) (R:=R) (LF:= .box b6 121 [.raw (.map (some m))]:: .map m (BZ kDig vBool (Db l[k] true met)):: .box b7 24 [.raw v]::LF) (fun R'=> .box b6 121 [.raw (.map (some m))]:: .map m (BZ kDig vBool (Db l[k] true met)):: .box b7 24 [.raw v]::(R'++LF)) rfl rfl hv Dz (fun R'=>Dz.symm) (by simp only[AN,Af];omega) (by simp only[AN,Af];omega) fun v2 R2 hv2=>?_
   refine wf ?_
   refine Hh [.raw v2] rfl rfl hv2.one rfl (by simp) ?_
   refine wf ?_
   refine wf ?_
   refine⟨(k+1,_),⟨by dsimp only;omega,hall',Db l[k] true met,v2,R2,?_,?_,rfl⟩,by dsimp only;omega,⟨rfl,rfl,rfl,rfl,rfl,rfl⟩,.refl _⟩
   ·dsimp only;rw[ht];exact hm.add _
   ·dsimp only;rw[ht];exact hv2
  ·have hyes:l[k]∈Kr out (l.take k):=by
    rw[hml]at h;simpa using h
   rw[if_pos hyes]at ht
   refine wf ?_
   exact⟨(k+1,_),⟨by dsimp only;omega,hall',met,v,R,by dsimp only;rw[ht];exact hm,by dsimp only;rw[ht];exact hv,rfl⟩,by dsimp only;omega,⟨rfl,rfl,rfl,rfl,rfl,rfl⟩,.refl _⟩
 ·have hA:P8 G l=true:=by
   unfold P8
   refine BH.2 fun d hd=>?_
   obtain⟨i,hi,rfl⟩:=Ai.1 hd
   exact hall i hi (by omega)
  refine wf ?_
  rw[AA (by omega)]at hm hv
  exact⟨trivial,_,_,.cons (.tmp 5) .nil,.refl _,by rw[hA];exact rfl,_,⟨met,v,R,hm,hv,rfl⟩,fun _=>rfl⟩
end Go.Proofs
namespace Go.Proofs
open Go Go.Q
def ndG (G:List (Dig × List Dig)) (d:Dig):List Dig:=(CZ d G).getD []
theorem S0 (out:List Dig) (x:Dig) (l:List Dig):Kr out (x::l)=Kr (if x∈out then out else out++ [x]) l:=rfl
theorem Kf: ∀ {l out:List Dig} {d:Dig},d∈Kr out l↔d∈out∨d∈l
 | [],out,d=>by simp[Kr]
 |x::l,out,d=>by
  rw[S0,Kf]
  split
  ·rename_i h
   constructor
   ·rintro(h1|h1)
    ·exact .inl h1
    ·exact .inr (AL _ h1)
   ·rintro(h1|h1)
    ·exact .inl h1
    ·rcases AF.1 h1 with rfl|h1
     ·exact .inl h
     ·exact .inr h1
  ·simp[or_assoc]
theorem Q1: ∀ {l out:List Dig},out.Nodup→(Kr out l).Nodup
 | [],_,h=>h
 |x::l,out,h=>by
  rw[S0]
  refine Q1 ?_
  split
  ·exact h
  ·rename_i hx
   refine H8.2 ⟨h,GD _ _,fun a ha b hb=>?_⟩
   rw[Ae.1 hb]
   rintro rfl
   exact hx ha
theorem OT: ∀ {l out:List Dig},out <+:Kr out l
 | [],_=>List.prefix_refl _
 |x::l,out=>by
  rw[S0]
  refine List.IsPrefix.trans ?_ OT
  split
  ·exact List.prefix_refl _
  ·exact List.prefix_append _ _
structure ly (nd:Dig→List Dig) (l out:List Dig) (i:Nat):Prop where
 nodup:out.Nodup
 sub: ∀ d∈l,d∈out
 reach: ∀ d∈out,Q.Reach nd l d
 done: ∀ j (h:j < out.length),j < i→ ∀ d∈nd out[j],d∈out
theorem ly.start (nd:Dig→List Dig) (l:List Dig):ly nd l (Kr [] l) 0:=
 ⟨Q1 .nil,fun d hd=>Kf.2 (.inr hd),fun d hd=> .base ((Kf.1 hd).elim (fun h=>absurd h (by simp)) id),fun _ _ h=>absurd h (by omega)⟩
theorem ly.step {nd:Dig→List Dig} {l out:List Dig} {i:Nat} (h:ly nd l out i) (hi:i < out.length):ly nd l (Kr out (nd out[i])) (i+1):=by
 refine⟨Q1 h.nodup,fun d hd=>Kf.2 (.inl (h.sub d hd)),fun d hd=>?_,fun j hj hji d hd=>?_⟩
 ·rcases Kf.1 hd with h1|h1
  ·exact h.reach d h1
  ·exact .step (h.reach _ (AG hi)) h1
 ·have hjo:j < out.length:=by omega
  have e:(Kr out (nd out[i]))[j]=out[j]:=(OT.getElem hjo).symm
  rw[e]at hd
  by_cases hj2:j < i
  ·exact Kf.2 (.inl (h.done j hjo hj2 d hd))
  ·have hje:j=i:=by omega
   subst hje
   exact Kf.2 (.inr hd)
theorem ly.fin {nd:Dig→List Dig} {l out:List Dig} {i:Nat} (h:ly nd l out i) (hi:out.length≤i) (d:Dig):d∈out↔Q.Reach nd l d:=by
 refine⟨h.reach d,fun hr=>?_⟩
 induction hr with
 |base hd=>exact h.sub _ hd
 |step _ hd ih=>
  obtain⟨j,hj,rfl⟩:=Ai.1 ih
  exact h.done j hj (by omega) _ hd
theorem ly.len {nd:Dig→List Dig} {l out U:List Dig} {i:Nat} (h:ly nd l out i) (hU: ∀ x∈U,∀ d∈nd x,d∈U) (hl: ∀ d∈l,d∈U):out.length≤U.length:=
 FE h.nodup fun d hd=>(h.reach d hd).in_ hU hl
theorem ez {l:List Dig} (h:l.Nodup):Gi (sortD l):=by
 have h2:(sortD l).Nodup:=(List.mergeSort_perm l _).nodup_iff.2 h
 refine B5.2 fun i j hi hj hij=>?_
 have a:=B5.1 (KA l) i j hi hj hij
 have b:=B5.1 h2 i j hi hj hij
 rcases Dig.tri (sortD l)[i] (sortD l)[j]with h'|h'|h'
 ·exact h'
 ·exact absurd h' b
 ·exact absurd h' a
theorem VL {l:List Dig} {d:Dig}:d∈sortD l↔d∈l:=cd
theorem rA: ∀ (s:List Sto) (m:List (Dig × List Dig)) (d:Dig),(CZ d (s.foldl (fun m x=>Db x.id (BB x.patch) m) m)).isSome=(decide (d∈ids s)||(CZ d m).isSome)
 | [],m,d=>by simp[ids]
 |x::s,m,d=>by
  rw[Br,rA s,HS]
  by_cases e:d=x.id<;>simp[ids,e]
theorem ki: ∀ (s:List Sto) (m:List (Dig × List Dig)) (d:Dig) (r:List Dig),CZ d (s.foldl (fun m x=>Db x.id (BB x.patch) m) m)=some r→(∃ x∈s,x.id=d∧r=BB x.patch)∨CZ d m=some r
 | [],m,d,r,h=> .inr h
 |x::s,m,d,r,h=>by
  rw[Br]at h
  rcases ki s _ d r h with ⟨y,hy,h1,h2⟩|h1
  ·exact .inl ⟨y,AL _ hy,h1,h2⟩
  ·rw[HS]at h1
   split at h1
   ·rename_i e
    exact .inl ⟨x,AI,e.symm,(Cr h1).symm⟩
   ·exact .inr h1
theorem XQ (s:List Sto) (d:Dig):(CZ d (gr s)).isSome=decide (d∈ids s):=by
 rw[gr,rA];simp[CZ]
theorem Bc.ndG {s:List Sto} (v:Bc s):Go.Proofs.ndG (gr s)=Go.Proofs.ndS s:=by
 funext d
 have h1:=XQ s d
 unfold Go.Proofs.ndG
 cases hg:CZ d (gr s)with
 |none=>
  rw[hg]at h1
  have hd: ¬d∈ids s:=by simpa using h1
  have hn:Go.Proofs.getS s d=none:=by
   cases hs:Go.Proofs.getS s d with
   |none=>rfl
   |some p=>
    obtain⟨x,hx,e,_⟩:=Jg hs
    exact absurd (AQ.2 ⟨x,hx,e⟩) hd
  rw[Go.Proofs.ndS,hn,NN,NN,Tk]
 |some r=>
  rcases ki s [] d r hg with ⟨x,hx,e,rfl⟩|h2
  ·subst e
   rw[v.ndS hx];rfl
  ·simp[CZ]at h2
attribute [local irreducible] Eb AV BG Fu
def clG (G:List (Dig × List Dig)) (U l:List Dig):List Dig × Bool:=if P8 G l=false then([],false)else(K4 (ndG G) U.length (DI [] l),true)
structure lu (G:List (Dig × List Dig)) (U:List Dig):Prop where
 is: ∀ d,(CZ d G).isSome=decide (d∈U)
 len:U.length≤200
 cl: ∀ x∈U,∀ d∈ndG G x,d∈U
 nd: ∀ x,(ndG G x).length≤400
theorem lu.all {G:List (Dig × List Dig)} {U l:List Dig} (h:lu G U):P8 G l=true↔ ∀ d∈l,d∈U:=by
 unfold P8
 rw[BH]
 exact⟨fun k d hd=>by have:=k d hd;rw[h.is]at this;exact Az this,fun k d hd=>by rw[h.is];exact BO (k d hd)⟩
theorem mf:Ck Tryz.prog 24 [.raw (.slice none 0 0)]:=Nk (v:= .slice none 0 0) (by kernel_rfl) rfl fun _=> .raw _
theorem TC (G:List (Dig × List Dig)) (U:List Dig) (hG:lu G U) (l:List Dig) (t:C9) (hl:l.length≤400):C6 Tryz.prog 108 [.fmap (BZ kDig (K1 eDig) G),.slice (l.map eDig) t] (.tuple [.slice ((clG G U l).1.map eDig) .ro,.raw (.bool (clG G U l).2)]):=⟨by
 refine Av Tryz.func108 Tryz.ntmps108 rfl (rs:= [.tmp 4,.tmp 5]) rfl rfl fun hb LF=>?_
 refine wf ?_
 refine Rk fun m=>?_
 refine Bw fun b6=>?_
 refine wf ?_
 refine Bw (hZ:=mf) fun b7=>?_
 refine wf ?_
 refine CK (xs:= [.tmp 13]) [.box b6 121 [.raw (.map (some m))],.map m (BZ kDig vBool []),.box b7 24 [.raw (.slice none 0 0)]] LF (f:=160) (cs:= [.pt [.fmap (BZ kDig (K1 eDig) G)] 0,.raw (.pointer (some ⟨b6,0,none⟩)),.raw (.pointer (some ⟨b7,0,none⟩))]) (.refl _) rfl rfl (BU (l₁:= [_,_])).symm _ (eN G l t b6 m b7 [] _ ⟨[],.slice none 0 0,[],fun d=>by simp[CZ],.nil none (by simp),rfl⟩ (by simp;omega)) fun r L1 ⟨hr,out0,hC,ho⟩=>?_
 subst hr
 refine wf ?_
 refine AO (fun h=>?_) (fun h=>?_)
 ·have h0:P8 G l=false:=by simpa using h
  refine wf ?_
  refine H2 (hs:=DE _ _) ?_
  rw[clG,if_pos h0]
  exact .tuple2 (.ro _ _) (.refl _)
 have h1:P8 G l=true:=by simpa using h
 have hlU:=hG.all.1 h1
 rw[clG,if_neg (by simp[h1])]
 have ho:=ho h1
 subst ho
 refine wf ?_
 refine AZ (σ:=Nat × List Dig × List Res) (fun k=>k.1≤k.2.1.length∧ly (ndG G) l k.2.1 k.1∧qC b6 m b7 k.2.1 k.2.2) (fun k=>U.length - k.1) (fun k=> [(2,.pt [.fmap (BZ kDig (K1 eDig) G)] 0),(7,.raw (.pointer (some ⟨b7,0,none⟩))),(8,.clo 160 [.pt [.fmap (BZ kDig (K1 eDig) G)] 0,.raw (.pointer (some ⟨b6,0,none⟩)),.raw (.pointer (some ⟨b7,0,none⟩))]),(9,.raw (.int .i64 k.1))]) (fun k=>k.2.2++LF) (0,Kr [] l,L1) ⟨by simp,ly.start _ _,hC⟩ ⟨rfl,rfl,rfl,rfl⟩ (.refl _) ?_
 rintro⟨k,out,L2⟩ ⟨hk,hI,met,v,R,hm,hv,rfl⟩
 dsimp only at hk hI hm hv ⊢
 have hol:=hI.len hG.cl hlU
 have hUl:=hG.len
 obtain⟨o,c,rfl⟩:=hv.slice
 refine wf ?_
 refine Ia rfl ?_
 refine wf ?_
 refine A7 (fun hc=>?_) (fun hc=>?_)
 ·have hlt:k < out.length:=by omega
  have hne:out≠ []:=fun e=>by subst e;simp at hlt
  obtain⟨_,r,cur,rest,rfl,rfl,hcur,hsz,hlc⟩:=hv.inv hne
  refine wn ?_
  refine Bb 7 ?_ ?_
  ·decide+kernel
  refine wf ?_
  refine Dh (k:=k) rfl rfl hlt ?_
  refine Od (f:=eDig) (a0:=out[k]) rfl (Dk _ (AL _ (AL _ (AL _ AI)))) (by rw[hcur,BN];exact Pb FT out k hlt rest) (by omega) ?_
  refine wf ?_
  have hin:out[k]∈U:=(hI.reach _ (AG hlt)).in_ hG.cl hlU
  have hA:P8 G (ndG G out[k])=true:=hG.all.2 (hG.cl _ hin)
  have hnd:=hG.nd out[k]
  refine CK (xs:= [.tmp 28]) (.box b6 121 [.raw (.map (some m))]:: .map m (BZ kDig vBool met):: .box b7 24 [.raw (.slice (some ⟨r,0,none⟩) out.length c)]:: [.raw r (.cells cur 31 (0,0))]) LF (f:=160) (cs:= [.pt [.fmap (BZ kDig (K1 eDig) G)] 0,.raw (.pointer (some ⟨b6,0,none⟩)),.raw (.pointer (some ⟨b7,0,none⟩))]) (.refl _) rfl rfl (.refl _) _ (eN G (ndG G out[k]) .ro b6 m b7 out _ ⟨met,_,_,hm,hv,rfl⟩ (by omega)) fun r L3 ⟨hr,out1,hC1,ho1⟩=>?_
  have ho1:=ho1 hA
  subst ho1
  refine wf ?_
  refine wf ?_
  have hpl:=(OT (out:=out) (l:=ndG G out[k])).length_le
  exact⟨(k+1,Kr out (ndG G out[k]),L3),⟨by dsimp only;omega,hI.step hlt,hC1⟩,by dsimp only;omega,⟨rfl,rfl,rfl,rfl⟩,.refl _⟩
 have hfin:=hI.fin (by omega)
 have hmx:(sortD out).length≤maxN∧(sortD out).length*32≤maxN:=by
  have:maxN=140737488355328:=rfl
  have h2:(sortD out).length=out.length:=DZ _
  omega
 refine wf ?_
 refine CK (xs:= [.tmp 30,.func 61]) R (.box b6 121 [.raw (.map (some m))]:: .map m (BZ kDig vBool met):: .box b7 24 [.raw (.slice o out.length c)]::LF) (f:=60) (cs:= []) (Bx _) rfl rfl Dz _ (Sb out _ R hv (by omega)) fun r L3 ⟨v2,e2,hv2⟩=>?_
 subst e2
 refine AE ?_
 refine EO Dz.symm ?_
 refine DP ?_
 refine CC (by kernel_rfl) ?_
 refine wo ?_
 refine AE ?_
 refine Gu (f:=eDig) 4 hv2 hmx Dz rfl ?_
 refine wf ?_
 refine H2 ?_
 have e:sortD out=K4 (ndG G) U.length (DI [] l):=by
  refine Gi.ext (ez hI.nodup) (Ov (Eu .nil)) fun d=>?_
  rw[VL,hfin]
  exact(MF hG.cl hlU (An _)).symm
 rw[e]
 exact .refl _⟩
theorem J8 (p:Pat):Gi (BB p):=by
 unfold BB
 split
 ·exact .nil
 ·exact Rb _ _ (Eu .nil)
theorem oW (s:List Sto) (d:Dig):Gi (ndS s d):=J8 _
theorem Bc.grOk {s:List Sto} (v:Bc s):lu (gr s) (ids s):=by
 have h8:=v.close.1.1
 refine⟨XQ s,by rw[HT];omega,fun x _ d hd=>?_,fun x=>?_⟩
 ·rw[v.ndG]at hd
  exact v.close.nd x d hd
 ·rw[v.ndG]
  have:=v.close.small (oW s x) (v.close.nd x)
  omega
theorem Bc.clG {s:List Sto} (v:Bc s) (l:List Dig):(Go.Proofs.clG (gr s) (ids s) l).1=(DN s l).1∧(DN s l).2=if(Go.Proofs.clG (gr s) (ids s) l).2=false then 7 else 0:=by
 have h1:P8 (gr s) l=CW (ids s) l:=by
  unfold P8 CW
  congr 1
  funext d
  exact XQ s d
 unfold Go.Proofs.clG DN
 rw[h1,v.ndG,HT]
 split<;>simp
instance aL (s:List Sto) (l:List Dig) (t u:C9) [hs:Aw (Bc s)] [hl:Aw (l.length≤400)]:C6 Tryz.prog 46 [.slice (s.map eSto) t,.slice (l.map eDig) u] (.tuple [.slice ((DN s l).1.map eDig) .ro,.raw (.int .i64 (DN s l).2)]):=⟨by
 have v:=hs.out
 have i1:Aw (GQ s):=⟨v.close.1⟩
 have i2:=fun t=>TC (gr s) (ids s) v.grOk l t hl.out
 refine Av Tryz.func46 Tryz.ntmps46 rfl (rs:= [.tmp 4,.tmp 5]) rfl rfl fun hb LF=>?_
 obtain⟨e1,e2⟩:=v.clG l
 refine wf ?_
 refine AO (fun h=>?_) (fun h=>?_)
 ·have h0:(clG (gr s) (ids s) l).2=false:=by simpa using h
  rw[if_pos h0]at e2
  have e3:(DN s l).1= []:=by
   unfold DN at e2 ⊢
   split
   ·rfl
   ·rename_i h3
    rw[if_neg h3]at e2
    simp at e2
  refine wf ?_
  refine H2 ?_
  rw[e2,e3]
  exact .tuple2 (.ro _ _) (.refl _)
 ·have h0:(clG (gr s) (ids s) l).2=true:=by simpa using h
  rw[h0]at e2
  simp at e2
  refine wf ?_
  refine H2 ?_
  rw[e2,←e1]
  exact .refl _⟩
def cm (l:List Dig):List (Dig × Bool):=l.foldl (fun m x=>Db x true m) []
def cM (s l:List Sto):List (Dig × List (Dig × Bool)):=l.foldl (fun m x=>Db x.id (cm (Py s x.id)) m) []
def zX (s:List Sto):List PV:= [.slice (s.map eSto) .ro]++ [.fmap (BZ kDig (zG kDig vBool) (cM s s))]
@[simp] theorem xU (s:List Sto):(zX s).length=2:=rfl
instance zN {a b c:PV}:FA [a,b] 0 [c] [c,b]:=DV (a:= [a]) (b:= [b]) (new:= [c]) rfl
instance zM {a b c:PV}:FA [a,b] 1 [c] [a,c]:=Ag (a:= [a]) (n:=1) (off:=0) rfl (Kb (a:= [b]) (new:= [c]) rfl)
instance {b:Option Nat}:EA (.raw (.map b)) [.raw (.map b)]:=⟨.one (Dn.out)⟩
attribute [local irreducible] NK
end Go.Proofs
namespace Go.Proofs
open Go Go.Q
attribute [local irreducible] Eb AV BG Fu
def om (l:List Dig) (d:Dig):Int:=if d∈l then(l.idxOf d:Int)else -1
theorem ZZ {l:List Dig} {d:Dig} {k:Nat} (hk:k < l.length) (hn:d∉l.take k) (e:d=l[k]):l.idxOf d=k:=by
 induction l generalizing k with
 |nil=>simp at hk
 |cons x l ih=>
  cases k with
  |zero=>simp at e;subst e;simp
  |succ k=>
   simp only[P2,AF,not_or]at hn
   have:=ih (k:=k) (by simpa using hk) hn.2 (by simpa using e)
   rw[List.idxOf_cons,beq_eq_false_iff_ne.2 (Ne.symm hn.1),cond_false,this]
instance vq (l:List Dig) (d:Dig) (t:C9):C6 Tryz.prog 77 [.slice (l.map eDig) t,.agg (eDig d)] (.raw (.int .i64 (om l d))):=⟨by
 refine Av Tryz.func77 Tryz.ntmps77 rfl (rs:= [.tmp 4]) rfl rfl fun hb LF=>?_
 have hlen:l.length≤140737488355328:=(hb (.slice (l.map eDig) t) (by simp)).slice_map
 refine wf ?_
 refine AZ (σ:=Nat) (fun k=>k≤l.length∧d∉l.take k) (fun k=>l.length - k) (fun k=> [(0,.slice (l.map eDig) t),(3,.pt (eDig d) 0),(7,.raw (.int .i64 l.length)),(8,.raw (.int .i64 k))]) (fun _=>LF) 0 ⟨by simp,by simp⟩ ⟨rfl,rfl,rfl,rfl⟩ (.refl _) ?_
 rintro k ⟨hk,hn⟩
 refine wf ?_
 refine A7 (fun hc=>?_) (fun hc=>?_)
 ·have hlt:k < l.length:=by omega
  refine wf ?_
  refine A7 (fun h=>?_) (fun h=>?_)
  ·refine wf ?_
   refine Ax (.of_eq ?_)
   rw[om,if_pos (h ▸ AG hlt),ZZ hlt hn h]
  ·refine wf ?_
   refine⟨k+1,⟨by omega,?_⟩,by dsimp only;omega,⟨rfl,rfl,rfl,rfl⟩,.refl _⟩
   rw[A6 hlt,Ah,Ae]
   rintro(h'|h')
   ·exact hn h'
   ·exact h h'
 ·refine wf ?_
  refine Ax (.of_eq ?_)
  rw[AA (by omega)]at hn
  rw[om,if_neg hn]⟩
instance qB (l:List Dig) (d:Dig) (t:C9):C6 Tryz.prog 26 [.slice (l.map eDig) t,.agg (eDig d)] (.raw (.bool (decide (d∈l)))):=⟨by
 refine Av Tryz.func26 Tryz.ntmps26 rfl (rs:= [.tmp 4]) rfl rfl fun hb LF=>?_
 refine wf ?_
 refine Ax (.of_eq ?_)
 by_cases h:d∈l<;>simp[om,h]⟩
end Go.Proofs
namespace Go.Proofs
open Go Go.Q
attribute [local irreducible] Eb AV BG Fu
def Fo {α:Type} (p:α→Bool) (l:List α):Int:=if l.any p=true then(l.findIdx p:Int)else -1
theorem JV {α:Type} {p:α→Bool} {l:List α} {k:Nat} (hk:k < l.length) (hn:(l.take k).any p=false) (e:p l[k]=true):l.findIdx p=k:=by
 refine qG hk |>.2 ⟨e,fun j hj=>?_⟩
 have:=Bl.1 hn (l[j]) (De.2 ⟨j,by omega,rfl⟩)
 simpa using this
theorem gD (F:Nat) (cs:List PV) (p:Dig→Bool) [hF:B1 Tryz.prog F] [hp: ∀ d,C6 Tryz.prog F (.agg (eDig d)::cs) (.raw (.bool (p d)))] (l:List Dig) (t:C9):
  C6 Tryz.prog 109 [.slice (l.map eDig) t,.clo F cs] (.raw (.int .i64 (Fo p l))):=⟨by
 refine Av Tryz.func109 Tryz.ntmps109 rfl (rs:= [.tmp 4]) rfl rfl fun hb LF=>?_
 have hlen:l.length≤140737488355328:=(hb (.slice (l.map eDig) t) (by simp)).slice_map
 refine wf ?_
 refine AZ (σ:=Nat) (fun k=>k≤l.length∧(l.take k).any p=false) (fun k=>l.length - k) (fun k=> [(0,.slice (l.map eDig) t),(1,.clo F cs),(7,.raw (.int .i64 l.length)),(8,.raw (.int .i64 k))]) (fun _=>LF) 0 ⟨by simp,by simp⟩ ⟨rfl,rfl,rfl,rfl⟩ (.refl _) ?_
 rintro k ⟨hk,hn⟩
 refine wf ?_
 refine A7 (fun hc=>?_) (fun hc=>?_)
 ·have hlt:k < l.length:=by omega
  refine wf ?_
  refine AO (fun h=>?_) (fun h=>?_)
  ·refine wf ?_
   refine Ax (.of_eq ?_)
   have e:l.any p=true:=Bo.2 ⟨l[k],AG hlt,h⟩
   rw[Fo,if_pos e,JV hlt hn h]
  ·refine wf ?_
   refine⟨k+1,⟨by omega,?_⟩,by dsimp only;omega,⟨rfl,rfl,rfl,rfl⟩,.refl _⟩
   rw[A6 hlt,GK,hn]
   simp[h]
 ·refine wf ?_
  refine Ax (.of_eq ?_)
  rw[AA (by omega)]at hn
  rw[Fo,if_neg (by simp[hn])]⟩
theorem KI (F:Nat) (cs:List PV) (p:Dig→Bool) [hF:B1 Tryz.prog F] [hp: ∀ d,C6 Tryz.prog F (.agg (eDig d)::cs) (.raw (.bool (p d)))] (l:List Dig) (t:C9):
  C6 Tryz.prog 47 [.slice (l.map eDig) t,.clo F cs] (.raw (.bool (l.any p))):=⟨by
 have i1: ∀ t,C6 Tryz.prog 109 [.slice (l.map eDig) t,.clo F cs] (.raw (.int .i64 (Fo p l))):=gD F cs p l
 refine Av Tryz.func47 Tryz.ntmps47 rfl (rs:= [.tmp 4]) rfl rfl fun hb LF=>?_
 refine wf ?_
 refine Ax (.of_eq ?_)
 cases h:l.any p<;>simp[Fo,h]⟩
theorem U0 (F:Nat) (cs:List PV) (p:Sto→Bool) [hF:B1 Tryz.prog F] (l:List Sto) (t:C9) (hp: ∀ d∈l,C6 Tryz.prog F (.agg (eSto d)::cs) (.raw (.bool (p d)))):
  C6 Tryz.prog 51 [.slice (l.map eSto) t,.clo F cs] (.raw (.int .i64 (Fo p l))):=⟨by
 refine Av Tryz.func51 Tryz.ntmps51 rfl (rs:= [.tmp 4]) rfl rfl fun hb LF=>?_
 have hlen:l.length≤140737488355328:=(hb (.slice (l.map eSto) t) (by simp)).slice_map
 refine wf ?_
 refine AZ (σ:=Nat) (fun k=>k≤l.length∧(l.take k).any p=false) (fun k=>l.length - k) (fun k=> [(0,.slice (l.map eSto) t),(1,.clo F cs),(7,.raw (.int .i64 l.length)),(8,.raw (.int .i64 k))]) (fun _=>LF) 0 ⟨by simp,by simp⟩ ⟨rfl,rfl,rfl,rfl⟩ (.refl _) ?_
 rintro k ⟨hk,hn⟩
 refine wf ?_
 refine A7 (fun hc=>?_) (fun hc=>?_)
 ·have hlt:k < l.length:=by omega
  have hpk:=hp _ (AG hlt)
  refine wf ?_
  refine AO (fun h=>?_) (fun h=>?_)
  ·refine wf ?_
   refine Ax (.of_eq ?_)
   have e:l.any p=true:=Bo.2 ⟨l[k],AG hlt,h⟩
   rw[Fo,if_pos e,JV hlt hn h]
  ·refine wf ?_
   refine⟨k+1,⟨by omega,?_⟩,by dsimp only;omega,⟨rfl,rfl,rfl,rfl⟩,.refl _⟩
   rw[A6 hlt,GK,hn]
   simp[h]
 ·refine wf ?_
  refine Ax (.of_eq ?_)
  rw[AA (by omega)]at hn
  rw[Fo,if_neg (by simp[hn])]⟩
theorem Vp (F:Nat) (cs:List PV) (p:Sto→Bool) [hF:B1 Tryz.prog F] [hp: ∀ d,C6 Tryz.prog F (.agg (eSto d)::cs) (.raw (.bool (p d)))] (l:List Sto) (t:C9):
  C6 Tryz.prog 51 [.slice (l.map eSto) t,.clo F cs] (.raw (.int .i64 (Fo p l))):=U0 F cs p l t fun d _=>hp d
theorem Uu (F:Nat) (cs:List PV) (p:Sto→Bool) [hF:B1 Tryz.prog F] (l:List Sto) (t:C9) (hp: ∀ d∈l,C6 Tryz.prog F (.agg (eSto d)::cs) (.raw (.bool (p d)))):
  C6 Tryz.prog 97 [.slice (l.map eSto) t,.clo F cs] (.raw (.bool (l.any p))):=⟨by
 have i1: ∀ t,C6 Tryz.prog 51 [.slice (l.map eSto) t,.clo F cs] (.raw (.int .i64 (Fo p l))):=fun t=>U0 F cs p l t hp
 refine Av Tryz.func97 Tryz.ntmps97 rfl (rs:= [.tmp 4]) rfl rfl fun hb LF=>?_
 refine wf ?_
 refine Ax (.of_eq ?_)
 cases h:l.any p<;>simp[Fo,h]⟩
end Go.Proofs
