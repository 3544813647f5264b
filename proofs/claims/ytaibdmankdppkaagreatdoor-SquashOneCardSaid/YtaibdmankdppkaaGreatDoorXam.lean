/- Plain laws: what a valid set is: closed, ascending, without cycles. -/
import Derived.Test.YtaibdmankdppkaaGreatDoorXal
import Derived.Test.YtaibdmankdppkaaGreatDoorXai
import Derived.Test.YtaibdmankdppkaaGreatDoorXaf
import Derived.Shelf.SlSortCmp.NoneTotal
import Derived.Test.YtaibdmankdppkaaGreatDoorXak
import Derived.Shelf.SlGeneric
import Derived.Ground.SlsfProg
import Derived.Test.YtaibdmankdppkaaGreatDoorXaj
set_option linter.unusedSimpArgs false
set_option linter.unusedVariables false
set_option maxHeartbeats 8000000
namespace Go.Proofs
open Go Go.Q
theorem Cc {α:Type} {f:α→Int} {l:List α} (h:Av f l=0): ∀ x∈l,f x=0:=by
 induction l with
 |nil=>intro x hx;cases hx
 |cons y l ih=>
  unfold Av at h
  split at h
  ·rename_i h0
   intro x hx
   rcases AH.1 hx with rfl|hx
   ·exact h0
   ·exact ih h x hx
  ·rename_i h0;exact absurd h h0
structure Bc (s:List Sto):Prop where
 close:Tx s
 id: ∀ x∈s,(EW x.patch).2=0∧(EW x.patch).1=x.id
 asc:Gm (ids s)
 order:s.length≤(Cg s).length
 refs: ∀ x∈s,GF s x.patch x.id=0
theorem NA: ∀ {l:List Dig},(∀ i (h:i+1 < l.length),Dig.lt l[i] l[i+1])→Gm l
 | [],_=> .nil
 | [x],_=>GA _ _
 |x::y::l,h=>by
  have ih:Gm (y::l):=NA fun i hi=>by have:=h (i+1) (by simpa using hi);simpa using this
  have h0:=h 0 (by simp)
  simp only[BM,DA]at h0
  refine Bn.2 ⟨fun z hz=>?_,ih⟩
  rcases AH.1 hz with rfl|hz
  ·exact h0
  ·exact Dig.lt_trans h0 ((Bn.1 ih).1 z hz)
theorem dZ {s:List Sto} (hgood:HY s) (hc:QJ s=0):Bc s:=by
 have hl:=hgood.1
 unfold QJ at hc
 rw[if_neg (by omega)]at hc
 split at hc
 ·rename_i h0;exact absurd hc h0
 rename_i h1
 have h1:Av (Jz s) (List.range s.length)=0:=CY.1 h1
 split at hc
 ·omega
 rename_i h2
 split at hc
 ·omega
 rename_i h3
 have hall: ∀ x∈s,DM (ids s) (Ax x.patch)=true:=by
  have:s.all (fun x=>DM (ids s) (Ax x.patch))=true:=by simpa using h2
  exact fun x hx=>BT.1 this x hx
 have hchk: ∀ i (hi:i < s.length),(EW s[i].patch).2=0∧(EW s[i].patch).1=s[i].id∧(∀ h:0 < i,Ea (s[i - 1]'(by omega)).id s[i].id < 0):=by
  intro i hi
  have h4:=Cc h1 i (BW.2 hi)
  have e0:s.getD i Sto.zero=s[i]:=by simp[List.getD,hi]
  unfold Jz at h4
  rw[e0]at h4
  split at h4
  ·rename_i h5;exact absurd h4 h5
  rename_i h5
  split at h4
  ·omega
  rename_i h6
  split at h4
  ·omega
  rename_i h7
  have h6:(EW s[i].patch).1=s[i].id:=CY.1 h6
  refine⟨CY.1 h5,h6,fun hp=>?_⟩
  have e1:s.getD (i - 1) Sto.zero=s[i - 1]'(by omega):=by
   have h':i - 1 < s.length:=by omega
   simp[List.getD,h']
  rw[e1,h6]at h7
  have: ¬0≤Ea (s[i - 1]'(by omega)).id s[i].id:=fun h8=>h7 ⟨by omega,h8⟩
  omega
 refine⟨⟨hgood,fun x hx d hd=>?_⟩,fun x hx=>?_,?_,by omega,fun x hx=>Cc hc x hx⟩
 ·have:=BT.1 (hall x hx) d hd
  simpa using this
 ·obtain⟨i,hi,rfl⟩:=Ad.1 hx
  exact⟨(hchk i hi).1,(hchk i hi).2.1⟩
 ·refine NA fun i hi=>?_
  rw[HO]at hi
  have:=(hchk (i+1) hi).2.2 (by omega)
  simpa [ids,Dig.lt]using this
theorem La {s:List Sto} (h:Lq s=true):Bc s:=by
 unfold Lq at h
 simp only[BJ,AG,AB]at h
 exact dZ (Yw h.1) h.2
def NF (s:List Sto) (out:List Dig):Prop:= ∀ k (h:k < out.length),∃ x∈s,x.id=out[k]∧(∀ d∈Ax x.patch,d∈out.take k)∧out[k]∉out.take k
theorem TH {s:List Sto} {out:List Dig}: ∀ (n:Nat),n≤s.length→0≤(List.range n).foldl (Gb s out) (-1)→
  ∃ x∈s,s.getD ((List.range n).foldl (Gb s out) (-1)).toNat Sto.zero=x∧ ¬x.id∈out∧DM out (Ax x.patch)=true
 |0,_,h=>by simp at h
 |n+1,hn,h=>by
  rw[Bq]at h ⊢
  generalize hk:(List.range n).foldl (Gb s out) (-1)=k at h ⊢
  unfold Gb at h ⊢
  split at h
  ·rename_i hc
   rw[if_pos hc]
   have e:s.getD n Sto.zero=s[n]:=by simp[List.getD,show n < s.length by omega]
   rw[e]at hc
   exact⟨s[n],AJ _,by simpa using e,hc.1⟩
  ·rename_i hc
   rw[if_neg hc]
   have:=TH (s:=s) (out:=out) n (by omega) (by rw[hk];exact h)
   rw[hk]at this;exact this
theorem QE {s:List Sto}: ∀ (n:Nat) (out:List Dig),NF s out→NF s (QF s n out)
 |0,_,h=>h
 |n+1,out,h=>by
  unfold QF
  split
  ·exact h
  ·rename_i hp
   refine QE n _ ?_
   obtain⟨x,hx,e,h1,h2⟩:=TH (s:=s) (out:=out) s.length (Ak _) (by unfold Ll at hp;omega)
   have e':s.getD (Ll s out).toNat Sto.zero=x:=e
   rw[e']
   intro k hk
   rw[AA,BA]at hk
   by_cases hko:k < out.length
   ·obtain⟨y,hy,q1,q2,q3⟩:=h k hko
    refine⟨y,hy,by rw[BN hko];exact q1,?_,?_⟩
    ·rw[IH (by omega)];exact q2
    ·rw[BN hko,IH (by omega)];exact q3
   ·have hke:k=out.length:=by omega
    subst hke
    refine⟨x,hx,by simp,?_,?_⟩
    ·intro d hd
     have:=BT.1 h2 d hd
     simpa using this
    ·simpa using h1
theorem NF.nodup {s:List Sto} {out:List Dig} (h:NF s out):out.Nodup:=by
 refine B7.2 fun i j hi hj hij e=>?_
 obtain⟨_,_,_,_,h3⟩:=h j hj
 exact h3 (e ▸ DV.2 ⟨i,by omega,rfl⟩)
theorem fC {s:List Sto} (h:Gm (ids s)):(ids s).Nodup:=h.nodup
theorem SX {s:List Sto} (h:Gm (ids s)) {x y:Sto} (hx:x∈s) (hy:y∈s) (e:x.id=y.id):x=y:=by
 obtain⟨i,hi,rfl⟩:=Ad.1 hx
 obtain⟨j,hj,rfl⟩:=Ad.1 hy
 have hn:=fC h
 have hi':i < (ids s).length:=by rw[HO];exact hi
 have hj':j < (ids s).length:=by rw[HO];exact hj
 have:(ids s)[i]=(ids s)[j]:=by simpa [ids]using e
 have hp:=B7.1 hn
 rcases Qo i j with hij|hij|hij
 ·exact absurd this (hp i j hi' hj' hij)
 ·subst hij;rfl
 ·exact absurd this.symm (hp j i hj' hi' hij)
theorem NF.sub {s:List Sto} {out:List Dig} (h:NF s out): ∀ d∈out,d∈ids s:=fun d hd=>by
 obtain⟨k,hk,rfl⟩:=Ad.1 hd
 obtain⟨x,hx,e,_⟩:=h k hk
 exact AO.2 ⟨x,hx,e⟩
theorem Ep (s:List Sto):NF s (Cg s):=QE _ _ (fun k hk=>absurd hk (Dv _))
theorem Bc.mem_order {s:List Sto} (v:Bc s) {d:Dig} (hd:d∈ids s):d∈Cg s:=by
 by_cases h:d∈Cg s
 ·exact h
 ·have hn:(d::Cg s).Nodup:=Bl.2 ⟨h,(Ep s).nodup⟩
  have:=FR hn (m:=ids s) fun y hy=>by
   rcases AH.1 hy with rfl|hy
   ·exact hd
   ·exact(Ep s).sub y hy
  have h2:=v.order
  rw[HO]at this
  simp only[AN]at this
  omega
theorem Yq {l:List Dig} {i:Nat} (h:i < l.length):l.idxOf l[i]≤i:=by
 induction l generalizing i with
 |nil=>simp at h
 |cons x l ih=>
  cases i with
  |zero=>simp
  |succ i=>
   simp only[DA,List.idxOf_cons]
   have:=ih (by simpa using h)
   cases hb:(x==l[i]'(by simpa using h))with
   |true=>simp
   |false=>simp;omega
def Q9 (s:List Sto) (d:Dig):Nat:=(Cg s).idxOf d
theorem Bc.rank {s:List Sto} (v:Bc s) {x:Sto} (hx:x∈s) {d:Dig} (hd:d∈Ax x.patch):Q9 s d < Q9 s x.id:=by
 have hm:=v.mem_order (AO.2 ⟨x,hx,rfl⟩)
 have hk:(Cg s).idxOf x.id < (Cg s).length:=List.idxOf_lt_length_of_mem hm
 obtain⟨y,hy,e,h1,_⟩:=Ep s _ hk
 rw[List.getElem_idxOf]at e
 have:=SX v.asc hy hx e
 subst this
 obtain⟨i,hi,rfl⟩:=DV.1 (h1 d hd)
 have h2:=Yq (l:=Cg s) (i:=i) (by omega)
 unfold Q9
 omega
theorem Bc.getS {s:List Sto} (v:Bc s) {x:Sto} (hx:x∈s):getS s x.id=some x.patch:=by
 cases hg:Go.Proofs.getS s x.id with
 |none=>
  exfalso
  have: ∀ (l:List Sto),x∈l→Go.Proofs.getS l x.id≠none:=by
   intro l
   induction l with
   |nil=>intro h;cases h
   |cons y l ih=>
    intro h
    unfold Go.Proofs.getS
    split
    ·simp
    ·rename_i hne
     rcases AH.1 h with rfl|h
     ·exact absurd rfl hne
     ·exact ih h
  exact this s hx hg
 |some p=>
  obtain⟨y,hy,e,rfl⟩:=Ke hg
  rw[SX v.asc hy hx e]
theorem Bc.ndS {s:List Sto} (v:Bc s) {x:Sto} (hx:x∈s):ndS s x.id=Ax x.patch:=by
 unfold Go.Proofs.ndS;rw[v.getS hx];rfl
theorem Bc.mem_clo {s:List Sto} (v:Bc s) {p:Dig} (hp:p∈ids s) (d:Dig):d∈Ot s p↔Q.Reach (Go.Proofs.ndS s) [p] d:=by
 have ha:DM (ids s) [p]=true:=by simp[DM,hp]
 unfold Ot Di
 rw[if_neg (by simp[ha])]
 exact Ly (U:=ids s) (fun x _ d hd=>v.close.nd x d hd) (fun d hd=>by rw[Ag.1 hd];exact hp) (EF (HO s))
attribute [local irreducible] ER AQ BG Fu NC
theorem eE (c:Chg) (first:Int): ∀ j (h:j < (DZ c first).length),((DZ c first)[j]).id=⟨Dig.zero,first+j⟩:=by
 intro j h
 have key:(∃ x:Atm,DZ c first= [x]∧x.id=⟨Dig.zero,first⟩)∨DZ c first=(List.range c.lines.length).map (Fk c first)++(List.range (c.lines.length+1)).map (Et c first):=by
  unfold DZ
  repeat' split
  all_goals first|exact .inl ⟨_,rfl,rfl⟩|exact .inr rfl
 rcases key with ⟨x,e,hx⟩|e
 ·have hj:j=0:=by rw[e]at h;simpa using h
  subst hj
  simp only[e,BM,hx]
  simp
 ·have h2:=h
  simp only[e]at h2 ⊢
  rw[List.getElem_append]
  split
  ·simp[Fk]
  ·rename_i h3
   simp only[AR,FF]at h3
   simp only[BQ,Pk,Et,AR,FF]
   congr 1
   omega
theorem PW {own:List Atm} (c:Chg) (h:NN own):NN (own++DZ c own.length):=by
 intro i hi
 rw[List.getElem_append]
 split
 ·exact h i _
 ·rename_i h3
  rw[eE]
  congr 1
  omega
theorem Mj {c:Chg} (h:Bz c=0):1≤c.kind∧c.kind≤7:=by
 unfold Bz at h
 split at h
 ·omega
 ·omega
theorem YD {l:List Dig} (h:H9 l=0): ∀ d∈l,d≠Dig.zero:=by
 intro d hd e
 unfold H9 at h
 split at h
 ·omega
 obtain⟨i,hi,rfl⟩:=Ad.1 hd
 have h0:=Cc h i (by simpa using hi)
 rw[Fj,if_pos (by simp[List.getD,hi,e])]at h0
 omega
def Ko (p:Pat):List Atm × Str × Int:=if(Bo p).2≠0 then([],[],(Bo p).2)else if 65536 < ((NS p).length:Int)then([],[],4)else((Bo p).1,NS p,0)
theorem Mm {p:Pat} (h:J7 p=0):Bo p=Cv p.changes []:=by rw[Ic,if_neg (by simp[h])]
theorem Sz {p:Pat} (h:J7 p=0):H9 p.deps=0:=by
 unfold J7 at h
 split at h
 ·omega
 split at h
 ·omega
 split at h
 ·omega
 split at h
 ·rename_i h4;exact absurd h h4
 ·rename_i h4;simpa using h4
def oT (b:Nat) (s:CN × List Atm) (LF:List Res):List Res:= .box b 68 [.slice (s.2.map eAtm) s.1]:: .tok s.1 s.2.length 172::LF
instance sy (p:Pat) [hs:B4 (E5 p=false)]:C9 Tryz.prog 81 [.agg (Ba p)] (.tuple [.slice ((Ko p).1.map eAtm) .ro,.str (Ko p).2.1,.raw (.int .i64 (Ko p).2.2)]):=⟨by
 obtain⟨hg1,hg2,hg3,hg4,hg5⟩:=Eh hs.out
 refine Au Tryz.func81 Tryz.ntmps81 rfl (rs:= [.tmp 2,.tmp 3,.tmp 4]) rfl rfl fun hb LF=>?_
 refine wf ?_
 refine AX (fun h1=>?_) (fun h1=>?_)
 ·refine wf ?_
  refine Ra ?_
  have e:Bo p=([],J7 p):=by rw[Ic,if_pos h1]
  have e2:Ko p=([],[],J7 p):=by rw[Ko,e,if_pos h1]
  rw[e2]
  exact .tuple3 (.ros rfl) (.refl _) (.refl _)
 have hH:=Mm h1
 refine XY fun b6=>?_
 refine EL 172 ?_
 refine EP (.swap _ _ _) ?_
 refine Ab (σ:=Nat × CN × List Atm) (fun k=>k.1≤p.changes.length∧k.2.2.length≤k.1*81∧NN k.2.2∧(∀ c∈p.changes.take k.1,1≤c.kind∧c.kind≤7)∧Bo p=Cv (p.changes.drop k.1) k.2.2) (fun k=>p.changes.length - k.1) (fun k=> [(1,.pt (Ba p) 0),(6,.raw (.pointer (some ⟨b6,0,none⟩))),(20,.slice (p.changes.map eChg) .ro),(21,.raw (.int .i64 p.changes.length)),(22,.raw (.int .i64 k.1))]) (fun k=>oT b6 k.2 LF) (0,.nil,[]) ⟨by simp,by simp,fun i h=>absurd h (by simp),by simp,hH⟩ ⟨rfl,rfl,rfl,rfl,rfl⟩ (.refl _) ?_
 rintro⟨k,v,own⟩ ⟨hk,hlen,hid,hkd,he⟩
 dsimp only at hk hlen hid hkd he
 rw[show oT b6 (k,v,own).2 LF= .box b6 68 [.slice (own.map eAtm) v]:: .tok v own.length 172::LF from rfl]
 refine wf ?_
 refine A6 (fun hc=>?_) (fun hc=>?_)
 ·have hlt:k < p.changes.length:=by omega
  rw[LJ hlt]at he
  refine wz fun b8=>?_
  refine Ay 8 ?_
  refine wf ?_
  refine AX (fun h2=>?_) (fun h2=>?_)
  ·refine wf ?_
   rw[if_pos h2]at he
   have e2:Ko p=([],[],Bz p.changes[k]):=by rw[Ko,he,if_pos h2]
   refine Ra ?_
   rw[e2]
   exact .tuple3 (.ros rfl) (.refl _) (.refl _)
  rw[if_neg (by simp[h2])]at he
  have hll:p.changes[k].lines.length≤2000:=JU h2
  have hkk:1≤p.changes[k].kind∧p.changes[k].kind≤7:=Mj h2
  have hmm:=Ln p.changes[k] own.length
  have hl40:=(hg5 _ (AJ hlt)).lines
  have i1:B4 (Bz p.changes[k]=0∧own.length≤100000∧NN own):=⟨h2,by omega,hid⟩
  refine wf ?_
  refine AX (fun h3=>?_) (fun h3=>?_)
  ·refine wf ?_
   rw[if_pos h3]at he
   have e2:Ko p=([],[],Ey p.changes[k] own):=by rw[Ko,he,if_pos h3]
   refine Ra ?_
   rw[e2]
   exact .tuple3 (.ros rfl) (.refl _) (.refl _)
  rw[if_neg (by simp[h3])]at he
  refine wf ?_
  refine JV (RK p.changes[k] own.length hkk ⟨hll,by omega,by omega⟩) [41] (σ:=CN × List Atm) (fun pre s=>s.2=own++pre) (fun _ _=>False) (fun s LF'=>oT b6 s LF') (v,own) LF ?_ rfl (fun _=>rfl) (by simp) (fun _ _=>rfl) (.refl _) (by simp) ?_ ?_ (fun _ _ h=>h.elim)
  ·exact .refl _
  ·rintro pre x ⟨v1,own1⟩ LF' hpre hI
   dsimp only at hI
   have hpl:=hpre.length_le
   have hol:own1.length≤90000:=by
    rw[hI,AA]
    rw[AA,BA]at hpl
    omega
   rw[show oT b6 (v1,own1) LF'= .box b6 68 [.slice (own1.map eAtm) v1]:: .tok v1 own1.length 172::LF' from rfl]
   refine wz fun b11=>?_
   refine Ay 11 ?_
   refine bW fun v2=>?_
   exact⟨(v2,own1++ [x]),by dsimp only;rw[hI,AV],.refl _⟩
  ·rintro⟨v1,own1⟩ hI
   dsimp only at hI
   refine wf ?_
   refine⟨(k+1,v1,own1),⟨by dsimp only;omega,?_,?_,?_,?_⟩,by dsimp only;omega,⟨rfl,rfl,rfl,rfl,rfl⟩,.refl _⟩
   ·dsimp only
    rw[hI,AA];omega
   ·dsimp only
    rw[hI];exact PW _ hid
   ·dsimp only
    intro c hcm
    rw[A7 hlt]at hcm
    rcases Ai.1 hcm with h|h
    ·exact hkd c h
    ·rw[Ag.1 h];exact hkk
   ·dsimp only
    rw[hI];exact he
 have hkk:k=p.changes.length:=by omega
 rw[DB (by omega)]at he
 rw[AE (by omega)]at hkd
 have he':Bo p=(own,0):=he
 have i1:B4 (bB p):=⟨⟨O3 hs.out,YD (Sz h1),hkd⟩⟩
 refine wf ?_
 have h0: ¬(Bo p).2≠0:=by rw[he'];simp
 refine A6 (fun h=>?_) (fun h=>?_)
 ·refine wf ?_
  have e2:Ko p=([],[],4):=by rw[Ko,if_neg h0,if_pos h]
  refine Ra ?_
  rw[e2]
  exact .tuple3 (.ros rfl) (.refl _) (.refl _)
 ·refine wf ?_
  have e2:Ko p=(own,NS p,0):=by rw[Ko,if_neg h0,if_neg h,he']
  refine Ra ?_
  rw[e2]
  exact .tuple3 (.ros rfl) (.refl _) (.refl _)⟩
end Go.Proofs
namespace Go.Proofs
open Go Go.Q
attribute [local irreducible] ER AQ BG Fu
theorem WE (p:Pat):(Ko p).2.2=(CD p).2:=by
 unfold Ko CD IB
 split
 ·rfl
 ·split<;>rfl
theorem mf (p:Pat):(Ko p).2.1=(CD p).1:=by
 unfold Ko CD IB
 split
 ·rfl
 ·split<;>rfl
instance te (p:Pat) [hs:B4 (E5 p=false)]:C9 Tryz.prog 56 [.agg (Ba p)] (.raw (.int .i64 (CD p).2)):=⟨by
 refine Au Tryz.func56 Tryz.ntmps56 rfl (rs:= [.tmp 2]) rfl rfl fun hb LF=>?_
 refine wf ?_
 refine Az (.of_eq ?_)
 rw[←WE]⟩
instance qp (p:Pat) [hs:B4 (E5 p=false)]:C9 Tryz.prog 136 [.agg (Ba p)] (.tuple [.str (CD p).1,.raw (.int .i64 (CD p).2)]):=⟨by
 refine Au Tryz.func136 Tryz.ntmps136 rfl (rs:= [.tmp 2,.tmp 3]) rfl rfl fun hb LF=>?_
 refine wf ?_
 refine HD ?_
 rw[←WE,←mf]
 exact .refl _⟩
def vDig (d:Dig):List Value:=NX d.bs
instance :Ov eDig vDig:=⟨fun d=>by simp[eDig,vDig,NX,eU8];intro a _;rfl,fun d x hx=>by
 obtain⟨b,_,rfl⟩:=AO.1 hx;rfl⟩
instance :Zb Tryz.prog 24 31 32 32:=⟨by
 have h2:(Tryz.prog.info? 31).map (fun i=>(i.size,i.bytes,i.zero.isSome,(i.zero.getD undef).cells.size))=some (32,32,true,32):=by kernel_rfl
 obtain⟨i,hi,e⟩:=Bj.1 h2
 simp only[Prod.mk.injEq]at e
 obtain⟨e1,e2,e3,e4⟩:=e
 obtain⟨z,hz⟩:=Eb.1 e3
 rw[hz]at e4
 exact⟨i,z,by kernel_rfl,hi,e1,e2,hz,e4,by decide,by decide⟩⟩
abbrev UQ (v:Value) (l:List Dig) (R:List Res):Prop:=Js vDig 31 32 v l R
theorem Og (l:List Dig) (t:CN) (hl:l.length≤1000000):BG Tryz.prog 57 [.slice (l.map eDig) t] [] (fun r L'=> ∃ v,r= .raw v∧UQ v l L'):=by
 refine CA Tryz.func57 rfl Tryz.ntmps57 (rs:= [.tmp 2]) rfl rfl fun hb LF=>?_
 rw[B9]
 refine wf ?_
 refine br rfl fun b hnil=>?_
 refine wf ?_
 refine AU (fun h=>?_) (fun h=>?_)
 ·have h0:l= []:=by simpa using hnil h
  subst h0
  refine Da ?_
  refine CR (by kernel_rfl) ?_
  refine Lg ?_
  refine AD ?_
  refine wf ?_
  exact⟨trivial,_,[],.cons (.tmp 2) .nil,.refl _,_,rfl,.nil none (by simp)⟩
 refine HA ?_
 refine Da ?_
 refine CR (by kernel_rfl) ?_
 refine bz (vf:=vDig) fun v0 hv0=>?_
 refine wf ?_
 refine Ik (f:=eDig) (R:= []) (LF:=LF) (fun R'=>R'++LF) rfl rfl hv0 (.refl _) (fun R'=> .refl _) (by simp only[Af];omega) (by simp only[Af];omega) fun v R' hv=>?_
 refine wf ?_
 refine wf ?_
 rw[B9]at hv
 exact⟨trivial,_,R',.cons (.tmp 2) .nil,.refl _,v,rfl,hv⟩
def wY (acc:List Dig) (x:Dig):List Dig:=if acc.getLast? =some x then acc else acc++ [x]
def Kh (l:List Dig):List Dig:=l.foldl wY []
theorem Tw (l:List Dig) (x:Dig):Kh (l++ [x])=if(Kh l).getLast? =some x then Kh l else Kh l++ [x]:=by rw[Kh,CH];rfl
theorem kQ (l:List Dig):(Kh l).getLast? =l.getLast?:=by
 rcases List.eq_nil_or_concat l with rfl|⟨m,x,rfl⟩
 ·rfl
 ·rw[List.concat_eq_append,Tw]
  split
  ·rename_i h;rw[h];simp
  ·simp
theorem Qd {l:List Dig} {j:Nat} (h0:0 < j) (h:j < l.length):Kh (l.take (j+1))=if l[j]=l[j - 1]then Kh (l.take j)else Kh (l.take j)++ [l[j]]:=by
 rw[A7 h,Tw,kQ]
 have:(l.take j).getLast? =some l[j - 1]:=by
  rw[List.getLast?_eq_getElem?,AZ,Cy (by omega),Gd,if_pos (by omega)]
  simp
 rw[this]
 by_cases e:l[j]=l[j - 1]
 ·rw[if_pos (by rw[e]),if_pos e]
 ·rw[if_neg (fun h=>e (by injection h with h;exact h.symm)),if_neg e]
theorem FV (d:Dig):(vDig d).length=32:=by
 have:(eDig d).length=32:=by simp
 rw[(inferInstance:Ov eDig vDig).out]at this
 simpa using this
theorem qv: ∀ i z,Tryz.prog.info? 31=some i→i.zero=some z→ ∀ x∈z.cells,x.oneCell'=true:=by
 have h:(Tryz.prog.info? 31).map (fun i=>(i.zero.getD undef).cells.all (·.oneCell'))=some true:=by kernel_rfl
 intro i z hi hz x hx
 rw[hi]at h
 simp only[Gx,hz,Br,J1,H6]at h
 exact h x hx
theorem df (l:List Dig) (k:Nat) (h:k≤l.length) (rest:List Value):(l.flatMap vDig++rest).take (k*32)=(l.take k).flatMap vDig:=by
 have e:(l.flatMap vDig++rest)=(l.take k).flatMap vDig++((l.drop k).flatMap vDig++rest):=by
  rw[←AV,←Jv,C7]
 rw[e]
 refine GG ?_
 rw[Nw (f:=eDig) (sz:=32),AZ,Cy h]
theorem Pb (l:List Dig) (v:Value) (R:List Res) (hv:UQ v l R) (hl:l.length≤1000000):BG Tryz.prog 62 [.raw v] R (fun r L'=>r= .slice ((Kh l).map eDig) .ro∧L'= []):=by
 refine CA Tryz.func62 rfl Tryz.ntmps62 (rs:= [.tmp 2]) rfl rfl fun hb LF=>?_
 have hmx: ∀ m:List Dig,m.length≤l.length→m.length≤maxN∧m.length*32≤maxN:=fun m h=>by
  have:maxN=140737488355328:=rfl
  omega
 obtain⟨o,c,rfl⟩:=hv.slice
 refine wf ?_
 refine KP rfl ?_
 refine wf ?_
 refine A6 (fun h1=>?_) (fun h1=>?_)
 ·refine Da ?_
  refine CR (by kernel_rfl) ?_
  refine K7 (by(conv=>lhs;whnf);done) ?_
  refine Lg ?_
  refine AD ?_
  have e:Kh l=l:=by
   match l,h1 with
   | [],_=>rfl
   | [x],_=>rfl
   |_::_::_,h=>simp at h;omega
  refine Gp (f:=eDig) 2 hv (hmx l (Ak _)) (.refl _) rfl ?_
  refine wf ?_
  exact⟨trivial,_,[],.cons (.tmp 2) .nil,.refl _,by rw[e];exact⟨rfl,rfl⟩⟩
 have hne:l≠ []:=fun e=>by subst e;exact h1 (by simp)
 obtain⟨_,r,cur,rest,rfl,rfl,hcur,hsz,hlc⟩:=hv.inv hne
 refine wf ?_
 refine Ab (σ:=Nat) (fun k=>1≤k∧k≤l.length∧Kh (l.take k)=l.take k) (fun k=>l.length - k) (fun k=> [(0,.raw (.slice (some ⟨r,0,none⟩) l.length c)),(3,.raw (.int .i64 (k:Int)))]) (fun _=> [.raw r (.cells cur 31 (0,0))]++LF) 1 ⟨by omega,by omega,?_⟩ ⟨rfl,rfl⟩ (.refl _) ?_
 ·match l,h1 with
  | [],_=>rfl
  |x::_,_=>rfl
 rintro k ⟨hk1,hk,he⟩
 refine wf ?_
 refine KP rfl ?_
 refine wf ?_
 refine A6 (fun hc=>?_) (fun hc=>?_)
 ·have hlt:k < l.length:=by omega
  refine wn ?_
  refine Bp 10 ?_ ?_
  ·decide+kernel
  refine wf ?_
  refine Fe (k:=k) rfl rfl hlt ?_
  refine OO (f:=eDig) (a0:=l[k]) rfl AF (by rw[hcur,BL];exact PE FV l k hlt rest) (by omega) ?_
  refine wf ?_
  refine Fe (k:=k - 1) rfl (by show PV.raw (Value.int .i64 ((k:Int) - 1))=PV.raw (Value.int .i64 ((k - 1:Nat):Int));congr 2;omega) (by omega) ?_
  refine OO (f:=eDig) (a0:=l[k - 1]) rfl AF (by rw[hcur,BL];exact PE FV l (k - 1) (by omega) rest) (by omega) ?_
  refine wf ?_
  have hd:=Qd (l:=l) (j:=k) (by omega) hlt
  refine A6 (fun h2=>?_) (fun h2=>?_)
  ·rw[if_pos h2]at hd
   refine Da ?_
   refine CR (by kernel_rfl) ?_
   refine K7 (by(conv=>lhs;whnf);done) ?_
   refine K7 (by(conv=>lhs;whnf);done) ?_
   refine Ni k l.length rfl (by omega) (Ak _) (by omega) hlc (fun o e=>by cases e;exact⟨_,rfl⟩) (by simp) (by simp) (fun _=>rfl) ?_
   refine wf ?_
   refine Ab (σ:=Nat × Nat × List Dig × Array Value) (fun j=>1≤j.1∧k+j.1≤l.length∧1≤j.2.1∧j.2.1+1≤k+j.1∧j.2.2.1.length=l.length∧j.2.2.1.take j.2.1=Kh (l.take (k+j.1))∧(∀ i,k+j.1≤i+1→j.2.2.1[i]? =l[i]?)∧j.2.2.2.toList=j.2.2.1.flatMap vDig++rest∧j.2.2.2.size=c*32) (fun j=>l.length - k - j.1) (fun j=> [(0,.raw (.slice (some ⟨r,0,none⟩) l.length c)),(3,.raw (.int .i64 (j.2.1:Int))),(4,.raw (.slice (some ⟨r,0+k*32,none⟩) (l.length - k) (c - k))),(5,.raw (.int .i64 (j.1:Int)))]) (fun j=> [.raw r (.cells j.2.2.2 31 (0,0))]++LF) (1,k,l,cur) ⟨by omega,by dsimp only;omega,by dsimp only;omega,by dsimp only;omega,rfl,by dsimp only;rw[hd,he],fun _ _=>rfl,hcur,hsz⟩ ⟨rfl,rfl,rfl,rfl⟩ (.refl _) ?_
   rintro⟨k2,kk,l1,cur1⟩ ⟨i1,i2,i3,i4,i5,i6,i7,i8,i9⟩
   dsimp only at i1 i2 i3 i4 i5 i6 i7 i8 i9 ⊢
   refine wf ?_
   refine KP rfl ?_
   refine wf ?_
   refine A6 (fun hc2=>?_) (fun hc2=>?_)
   ·have hlt2:k+k2 < l.length:=by omega
    have g1:l1[k+k2]'(by omega)=l[k+k2]:=by
     have:=i7 (k+k2) (by omega)
     rw[AW (by omega),AW hlt2]at this
     exact DF this
    have g2:l1[k+(k2 - 1)]'(by omega)=l[k+k2 - 1]:=by
     have:=i7 (k+(k2 - 1)) (by omega)
     rw[AW (by omega),AW (by omega)]at this
     have e:=DF this
     rw[e]
     congr 1
     omega
    have hd2:=Qd (l:=l) (j:=k+k2) (by omega) hlt2
    refine wn ?_
    refine Bp 10 ?_ ?_
    ·decide+kernel
    refine wf ?_
    refine Fe (k:=k2) rfl rfl (by omega) ?_
    refine OO (f:=eDig) (a0:=l[k+k2]) rfl AF (by rw[i8,show 0+k*32+k2*32=(k+k2)*32 by omega,PE FV l1 (k+k2) (by omega) rest,g1]) (by omega) ?_
    refine wf ?_
    refine Fe (k:=k2 - 1) rfl (by show PV.raw (Value.int .i64 ((k2:Int) - 1))=PV.raw (Value.int .i64 ((k2 - 1:Nat):Int));congr 2;omega) (by omega) ?_
    refine OO (f:=eDig) (a0:=l[k+k2 - 1]) rfl AF (by rw[i8,show 0+k*32+(k2 - 1)*32=(k+(k2 - 1))*32 by omega,PE FV l1 (k+(k2 - 1)) (by omega) rest,g2]) (by omega) ?_
    refine wf ?_
    refine AX (fun h3=>?_) (fun h3=>?_)
    ·rw[if_neg h3]at hd2
     refine wf ?_
     refine Fe (k:=k2) rfl rfl (by omega) ?_
     refine OO (f:=eDig) (a0:=l[k+k2]) rfl AF (by rw[i8,show 0+k*32+k2*32=(k+k2)*32 by omega,PE FV l1 (k+k2) (by omega) rest,g1]) (by omega) ?_
     refine wf ?_
     refine Fe (k:=kk) rfl rfl (by omega) ?_
     refine mJ (f:=eDig) (a0:=l[k+k2]) (E:=31) (cur:=cur1) (L':=LF) (fun x=> [x]++LF) rfl rfl (FV _) (by omega) (.refl _) (fun _=> .refl _) ?_
     refine wf ?_
     refine wf ?_
     have hset:(l1.set kk l[k+k2]).take (kk+1)=l1.take kk++ [l[k+k2]]:=by
      rw[A7 (by simp;omega)]
      congr 1
      ·rw[List.take_set_of_le (by omega)]
      ·simp
     have hcl:(cur1.toList.take (0+kk*32)++vDig l[k+k2]++cur1.toList.drop (0+kk*32+32))=(l1.set kk l[k+k2]).flatMap vDig++rest:=by
      rw[i8,BL];exact Z8 FV l1 kk (by omega) _ rest
     refine⟨(k2+1,kk+1,l1.set kk l[k+k2],(cur1.toList.take (0+kk*32)++vDig l[k+k2]++cur1.toList.drop (0+kk*32+32)).toArray),⟨by dsimp only;omega,by dsimp only;omega,by dsimp only;omega,by dsimp only;omega,by dsimp only;rw[DH];exact i5,by dsimp only;rw[hset,i6,←EJ,hd2],fun i hi=>?_,hcl,?_⟩,by dsimp only;omega,⟨rfl,rfl,rfl,rfl⟩,.refl _⟩
     ·dsimp only at hi ⊢
      rw[XT (by omega)]
      exact i7 i (by omega)
     ·dsimp only
      have hv32:=FV l[k+k2]
      simp only[Cd,AA,AZ,BB,CZ,hv32]
      omega
    ·rw[if_pos h3]at hd2
     refine wf ?_
     refine⟨(k2+1,kk,l1,cur1),⟨by dsimp only;omega,by dsimp only;omega,i3,by dsimp only;omega,i5,by dsimp only;rw[i6,←EJ,hd2],fun i hi=>i7 i (by dsimp only at hi;omega),i8,i9⟩,by dsimp only;omega,⟨rfl,rfl,rfl,rfl⟩,.refl _⟩
   have hkk:k+k2=l.length:=by omega
   rw[hkk,AE (Ak _)]at i6
   refine wf ?_
   refine Ni kk l.length rfl (by omega) (Ak _) (by omega) hlc (fun o e=>by cases e;exact⟨_,rfl⟩) (by simp) (by simp) (fun _=>rfl) ?_
   refine Zy (E:=31) (cur:=cur1) (L':=LF) qv (fun x=> [x]++LF) rfl (by omega) (by omega) (.refl _) (fun _=> .refl _) fun zs hzs=>?_
   refine AD ?_
   refine Da ?_
   refine CR (by kernel_rfl) ?_
   refine K7 (by(conv=>lhs;whnf);done) ?_
   refine K7 (by(conv=>lhs;whnf);done) ?_
   refine Ni 0 kk rfl (by omega) (by omega) (by omega) hlc (by simp) (fun _=>rfl) (fun o e=>by cases e;exact⟨_,rfl⟩) (by simp) ?_
   refine Lg ?_
   refine AD ?_
   have hlk:(l1.take kk).length=kk:=by rw[AZ,Cy (by omega)]
   have hrow:Js vDig 31 32 (.slice (some ⟨r,0,none⟩) (l1.take kk).length c) (l1.take kk) [.raw r (.cells (cur1.toList.take (0+kk*32)++zs++cur1.toList.drop (0+kk*32+(l.length - kk)*32)).toArray 31 (0,0))]:=by
    refine Js.mk (rest:=zs++cur1.toList.drop (0+kk*32+(l.length - kk)*32)) FV ?_ ?_ (by rw[hlk];omega)
    ·simp only[AV]
     rw[BL,i8,df l1 kk (by omega)]
    ·simp only[Cd,AA,AZ,BB,CZ,hzs]
     omega
   refine Gp (f:=eDig) 2 hrow (hmx _ (by rw[hlk];omega)) (.refl _) (by
    show PV.raw (Value.slice (some ⟨r,0+0*32,none⟩) (kk - 0) (c - 0))=_
    rw[hlk];simp) ?_
   refine wf ?_
   exact⟨trivial,_,[],.cons (.tmp 2) .nil,.refl _,by rw[←i6];exact⟨rfl,rfl⟩⟩
  ·rw[if_neg h2]at hd
   refine wf ?_
   refine⟨k+1,⟨by omega,by omega,?_⟩,by dsimp only;omega,⟨rfl,rfl⟩,.refl _⟩
   rw[hd,he,←A7 hlt]
 have hkk:k=l.length:=by omega
 rw[AE (by omega)]at he
 refine Gj ?_
 refine Da ?_
 refine CR (by kernel_rfl) ?_
 refine K7 (by(conv=>lhs;whnf);done) ?_
 refine Lg ?_
 refine AD ?_
 refine Gp (f:=eDig) 2 hv (hmx l (Ak _)) (.refl _) rfl ?_
 refine wf ?_
 exact⟨trivial,_,[],.cons (.tmp 2) .nil,.refl _,by rw[he];exact⟨rfl,rfl⟩⟩
end Go.Proofs
namespace Go.Q
open Go Go.Proofs Go.Sort
theorem Tp {α:Type} {k:Nat} (hk0:0 < k) {enc:α→List Value} (hk: ∀ x,(enc x).length=k): ∀ (l:List α) (t:Nat),(l.flatMap enc)[t]? =(l[t / k]?).bind fun x=>(enc x)[t % k]?
 | [],t=>by simp
 |x::l,t=>by
  rw[DI]
  by_cases h:t < k
  ·rw[Cz (by rw[hk];exact h),Nat.div_eq_of_lt h,E9 h]
   simp
  ·rw[FH (by rw[hk];omega),hk,Tp hk0 hk l (t - k)]
   have e1:t / k=(t - k) / k+1:=by
    rw[Nat.div_eq_sub_div hk0 (by omega)]
   have e2:t % k=(t - k) % k:=Nat.mod_eq_sub_mod (by omega)
   rw[e1,e2]
   simp
theorem Qa {α:Type} [Inhabited α] {k:Nat} (hk0:0 < k) {enc:α→List Value} (hk: ∀ x,(enc x).length=k) (l:List α):(flatK enc k l.toArray).toList=l.flatMap enc:=by
 refine fq fun t=>?_
 rw[Tp hk0 hk]
 by_cases h:t < l.length*k
 ·have h1:t / k < l.length:=XP (by rw[Ow];exact h)
  have h2:t % k < k:=bP _ hk0
  have h3:t < (flatK enc k l.toArray).toList.length:=by simpa using h
  rw[AW h3,AW h1]
  simp only[Hg]
  rw[AW (by rw[hk];exact h2)]
  congr 1
  have:=get_flatK enc k l.toArray t (by simpa using h)
  simp only[XV]
  rw[getElem!_pos _ t (by simpa using h)]at this
  rw[this]
  simp[h1,getElem!_pos,hk,h2]
 ·rw[FT (by simpa using h)]
  have: ¬t / k < l.length:=fun h'=>h (by
   have:=Nat.lt_mul_of_div_lt h' hk0
   first|exact this|(rw[Ow];exact this))
  rw[FT (by omega)]
  rfl
section
variable {α:Type} [Inhabited α] {enc:α→List Value} {k:Nat} {w:World} {r:Nat} {cur:Array Value} {E:Nat}
theorem P2 (h:w.heap[r]? =some (.cells cur E (0,0))) (m:Nat) (dk:Array α) (os:Array Obj):(sortWorldK enc k w r 0 m dk os).heap[r]? =some (.cells (putCells id 0 (flatK enc k dk) cur) E (0,0)):=by
 have hlt:=(BH.1 h).1
 show((w.heap.modify r (onCells (putCells id 0 (flatK enc k dk))))++os)[r]? =_
 rw[FI (by simpa using hlt),MW,if_pos rfl,h]
 rfl
theorem Fv (m:Nat) (dk:Array α) (os:Array Obj): ∀ b,b < w.heap.size→b≠r→(sortWorldK enc k w r 0 m dk os).heap[b]? =w.heap[b]?:=fun b hb hn=>by
 show((w.heap.modify r (onCells (putCells id 0 (flatK enc k dk))))++os)[b]? =_
 rw[FI (by simpa using hb),MW,if_neg (Ne.symm hn)]
theorem Ng (m:Nat) (dk:Array α) (os:Array Obj):w.heap.size≤(sortWorldK enc k w r 0 m dk os).heap.size:=by
 show _≤((w.heap.modify r (onCells (putCells id 0 (flatK enc k dk))))++os).size
 simp
theorem P6 (F:Array Value) (h:F.size≤cur.size):(putCells id 0 F cur).toList.take F.size=F.toList:=by
 refine DY (by simp[putCells];omega) fun j h1 h2=>?_
 have hj:j < F.size:=by simpa using h2
 simp[putCells,hj]
end
theorem Du.laterBut {w w':World} {g:Gh} {L:List Res} {r:Nat} (hi:Du w g L) (hH: ∀ o,g.H r o=none) (hM:g.M r=none) (hr:r∉Aj L) (hk: ∀ k,k < w.heap.size→k≠r→w'.heap[k]? =w.heap[k]?):Du w' g L:=by
 refine⟨fun b i v h=>?_,fun b z h=>(hi.satM b z h).congr (hk b (hi.satM b z h).lt (fun e=>by rw[e,hM]at h;cases h)),fun r' hr'=>?_,hi.nodup,hi.glob⟩
 ·have h0:=hi.sat b i v h
  have hb:b < w.heap.size:=by
   rcases BP b w.heap.size with h'|h'
   ·exact h'
   ·simp[World.cell?,Bk h']at h0
  simp only[World.cell?]at h0 ⊢
  rw[hk b hb (fun e=>by rw[e,hH]at h;cases h)];exact h0
 ·exact Res.holds_kept (.refl g) (hi.res r' hr') fun b hb=>⟨hk b (hi.lt (Bw.2 ⟨r',hr',hb⟩)) (fun e=>hr (Bw.2 ⟨r',hr',by rw[hb,e]⟩)),fun _=>rfl,rfl⟩
theorem Yu {w w':World} (h1:w'.os=w.os) (h2:w'.tape=w.tape) (h3:w'.output=w.output) (h4:w.drawn≤w'.drawn) (h5:w.heap.size≤w'.heap.size) (hk: ∀ k,k < w.heap.size→w'.heap[k]? =w.heap[k]?): ∃ q os,w'=grow (w.drewN q) os:=by
 refine⟨w'.drawn - w.drawn,w'.heap.extract w.heap.size w'.heap.size,?_⟩
 have hh:w'.heap=w.heap++w'.heap.extract w.heap.size w'.heap.size:=by
  refine Array.ext_getElem? fun i=>?_
  by_cases hi:i < w.heap.size
  ·rw[FI hi,hk i hi]
  ·rw[Array.getElem?_append_right (by omega)]
   by_cases h6:i < w'.heap.size
   ·rw[CQ h6,CQ (by simp;omega)]
    simp
    congr 1
    omega
   ·rw[Bk (by omega),Bk (by simp;omega)]
 have hd:w'.drawn=w.drawn+(w'.drawn - w.drawn):=by omega
 obtain⟨⟩:=w'
 obtain⟨⟩:=w
 simp only at h1 h2 h3 hh hd
 subst h1 h2 h3
 simp only[grow,World.drewN]
 rw[←hh,←hd]
end Go.Q
namespace Go.Proofs
open Go Go.Q Go.Shelf Go.Sort
attribute [local irreducible] ER AQ Fu
instance :Inhabited Dig:=⟨Dig.zero⟩
theorem yI:SWO (ltOf Ea) where
 irrefl x:=by
  unfold ltOf
  exact Ck (fun h=>Dig.lt_irrefl x h)
 trans x y z h1 h2:=by
  unfold ltOf at*
  exact BK (Dig.lt_trans (BF h1) (BF h2))
 ntrans x y z h1 h2:=by
  unfold ltOf at*
  refine Ck fun h=>?_
  have h1:=Bm h1
  have h2:=Bm h2
  rcases Dig.tri x y with h'|h'|h'
  ·exact h1 h'
  ·subst h';exact h2 h
  ·rcases Dig.tri y z with h3|h3|h3
   ·exact h2 h3
   ·subst h3;exact h1 h
   ·exact Dig.lt_irrefl x (Dig.lt_trans h (Dig.lt_trans h3 h'))
def sortD (l:List Dig):List Dig:=l.mergeSort fun x y=>!(ltOf Ea) y x
theorem kU {w:World} {g:Gh} {r n E:Nat} {cur:Array Value} (hi:Du w g []) (h1:w.heap[r]? =some (.cells cur E (0,0))) (h2: ∀ o,g.H r o=none) (h3:g.M r=none):CmpLays Tryz.prog 61 #[] vDig 32 Ea r 0 n w:=by
 intro m os dk hdk x y
 have hI:Du (sortWorldK vDig 32 w r 0 m dk os) g []:=hi.laterBut h2 h3 (by simp[Aj]) (fun k hk hn=>Fv m dk os k hk hn)
 have hv:EB g [.agg (vDig x).toArray,.agg (vDig y).toArray] [.agg (eDig x),.agg (eDig y)]:=by
  have e: ∀ d:Dig,VR g (.agg (vDig d).toArray) (.agg (eDig d)):=fun d=>by
   rw[(inferInstance:Ov eDig vDig).out]
   have:EB g (vDig d) ((vDig d).map PV.raw):=⟨by simp,fun i h1 h2=>by simp;exact .raw _⟩
   exact this.agg
  exact .cons (e x) (.cons (e y) (.nil g))
 have:=(YU x y).out _ (sortWorldK vDig 32 w r 0 m dk os) g [] hv hI
 refine Calls.mono this ?_
 rintro e w' ⟨v,x',g',L',rfl,k1,k2,k3,k4,rfl,rfl⟩
 refine⟨by rw[k1.raw_inv],?_⟩
 exact Yu k3.os k3.tape k3.output.1 k3.output.2 k3.size (fun k hk=>k3.keep k hk (by simp[Aj]))
theorem SJ (l:List Dig) (v:Value) (R:List Res) (hv:UQ v l R) (hl:l.length≤1000000):BG Tryz.prog 60 [.raw v,.raw (.func (.func 61) #[] #[])] R (fun _ L'=> ∃ v',v'=v∧UQ v' (sortD l) L'):=fun vs w g LF hvs hi=>by
 obtain⟨v1,v2,rfl⟩: ∃ a b,vs= [a,b]:=by
  have:=hvs.len
  match vs,this with
  | [a,b],_=>exact⟨a,b,rfl⟩
 rw[hvs.uncons.1.raw_inv,hvs.uncons.2.uncons.1.raw_inv]
 obtain⟨o,c,rfl⟩:=hv.slice
 by_cases hne:l= []
 ·subst hne
  refine(AnyF.slices_SortFunc_none Tryz.sortD o c _ w).mono ?_
  rintro e w' ⟨rfl,rfl⟩
  exact⟨_,.raw (.tuple #[]),g,R,rfl,.raw _,hi,.refl _ _ _,.refl _ _,_,rfl,by simpa [sortD]using hv⟩
 obtain⟨_,r,cur,rest,rfl,rfl,hcur,hsz,hlc⟩:=hv.inv hne
 obtain⟨k1,k2,k3,k4,k5⟩:=hi.rawHead
 have hlt:r < w.heap.size:=(BH.1 k1).1
 have hF:(flatK vDig 32 l.toArray).toList=l.flatMap vDig:=Qa (by decide) FV l
 have hH:HoldsK vDig 32 w r 0 l.toArray:=fun j hj=>by
  have hj2:j < l.length*32:=by simpa using hj
  refine⟨?_,by simp[World.frozen?,k1]⟩
  have hj3:j < cur.size:=by omega
  simp only[World.cell?,k1,CW,BX,if_false,BL]
  rw[getElem!_pos _ j hj]
  have e1:cur.toList[j]? =(flatK vDig 32 l.toArray).toList[j]?:=by
   rw[hcur,hF,Cz (by rw[Nw (f:=eDig) (sz:=32)];exact hj2)]
  rw[MU,MU,CQ hj]at e1
  exact e1
 refine(AnyQ.slices_SortFunc_total Tryz.sortD 32 (fun w=>?_) (fun w=>Ed.run (inferInstance:Ed Tryz.prog 31 32 32) w) vDig FV (fun x v h=>(inferInstance:Ov eDig vDig).one x v h) Ea yI 61 #[] r 0 c l.toArray w (fun args w=>(inferInstance:B5 Tryz.prog 61).out args w) (kU (hi.sub (List.nil_sublist _)) k1 k2 k3) hH hlt (by simp;omega) ?_).mono ?_
 ·have hu:Tryz.prog.underlying 31=some (.array 32 5):=by kernel_rfl
  show(isAgg 31).run Tryz.prog w=_
  simp[isAgg,run_underlying hu]
 ·intro x y h1 h2
  unfold ltOf at h1 h2
  have h1:=Bm h1
  have h2:=Bm h2
  rcases Dig.tri x y with h'|h'|h'
  ·exact absurd h' h1
  ·exact h'
  ·exact absurd h' h2
 ·rintro e w' ⟨rfl,n,os,rfl⟩
  have hlen:(sortD l).length=l.length:=DN _
  have hFs:(flatK vDig 32 (sortD l).toArray).toList=(sortD l).flatMap vDig:=Qa (by decide) FV (sortD l)
  have hFz:(flatK vDig 32 (sortD l).toArray).size=l.length*32:=by simp[hlen]
  have htk:=P6 (cur:=cur) (flatK vDig 32 (sortD l).toArray) (by omega)
  have hrow:Js vDig 31 32 (.slice (some ⟨r,0,none⟩) (sortD l).length c) (sortD l) [.raw r (.cells (putCells id 0 (flatK vDig 32 (sortD l).toArray) cur) 31 (0,0))]:=by
   refine Js.mk (rest:=(putCells id 0 (flatK vDig 32 (sortD l).toArray) cur).toList.drop (l.length*32)) FV ?_ (by simp[putCells,hsz]) (by omega)
   rw[←hFs,←htk,hFz,C7]
  rw[hlen]at hrow
  refine⟨_,.raw (.tuple #[]),g,[.raw r (.cells (putCells id 0 (flatK vDig 32 (sortD l).toArray) cur) 31 (0,0))],rfl,.raw _,?_,⟨rfl,rfl,⟨rfl,l7 _ _⟩,Ng n _ os,fun b hb hn=>Fv n _ os b hb (fun e=>hn (by rw[e];simp[Aj,Res.block])),.refl g,fun _ _ _=>⟨fun _=>rfl,rfl⟩⟩,fun b hb _=>by simpa [Aj,Res.block]using hb,_,rfl,hrow⟩
  exact(k5.laterBut k2 k3 k4 (fun k hk hn=>Fv n _ os k hk hn)).addRaw (P2 k1 n _ os) k2 k3 k4
end Go.Proofs
namespace Go.Proofs
open Go Go.Q
attribute [local irreducible] ER AQ BG Fu
def cy (rs:List Rfc):List Dig:=(rs.filter fun r=>!decide (r.id.patch=Dig.zero)).map (·.id.patch)
theorem aw (a b:List Rfc):cy (a++b)=cy a++cy b:=by simp[cy]
theorem kH {rs:List Rfc} {j:Nat} (h:j < rs.length):cy (rs.take (j+1))=cy (rs.take j)++(if rs[j].id.patch=Dig.zero then []else [rs[j].id.patch]):=by
 rw[A7 h,aw]
 congr 1
 unfold cy
 by_cases e:rs[j].id.patch=Dig.zero<;>simp[e]
def jb (p:Pat):List Dig:=p.deps++p.changes.flatMap fun c=>cy (Ei c)
def nP (p:Pat):List Dig:=if(CD p).2≠0 then []else Kh (sortD (jb p))
theorem ef (p:Pat) [hs:B4 (E5 p=false)]:C9 Tryz.prog 20 [.agg (Ba p)] (.slice ((nP p).map eDig) .ro):=⟨by
 obtain⟨hg1,hg2,hg3,hg4,hg5⟩:=Eh hs.out
 refine Au Tryz.func20 Tryz.ntmps20 rfl (rs:= [.tmp 2]) rfl rfl fun hb LF=>?_
 refine wf ?_
 refine AX (fun h1=>?_) (fun h1=>?_)
 ·refine wf ?_
  refine Az (.ros ?_)
  rw[nP,if_pos h1];rfl
 refine wf ?_
 refine CV (xs:= [.tmp 12]) [] LF (f:=57) (cs:= []) (C5 _) rfl rfl (.refl _) _ (Og p.deps .ro (by omega)) fun r L1 ⟨v0,hr,hv0⟩=>?_
 subst hr
 refine wf ?_
 refine wf ?_
 refine Ab (σ:=Nat × Value × List Dig × List Res) (fun k=>k.1≤p.changes.length∧k.2.2.1.length≤200+k.1*404∧k.2.2.1=p.deps++(p.changes.take k.1).flatMap (fun c=>cy (Ei c))∧UQ k.2.1 k.2.2.1 k.2.2.2) (fun k=>p.changes.length - k.1) (fun k=> [(3,.raw k.2.1),(15,.slice (p.changes.map eChg) .ro),(16,.raw (.int .i64 p.changes.length)),(17,.raw (.int .i64 k.1))]) (fun k=>k.2.2.2++LF) (0,v0,p.deps,L1) ⟨by simp,by simpa using hg3,by simp,hv0⟩ ⟨rfl,rfl,rfl,rfl⟩ (.refl _) ?_
 rintro⟨k,v,l,R⟩ ⟨hk,hlen,hl,hv⟩
 dsimp only at hk hlen hl hv
 refine wf ?_
 refine A6 (fun hc=>?_) (fun hc=>?_)
 ·have hlt:k < p.changes.length:=by omega
  have hov:=(hg5 _ (AJ hlt)).over
  have i1:B4 (p.changes[k].over.length≤400):=⟨by omega⟩
  have hrl:=Uq (c:=p.changes[k]) (by omega)
  refine wz fun b5=>?_
  refine Ay 5 ?_
  refine wf ?_
  refine Ab (σ:=Nat × Value × List Dig × List Res) (fun j=>j.1≤(Ei p.changes[k]).length∧j.2.2.1.length≤200+k*404+j.1∧j.2.2.1=l++cy ((Ei p.changes[k]).take j.1)∧UQ j.2.1 j.2.2.1 j.2.2.2) (fun j=>(Ei p.changes[k]).length - j.1) (fun j=> [(3,.raw j.2.1),(15,.slice (p.changes.map eChg) .ro),(16,.raw (.int .i64 p.changes.length)),(17,.raw (.int .i64 k)),(22,.slice ((Ei p.changes[k]).map eRfc) .ro),(23,.raw (.int .i64 (Ei p.changes[k]).length)),(24,.raw (.int .i64 j.1))]) (fun j=>j.2.2.2++LF) (0,v,l,R) ⟨by simp,by simpa using hlen,by simp[cy],hv⟩ ⟨rfl,rfl,rfl,rfl,rfl,rfl,rfl⟩ (.refl _) ?_
  rintro⟨j,v1,l1,R1⟩ ⟨hj,hlen1,hl1,hv1⟩
  dsimp only at hj hlen1 hl1 hv1
  refine wf ?_
  refine A6 (fun hd=>?_) (fun hd=>?_)
  ·have hjt:j < (Ei p.changes[k]).length:=by omega
   have ht:=kH hjt
   refine wz fun b7=>?_
   refine Ay 7 ?_
   refine wf ?_
   refine AX (fun h2=>?_) (fun h2=>?_)
   ·rw[if_neg h2]at ht
    refine wf ?_
    refine Ik (f:=eDig) (m:= [(Ei p.changes[k])[j].id.patch]) (R:=R1) (LF:=LF) (fun R'=>R'++LF) rfl rfl hv1 (.refl _) (fun R'=> .refl _) (by simp only[AN,Af];omega) (by simp only[AN,Af];omega) fun v2 R2 hv2=>?_
    refine wf ?_
    refine wf ?_
    refine⟨(j+1,v2,l1++ [(Ei p.changes[k])[j].id.patch],R2),⟨by dsimp only;omega,by simp only[AA,AN,Af];omega,?_,hv2⟩,by dsimp only;omega,⟨rfl,rfl,rfl,rfl,rfl,rfl,rfl⟩,.refl _⟩
    dsimp only
    rw[ht,←AV,hl1]
   ·rw[if_pos h2,BU]at ht
    refine wf ?_
    refine⟨(j+1,v1,l1,R1),⟨by dsimp only;omega,by dsimp only;omega,?_,hv1⟩,by dsimp only;omega,⟨rfl,rfl,rfl,rfl,rfl,rfl,rfl⟩,.refl _⟩
    dsimp only
    rw[ht,hl1]
  ·rw[AE (by omega)]at hl1
   refine wf ?_
   refine⟨(k+1,v1,l1,R1),⟨by dsimp only;omega,by dsimp only;omega,?_,hv1⟩,by dsimp only;omega,⟨rfl,rfl,rfl,rfl⟩,.refl _⟩
   dsimp only
   rw[hl1,hl,A7 hlt,Jv,AV]
   simp
 rw[AE (by omega)]at hl
 have hl':l=jb p:=hl
 have hsl:(sortD l).length=l.length:=DN _
 refine wf ?_
 refine CV (xs:= [.tmp 40,.func 61]) R LF (f:=60) (cs:= []) (C5 _) rfl rfl (.refl _) _ (SJ l v R hv (by omega)) fun r L2 ⟨v2,e2,hv2⟩=>?_
 subst e2
 refine wf ?_
 refine wf ?_
 refine CV (xs:= [.tmp 42]) L2 LF (f:=62) (cs:= []) (C5 _) rfl rfl (.refl _) _ (Pb (sortD l) v2 L2 hv2 (by omega)) fun r L3 ⟨hr,hL3⟩=>?_
 subst hr
 subst hL3
 refine wf ?_
 refine wf ?_
 refine Az (.ros ?_)
 rw[nP,if_neg (by simp[h1]),←hl']⟩
end Go.Proofs
namespace Go.Proofs
open Go Go.Q Go.Sort
theorem K6 (l:List Dig):(sortD l).Pairwise fun x y=> ¬Dig.lt y x:=by
 have h:=y9 (le:=fun x y=>!(ltOf Ea) y x) (fun a b c h1 h2=>by
  simp only[AG,ltOf,A8]at h1 h2 ⊢
  intro h3
  have h1: ¬Dig.lt b a:=h1
  have h2: ¬Dig.lt c b:=h2
  have h3:Dig.lt c a:=h3
  rcases Dig.tri a b with h|h|h
  ·exact h2 (Dig.lt_trans h3 h)
  ·subst h;exact h2 h3
  ·exact h1 h) (fun a b=>by
  simp only[UA,AG,ltOf,A8]
  by_cases h:Dig.lt b a
  ·exact .inr (Dig.lt_asymm h)
  ·exact .inl h) l
 refine h.imp fun {a b} hab=>?_
 simp only[AG,ltOf,A8]at hab
 exact hab
theorem Rb {l:List Dig} (h:l.Pairwise fun x y=> ¬Dig.lt y x): ∀ j,j≤l.length→Gm (Kh (l.take j))∧ ∀ d,d∈Kh (l.take j)↔d∈l.take j:=by
 intro j
 induction j with
 |zero=>intro _;exact⟨Gm.nil,fun d=>by simp[Kh]⟩
 |succ j ih=>
  intro hj
  obtain⟨i1,i2⟩:=ih (by omega)
  have hlt:j < l.length:=by omega
  by_cases h0:j=0
  ·subst h0
   have e:l.take 1= [l[0]]:=by
    rw[A7 hlt];rfl
   rw[e]
   exact⟨GA _ _,fun d=>Iff.rfl⟩
  rw[Qd (by omega) hlt]
  by_cases e:l[j]=l[j - 1]
  ·rw[if_pos e]
   refine⟨i1,fun d=>?_⟩
   rw[i2,A7 hlt]
   simp only[Ai,Ag]
   refine⟨.inl,fun h=>h.elim id fun h=>?_⟩
   rw[h,e]
   exact DV.2 ⟨j - 1,by omega,rfl⟩
  ·rw[if_neg e]
   refine⟨?_,fun d=>?_⟩
   ·refine H2.2 ⟨i1,GA _ _,fun a ha b hb=>?_⟩
    rw[Ag.1 hb]
    obtain⟨i,hi,rfl⟩:=DV.1 ((i2 a).1 ha)
    have hp:=B7.1 h
    have h3: ¬Dig.lt l[j] l[j - 1]:=hp (j - 1) j (by omega) hlt (by omega)
    have h4:Dig.lt l[j - 1] l[j]:=by
     rcases Dig.tri l[j - 1] l[j]with h'|h'|h'
     ·exact h'
     ·exact absurd h'.symm e
     ·exact absurd h' h3
    by_cases h5:i=j - 1
    ·subst h5;exact h4
    ·have h6: ¬Dig.lt l[j - 1] l[i]:=hp i (j - 1) (by omega) (by omega) (by omega)
     rcases Dig.tri l[i] l[j - 1]with h'|h'|h'
     ·exact Dig.lt_trans h' h4
     ·rw[h'];exact h4
     ·exact absurd h' h6
   ·rw[A7 hlt]
    simp only[Ai,i2]
theorem sS (l:List Dig):Gm (Kh (sortD l)):=by
 have:=(Rb (K6 l) (sortD l).length (Ak _)).1
 rwa [EN]at this
theorem sR (l:List Dig) (d:Dig):d∈Kh (sortD l)↔d∈l:=by
 have:=(Rb (K6 l) (sortD l).length (Ak _)).2 d
 rw[EN]at this
 rw[this]
 exact bR
theorem QS {l:List Ident} {d:Dig}:d∈FY l↔ ∃ x∈l,x.patch≠Dig.zero∧x.patch=d:=by
 unfold FY
 simp only[AO,Ef,AG,A8]
 constructor
 ·rintro⟨x,⟨h1,h2⟩,h3⟩;exact⟨x,h1,h2,h3⟩
 ·rintro⟨x,h1,h2,h3⟩;exact⟨x,⟨h1,h2⟩,h3⟩
theorem si (rs:List Rfc):cy rs=FY (rs.map Rfc.id):=by
 unfold cy FY
 rw[List.filter_map,CK]
 rfl
theorem r6 {c:Chg} (h:Bz c=0):(¬(2≤c.kind∧c.kind≤6)→c.file=Ident.zero)∧(c.kind≠2→c.parent=Ident.zero)∧(¬(c.kind=5∨c.kind=6)→c.after=Ident.zero∧c.before=Ident.zero):=by
 unfold Bz at h
 split at h
 ·omega
 split at h
 ·omega
 rename_i h2
 simp only[Bool.not_eq_false,Fo,BJ,AB]at h2
 obtain⟨⟨⟨⟨⟨⟨⟨⟨⟨a1,_⟩,a2⟩,_⟩,_⟩,_⟩,a3⟩,a4⟩,_⟩,_⟩:=h2
 refine⟨fun h=>?_,fun h=>?_,fun h=>⟨?_,?_⟩⟩
 ·have a:(if 2≤c.kind∧c.kind≤6 then Ident.zero else c.file)=Ident.zero:=a1
  rwa [if_neg h]at a
 ·have a:(if c.kind=2 then Ident.zero else c.parent)=Ident.zero:=a2
  rwa [if_neg h]at a
 ·have a:(if c.kind=5∨c.kind=6 then Ident.zero else c.after)=Ident.zero:=a3
  rwa [if_neg h]at a
 ·have a:(if c.kind=5∨c.kind=6 then Ident.zero else c.before)=Ident.zero:=a4
  rwa [if_neg h]at a
theorem Y7 {c:Chg} (h:Bz c=0) (d:Dig):d∈cy (Ei c)↔d∈FY (IL c):=by
 obtain⟨u1,u2,u3⟩:=r6 h
 have hz:Ident.zero.patch=Dig.zero:=rfl
 rw[si,QS,QS]
 have key: ∀ x:Ident,x.patch≠Dig.zero→(x∈(Ei c).map Rfc.id↔x∈IL c):=fun x hx=>by
  have hk:=Mj h
  have e4: ∀ l:List Ident,(NJ c l).map Rfc.id=l:=fun l=>by
   rw[NJ,CK]
   show l.map (fun x=>x)=l
   simp
  unfold Ei IL
  simp only[An,e4,Ai,AH,Ah,or_false]
  have n1:x=Ident.zero→False:=fun e=>hx (by rw[e];rfl)
  have n2:x=⟨Dig.zero,-1⟩→False:=fun e=>hx (by rw[e])
  rcases kinds hk with k|k|k|k|k|k|k<;>simp only[Hq,KQ,P4,k]at u1 u2 u3 ⊢ <;>simp<;>grind
 constructor
 ·rintro⟨x,h1,h2,h3⟩;exact⟨x,(key x h2).1 h1,h2,h3⟩
 ·rintro⟨x,h1,h2,h3⟩;exact⟨x,(key x h2).2 h1,h2,h3⟩
theorem NL: ∀ (l:List Chg) (own:List Atm),(Cv l own).2=0→ ∀ c∈l,Bz c=0
 | [],_,_,c,hc=>by cases hc
 |x::l,own,h,c,hc=>by
  rw[Cv]at h
  split at h
  ·rename_i h1;exact absurd h h1
  rename_i h1
  split at h
  ·rename_i h2;exact absurd h h2
  rcases AH.1 hc with rfl|hc
  ·simpa using h1
  ·exact NL l _ h c hc
theorem JH: ∀ (cs:List Chg) (m:List Dig) (d:Dig),d∈cs.foldl OV m↔d∈m∨ ∃ c∈cs,d∈FY (IL c)
 | [],m,d=>by simp
 |c::cs,m,d=>by
  rw[C0,JH cs,OV,HB]
  simp only[AH,exists_eq_or_imp,or_assoc]
theorem RH: ∀ (cs:List Chg) (m:List Dig),Gm m→Gm (cs.foldl OV m)
 | [],m,h=>h
 |c::cs,m,h=>RH cs _ (Fx h)
theorem vl (p:Pat):nP p=Ax p:=by
 unfold nP Ax
 by_cases h:(CD p).2≠0
 ·rw[if_pos h,if_pos h]
 rw[if_neg h,if_neg h]
 have h0:(Bo p).2=0:=by
  by_cases h1:(Bo p).2≠0
  ·rw[CD,if_pos h1]at h;exact absurd h1 h
  ·simpa using h1
 have hF: ∀ c∈p.changes,Bz c=0:=by
  rw[Ic]at h0
  split at h0
  ·rename_i h1;exact absurd h0 h1
  ·exact NL _ _ h0
 refine Gm.ext (sS _) (RH _ _ (Fx Gm.nil)) fun d=>?_
 rw[sR,JH,HB,jb]
 simp only[Ai,List.mem_flatMap,Ah,false_or]
 constructor
 ·rintro(h|⟨c,hc,h⟩)
  ·exact .inl h
  ·exact .inr ⟨c,hc,(Y7 (hF c hc) d).1 h⟩
 ·rintro(h|⟨c,hc,h⟩)
  ·exact .inl h
  ·exact .inr ⟨c,hc,(Y7 (hF c hc) d).2 h⟩
instance uY (p:Pat) [hs:B4 (E5 p=false)]:C9 Tryz.prog 20 [.agg (Ba p)] (.slice ((Ax p).map eDig) .ro):=vl p ▸ ef p
end Go.Proofs
namespace Go.Proofs
open Go Go.Q
attribute [local irreducible] ER AQ BG Fu
def gr (s:List Sto):List (Dig × List Dig):=s.foldl (fun m x=>DJ x.id (Ax x.patch) m) []
theorem cZ {s:List Sto} {k:Nat} (h:k < s.length):gr (s.take (k+1))=DJ s[k].id (Ax s[k].patch) (gr (s.take k)):=by
 rw[A7 h,gr,CH];rfl
instance sZ (s:List Sto) (t:CN) [hs:B4 (HY s)]:C9 Tryz.prog 78 [.slice (s.map eSto) t] (.fmap (Bb kDig (KO eDig) (gr s))):=⟨by
 have hs:=hs.out
 refine Au Tryz.func78 Tryz.ntmps78 rfl (rs:= [.tmp 2]) rfl rfl fun hb LF=>?_
 refine yD fun b=>?_
 refine Ab (σ:=Nat) (fun k=>k≤s.length) (fun k=>s.length - k) (fun k=> [(3,.raw (.map (some b))),(7,.slice (s.map eSto) t),(8,.raw (.int .i64 s.length)),(9,.raw (.int .i64 k))]) (fun k=> .map b (Bb kDig (KO eDig) (gr (s.take k)))::LF) 0 (by simp) ⟨rfl,rfl,rfl,rfl⟩ (.refl _) ?_
 intro k hk
 refine wf ?_
 refine A6 (fun hc=>?_) (fun hc=>?_)
 ·have hlt:k < s.length:=by omega
  have h8:=hs.1
  have:B4 (E5 s[k].patch=false):=⟨hs.2 _ (AJ hlt)⟩
  refine wz fun b5=>?_
  refine Ay 5 ?_
  refine wn ?_
  refine Bp 6 ?_ ?_
  ·decide+kernel
  refine wf ?_
  refine⟨k+1,by omega,by dsimp only;omega,⟨rfl,rfl,rfl,rfl⟩,?_⟩
  dsimp only
  rw[cZ hlt]
  exact .refl _
 ·refine Gj ?_
  rw[AE (by omega)]
  refine Nt [(3,.fmap (Bb kDig (KO eDig) (gr s)))] (.inr ⟨rfl,rfl⟩) (.refl _) ?_
  refine wf ?_
  exact Az (.refl _)⟩
def Ki (out l:List Dig):List Dig:=l.foldl (fun o d=>if d∈o then o else o++ [d]) out
theorem fh {out l:List Dig} {k:Nat} (h:k < l.length):Ki out (l.take (k+1))=if l[k]∈Ki out (l.take k)then Ki out (l.take k)else Ki out (l.take k)++ [l[k]]:=by
 rw[A7 h,Ki,CH];rfl
theorem ko (out:List Dig): ∀ l:List Dig,(Ki out l).length≤out.length+l.length:=by
 intro l
 induction l generalizing out with
 |nil=>simp[Ki]
 |cons x l ih=>
  have:=ih (if x∈out then out else out++ [x])
  rw[Ki,C0]
  refine CX this ?_
  split<;>simp<;>omega
def Vl (met:List (Dig × Bool)) (out:List Dig):Prop:= ∀ d,(CU d met).getD false=decide (d∈out)
theorem Vl.add {met:List (Dig × Bool)} {out:List Dig} (h:Vl met out) (d:Dig):Vl (DJ d true met) (out++ [d]):=fun x=>by
 rw[HN]
 by_cases e:x=d
 ·subst e;simp
 ·rw[if_neg e,h x];simp[e]
def ox (b6 m b7:Nat) (out:List Dig) (L:List Res):Prop:= ∃ met v R,Vl met out∧UQ v out R∧L= .box b6 121 [.raw (.map (some m))]:: .map m (Bb kDig vBool met):: .box b7 24 [.raw v]::R
theorem Dx {a b c:Res} {L LF:List Res}:(a::b::c::(L++LF)).Perm (L++(a::b::c::LF)):=((Bg (l₁:=L)).trans (.cons a ((Bg (l₁:=L)).trans (.cons b Bg)))).symm
def Ou (G:List (Dig × List Dig)) (l:List Dig):Bool:=l.all fun d=>(CU d G).isSome
theorem dH (G:List (Dig × List Dig)) (l:List Dig) (t:CN) (b6 m b7:Nat) (out:List Dig) (L:List Res) (hL:ox b6 m b7 out L) (hb:out.length+l.length≤1000):
  BG Tryz.prog 160 [.slice (l.map eDig) t,.pt [.fmap (Bb kDig (KO eDig) G)] 0,.raw (.pointer (some ⟨b6,0,none⟩)),.raw (.pointer (some ⟨b7,0,none⟩))] L (fun r L'=>r= .raw (.bool (Ou G l))∧ ∃ out',ox b6 m b7 out' L'∧(Ou G l=true→out'=Ki out l)):=by
 refine CA Tryz.func160 rfl Tryz.ntmps160 (rs:= [.tmp 5]) rfl rfl fun hbd LF=>?_
 refine wf ?_
 refine Ab (σ:=Nat × List Res) (fun k=>k.1≤l.length∧(∀ i (h:i < l.length),i < k.1→(CU l[i] G).isSome=true)∧ox b6 m b7 (Ki out (l.take k.1)) k.2) (fun k=>l.length - k.1) (fun k=> [(1,.pt [.fmap (Bb kDig (KO eDig) G)] 0),(2,.raw (.pointer (some ⟨b6,0,none⟩))),(3,.raw (.pointer (some ⟨b7,0,none⟩))),(10,.slice (l.map eDig) t),(11,.raw (.int .i64 l.length)),(12,.raw (.int .i64 k.1))]) (fun k=>k.2++LF) (0,L) ⟨by simp,by simp,hL⟩ ⟨rfl,rfl,rfl,rfl,rfl,rfl⟩ (.refl _) ?_
 rintro⟨k,L1⟩ ⟨hk,hall,met,v,R,hm,hv,rfl⟩
 dsimp only at hk hall hm hv ⊢
 refine wf ?_
 refine A6 (fun hc=>?_) (fun hc=>?_)
 ·have hlt:k < l.length:=by omega
  refine wz fun b=>?_
  refine Ay 7 ?_
  refine wf ?_
  refine AU (fun h=>?_) (fun h=>?_)
  ·have h0:(CU l[k] G).isSome=false:=by simpa using h
   have hA:Ou G l=false:=by
    unfold Ou
    exact J3.2 ⟨l[k],AJ hlt,by simp[h0]⟩
   refine wf ?_
   exact⟨trivial,_,_,.cons (.tmp 5) .nil,.refl _,by rw[hA];exact rfl,_,⟨met,v,R,hm,hv,rfl⟩,fun h=>by rw[hA]at h;cases h⟩
  have hi:(CU l[k] G).isSome=true:=by simpa using h
  have hall': ∀ i (h:i < l.length),i < k+1→(CU l[i] G).isSome=true:=fun i hi' hik=>by
   rcases BP i k with h'|h'
   ·exact hall i hi' h'
   ·have e:i=k:=by omega
    subst e;exact hi
  refine wf ?_
  have hml:=hm l[k]
  have ht:=fh (out:=out) hlt
  refine AU (fun h=>?_) (fun h=>?_)
  ·have hno:l[k]∉Ki out (l.take k):=by
    rw[hml]at h;simpa using h
   rw[if_neg hno]at ht
   have hol:=ko out (l.take k)
   rw[AZ]at hol
   refine wf ?_
   refine Sg (κ:=Dig) (ek:=kDig) (ev:=vBool) (k0:=l[k]) (x0:=true) (L':= .box b6 121 [.raw (.map (some m))]:: .box b7 24 [.raw v]::(R++LF)) rfl (.swap _ _ _) (.refl _) (.refl _) ?_
   refine AD ?_
   refine EP (.swap _ _ _) ?_
   refine wf ?_
   refine Ik (f:=eDig) (m:= [l[k]]) (R:=R) (LF:= .box b6 121 [.raw (.map (some m))]:: .map m (Bb kDig vBool (DJ l[k] true met)):: .box b7 24 [.raw v]::LF) (fun R'=> .box b6 121 [.raw (.map (some m))]:: .map m (Bb kDig vBool (DJ l[k] true met)):: .box b7 24 [.raw v]::(R'++LF)) rfl rfl hv Dx (fun R'=>Dx.symm) (by simp only[AN,Af];omega) (by simp only[AN,Af];omega) fun v2 R2 hv2=>?_
   refine wf ?_
   refine Ho [.raw v2] rfl rfl hv2.one rfl (by simp) ?_
   refine wf ?_
   refine wf ?_
   refine⟨(k+1,_),⟨by dsimp only;omega,hall',DJ l[k] true met,v2,R2,?_,?_,rfl⟩,by dsimp only;omega,⟨rfl,rfl,rfl,rfl,rfl,rfl⟩,.refl _⟩
   ·dsimp only;rw[ht];exact hm.add _
   ·dsimp only;rw[ht];exact hv2
  ·have hyes:l[k]∈Ki out (l.take k):=by
    rw[hml]at h;simpa using h
   rw[if_pos hyes]at ht
   refine wf ?_
   exact⟨(k+1,_),⟨by dsimp only;omega,hall',met,v,R,by dsimp only;rw[ht];exact hm,by dsimp only;rw[ht];exact hv,rfl⟩,by dsimp only;omega,⟨rfl,rfl,rfl,rfl,rfl,rfl⟩,.refl _⟩
 ·have hA:Ou G l=true:=by
   unfold Ou
   refine BT.2 fun d hd=>?_
   obtain⟨i,hi,rfl⟩:=Ad.1 hd
   exact hall i hi (by omega)
  refine wf ?_
  rw[AE (by omega)]at hm hv
  exact⟨trivial,_,_,.cons (.tmp 5) .nil,.refl _,by rw[hA];exact rfl,_,⟨met,v,R,hm,hv,rfl⟩,fun _=>rfl⟩
end Go.Proofs
namespace Go.Proofs
open Go Go.Q
def ndG (G:List (Dig × List Dig)) (d:Dig):List Dig:=(CU d G).getD []
theorem Rh (out:List Dig) (x:Dig) (l:List Dig):Ki out (x::l)=Ki (if x∈out then out else out++ [x]) l:=rfl
theorem Kc: ∀ {l out:List Dig} {d:Dig},d∈Ki out l↔d∈out∨d∈l
 | [],out,d=>by simp[Ki]
 |x::l,out,d=>by
  rw[Rh,Kc]
  split
  ·rename_i h
   constructor
   ·rintro(h1|h1)
    ·exact .inl h1
    ·exact .inr (AI _ h1)
   ·rintro(h1|h1)
    ·exact .inl h1
    ·rcases AH.1 h1 with rfl|h1
     ·exact .inl h
     ·exact .inr h1
  ·simp[or_assoc]
theorem Pe: ∀ {l out:List Dig},out.Nodup→(Ki out l).Nodup
 | [],_,h=>h
 |x::l,out,h=>by
  rw[Rh]
  refine Pe ?_
  split
  ·exact h
  ·rename_i hx
   refine H2.2 ⟨h,GA _ _,fun a ha b hb=>?_⟩
   rw[Ag.1 hb]
   rintro rfl
   exact hx ha
theorem O9: ∀ {l out:List Dig},out <+:Ki out l
 | [],_=>List.prefix_refl _
 |x::l,out=>by
  rw[Rh]
  refine List.IsPrefix.trans ?_ O9
  split
  ·exact List.prefix_refl _
  ·exact List.prefix_append _ _
structure l4 (nd:Dig→List Dig) (l out:List Dig) (i:Nat):Prop where
 nodup:out.Nodup
 sub: ∀ d∈l,d∈out
 reach: ∀ d∈out,Q.Reach nd l d
 done: ∀ j (h:j < out.length),j < i→ ∀ d∈nd out[j],d∈out
theorem l4.start (nd:Dig→List Dig) (l:List Dig):l4 nd l (Ki [] l) 0:=
 ⟨Pe .nil,fun d hd=>Kc.2 (.inr hd),fun d hd=> .base ((Kc.1 hd).elim (fun h=>absurd h (by simp)) id),fun _ _ h=>absurd h (by omega)⟩
theorem l4.step {nd:Dig→List Dig} {l out:List Dig} {i:Nat} (h:l4 nd l out i) (hi:i < out.length):l4 nd l (Ki out (nd out[i])) (i+1):=by
 refine⟨Pe h.nodup,fun d hd=>Kc.2 (.inl (h.sub d hd)),fun d hd=>?_,fun j hj hji d hd=>?_⟩
 ·rcases Kc.1 hd with h1|h1
  ·exact h.reach d h1
  ·exact .step (h.reach _ (AJ hi)) h1
 ·have hjo:j < out.length:=by omega
  have e:(Ki out (nd out[i]))[j]=out[j]:=(O9.getElem hjo).symm
  rw[e]at hd
  by_cases hj2:j < i
  ·exact Kc.2 (.inl (h.done j hjo hj2 d hd))
  ·have hje:j=i:=by omega
   subst hje
   exact Kc.2 (.inr hd)
theorem l4.fin {nd:Dig→List Dig} {l out:List Dig} {i:Nat} (h:l4 nd l out i) (hi:out.length≤i) (d:Dig):d∈out↔Q.Reach nd l d:=by
 refine⟨h.reach d,fun hr=>?_⟩
 induction hr with
 |base hd=>exact h.sub _ hd
 |step _ hd ih=>
  obtain⟨j,hj,rfl⟩:=Ad.1 ih
  exact h.done j hj (by omega) _ hd
theorem l4.len {nd:Dig→List Dig} {l out U:List Dig} {i:Nat} (h:l4 nd l out i) (hU: ∀ x∈U,∀ d∈nd x,d∈U) (hl: ∀ d∈l,d∈U):out.length≤U.length:=
 FR h.nodup fun d hd=>(h.reach d hd).in_ hU hl
theorem dm {l:List Dig} (h:l.Nodup):Gm (sortD l):=by
 have h2:(sortD l).Nodup:=(List.mergeSort_perm l _).nodup_iff.2 h
 refine B7.2 fun i j hi hj hij=>?_
 have a:=B7.1 (K6 l) i j hi hj hij
 have b:=B7.1 h2 i j hi hj hij
 rcases Dig.tri (sortD l)[i] (sortD l)[j]with h'|h'|h'
 ·exact h'
 ·exact absurd h' b
 ·exact absurd h' a
theorem Ub {l:List Dig} {d:Dig}:d∈sortD l↔d∈l:=bR
theorem qH: ∀ (s:List Sto) (m:List (Dig × List Dig)) (d:Dig),(CU d (s.foldl (fun m x=>DJ x.id (Ax x.patch) m) m)).isSome=(decide (d∈ids s)||(CU d m).isSome)
 | [],m,d=>by simp[ids]
 |x::s,m,d=>by
  rw[C0,qH s,HN]
  by_cases e:d=x.id<;>simp[ids,e]
theorem jt: ∀ (s:List Sto) (m:List (Dig × List Dig)) (d:Dig) (r:List Dig),CU d (s.foldl (fun m x=>DJ x.id (Ax x.patch) m) m)=some r→(∃ x∈s,x.id=d∧r=Ax x.patch)∨CU d m=some r
 | [],m,d,r,h=> .inr h
 |x::s,m,d,r,h=>by
  rw[C0]at h
  rcases jt s _ d r h with ⟨y,hy,h1,h2⟩|h1
  ·exact .inl ⟨y,AI _ hy,h1,h2⟩
  ·rw[HN]at h1
   split at h1
   ·rename_i e
    exact .inl ⟨x,AF,e.symm,(DF h1).symm⟩
   ·exact .inr h1
theorem Wt (s:List Sto) (d:Dig):(CU d (gr s)).isSome=decide (d∈ids s):=by
 rw[gr,qH];simp[CU]
theorem Bc.ndG {s:List Sto} (v:Bc s):Go.Proofs.ndG (gr s)=Go.Proofs.ndS s:=by
 funext d
 have h1:=Wt s d
 unfold Go.Proofs.ndG
 cases hg:CU d (gr s)with
 |none=>
  rw[hg]at h1
  have hd: ¬d∈ids s:=by simpa using h1
  have hn:Go.Proofs.getS s d=none:=by
   cases hs:Go.Proofs.getS s d with
   |none=>rfl
   |some p=>
    obtain⟨x,hx,e,_⟩:=Ke hs
    exact absurd (AO.2 ⟨x,hx,e⟩) hd
  rw[Go.Proofs.ndS,hn,NG,NG,TQ]
 |some r=>
  rcases jt s [] d r hg with ⟨x,hx,e,rfl⟩|h2
  ·subst e
   rw[v.ndS hx];rfl
  ·simp[CU]at h2
attribute [local irreducible] ER AQ BG Fu
def clG (G:List (Dig × List Dig)) (U l:List Dig):List Dig × Bool:=if Ou G l=false then([],false)else(MC (ndG G) U.length (Dh [] l),true)
structure ky (G:List (Dig × List Dig)) (U:List Dig):Prop where
 is: ∀ d,(CU d G).isSome=decide (d∈U)
 len:U.length≤200
 cl: ∀ x∈U,∀ d∈ndG G x,d∈U
 nd: ∀ x,(ndG G x).length≤400
theorem ky.all {G:List (Dig × List Dig)} {U l:List Dig} (h:ky G U):Ou G l=true↔ ∀ d∈l,d∈U:=by
 unfold Ou
 rw[BT]
 exact⟨fun k d hd=>by have:=k d hd;rw[h.is]at this;exact BF this,fun k d hd=>by rw[h.is];exact BK (k d hd)⟩
theorem lb:Cq Tryz.prog 24 [.raw (.slice none 0 0)]:=NY (v:= .slice none 0 0) (by kernel_rfl) rfl fun _=> .raw _
theorem Sn (G:List (Dig × List Dig)) (U:List Dig) (hG:ky G U) (l:List Dig) (t:CN) (hl:l.length≤400):C9 Tryz.prog 108 [.fmap (Bb kDig (KO eDig) G),.slice (l.map eDig) t] (.tuple [.slice ((clG G U l).1.map eDig) .ro,.raw (.bool (clG G U l).2)]):=⟨by
 refine Au Tryz.func108 Tryz.ntmps108 rfl (rs:= [.tmp 4,.tmp 5]) rfl rfl fun hb LF=>?_
 refine wf ?_
 refine RN fun m=>?_
 refine CC fun b6=>?_
 refine wf ?_
 refine CC (hZ:=lb) fun b7=>?_
 refine wf ?_
 refine CV (xs:= [.tmp 13]) [.box b6 121 [.raw (.map (some m))],.map m (Bb kDig vBool []),.box b7 24 [.raw (.slice none 0 0)]] LF (f:=160) (cs:= [.pt [.fmap (Bb kDig (KO eDig) G)] 0,.raw (.pointer (some ⟨b6,0,none⟩)),.raw (.pointer (some ⟨b7,0,none⟩))]) (.refl _) rfl rfl (Bg (l₁:= [_,_])).symm _ (dH G l t b6 m b7 [] _ ⟨[],.slice none 0 0,[],fun d=>by simp[CU],.nil none (by simp),rfl⟩ (by simp;omega)) fun r L1 ⟨hr,out0,hC,ho⟩=>?_
 subst hr
 refine wf ?_
 refine AU (fun h=>?_) (fun h=>?_)
 ·have h0:Ou G l=false:=by simpa using h
  refine wf ?_
  refine HD (hs:=DU _ _) ?_
  rw[clG,if_pos h0]
  exact .tuple2 (.ro _ _) (.refl _)
 have h1:Ou G l=true:=by simpa using h
 have hlU:=hG.all.1 h1
 rw[clG,if_neg (by simp[h1])]
 have ho:=ho h1
 subst ho
 refine wf ?_
 refine Ab (σ:=Nat × List Dig × List Res) (fun k=>k.1≤k.2.1.length∧l4 (ndG G) l k.2.1 k.1∧ox b6 m b7 k.2.1 k.2.2) (fun k=>U.length - k.1) (fun k=> [(2,.pt [.fmap (Bb kDig (KO eDig) G)] 0),(7,.raw (.pointer (some ⟨b7,0,none⟩))),(8,.clo 160 [.pt [.fmap (Bb kDig (KO eDig) G)] 0,.raw (.pointer (some ⟨b6,0,none⟩)),.raw (.pointer (some ⟨b7,0,none⟩))]),(9,.raw (.int .i64 k.1))]) (fun k=>k.2.2++LF) (0,Ki [] l,L1) ⟨by simp,l4.start _ _,hC⟩ ⟨rfl,rfl,rfl,rfl⟩ (.refl _) ?_
 rintro⟨k,out,L2⟩ ⟨hk,hI,met,v,R,hm,hv,rfl⟩
 dsimp only at hk hI hm hv ⊢
 have hol:=hI.len hG.cl hlU
 have hUl:=hG.len
 obtain⟨o,c,rfl⟩:=hv.slice
 refine wf ?_
 refine KP rfl ?_
 refine wf ?_
 refine A6 (fun hc=>?_) (fun hc=>?_)
 ·have hlt:k < out.length:=by omega
  have hne:out≠ []:=fun e=>by subst e;simp at hlt
  obtain⟨_,r,cur,rest,rfl,rfl,hcur,hsz,hlc⟩:=hv.inv hne
  refine wn ?_
  refine Bp 7 ?_ ?_
  ·decide+kernel
  refine wf ?_
  refine Fe (k:=k) rfl rfl hlt ?_
  refine OO (f:=eDig) (a0:=out[k]) rfl (EI _ (AI _ (AI _ (AI _ AF)))) (by rw[hcur,BL];exact PE FV out k hlt rest) (by omega) ?_
  refine wf ?_
  have hin:out[k]∈U:=(hI.reach _ (AJ hlt)).in_ hG.cl hlU
  have hA:Ou G (ndG G out[k])=true:=hG.all.2 (hG.cl _ hin)
  have hnd:=hG.nd out[k]
  refine CV (xs:= [.tmp 28]) (.box b6 121 [.raw (.map (some m))]:: .map m (Bb kDig vBool met):: .box b7 24 [.raw (.slice (some ⟨r,0,none⟩) out.length c)]:: [.raw r (.cells cur 31 (0,0))]) LF (f:=160) (cs:= [.pt [.fmap (Bb kDig (KO eDig) G)] 0,.raw (.pointer (some ⟨b6,0,none⟩)),.raw (.pointer (some ⟨b7,0,none⟩))]) (.refl _) rfl rfl (.refl _) _ (dH G (ndG G out[k]) .ro b6 m b7 out _ ⟨met,_,_,hm,hv,rfl⟩ (by omega)) fun r L3 ⟨hr,out1,hC1,ho1⟩=>?_
  have ho1:=ho1 hA
  subst ho1
  refine wf ?_
  refine wf ?_
  have hpl:=(O9 (out:=out) (l:=ndG G out[k])).length_le
  exact⟨(k+1,Ki out (ndG G out[k]),L3),⟨by dsimp only;omega,hI.step hlt,hC1⟩,by dsimp only;omega,⟨rfl,rfl,rfl,rfl⟩,.refl _⟩
 have hfin:=hI.fin (by omega)
 have hmx:(sortD out).length≤maxN∧(sortD out).length*32≤maxN:=by
  have:maxN=140737488355328:=rfl
  have h2:(sortD out).length=out.length:=DN _
  omega
 refine wf ?_
 refine CV (xs:= [.tmp 30,.func 61]) R (.box b6 121 [.raw (.map (some m))]:: .map m (Bb kDig vBool met):: .box b7 24 [.raw (.slice o out.length c)]::LF) (f:=60) (cs:= []) (C5 _) rfl rfl Dx _ (SJ out _ R hv (by omega)) fun r L3 ⟨v2,e2,hv2⟩=>?_
 subst e2
 refine AD ?_
 refine EP Dx.symm ?_
 refine Da ?_
 refine CR (by kernel_rfl) ?_
 refine wo ?_
 refine AD ?_
 refine Gp (f:=eDig) 4 hv2 hmx Dx rfl ?_
 refine wf ?_
 refine HD ?_
 have e:sortD out=MC (ndG G) U.length (Dh [] l):=by
  refine Gm.ext (dm hI.nodup) (Oc (Fx .nil)) fun d=>?_
  rw[Ub,hfin]
  exact(Ly hG.cl hlU (Ak _)).symm
 rw[e]
 exact .refl _⟩
theorem Ga (p:Pat):Gm (Ax p):=by
 unfold Ax
 split
 ·exact .nil
 ·exact RH _ _ (Fx .nil)
theorem nW (s:List Sto) (d:Dig):Gm (ndS s d):=Ga _
theorem Bc.grOk {s:List Sto} (v:Bc s):ky (gr s) (ids s):=by
 have h8:=v.close.1.1
 refine⟨Wt s,by rw[HO];omega,fun x _ d hd=>?_,fun x=>?_⟩
 ·rw[v.ndG]at hd
  exact v.close.nd x d hd
 ·rw[v.ndG]
  have:=v.close.small (nW s x) (v.close.nd x)
  omega
theorem Bc.clG {s:List Sto} (v:Bc s) (l:List Dig):(Go.Proofs.clG (gr s) (ids s) l).1=(Di s l).1∧(Di s l).2=if(Go.Proofs.clG (gr s) (ids s) l).2=false then 7 else 0:=by
 have h1:Ou (gr s) l=DM (ids s) l:=by
  unfold Ou DM
  congr 1
  funext d
  exact Wt s d
 unfold Go.Proofs.clG Di
 rw[h1,v.ndG,HO]
 split<;>simp
instance ZZ (s:List Sto) (l:List Dig) (t u:CN) [hs:B4 (Bc s)] [hl:B4 (l.length≤400)]:C9 Tryz.prog 46 [.slice (s.map eSto) t,.slice (l.map eDig) u] (.tuple [.slice ((Di s l).1.map eDig) .ro,.raw (.int .i64 (Di s l).2)]):=⟨by
 have v:=hs.out
 have i1:B4 (HY s):=⟨v.close.1⟩
 have i2:=fun t=>Sn (gr s) (ids s) v.grOk l t hl.out
 refine Au Tryz.func46 Tryz.ntmps46 rfl (rs:= [.tmp 4,.tmp 5]) rfl rfl fun hb LF=>?_
 obtain⟨e1,e2⟩:=v.clG l
 refine wf ?_
 refine AU (fun h=>?_) (fun h=>?_)
 ·have h0:(clG (gr s) (ids s) l).2=false:=by simpa using h
  rw[if_pos h0]at e2
  have e3:(Di s l).1= []:=by
   unfold Di at e2 ⊢
   split
   ·rfl
   ·rename_i h3
    rw[if_neg h3]at e2
    simp at e2
  refine wf ?_
  refine HD ?_
  rw[e2,e3]
  exact .tuple2 (.ro _ _) (.refl _)
 ·have h0:(clG (gr s) (ids s) l).2=true:=by simpa using h
  rw[h0]at e2
  simp at e2
  refine wf ?_
  refine HD ?_
  rw[e2,←e1]
  exact .refl _⟩
def cm (l:List Dig):List (Dig × Bool):=l.foldl (fun m x=>DJ x true m) []
def cM (s l:List Sto):List (Dig × List (Dig × Bool)):=l.foldl (fun m x=>DJ x.id (cm (Ot s x.id)) m) []
def yT (s:List Sto):List PV:= [.slice (s.map eSto) .ro]++ [.fmap (Bb kDig (yE kDig vBool) (cM s s))]
@[simp] theorem vw (s:List Sto):(yT s).length=2:=rfl
instance yL {a b c:PV}:FB [a,b] 0 [c] [c,b]:=DE (a:= [a]) (b:= [b]) (new:= [c]) rfl
instance yK {a b c:PV}:FB [a,b] 1 [c] [a,c]:=Ae (a:= [a]) (n:=1) (off:=0) rfl (Lv (a:= [b]) (new:= [c]) rfl)
instance {b:Option Nat}:E4 (.raw (.map b)) [.raw (.map b)]:=⟨.one (E3.out)⟩
attribute [local irreducible] NC
end Go.Proofs
namespace Go.Proofs
open Go Go.Q
attribute [local irreducible] ER AQ BG Fu
def nm (l:List Dig) (d:Dig):Int:=if d∈l then(l.idxOf d:Int)else -1
theorem Yr {l:List Dig} {d:Dig} {k:Nat} (hk:k < l.length) (hn:d∉l.take k) (e:d=l[k]):l.idxOf d=k:=by
 induction l generalizing k with
 |nil=>simp at hk
 |cons x l ih=>
  cases k with
  |zero=>simp at e;subst e;simp
  |succ k=>
   simp only[Oi,AH,not_or]at hn
   have:=ih (k:=k) (by simpa using hk) hn.2 (by simpa using e)
   rw[List.idxOf_cons,beq_eq_false_iff_ne.2 (Ne.symm hn.1),cond_false,this]
instance ub (l:List Dig) (d:Dig) (t:CN):C9 Tryz.prog 77 [.slice (l.map eDig) t,.agg (eDig d)] (.raw (.int .i64 (nm l d))):=⟨by
 refine Au Tryz.func77 Tryz.ntmps77 rfl (rs:= [.tmp 4]) rfl rfl fun hb LF=>?_
 have hlen:l.length≤140737488355328:=(hb (.slice (l.map eDig) t) (by simp)).slice_map
 refine wf ?_
 refine Ab (σ:=Nat) (fun k=>k≤l.length∧d∉l.take k) (fun k=>l.length - k) (fun k=> [(0,.slice (l.map eDig) t),(3,.pt (eDig d) 0),(7,.raw (.int .i64 l.length)),(8,.raw (.int .i64 k))]) (fun _=>LF) 0 ⟨by simp,by simp⟩ ⟨rfl,rfl,rfl,rfl⟩ (.refl _) ?_
 rintro k ⟨hk,hn⟩
 refine wf ?_
 refine A6 (fun hc=>?_) (fun hc=>?_)
 ·have hlt:k < l.length:=by omega
  refine wf ?_
  refine A6 (fun h=>?_) (fun h=>?_)
  ·refine wf ?_
   refine Az (.of_eq ?_)
   rw[nm,if_pos (h ▸ AJ hlt),Yr hlt hn h]
  ·refine wf ?_
   refine⟨k+1,⟨by omega,?_⟩,by dsimp only;omega,⟨rfl,rfl,rfl,rfl⟩,.refl _⟩
   rw[A7 hlt,Ai,Ag]
   rintro(h'|h')
   ·exact hn h'
   ·exact h h'
 ·refine wf ?_
  refine Az (.of_eq ?_)
  rw[AE (by omega)]at hn
  rw[nm,if_neg hn]⟩
instance ow (l:List Dig) (d:Dig) (t:CN):C9 Tryz.prog 26 [.slice (l.map eDig) t,.agg (eDig d)] (.raw (.bool (decide (d∈l)))):=⟨by
 refine Au Tryz.func26 Tryz.ntmps26 rfl (rs:= [.tmp 4]) rfl rfl fun hb LF=>?_
 refine wf ?_
 refine Az (.of_eq ?_)
 by_cases h:d∈l<;>simp[nm,h]⟩
end Go.Proofs
namespace Go.Proofs
open Go Go.Q
attribute [local irreducible] ER AQ BG Fu
def Fp {α:Type} (p:α→Bool) (l:List α):Int:=if l.any p=true then(l.findIdx p:Int)else -1
theorem JX {α:Type} {p:α→Bool} {l:List α} {k:Nat} (hk:k < l.length) (hn:(l.take k).any p=false) (e:p l[k]=true):l.findIdx p=k:=by
 refine pE hk |>.2 ⟨e,fun j hj=>?_⟩
 have:=Bf.1 hn (l[j]) (DV.2 ⟨j,by omega,rfl⟩)
 simpa using this
theorem fA (F:Nat) (cs:List PV) (p:Dig→Bool) [hF:B5 Tryz.prog F] [hp: ∀ d,C9 Tryz.prog F (.agg (eDig d)::cs) (.raw (.bool (p d)))] (l:List Dig) (t:CN):
  C9 Tryz.prog 109 [.slice (l.map eDig) t,.clo F cs] (.raw (.int .i64 (Fp p l))):=⟨by
 refine Au Tryz.func109 Tryz.ntmps109 rfl (rs:= [.tmp 4]) rfl rfl fun hb LF=>?_
 have hlen:l.length≤140737488355328:=(hb (.slice (l.map eDig) t) (by simp)).slice_map
 refine wf ?_
 refine Ab (σ:=Nat) (fun k=>k≤l.length∧(l.take k).any p=false) (fun k=>l.length - k) (fun k=> [(0,.slice (l.map eDig) t),(1,.clo F cs),(7,.raw (.int .i64 l.length)),(8,.raw (.int .i64 k))]) (fun _=>LF) 0 ⟨by simp,by simp⟩ ⟨rfl,rfl,rfl,rfl⟩ (.refl _) ?_
 rintro k ⟨hk,hn⟩
 refine wf ?_
 refine A6 (fun hc=>?_) (fun hc=>?_)
 ·have hlt:k < l.length:=by omega
  refine wf ?_
  refine AU (fun h=>?_) (fun h=>?_)
  ·refine wf ?_
   refine Az (.of_eq ?_)
   have e:l.any p=true:=CB.2 ⟨l[k],AJ hlt,h⟩
   rw[Fp,if_pos e,JX hlt hn h]
  ·refine wf ?_
   refine⟨k+1,⟨by omega,?_⟩,by dsimp only;omega,⟨rfl,rfl,rfl,rfl⟩,.refl _⟩
   rw[A7 hlt,Gy,hn]
   simp[h]
 ·refine wf ?_
  refine Az (.of_eq ?_)
  rw[AE (by omega)]at hn
  rw[Fp,if_neg (by simp[hn])]⟩
theorem KE (F:Nat) (cs:List PV) (p:Dig→Bool) [hF:B5 Tryz.prog F] [hp: ∀ d,C9 Tryz.prog F (.agg (eDig d)::cs) (.raw (.bool (p d)))] (l:List Dig) (t:CN):
  C9 Tryz.prog 47 [.slice (l.map eDig) t,.clo F cs] (.raw (.bool (l.any p))):=⟨by
 have i1: ∀ t,C9 Tryz.prog 109 [.slice (l.map eDig) t,.clo F cs] (.raw (.int .i64 (Fp p l))):=fA F cs p l
 refine Au Tryz.func47 Tryz.ntmps47 rfl (rs:= [.tmp 4]) rfl rfl fun hb LF=>?_
 refine wf ?_
 refine Az (.of_eq ?_)
 cases h:l.any p<;>simp[Fp,h]⟩
theorem Te (F:Nat) (cs:List PV) (p:Sto→Bool) [hF:B5 Tryz.prog F] (l:List Sto) (t:CN) (hp: ∀ d∈l,C9 Tryz.prog F (.agg (eSto d)::cs) (.raw (.bool (p d)))):
  C9 Tryz.prog 51 [.slice (l.map eSto) t,.clo F cs] (.raw (.int .i64 (Fp p l))):=⟨by
 refine Au Tryz.func51 Tryz.ntmps51 rfl (rs:= [.tmp 4]) rfl rfl fun hb LF=>?_
 have hlen:l.length≤140737488355328:=(hb (.slice (l.map eSto) t) (by simp)).slice_map
 refine wf ?_
 refine Ab (σ:=Nat) (fun k=>k≤l.length∧(l.take k).any p=false) (fun k=>l.length - k) (fun k=> [(0,.slice (l.map eSto) t),(1,.clo F cs),(7,.raw (.int .i64 l.length)),(8,.raw (.int .i64 k))]) (fun _=>LF) 0 ⟨by simp,by simp⟩ ⟨rfl,rfl,rfl,rfl⟩ (.refl _) ?_
 rintro k ⟨hk,hn⟩
 refine wf ?_
 refine A6 (fun hc=>?_) (fun hc=>?_)
 ·have hlt:k < l.length:=by omega
  have hpk:=hp _ (AJ hlt)
  refine wf ?_
  refine AU (fun h=>?_) (fun h=>?_)
  ·refine wf ?_
   refine Az (.of_eq ?_)
   have e:l.any p=true:=CB.2 ⟨l[k],AJ hlt,h⟩
   rw[Fp,if_pos e,JX hlt hn h]
  ·refine wf ?_
   refine⟨k+1,⟨by omega,?_⟩,by dsimp only;omega,⟨rfl,rfl,rfl,rfl⟩,.refl _⟩
   rw[A7 hlt,Gy,hn]
   simp[h]
 ·refine wf ?_
  refine Az (.of_eq ?_)
  rw[AE (by omega)]at hn
  rw[Fp,if_neg (by simp[hn])]⟩
theorem VK (F:Nat) (cs:List PV) (p:Sto→Bool) [hF:B5 Tryz.prog F] [hp: ∀ d,C9 Tryz.prog F (.agg (eSto d)::cs) (.raw (.bool (p d)))] (l:List Sto) (t:CN):
  C9 Tryz.prog 51 [.slice (l.map eSto) t,.clo F cs] (.raw (.int .i64 (Fp p l))):=Te F cs p l t fun d _=>hp d
theorem UH (F:Nat) (cs:List PV) (p:Sto→Bool) [hF:B5 Tryz.prog F] (l:List Sto) (t:CN) (hp: ∀ d∈l,C9 Tryz.prog F (.agg (eSto d)::cs) (.raw (.bool (p d)))):
  C9 Tryz.prog 97 [.slice (l.map eSto) t,.clo F cs] (.raw (.bool (l.any p))):=⟨by
 have i1: ∀ t,C9 Tryz.prog 51 [.slice (l.map eSto) t,.clo F cs] (.raw (.int .i64 (Fp p l))):=fun t=>Te F cs p l t hp
 refine Au Tryz.func97 Tryz.ntmps97 rfl (rs:= [.tmp 4]) rfl rfl fun hb LF=>?_
 refine wf ?_
 refine Az (.of_eq ?_)
 cases h:l.any p<;>simp[Fp,h]⟩
end Go.Proofs
