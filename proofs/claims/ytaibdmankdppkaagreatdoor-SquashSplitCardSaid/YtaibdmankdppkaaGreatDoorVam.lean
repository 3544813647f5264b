/- Plain laws: what a valid set is: closed, ascending, without cycles. -/
import Derived.Test.YtaibdmankdppkaaGreatDoorVal
import Derived.Test.YtaibdmankdppkaaGreatDoorVai
import Derived.Test.YtaibdmankdppkaaGreatDoorVaf
import Derived.Shelf.SlSortCmp.NoneTotal
import Derived.Test.YtaibdmankdppkaaGreatDoorVak
import Derived.Shelf.SlGeneric
import Derived.Ground.SlsfProg
import Derived.Test.YtaibdmankdppkaaGreatDoorVaj
set_option linter.unusedSimpArgs false
set_option linter.unusedVariables false
set_option maxHeartbeats 8000000
namespace Go.Proofs
open Go Go.Q
theorem DZ {α:Type} {f:α→Int} {l:List α} (h:Az f l=0): ∀ x∈l,f x=0:=by
 induction l with
 |nil=>intro x hx;cases hx
 |cons y l ih=>
  unfold Az at h
  split at h
  ·rename_i h0
   intro x hx
   rcases AG.1 hx with rfl|hx
   ·exact h0
   ·exact ih h x hx
  ·rename_i h0;exact absurd h h0
structure Bx (s:List Sto):Prop where
 close:UQ s
 id: ∀ x∈s,(Ew x.patch).2=0∧(Ew x.patch).1=x.id
 asc:Gy (ids s)
 order:s.length≤(DR s).length
 refs: ∀ x∈s,GV s x.patch x.id=0
theorem Qt: ∀ {l:List Dig},(∀ i (h:i+1 < l.length),Dig.lt l[i] l[i+1])→Gy l
 | [],_=> .nil
 | [x],_=>Fx _ _
 |x::y::l,h=>by
  have ih:Gy (y::l):=Qt fun i hi=>by have:=h (i+1) (by simpa using hi);simpa using this
  have h0:=h 0 (by simp)
  simp only[BK,DJ]at h0
  refine Bm.2 ⟨fun z hz=>?_,ih⟩
  rcases AG.1 hz with rfl|hz
  ·exact h0
  ·exact Dig.lt_trans h0 ((Bm.1 ih).1 z hz)
theorem eJ {s:List Sto} (hgood:Gw s) (hc:QP s=0):Bx s:=by
 have hl:=hgood.1
 unfold QP at hc
 rw[if_neg (by omega)]at hc
 split at hc
 ·rename_i h0;exact absurd hc h0
 rename_i h1
 have h1:Az (K5 s) (List.range s.length)=0:=DP.1 h1
 split at hc
 ·omega
 rename_i h2
 split at hc
 ·omega
 rename_i h3
 have hall: ∀ x∈s,Da (ids s) (BL x.patch)=true:=by
  have:s.all (fun x=>Da (ids s) (BL x.patch))=true:=by simpa using h2
  exact fun x hx=>Bf.1 this x hx
 have hchk: ∀ i (hi:i < s.length),(Ew s[i].patch).2=0∧(Ew s[i].patch).1=s[i].id∧(∀ h:0 < i,ER (s[i - 1]'(by omega)).id s[i].id < 0):=by
  intro i hi
  have h4:=DZ h1 i (BZ.2 hi)
  have e0:s.getD i Sto.zero=s[i]:=by simp[List.getD,hi]
  unfold K5 at h4
  rw[e0]at h4
  split at h4
  ·rename_i h5;exact absurd h4 h5
  rename_i h5
  split at h4
  ·omega
  rename_i h6
  split at h4
  ·omega
  rename_i h7
  have h6:(Ew s[i].patch).1=s[i].id:=DP.1 h6
  refine⟨DP.1 h5,h6,fun hp=>?_⟩
  have e1:s.getD (i - 1) Sto.zero=s[i - 1]'(by omega):=by
   have h':i - 1 < s.length:=by omega
   simp[List.getD,h']
  rw[e1,h6]at h7
  have: ¬0≤ER (s[i - 1]'(by omega)).id s[i].id:=fun h8=>h7 ⟨by omega,h8⟩
  omega
 refine⟨⟨hgood,fun x hx d hd=>?_⟩,fun x hx=>?_,?_,by omega,fun x hx=>DZ hc x hx⟩
 ·have:=Bf.1 (hall x hx) d hd
  simpa using this
 ·obtain⟨i,hi,rfl⟩:=Ag.1 hx
  exact⟨(hchk i hi).1,(hchk i hi).2.1⟩
 ·refine Qt fun i hi=>?_
  rw[HR]at hi
  have:=(hchk (i+1) hi).2.2 (by omega)
  simpa [ids,Dig.lt]using this
theorem Lu {s:List Sto} (h:MF s=true):Bx s:=by
 unfold MF at h
 simp only[BQ,AF,AA]at h
 exact eJ (Ze h.1) h.2
def NQ (s:List Sto) (out:List Dig):Prop:= ∀ k (h:k < out.length),∃ x∈s,x.id=out[k]∧(∀ d∈BL x.patch,d∈out.take k)∧out[k]∉out.take k
theorem Ta {s:List Sto} {out:List Dig}: ∀ (n:Nat),n≤s.length→0≤(List.range n).foldl (GW s out) (-1)→
  ∃ x∈s,s.getD ((List.range n).foldl (GW s out) (-1)).toNat Sto.zero=x∧ ¬x.id∈out∧Da out (BL x.patch)=true
 |0,_,h=>by simp at h
 |n+1,hn,h=>by
  rw[Bp]at h ⊢
  generalize hk:(List.range n).foldl (GW s out) (-1)=k at h ⊢
  unfold GW at h ⊢
  split at h
  ·rename_i hc
   rw[if_pos hc]
   have e:s.getD n Sto.zero=s[n]:=by simp[List.getD,show n < s.length by omega]
   rw[e]at hc
   exact⟨s[n],AH _,by simpa using e,hc.1⟩
  ·rename_i hc
   rw[if_neg hc]
   have:=Ta (s:=s) (out:=out) n (by omega) (by rw[hk];exact h)
   rw[hk]at this;exact this
theorem QL {s:List Sto}: ∀ (n:Nat) (out:List Dig),NQ s out→NQ s (QM s n out)
 |0,_,h=>h
 |n+1,out,h=>by
  unfold QM
  split
  ·exact h
  ·rename_i hp
   refine QL n _ ?_
   obtain⟨x,hx,e,h1,h2⟩:=Ta (s:=s) (out:=out) s.length (Al _) (by unfold MA at hp;omega)
   have e':s.getD (MA s out).toNat Sto.zero=x:=e
   rw[e']
   intro k hk
   rw[AD,Ax]at hk
   by_cases hko:k < out.length
   ·obtain⟨y,hy,q1,q2,q3⟩:=h k hko
    refine⟨y,hy,by rw[B7 hko];exact q1,?_,?_⟩
    ·rw[IG (by omega)];exact q2
    ·rw[B7 hko,IG (by omega)];exact q3
   ·have hke:k=out.length:=by omega
    subst hke
    refine⟨x,hx,by simp,?_,?_⟩
    ·intro d hd
     have:=Bf.1 h2 d hd
     simpa using this
    ·simpa using h1
theorem NQ.nodup {s:List Sto} {out:List Dig} (h:NQ s out):out.Nodup:=by
 refine B6.2 fun i j hi hj hij e=>?_
 obtain⟨_,_,_,_,h3⟩:=h j hj
 exact h3 (e ▸ DD.2 ⟨i,by omega,rfl⟩)
theorem ft {s:List Sto} (h:Gy (ids s)):(ids s).Nodup:=h.nodup
theorem Sn {s:List Sto} (h:Gy (ids s)) {x y:Sto} (hx:x∈s) (hy:y∈s) (e:x.id=y.id):x=y:=by
 obtain⟨i,hi,rfl⟩:=Ag.1 hx
 obtain⟨j,hj,rfl⟩:=Ag.1 hy
 have hn:=ft h
 have hi':i < (ids s).length:=by rw[HR];exact hi
 have hj':j < (ids s).length:=by rw[HR];exact hj
 have:(ids s)[i]=(ids s)[j]:=by simpa [ids]using e
 have hp:=B6.1 hn
 rcases Qy i j with hij|hij|hij
 ·exact absurd this (hp i j hi' hj' hij)
 ·subst hij;rfl
 ·exact absurd this.symm (hp j i hj' hi' hij)
theorem NQ.sub {s:List Sto} {out:List Dig} (h:NQ s out): ∀ d∈out,d∈ids s:=fun d hd=>by
 obtain⟨k,hk,rfl⟩:=Ag.1 hd
 obtain⟨x,hx,e,_⟩:=h k hk
 exact AY.2 ⟨x,hx,e⟩
theorem H8 (s:List Sto):NQ s (DR s):=QL _ _ (fun k hk=>absurd hk (DB _))
theorem Bx.mem_order {s:List Sto} (v:Bx s) {d:Dig} (hd:d∈ids s):d∈DR s:=by
 by_cases h:d∈DR s
 ·exact h
 ·have hn:(d::DR s).Nodup:=Bo.2 ⟨h,(H8 s).nodup⟩
  have:=Ei hn (m:=ids s) fun y hy=>by
   rcases AG.1 hy with rfl|hy
   ·exact hd
   ·exact(H8 s).sub y hy
  have h2:=v.order
  rw[HR]at this
  simp only[AN]at this
  omega
theorem ZY {l:List Dig} {i:Nat} (h:i < l.length):l.idxOf l[i]≤i:=by
 induction l generalizing i with
 |nil=>simp at h
 |cons x l ih=>
  cases i with
  |zero=>simp
  |succ i=>
   simp only[DJ,List.idxOf_cons]
   have:=ih (by simpa using h)
   cases hb:(x==l[i]'(by simpa using h))with
   |true=>simp
   |false=>simp;omega
def TF (s:List Sto) (d:Dig):Nat:=(DR s).idxOf d
theorem Bx.rank {s:List Sto} (v:Bx s) {x:Sto} (hx:x∈s) {d:Dig} (hd:d∈BL x.patch):TF s d < TF s x.id:=by
 have hm:=v.mem_order (AY.2 ⟨x,hx,rfl⟩)
 have hk:(DR s).idxOf x.id < (DR s).length:=List.idxOf_lt_length_of_mem hm
 obtain⟨y,hy,e,h1,_⟩:=H8 s _ hk
 rw[List.getElem_idxOf]at e
 have:=Sn v.asc hy hx e
 subst this
 obtain⟨i,hi,rfl⟩:=DD.1 (h1 d hd)
 have h2:=ZY (l:=DR s) (i:=i) (by omega)
 unfold TF
 omega
theorem Bx.getS {s:List Sto} (v:Bx s) {x:Sto} (hx:x∈s):getS s x.id=some x.patch:=by
 cases hg:Go.Proofs.getS s x.id with
 |none=>
  exfalso
  have: ∀ (l:List Sto),x∈l→Go.Proofs.getS l x.id≠none:=by
   intro l
   induction l with
   |nil=>intro h;cases h
   |cons y l ih=>
    intro h
    unfold Go.Proofs.getS
    split
    ·simp
    ·rename_i hne
     rcases AG.1 h with rfl|h
     ·exact absurd rfl hne
     ·exact ih h
  exact this s hx hg
 |some p=>
  obtain⟨y,hy,e,rfl⟩:=Kj hg
  rw[Sn v.asc hy hx e]
theorem Bx.ndS {s:List Sto} (v:Bx s) {x:Sto} (hx:x∈s):ndS s x.id=BL x.patch:=by
 unfold Go.Proofs.ndS;rw[v.getS hx];rfl
theorem Bx.mem_clo {s:List Sto} (v:Bx s) {p:Dig} (hp:p∈ids s) (d:Dig):d∈Py s p↔Q.Reach (Go.Proofs.ndS s) [p] d:=by
 have ha:Da (ids s) [p]=true:=by simp[Da,hp]
 unfold Py Dj
 rw[if_neg (by simp[ha])]
 exact MJ (U:=ids s) (fun x _ d hd=>v.close.nd x d hd) (fun d hd=>by rw[Aj.1 hd];exact hp) (EE (HR s))
attribute [local irreducible] EY AU BH Fk NP
theorem fB (c:Chg) (first:Int): ∀ j (h:j < (Df c first).length),((Df c first)[j]).id=⟨Dig.zero,first+j⟩:=by
 intro j h
 have key:(∃ x:Atm,Df c first= [x]∧x.id=⟨Dig.zero,first⟩)∨Df c first=(List.range c.lines.length).map (Fe c first)++(List.range (c.lines.length+1)).map (Eu c first):=by
  unfold Df
  repeat' split
  all_goals first|exact .inl ⟨_,rfl,rfl⟩|exact .inr rfl
 rcases key with ⟨x,e,hx⟩|e
 ·have hj:j=0:=by rw[e]at h;simpa using h
  subst hj
  simp only[e,BK,hx]
  simp
 ·have h2:=h
  simp only[e]at h2 ⊢
  rw[List.getElem_append]
  split
  ·simp[Fe]
  ·rename_i h3
   simp only[AQ,Fy]at h3
   simp only[B5,List.getElem_range,Eu,AQ,Fy]
   congr 1
   omega
theorem Pq {own:List Atm} (c:Chg) (h:Nf own):Nf (own++Df c own.length):=by
 intro i hi
 rw[List.getElem_append]
 split
 ·exact h i _
 ·rename_i h3
  rw[fB]
  congr 1
  omega
theorem My {c:Chg} (h:C0 c=0):1≤c.kind∧c.kind≤7:=by
 unfold C0 at h
 split at h
 ·omega
 ·omega
theorem Ym {l:List Dig} (h:Im l=0): ∀ d∈l,d≠Dig.zero:=by
 intro d hd e
 unfold Im at h
 split at h
 ·omega
 obtain⟨i,hi,rfl⟩:=Ag.1 hd
 have h0:=DZ h i (by simpa using hi)
 rw[HZ,if_pos (by simp[List.getD,hi,e])]at h0
 omega
def Kv (p:Pat):List Atm × Str × Int:=if(CF p).2≠0 then([],[],(CF p).2)else if 65536 < ((Ni p).length:Int)then([],[],4)else((CF p).1,Ni p,0)
theorem N1 {p:Pat} (h:J8 p=0):CF p=Cz p.changes []:=by rw[Ig,if_neg (by simp[h])]
theorem TS {p:Pat} (h:J8 p=0):Im p.deps=0:=by
 unfold J8 at h
 split at h
 ·omega
 split at h
 ·omega
 split at h
 ·omega
 split at h
 ·rename_i h4;exact absurd h h4
 ·rename_i h4;simpa using h4
def pS (b:Nat) (s:CD × List Atm) (LF:List Res):List Res:= .box b 68 [.slice (s.2.map eAtm) s.1]:: .tok s.1 s.2.length 172::LF
instance uD (p:Pat) [hs:Ay (E4 p=false)]:C9 Tryz.prog 81 [.agg (Ba p)] (.tuple [.slice ((Kv p).1.map eAtm) .ro,.str (Kv p).2.1,.raw (.int .i64 (Kv p).2.2)]):=⟨by
 obtain⟨hg1,hg2,hg3,hg4,hg5⟩:=EF hs.out
 refine Av Tryz.func81 Tryz.ntmps81 rfl (rs:= [.tmp 2,.tmp 3,.tmp 4]) rfl rfl fun hb LF=>?_
 refine wf ?_
 refine AR (fun h1=>?_) (fun h1=>?_)
 ·refine wf ?_
  refine NI ?_
  have e:CF p=([],J8 p):=by rw[Ig,if_pos h1]
  have e2:Kv p=([],[],J8 p):=by rw[Kv,e,if_pos h1]
  rw[e2]
  exact .tuple3 (.ros rfl) (.refl _) (.refl _)
 have hH:=N1 h1
 refine Y0 fun b6=>?_
 refine EC 172 ?_
 refine EH (.swap _ _ _) ?_
 refine AZ (σ:=Nat × CD × List Atm) (fun k=>k.1≤p.changes.length∧k.2.2.length≤k.1*81∧Nf k.2.2∧(∀ c∈p.changes.take k.1,1≤c.kind∧c.kind≤7)∧CF p=Cz (p.changes.drop k.1) k.2.2) (fun k=>p.changes.length - k.1) (fun k=> [(1,.pt (Ba p) 0),(6,.raw (.pointer (some ⟨b6,0,none⟩))),(20,.slice (p.changes.map eChg) .ro),(21,.raw (.int .i64 p.changes.length)),(22,.raw (.int .i64 k.1))]) (fun k=>pS b6 k.2 LF) (0,.nil,[]) ⟨by simp,by simp,fun i h=>absurd h (by simp),by simp,hH⟩ ⟨rfl,rfl,rfl,rfl,rfl⟩ (.refl _) ?_
 rintro⟨k,v,own⟩ ⟨hk,hlen,hid,hkd,he⟩
 dsimp only at hk hlen hid hkd he
 rw[show pS b6 (k,v,own).2 LF= .box b6 68 [.slice (own.map eAtm) v]:: .tok v own.length 172::LF from rfl]
 refine wf ?_
 refine A6 (fun hc=>?_) (fun hc=>?_)
 ·have hlt:k < p.changes.length:=by omega
  rw[LY hlt]at he
  refine wz fun b8=>?_
  refine B2 8 ?_
  refine wf ?_
  refine AR (fun h2=>?_) (fun h2=>?_)
  ·refine wf ?_
   rw[if_pos h2]at he
   have e2:Kv p=([],[],C0 p.changes[k]):=by rw[Kv,he,if_pos h2]
   refine NI ?_
   rw[e2]
   exact .tuple3 (.ros rfl) (.refl _) (.refl _)
  rw[if_neg (by simp[h2])]at he
  have hll:p.changes[k].lines.length≤2000:=JW h2
  have hkk:1≤p.changes[k].kind∧p.changes[k].kind≤7:=My h2
  have hmm:=MB p.changes[k] own.length
  have hl40:=(hg5 _ (AH hlt)).lines
  have i1:Ay (C0 p.changes[k]=0∧own.length≤100000∧Nf own):=⟨h2,by omega,hid⟩
  refine wf ?_
  refine AR (fun h3=>?_) (fun h3=>?_)
  ·refine wf ?_
   rw[if_pos h3]at he
   have e2:Kv p=([],[],Ey p.changes[k] own):=by rw[Kv,he,if_pos h3]
   refine NI ?_
   rw[e2]
   exact .tuple3 (.ros rfl) (.refl _) (.refl _)
  rw[if_neg (by simp[h3])]at he
  refine wf ?_
  refine JX (Rh p.changes[k] own.length hkk ⟨hll,by omega,by omega⟩) [41] (σ:=CD × List Atm) (fun pre s=>s.2=own++pre) (fun _ _=>False) (fun s LF'=>pS b6 s LF') (v,own) LF ?_ rfl (fun _=>rfl) (by simp) (fun _ _=>rfl) (.refl _) (by simp) ?_ ?_ (fun _ _ h=>h.elim)
  ·exact .refl _
  ·rintro pre x ⟨v1,own1⟩ LF' hpre hI
   dsimp only at hI
   have hpl:=hpre.length_le
   have hol:own1.length≤90000:=by
    rw[hI,AD]
    rw[AD,Ax]at hpl
    omega
   rw[show pS b6 (v1,own1) LF'= .box b6 68 [.slice (own1.map eAtm) v1]:: .tok v1 own1.length 172::LF' from rfl]
   refine wz fun b11=>?_
   refine B2 11 ?_
   refine aO fun v2=>?_
   exact⟨(v2,own1++ [x]),by dsimp only;rw[hI,AV],.refl _⟩
  ·rintro⟨v1,own1⟩ hI
   dsimp only at hI
   refine wf ?_
   refine⟨(k+1,v1,own1),⟨by dsimp only;omega,?_,?_,?_,?_⟩,by dsimp only;omega,⟨rfl,rfl,rfl,rfl,rfl⟩,.refl _⟩
   ·dsimp only
    rw[hI,AD];omega
   ·dsimp only
    rw[hI];exact Pq _ hid
   ·dsimp only
    intro c hcm
    rw[A7 hlt]at hcm
    rcases Ah.1 hcm with h|h
    ·exact hkd c h
    ·rw[Aj.1 h];exact hkk
   ·dsimp only
    rw[hI];exact he
 have hkk:k=p.changes.length:=by omega
 rw[Bu (by omega)]at he
 rw[AB (by omega)]at hkd
 have he':CF p=(own,0):=he
 have i1:Ay (bu p):=⟨⟨OH hs.out,Ym (TS h1),hkd⟩⟩
 refine wf ?_
 have h0: ¬(CF p).2≠0:=by rw[he'];simp
 refine A6 (fun h=>?_) (fun h=>?_)
 ·refine wf ?_
  have e2:Kv p=([],[],4):=by rw[Kv,if_neg h0,if_pos h]
  refine NI ?_
  rw[e2]
  exact .tuple3 (.ros rfl) (.refl _) (.refl _)
 ·refine wf ?_
  have e2:Kv p=(own,Ni p,0):=by rw[Kv,if_neg h0,if_neg h,he']
  refine NI ?_
  rw[e2]
  exact .tuple3 (.ros rfl) (.refl _) (.refl _)⟩
end Go.Proofs
namespace Go.Proofs
open Go Go.Q
attribute [local irreducible] EY AU BH Fk
theorem X3 (p:Pat):(Kv p).2.2=(CU p).2:=by
 unfold Kv CU KE
 split
 ·rfl
 ·split<;>rfl
theorem na (p:Pat):(Kv p).2.1=(CU p).1:=by
 unfold Kv CU KE
 split
 ·rfl
 ·split<;>rfl
instance um (p:Pat) [hs:Ay (E4 p=false)]:C9 Tryz.prog 56 [.agg (Ba p)] (.raw (.int .i64 (CU p).2)):=⟨by
 refine Av Tryz.func56 Tryz.ntmps56 rfl (rs:= [.tmp 2]) rfl rfl fun hb LF=>?_
 refine wf ?_
 refine Aw (.of_eq ?_)
 rw[←X3]⟩
instance rq (p:Pat) [hs:Ay (E4 p=false)]:C9 Tryz.prog 136 [.agg (Ba p)] (.tuple [.str (CU p).1,.raw (.int .i64 (CU p).2)]):=⟨by
 refine Av Tryz.func136 Tryz.ntmps136 rfl (rs:= [.tmp 2,.tmp 3]) rfl rfl fun hb LF=>?_
 refine wf ?_
 refine HD ?_
 rw[←X3,←na]
 exact .refl _⟩
def vDig (d:Dig):List Value:=Np d.bs
instance :PB eDig vDig:=⟨fun d=>by simp[eDig,vDig,Np,eU8];intro a _;rfl,fun d x hx=>by
 obtain⟨b,_,rfl⟩:=AY.1 hx;rfl⟩
instance :Y2 Tryz.prog 24 31 32 32:=⟨by
 have h2:(Tryz.prog.info? 31).map (fun i=>(i.size,i.bytes,i.zero.isSome,(i.zero.getD undef).cells.size))=some (32,32,true,32):=by kernel_rfl
 obtain⟨i,hi,e⟩:=BU.1 h2
 simp only[Prod.mk.injEq]at e
 obtain⟨e1,e2,e3,e4⟩:=e
 obtain⟨z,hz⟩:=FZ.1 e3
 rw[hz]at e4
 exact⟨i,z,by kernel_rfl,hi,e1,e2,hz,e4,by decide,by decide⟩⟩
abbrev Uy (v:Value) (l:List Dig) (R:List Res):Prop:=JQ vDig 31 32 v l R
theorem P0 (l:List Dig) (t:CD) (hl:l.length≤1000000):BH Tryz.prog 57 [.slice (l.map eDig) t] [] (fun r L'=> ∃ v,r= .raw v∧Uy v l L'):=by
 refine C8 Tryz.func57 rfl Tryz.ntmps57 (rs:= [.tmp 2]) rfl rfl fun hb LF=>?_
 rw[BB]
 refine wf ?_
 refine cu rfl fun b hnil=>?_
 refine wf ?_
 refine AO (fun h=>?_) (fun h=>?_)
 ·have h0:l= []:=by simpa using hnil h
  subst h0
  refine DT ?_
  refine CK (by kernel_rfl) ?_
  refine Lv ?_
  refine AE ?_
  refine wf ?_
  exact⟨trivial,_,[],.cons (.tmp 2) .nil,.refl _,_,rfl,.nil none (by simp)⟩
 refine H9 ?_
 refine DT ?_
 refine CK (by kernel_rfl) ?_
 refine Wv (vf:=vDig) fun v0 hv0=>?_
 refine wf ?_
 refine Il (f:=eDig) (R:= []) (LF:=LF) (fun R'=>R'++LF) rfl rfl hv0 (.refl _) (fun R'=> .refl _) (by simp only[Ae];omega) (by simp only[Ae];omega) fun v R' hv=>?_
 refine wf ?_
 refine wf ?_
 rw[BB]at hv
 exact⟨trivial,_,R',.cons (.tmp 2) .nil,.refl _,v,rfl,hv⟩
def xn (acc:List Dig) (x:Dig):List Dig:=if acc.getLast? =some x then acc else acc++ [x]
def Ko (l:List Dig):List Dig:=l.foldl xn []
theorem UO (l:List Dig) (x:Dig):Ko (l++ [x])=if(Ko l).getLast? =some x then Ko l else Ko l++ [x]:=by rw[Ko,CB];rfl
theorem l5 (l:List Dig):(Ko l).getLast? =l.getLast?:=by
 rcases List.eq_nil_or_concat l with rfl|⟨m,x,rfl⟩
 ·rfl
 ·rw[List.concat_eq_append,UO]
  split
  ·rename_i h;rw[h];simp
  ·simp
theorem Ql {l:List Dig} {j:Nat} (h0:0 < j) (h:j < l.length):Ko (l.take (j+1))=if l[j]=l[j - 1]then Ko (l.take j)else Ko (l.take j)++ [l[j]]:=by
 rw[A7 h,UO,l5]
 have:(l.take j).getLast? =some l[j - 1]:=by
  rw[List.getLast?_eq_getElem?,Ab,Cp (by omega),FX,if_pos (by omega)]
  simp
 rw[this]
 by_cases e:l[j]=l[j - 1]
 ·rw[if_pos (by rw[e]),if_pos e]
 ·rw[if_neg (fun h=>e (by injection h with h;exact h.symm)),if_neg e]
theorem FP (d:Dig):(vDig d).length=32:=by
 have:(eDig d).length=32:=by simp
 rw[(inferInstance:PB eDig vDig).out]at this
 simpa using this
theorem s6: ∀ i z,Tryz.prog.info? 31=some i→i.zero=some z→ ∀ x∈z.cells,x.oneCell'=true:=by
 have h:(Tryz.prog.info? 31).map (fun i=>(i.zero.getD undef).cells.all (·.oneCell'))=some true:=by kernel_rfl
 intro i z hi hz x hx
 rw[hi]at h
 simp only[Gz,hz,CJ,J3,H5]at h
 exact h x hx
theorem eP (l:List Dig) (k:Nat) (h:k≤l.length) (rest:List Value):(l.flatMap vDig++rest).take (k*32)=(l.take k).flatMap vDig:=by
 have e:(l.flatMap vDig++rest)=(l.take k).flatMap vDig++((l.drop k).flatMap vDig++rest):=by
  rw[←AV,←K2,C6]
 rw[e]
 refine GH ?_
 rw[OC (f:=eDig) (sz:=32),Ab,Cp h]
theorem Px (l:List Dig) (v:Value) (R:List Res) (hv:Uy v l R) (hl:l.length≤1000000):BH Tryz.prog 62 [.raw v] R (fun r L'=>r= .slice ((Ko l).map eDig) .ro∧L'= []):=by
 refine C8 Tryz.func62 rfl Tryz.ntmps62 (rs:= [.tmp 2]) rfl rfl fun hb LF=>?_
 have hmx: ∀ m:List Dig,m.length≤l.length→m.length≤maxN∧m.length*32≤maxN:=fun m h=>by
  have:maxN=140737488355328:=rfl
  omega
 obtain⟨o,c,rfl⟩:=hv.slice
 refine wf ?_
 refine IH rfl ?_
 refine wf ?_
 refine A6 (fun h1=>?_) (fun h1=>?_)
 ·refine DT ?_
  refine CK (by kernel_rfl) ?_
  refine KC (by(conv=>lhs;whnf);done) ?_
  refine Lv ?_
  refine AE ?_
  have e:Ko l=l:=by
   match l,h1 with
   | [],_=>rfl
   | [x],_=>rfl
   |_::_::_,h=>simp at h;omega
  refine Gk (f:=eDig) 2 hv (hmx l (Al _)) (.refl _) rfl ?_
  refine wf ?_
  exact⟨trivial,_,[],.cons (.tmp 2) .nil,.refl _,by rw[e];exact⟨rfl,rfl⟩⟩
 have hne:l≠ []:=fun e=>by subst e;exact h1 (by simp)
 obtain⟨_,r,cur,rest,rfl,rfl,hcur,hsz,hlc⟩:=hv.inv hne
 refine wf ?_
 refine AZ (σ:=Nat) (fun k=>1≤k∧k≤l.length∧Ko (l.take k)=l.take k) (fun k=>l.length - k) (fun k=> [(0,.raw (.slice (some ⟨r,0,none⟩) l.length c)),(3,.raw (.int .i64 (k:Int)))]) (fun _=> [.raw r (.cells cur 31 (0,0))]++LF) 1 ⟨by omega,by omega,?_⟩ ⟨rfl,rfl⟩ (.refl _) ?_
 ·match l,h1 with
  | [],_=>rfl
  |x::_,_=>rfl
 rintro k ⟨hk1,hk,he⟩
 refine wf ?_
 refine IH rfl ?_
 refine wf ?_
 refine A6 (fun hc=>?_) (fun hc=>?_)
 ·have hlt:k < l.length:=by omega
  refine wn ?_
  refine BX 10 ?_ ?_
  ·decide+kernel
  refine wf ?_
  refine DI (k:=k) rfl rfl hlt ?_
  refine Od (f:=eDig) (a0:=l[k]) rfl AI (by rw[hcur,BM];exact Pa FP l k hlt rest) (by omega) ?_
  refine wf ?_
  refine DI (k:=k - 1) rfl (by show PV.raw (Value.int .i64 ((k:Int) - 1))=PV.raw (Value.int .i64 ((k - 1:Nat):Int));congr 2;omega) (by omega) ?_
  refine Od (f:=eDig) (a0:=l[k - 1]) rfl AI (by rw[hcur,BM];exact Pa FP l (k - 1) (by omega) rest) (by omega) ?_
  refine wf ?_
  have hd:=Ql (l:=l) (j:=k) (by omega) hlt
  refine A6 (fun h2=>?_) (fun h2=>?_)
  ·rw[if_pos h2]at hd
   refine DT ?_
   refine CK (by kernel_rfl) ?_
   refine KC (by(conv=>lhs;whnf);done) ?_
   refine KC (by(conv=>lhs;whnf);done) ?_
   refine Nx k l.length rfl (by omega) (Al _) (by omega) hlc (fun o e=>by cases e;exact⟨_,rfl⟩) (by simp) (by simp) (fun _=>rfl) ?_
   refine wf ?_
   refine AZ (σ:=Nat × Nat × List Dig × Array Value) (fun j=>1≤j.1∧k+j.1≤l.length∧1≤j.2.1∧j.2.1+1≤k+j.1∧j.2.2.1.length=l.length∧j.2.2.1.take j.2.1=Ko (l.take (k+j.1))∧(∀ i,k+j.1≤i+1→j.2.2.1[i]? =l[i]?)∧j.2.2.2.toList=j.2.2.1.flatMap vDig++rest∧j.2.2.2.size=c*32) (fun j=>l.length - k - j.1) (fun j=> [(0,.raw (.slice (some ⟨r,0,none⟩) l.length c)),(3,.raw (.int .i64 (j.2.1:Int))),(4,.raw (.slice (some ⟨r,0+k*32,none⟩) (l.length - k) (c - k))),(5,.raw (.int .i64 (j.1:Int)))]) (fun j=> [.raw r (.cells j.2.2.2 31 (0,0))]++LF) (1,k,l,cur) ⟨by omega,by dsimp only;omega,by dsimp only;omega,by dsimp only;omega,rfl,by dsimp only;rw[hd,he],fun _ _=>rfl,hcur,hsz⟩ ⟨rfl,rfl,rfl,rfl⟩ (.refl _) ?_
   rintro⟨k2,kk,l1,cur1⟩ ⟨i1,i2,i3,i4,i5,i6,i7,i8,i9⟩
   dsimp only at i1 i2 i3 i4 i5 i6 i7 i8 i9 ⊢
   refine wf ?_
   refine IH rfl ?_
   refine wf ?_
   refine A6 (fun hc2=>?_) (fun hc2=>?_)
   ·have hlt2:k+k2 < l.length:=by omega
    have g1:l1[k+k2]'(by omega)=l[k+k2]:=by
     have:=i7 (k+k2) (by omega)
     rw[AW (by omega),AW hlt2]at this
     exact DM this
    have g2:l1[k+(k2 - 1)]'(by omega)=l[k+k2 - 1]:=by
     have:=i7 (k+(k2 - 1)) (by omega)
     rw[AW (by omega),AW (by omega)]at this
     have e:=DM this
     rw[e]
     congr 1
     omega
    have hd2:=Ql (l:=l) (j:=k+k2) (by omega) hlt2
    refine wn ?_
    refine BX 10 ?_ ?_
    ·decide+kernel
    refine wf ?_
    refine DI (k:=k2) rfl rfl (by omega) ?_
    refine Od (f:=eDig) (a0:=l[k+k2]) rfl AI (by rw[i8,show 0+k*32+k2*32=(k+k2)*32 by omega,Pa FP l1 (k+k2) (by omega) rest,g1]) (by omega) ?_
    refine wf ?_
    refine DI (k:=k2 - 1) rfl (by show PV.raw (Value.int .i64 ((k2:Int) - 1))=PV.raw (Value.int .i64 ((k2 - 1:Nat):Int));congr 2;omega) (by omega) ?_
    refine Od (f:=eDig) (a0:=l[k+k2 - 1]) rfl AI (by rw[i8,show 0+k*32+(k2 - 1)*32=(k+(k2 - 1))*32 by omega,Pa FP l1 (k+(k2 - 1)) (by omega) rest,g2]) (by omega) ?_
    refine wf ?_
    refine AR (fun h3=>?_) (fun h3=>?_)
    ·rw[if_neg h3]at hd2
     refine wf ?_
     refine DI (k:=k2) rfl rfl (by omega) ?_
     refine Od (f:=eDig) (a0:=l[k+k2]) rfl AI (by rw[i8,show 0+k*32+k2*32=(k+k2)*32 by omega,Pa FP l1 (k+k2) (by omega) rest,g1]) (by omega) ?_
     refine wf ?_
     refine DI (k:=kk) rfl rfl (by omega) ?_
     refine nH (f:=eDig) (a0:=l[k+k2]) (E:=31) (cur:=cur1) (L':=LF) (fun x=> [x]++LF) rfl rfl (FP _) (by omega) (.refl _) (fun _=> .refl _) ?_
     refine wf ?_
     refine wf ?_
     have hset:(l1.set kk l[k+k2]).take (kk+1)=l1.take kk++ [l[k+k2]]:=by
      rw[A7 (by simp;omega)]
      congr 1
      ·rw[List.take_set_of_le (by omega)]
      ·simp
     have hcl:(cur1.toList.take (0+kk*32)++vDig l[k+k2]++cur1.toList.drop (0+kk*32+32))=(l1.set kk l[k+k2]).flatMap vDig++rest:=by
      rw[i8,BM];exact Zm FP l1 kk (by omega) _ rest
     refine⟨(k2+1,kk+1,l1.set kk l[k+k2],(cur1.toList.take (0+kk*32)++vDig l[k+k2]++cur1.toList.drop (0+kk*32+32)).toArray),⟨by dsimp only;omega,by dsimp only;omega,by dsimp only;omega,by dsimp only;omega,by dsimp only;rw[CT];exact i5,by dsimp only;rw[hset,i6,←Dx,hd2],fun i hi=>?_,hcl,?_⟩,by dsimp only;omega,⟨rfl,rfl,rfl,rfl⟩,.refl _⟩
     ·dsimp only at hi ⊢
      rw[Xx (by omega)]
      exact i7 i (by omega)
     ·dsimp only
      have hv32:=FP l[k+k2]
      simp only[Cn,AD,Ab,B4,CZ,hv32]
      omega
    ·rw[if_pos h3]at hd2
     refine wf ?_
     refine⟨(k2+1,kk,l1,cur1),⟨by dsimp only;omega,by dsimp only;omega,i3,by dsimp only;omega,i5,by dsimp only;rw[i6,←Dx,hd2],fun i hi=>i7 i (by dsimp only at hi;omega),i8,i9⟩,by dsimp only;omega,⟨rfl,rfl,rfl,rfl⟩,.refl _⟩
   have hkk:k+k2=l.length:=by omega
   rw[hkk,AB (Al _)]at i6
   refine wf ?_
   refine Nx kk l.length rfl (by omega) (Al _) (by omega) hlc (fun o e=>by cases e;exact⟨_,rfl⟩) (by simp) (by simp) (fun _=>rfl) ?_
   refine aq (E:=31) (cur:=cur1) (L':=LF) s6 (fun x=> [x]++LF) rfl (by omega) (by omega) (.refl _) (fun _=> .refl _) fun zs hzs=>?_
   refine AE ?_
   refine DT ?_
   refine CK (by kernel_rfl) ?_
   refine KC (by(conv=>lhs;whnf);done) ?_
   refine KC (by(conv=>lhs;whnf);done) ?_
   refine Nx 0 kk rfl (by omega) (by omega) (by omega) hlc (by simp) (fun _=>rfl) (fun o e=>by cases e;exact⟨_,rfl⟩) (by simp) ?_
   refine Lv ?_
   refine AE ?_
   have hlk:(l1.take kk).length=kk:=by rw[Ab,Cp (by omega)]
   have hrow:JQ vDig 31 32 (.slice (some ⟨r,0,none⟩) (l1.take kk).length c) (l1.take kk) [.raw r (.cells (cur1.toList.take (0+kk*32)++zs++cur1.toList.drop (0+kk*32+(l.length - kk)*32)).toArray 31 (0,0))]:=by
    refine JQ.mk (rest:=zs++cur1.toList.drop (0+kk*32+(l.length - kk)*32)) FP ?_ ?_ (by rw[hlk];omega)
    ·simp only[AV]
     rw[BM,i8,eP l1 kk (by omega)]
    ·simp only[Cn,AD,Ab,B4,CZ,hzs]
     omega
   refine Gk (f:=eDig) 2 hrow (hmx _ (by rw[hlk];omega)) (.refl _) (by
    show PV.raw (Value.slice (some ⟨r,0+0*32,none⟩) (kk - 0) (c - 0))=_
    rw[hlk];simp) ?_
   refine wf ?_
   exact⟨trivial,_,[],.cons (.tmp 2) .nil,.refl _,by rw[←i6];exact⟨rfl,rfl⟩⟩
  ·rw[if_neg h2]at hd
   refine wf ?_
   refine⟨k+1,⟨by omega,by omega,?_⟩,by dsimp only;omega,⟨rfl,rfl⟩,.refl _⟩
   rw[hd,he,←A7 hlt]
 have hkk:k=l.length:=by omega
 rw[AB (by omega)]at he
 refine Gd ?_
 refine DT ?_
 refine CK (by kernel_rfl) ?_
 refine KC (by(conv=>lhs;whnf);done) ?_
 refine Lv ?_
 refine AE ?_
 refine Gk (f:=eDig) 2 hv (hmx l (Al _)) (.refl _) rfl ?_
 refine wf ?_
 exact⟨trivial,_,[],.cons (.tmp 2) .nil,.refl _,by rw[he];exact⟨rfl,rfl⟩⟩
end Go.Proofs
namespace Go.Q
open Go Go.Proofs Go.Sort
theorem UD {α:Type} {k:Nat} (hk0:0 < k) {enc:α→List Value} (hk: ∀ x,(enc x).length=k): ∀ (l:List α) (t:Nat),(l.flatMap enc)[t]? =(l[t / k]?).bind fun x=>(enc x)[t % k]?
 | [],t=>by simp
 |x::l,t=>by
  rw[DN]
  by_cases h:t < k
  ·rw[DE (by rw[hk];exact h),Nat.div_eq_of_lt h,E8 h]
   simp
  ·rw[FC (by rw[hk];omega),hk,UD hk0 hk l (t - k)]
   have e1:t / k=(t - k) / k+1:=by
    rw[Nat.div_eq_sub_div hk0 (by omega)]
   have e2:t % k=(t - k) % k:=Nat.mod_eq_sub_mod (by omega)
   rw[e1,e2]
   simp
theorem Qi {α:Type} [Inhabited α] {k:Nat} (hk0:0 < k) {enc:α→List Value} (hk: ∀ x,(enc x).length=k) (l:List α):(flatK enc k l.toArray).toList=l.flatMap enc:=by
 refine gu fun t=>?_
 rw[UD hk0 hk]
 by_cases h:t < l.length*k
 ·have h1:t / k < l.length:=Xu (by rw[PC];exact h)
  have h2:t % k < k:=cG _ hk0
  have h3:t < (flatK enc k l.toArray).toList.length:=by simpa using h
  rw[AW h3,AW h1]
  simp only[Hg]
  rw[AW (by rw[hk];exact h2)]
  congr 1
  have:=get_flatK enc k l.toArray t (by simpa using h)
  simp only[Xz]
  rw[getElem!_pos _ t (by simpa using h)]at this
  rw[this]
  simp[h1,getElem!_pos,hk,h2]
 ·rw[FO (by simpa using h)]
  have: ¬t / k < l.length:=fun h'=>h (by
   have:=Nat.lt_mul_of_div_lt h' hk0
   first|exact this|(rw[PC];exact this))
  rw[FO (by omega)]
  rfl
section
variable {α:Type} [Inhabited α] {enc:α→List Value} {k:Nat} {w:World} {r:Nat} {cur:Array Value} {E:Nat}
theorem PJ (h:w.heap[r]? =some (.cells cur E (0,0))) (m:Nat) (dk:Array α) (os:Array Obj):(sortWorldK enc k w r 0 m dk os).heap[r]? =some (.cells (putCells id 0 (flatK enc k dk) cur) E (0,0)):=by
 have hlt:=(BF.1 h).1
 show((w.heap.modify r (onCells (putCells id 0 (flatK enc k dk))))++os)[r]? =_
 rw[FE (by simpa using hlt),Mg,if_pos rfl,h]
 rfl
theorem Fl (m:Nat) (dk:Array α) (os:Array Obj): ∀ b,b < w.heap.size→b≠r→(sortWorldK enc k w r 0 m dk os).heap[b]? =w.heap[b]?:=fun b hb hn=>by
 show((w.heap.modify r (onCells (putCells id 0 (flatK enc k dk))))++os)[b]? =_
 rw[FE (by simpa using hb),Mg,if_neg (Ne.symm hn)]
theorem Nu (m:Nat) (dk:Array α) (os:Array Obj):w.heap.size≤(sortWorldK enc k w r 0 m dk os).heap.size:=by
 show _≤((w.heap.modify r (onCells (putCells id 0 (flatK enc k dk))))++os).size
 simp
theorem PQ (F:Array Value) (h:F.size≤cur.size):(putCells id 0 F cur).toList.take F.size=F.toList:=by
 refine Dc (by simp[putCells];omega) fun j h1 h2=>?_
 have hj:j < F.size:=by simpa using h2
 simp[putCells,hj]
end
theorem Dt.laterBut {w w':World} {g:Gh} {L:List Res} {r:Nat} (hi:Dt w g L) (hH: ∀ o,g.H r o=none) (hM:g.M r=none) (hr:r∉Ak L) (hk: ∀ k,k < w.heap.size→k≠r→w'.heap[k]? =w.heap[k]?):Dt w' g L:=by
 refine⟨fun b i v h=>?_,fun b z h=>(hi.satM b z h).congr (hk b (hi.satM b z h).lt (fun e=>by rw[e,hM]at h;cases h)),fun r' hr'=>?_,hi.nodup,hi.glob⟩
 ·have h0:=hi.sat b i v h
  have hb:b < w.heap.size:=by
   rcases BN b w.heap.size with h'|h'
   ·exact h'
   ·simp[World.cell?,Bk h']at h0
  simp only[World.cell?]at h0 ⊢
  rw[hk b hb (fun e=>by rw[e,hH]at h;cases h)];exact h0
 ·exact Res.holds_kept (.refl g) (hi.res r' hr') fun b hb=>⟨hk b (hi.lt (Bt.2 ⟨r',hr',hb⟩)) (fun e=>hr (Bt.2 ⟨r',hr',by rw[hb,e]⟩)),fun _=>rfl,rfl⟩
theorem Zc {w w':World} (h1:w'.os=w.os) (h2:w'.tape=w.tape) (h3:w'.output=w.output) (h4:w.drawn≤w'.drawn) (h5:w.heap.size≤w'.heap.size) (hk: ∀ k,k < w.heap.size→w'.heap[k]? =w.heap[k]?): ∃ q os,w'=grow (w.drewN q) os:=by
 refine⟨w'.drawn - w.drawn,w'.heap.extract w.heap.size w'.heap.size,?_⟩
 have hh:w'.heap=w.heap++w'.heap.extract w.heap.size w'.heap.size:=by
  refine Array.ext_getElem? fun i=>?_
  by_cases hi:i < w.heap.size
  ·rw[FE hi,hk i hi]
  ·rw[Array.getElem?_append_right (by omega)]
   by_cases h6:i < w'.heap.size
   ·rw[CQ h6,CQ (by simp;omega)]
    simp
    congr 1
    omega
   ·rw[Bk (by omega),Bk (by simp;omega)]
 have hd:w'.drawn=w.drawn+(w'.drawn - w.drawn):=by omega
 obtain⟨⟩:=w'
 obtain⟨⟩:=w
 simp only at h1 h2 h3 hh hd
 subst h1 h2 h3
 simp only[grow,World.drewN]
 rw[←hh,←hd]
end Go.Q
namespace Go.Proofs
open Go Go.Q Go.Shelf Go.Sort
attribute [local irreducible] EY AU Fk
instance :Inhabited Dig:=⟨Dig.zero⟩
theorem zH:SWO (ltOf ER) where
 irrefl x:=by
  unfold ltOf
  exact CG (fun h=>Dig.lt_irrefl x h)
 trans x y z h1 h2:=by
  unfold ltOf at*
  exact BC (Dig.lt_trans (BP h1) (BP h2))
 ntrans x y z h1 h2:=by
  unfold ltOf at*
  refine CG fun h=>?_
  have h1:=Bl h1
  have h2:=Bl h2
  rcases Dig.tri x y with h'|h'|h'
  ·exact h1 h'
  ·subst h';exact h2 h
  ·rcases Dig.tri y z with h3|h3|h3
   ·exact h2 h3
   ·subst h3;exact h1 h
   ·exact Dig.lt_irrefl x (Dig.lt_trans h (Dig.lt_trans h3 h'))
def sortD (l:List Dig):List Dig:=l.mergeSort fun x y=>!(ltOf ER) y x
theorem l9 {w:World} {g:Gh} {r n E:Nat} {cur:Array Value} (hi:Dt w g []) (h1:w.heap[r]? =some (.cells cur E (0,0))) (h2: ∀ o,g.H r o=none) (h3:g.M r=none):CmpLays Tryz.prog 61 #[] vDig 32 ER r 0 n w:=by
 intro m os dk hdk x y
 have hI:Dt (sortWorldK vDig 32 w r 0 m dk os) g []:=hi.laterBut h2 h3 (by simp[Ak]) (fun k hk hn=>Fl m dk os k hk hn)
 have hv:E7 g [.agg (vDig x).toArray,.agg (vDig y).toArray] [.agg (eDig x),.agg (eDig y)]:=by
  have e: ∀ d:Dig,VR g (.agg (vDig d).toArray) (.agg (eDig d)):=fun d=>by
   rw[(inferInstance:PB eDig vDig).out]
   have:E7 g (vDig d) ((vDig d).map PV.raw):=⟨by simp,fun i h1 h2=>by simp;exact .raw _⟩
   exact this.agg
  exact .cons (e x) (.cons (e y) (.nil g))
 have:=(Z7 x y).out _ (sortWorldK vDig 32 w r 0 m dk os) g [] hv hI
 refine Calls.mono this ?_
 rintro e w' ⟨v,x',g',L',rfl,k1,k2,k3,k4,rfl,rfl⟩
 refine⟨by rw[k1.raw_inv],?_⟩
 exact Zc k3.os k3.tape k3.output.1 k3.output.2 k3.size (fun k hk=>k3.keep k hk (by simp[Ak]))
theorem SZ (l:List Dig) (v:Value) (R:List Res) (hv:Uy v l R) (hl:l.length≤1000000):BH Tryz.prog 60 [.raw v,.raw (.func (.func 61) #[] #[])] R (fun _ L'=> ∃ v',v'=v∧Uy v' (sortD l) L'):=fun vs w g LF hvs hi=>by
 obtain⟨v1,v2,rfl⟩: ∃ a b,vs= [a,b]:=by
  have:=hvs.len
  match vs,this with
  | [a,b],_=>exact⟨a,b,rfl⟩
 rw[hvs.uncons.1.raw_inv,hvs.uncons.2.uncons.1.raw_inv]
 obtain⟨o,c,rfl⟩:=hv.slice
 by_cases hne:l= []
 ·subst hne
  refine(AnyF.slices_SortFunc_none Tryz.sortD o c _ w).mono ?_
  rintro e w' ⟨rfl,rfl⟩
  exact⟨_,.raw (.tuple #[]),g,R,rfl,.raw _,hi,.refl _ _ _,.refl _ _,_,rfl,by simpa [sortD]using hv⟩
 obtain⟨_,r,cur,rest,rfl,rfl,hcur,hsz,hlc⟩:=hv.inv hne
 obtain⟨k1,k2,k3,k4,k5⟩:=hi.rawHead
 have hlt:r < w.heap.size:=(BF.1 k1).1
 have hF:(flatK vDig 32 l.toArray).toList=l.flatMap vDig:=Qi (by decide) FP l
 have hH:HoldsK vDig 32 w r 0 l.toArray:=fun j hj=>by
  have hj2:j < l.length*32:=by simpa using hj
  refine⟨?_,by simp[World.frozen?,k1]⟩
  have hj3:j < cur.size:=by omega
  simp only[World.cell?,k1,CW,BW,if_false,BM]
  rw[getElem!_pos _ j hj]
  have e1:cur.toList[j]? =(flatK vDig 32 l.toArray).toList[j]?:=by
   rw[hcur,hF,DE (by rw[OC (f:=eDig) (sz:=32)];exact hj2)]
  rw[Mf,Mf,CQ hj]at e1
  exact e1
 refine(AnyQ.slices_SortFunc_total Tryz.sortD 32 (fun w=>?_) (fun w=>EZ.run (inferInstance:EZ Tryz.prog 31 32 32) w) vDig FP (fun x v h=>(inferInstance:PB eDig vDig).one x v h) ER zH 61 #[] r 0 c l.toArray w (fun args w=>(inferInstance:B1 Tryz.prog 61).out args w) (l9 (hi.sub (List.nil_sublist _)) k1 k2 k3) hH hlt (by simp;omega) ?_).mono ?_
 ·have hu:Tryz.prog.underlying 31=some (.array 32 5):=by kernel_rfl
  show(isAgg 31).run Tryz.prog w=_
  simp[isAgg,run_underlying hu]
 ·intro x y h1 h2
  unfold ltOf at h1 h2
  have h1:=Bl h1
  have h2:=Bl h2
  rcases Dig.tri x y with h'|h'|h'
  ·exact absurd h' h1
  ·exact h'
  ·exact absurd h' h2
 ·rintro e w' ⟨rfl,n,os,rfl⟩
  have hlen:(sortD l).length=l.length:=Dn _
  have hFs:(flatK vDig 32 (sortD l).toArray).toList=(sortD l).flatMap vDig:=Qi (by decide) FP (sortD l)
  have hFz:(flatK vDig 32 (sortD l).toArray).size=l.length*32:=by simp[hlen]
  have htk:=PQ (cur:=cur) (flatK vDig 32 (sortD l).toArray) (by omega)
  have hrow:JQ vDig 31 32 (.slice (some ⟨r,0,none⟩) (sortD l).length c) (sortD l) [.raw r (.cells (putCells id 0 (flatK vDig 32 (sortD l).toArray) cur) 31 (0,0))]:=by
   refine JQ.mk (rest:=(putCells id 0 (flatK vDig 32 (sortD l).toArray) cur).toList.drop (l.length*32)) FP ?_ (by simp[putCells,hsz]) (by omega)
   rw[←hFs,←htk,hFz,C6]
  rw[hlen]at hrow
  refine⟨_,.raw (.tuple #[]),g,[.raw r (.cells (putCells id 0 (flatK vDig 32 (sortD l).toArray) cur) 31 (0,0))],rfl,.raw _,?_,⟨rfl,rfl,⟨rfl,lx _ _⟩,Nu n _ os,fun b hb hn=>Fl n _ os b hb (fun e=>hn (by rw[e];simp[Ak,Res.block])),.refl g,fun _ _ _=>⟨fun _=>rfl,rfl⟩⟩,fun b hb _=>by simpa [Ak,Res.block]using hb,_,rfl,hrow⟩
  exact(k5.laterBut k2 k3 k4 (fun k hk hn=>Fl n _ os k hk hn)).addRaw (PJ k1 n _ os) k2 k3 k4
end Go.Proofs
namespace Go.Proofs
open Go Go.Q
attribute [local irreducible] EY AU BH Fk
def dj (rs:List Rfc):List Dig:=(rs.filter fun r=>!decide (r.id.patch=Dig.zero)).map (·.id.patch)
theorem br (a b:List Rfc):dj (a++b)=dj a++dj b:=by simp[dj]
theorem kr {rs:List Rfc} {j:Nat} (h:j < rs.length):dj (rs.take (j+1))=dj (rs.take j)++(if rs[j].id.patch=Dig.zero then []else [rs[j].id.patch]):=by
 rw[A7 h,br]
 congr 1
 unfold dj
 by_cases e:rs[j].id.patch=Dig.zero<;>simp[e]
def kI (p:Pat):List Dig:=p.deps++p.changes.flatMap fun c=>dj (Ek c)
def nP (p:Pat):List Dig:=if(CU p).2≠0 then []else Ko (sortD (kI p))
theorem fe (p:Pat) [hs:Ay (E4 p=false)]:C9 Tryz.prog 20 [.agg (Ba p)] (.slice ((nP p).map eDig) .ro):=⟨by
 obtain⟨hg1,hg2,hg3,hg4,hg5⟩:=EF hs.out
 refine Av Tryz.func20 Tryz.ntmps20 rfl (rs:= [.tmp 2]) rfl rfl fun hb LF=>?_
 refine wf ?_
 refine AR (fun h1=>?_) (fun h1=>?_)
 ·refine wf ?_
  refine Aw (.ros ?_)
  rw[nP,if_pos h1];rfl
 refine wf ?_
 refine CV (xs:= [.tmp 12]) [] LF (f:=57) (cs:= []) (C4 _) rfl rfl (.refl _) _ (P0 p.deps .ro (by omega)) fun r L1 ⟨v0,hr,hv0⟩=>?_
 subst hr
 refine wf ?_
 refine wf ?_
 refine AZ (σ:=Nat × Value × List Dig × List Res) (fun k=>k.1≤p.changes.length∧k.2.2.1.length≤200+k.1*404∧k.2.2.1=p.deps++(p.changes.take k.1).flatMap (fun c=>dj (Ek c))∧Uy k.2.1 k.2.2.1 k.2.2.2) (fun k=>p.changes.length - k.1) (fun k=> [(3,.raw k.2.1),(15,.slice (p.changes.map eChg) .ro),(16,.raw (.int .i64 p.changes.length)),(17,.raw (.int .i64 k.1))]) (fun k=>k.2.2.2++LF) (0,v0,p.deps,L1) ⟨by simp,by simpa using hg3,by simp,hv0⟩ ⟨rfl,rfl,rfl,rfl⟩ (.refl _) ?_
 rintro⟨k,v,l,R⟩ ⟨hk,hlen,hl,hv⟩
 dsimp only at hk hlen hl hv
 refine wf ?_
 refine A6 (fun hc=>?_) (fun hc=>?_)
 ·have hlt:k < p.changes.length:=by omega
  have hov:=(hg5 _ (AH hlt)).over
  have i1:Ay (p.changes[k].over.length≤400):=⟨by omega⟩
  have hrl:=VV (c:=p.changes[k]) (by omega)
  refine wz fun b5=>?_
  refine B2 5 ?_
  refine wf ?_
  refine AZ (σ:=Nat × Value × List Dig × List Res) (fun j=>j.1≤(Ek p.changes[k]).length∧j.2.2.1.length≤200+k*404+j.1∧j.2.2.1=l++dj ((Ek p.changes[k]).take j.1)∧Uy j.2.1 j.2.2.1 j.2.2.2) (fun j=>(Ek p.changes[k]).length - j.1) (fun j=> [(3,.raw j.2.1),(15,.slice (p.changes.map eChg) .ro),(16,.raw (.int .i64 p.changes.length)),(17,.raw (.int .i64 k)),(22,.slice ((Ek p.changes[k]).map eRfc) .ro),(23,.raw (.int .i64 (Ek p.changes[k]).length)),(24,.raw (.int .i64 j.1))]) (fun j=>j.2.2.2++LF) (0,v,l,R) ⟨by simp,by simpa using hlen,by simp[dj],hv⟩ ⟨rfl,rfl,rfl,rfl,rfl,rfl,rfl⟩ (.refl _) ?_
  rintro⟨j,v1,l1,R1⟩ ⟨hj,hlen1,hl1,hv1⟩
  dsimp only at hj hlen1 hl1 hv1
  refine wf ?_
  refine A6 (fun hd=>?_) (fun hd=>?_)
  ·have hjt:j < (Ek p.changes[k]).length:=by omega
   have ht:=kr hjt
   refine wz fun b7=>?_
   refine B2 7 ?_
   refine wf ?_
   refine AR (fun h2=>?_) (fun h2=>?_)
   ·rw[if_neg h2]at ht
    refine wf ?_
    refine Il (f:=eDig) (m:= [(Ek p.changes[k])[j].id.patch]) (R:=R1) (LF:=LF) (fun R'=>R'++LF) rfl rfl hv1 (.refl _) (fun R'=> .refl _) (by simp only[AN,Ae];omega) (by simp only[AN,Ae];omega) fun v2 R2 hv2=>?_
    refine wf ?_
    refine wf ?_
    refine⟨(j+1,v2,l1++ [(Ek p.changes[k])[j].id.patch],R2),⟨by dsimp only;omega,by simp only[AD,AN,Ae];omega,?_,hv2⟩,by dsimp only;omega,⟨rfl,rfl,rfl,rfl,rfl,rfl,rfl⟩,.refl _⟩
    dsimp only
    rw[ht,←AV,hl1]
   ·rw[if_pos h2,BJ]at ht
    refine wf ?_
    refine⟨(j+1,v1,l1,R1),⟨by dsimp only;omega,by dsimp only;omega,?_,hv1⟩,by dsimp only;omega,⟨rfl,rfl,rfl,rfl,rfl,rfl,rfl⟩,.refl _⟩
    dsimp only
    rw[ht,hl1]
  ·rw[AB (by omega)]at hl1
   refine wf ?_
   refine⟨(k+1,v1,l1,R1),⟨by dsimp only;omega,by dsimp only;omega,?_,hv1⟩,by dsimp only;omega,⟨rfl,rfl,rfl,rfl⟩,.refl _⟩
   dsimp only
   rw[hl1,hl,A7 hlt,K2,AV]
   simp
 rw[AB (by omega)]at hl
 have hl':l=kI p:=hl
 have hsl:(sortD l).length=l.length:=Dn _
 refine wf ?_
 refine CV (xs:= [.tmp 40,.func 61]) R LF (f:=60) (cs:= []) (C4 _) rfl rfl (.refl _) _ (SZ l v R hv (by omega)) fun r L2 ⟨v2,e2,hv2⟩=>?_
 subst e2
 refine wf ?_
 refine wf ?_
 refine CV (xs:= [.tmp 42]) L2 LF (f:=62) (cs:= []) (C4 _) rfl rfl (.refl _) _ (Px (sortD l) v2 L2 hv2 (by omega)) fun r L3 ⟨hr,hL3⟩=>?_
 subst hr
 subst hL3
 refine wf ?_
 refine wf ?_
 refine Aw (.ros ?_)
 rw[nP,if_neg (by simp[h1]),←hl']⟩
end Go.Proofs
namespace Go.Proofs
open Go Go.Q Go.Sort
theorem KB (l:List Dig):(sortD l).Pairwise fun x y=> ¬Dig.lt y x:=by
 have h:=z8 (le:=fun x y=>!(ltOf ER) y x) (fun a b c h1 h2=>by
  simp only[AF,ltOf,A8]at h1 h2 ⊢
  intro h3
  have h1: ¬Dig.lt b a:=h1
  have h2: ¬Dig.lt c b:=h2
  have h3:Dig.lt c a:=h3
  rcases Dig.tri a b with h|h|h
  ·exact h2 (Dig.lt_trans h3 h)
  ·subst h;exact h2 h3
  ·exact h1 h) (fun a b=>by
  simp only[qH,AF,ltOf,A8]
  by_cases h:Dig.lt b a
  ·exact .inr (Dig.lt_asymm h)
  ·exact .inl h) l
 refine h.imp fun {a b} hab=>?_
 simp only[AF,ltOf,A8]at hab
 exact hab
theorem Rs {l:List Dig} (h:l.Pairwise fun x y=> ¬Dig.lt y x): ∀ j,j≤l.length→Gy (Ko (l.take j))∧ ∀ d,d∈Ko (l.take j)↔d∈l.take j:=by
 intro j
 induction j with
 |zero=>intro _;exact⟨Gy.nil,fun d=>by simp[Ko]⟩
 |succ j ih=>
  intro hj
  obtain⟨i1,i2⟩:=ih (by omega)
  have hlt:j < l.length:=by omega
  by_cases h0:j=0
  ·subst h0
   have e:l.take 1= [l[0]]:=by
    rw[A7 hlt];rfl
   rw[e]
   exact⟨Fx _ _,fun d=>Iff.rfl⟩
  rw[Ql (by omega) hlt]
  by_cases e:l[j]=l[j - 1]
  ·rw[if_pos e]
   refine⟨i1,fun d=>?_⟩
   rw[i2,A7 hlt]
   simp only[Ah,Aj]
   refine⟨.inl,fun h=>h.elim id fun h=>?_⟩
   rw[h,e]
   exact DD.2 ⟨j - 1,by omega,rfl⟩
  ·rw[if_neg e]
   refine⟨?_,fun d=>?_⟩
   ·refine H2.2 ⟨i1,Fx _ _,fun a ha b hb=>?_⟩
    rw[Aj.1 hb]
    obtain⟨i,hi,rfl⟩:=DD.1 ((i2 a).1 ha)
    have hp:=B6.1 h
    have h3: ¬Dig.lt l[j] l[j - 1]:=hp (j - 1) j (by omega) hlt (by omega)
    have h4:Dig.lt l[j - 1] l[j]:=by
     rcases Dig.tri l[j - 1] l[j]with h'|h'|h'
     ·exact h'
     ·exact absurd h'.symm e
     ·exact absurd h' h3
    by_cases h5:i=j - 1
    ·subst h5;exact h4
    ·have h6: ¬Dig.lt l[j - 1] l[i]:=hp i (j - 1) (by omega) (by omega) (by omega)
     rcases Dig.tri l[i] l[j - 1]with h'|h'|h'
     ·exact Dig.lt_trans h' h4
     ·rw[h'];exact h4
     ·exact absurd h' h6
   ·rw[A7 hlt]
    simp only[Ah,i2]
theorem tV (l:List Dig):Gy (Ko (sortD l)):=by
 have:=(Rs (KB l) (sortD l).length (Al _)).1
 rwa [DK]at this
theorem tU (l:List Dig) (d:Dig):d∈Ko (sortD l)↔d∈l:=by
 have:=(Rs (KB l) (sortD l).length (Al _)).2 d
 rw[DK]at this
 rw[this]
 exact cJ
theorem QX {l:List Ident} {d:Dig}:d∈FU l↔ ∃ x∈l,x.patch≠Dig.zero∧x.patch=d:=by
 unfold FU
 simp only[AY,GI,AF,A8]
 constructor
 ·rintro⟨x,⟨h1,h2⟩,h3⟩;exact⟨x,h1,h2,h3⟩
 ·rintro⟨x,h1,h2,h3⟩;exact⟨x,⟨h1,h2⟩,h3⟩
theorem tx (rs:List Rfc):dj rs=FU (rs.map Rfc.id):=by
 unfold dj FU
 rw[List.filter_map,Cd]
 rfl
theorem sC {c:Chg} (h:C0 c=0):(¬(2≤c.kind∧c.kind≤6)→c.file=Ident.zero)∧(c.kind≠2→c.parent=Ident.zero)∧(¬(c.kind=5∨c.kind=6)→c.after=Ident.zero∧c.before=Ident.zero):=by
 unfold C0 at h
 split at h
 ·omega
 split at h
 ·omega
 rename_i h2
 simp only[Bool.not_eq_false,Fg,BQ,AA]at h2
 obtain⟨⟨⟨⟨⟨⟨⟨⟨⟨a1,_⟩,a2⟩,_⟩,_⟩,_⟩,a3⟩,a4⟩,_⟩,_⟩:=h2
 refine⟨fun h=>?_,fun h=>?_,fun h=>⟨?_,?_⟩⟩
 ·have a:(if 2≤c.kind∧c.kind≤6 then Ident.zero else c.file)=Ident.zero:=a1
  rwa [if_neg h]at a
 ·have a:(if c.kind=2 then Ident.zero else c.parent)=Ident.zero:=a2
  rwa [if_neg h]at a
 ·have a:(if c.kind=5∨c.kind=6 then Ident.zero else c.after)=Ident.zero:=a3
  rwa [if_neg h]at a
 ·have a:(if c.kind=5∨c.kind=6 then Ident.zero else c.before)=Ident.zero:=a4
  rwa [if_neg h]at a
theorem Yg {c:Chg} (h:C0 c=0) (d:Dig):d∈dj (Ek c)↔d∈FU (MC c):=by
 obtain⟨u1,u2,u3⟩:=sC h
 have hz:Ident.zero.patch=Dig.zero:=rfl
 rw[tx,QX,QX]
 have key: ∀ x:Ident,x.patch≠Dig.zero→(x∈(Ek c).map Rfc.id↔x∈MC c):=fun x hx=>by
  have hk:=My h
  have e4: ∀ l:List Ident,(NX c l).map Rfc.id=l:=fun l=>by
   rw[NX,Cd]
   show l.map (fun x=>x)=l
   simp
  unfold Ek MC
  simp only[Au,e4,Ah,AG,Aa,or_false]
  have n1:x=Ident.zero→False:=fun e=>hx (by rw[e];rfl)
  have n2:x=⟨Dig.zero,-1⟩→False:=fun e=>hx (by rw[e])
  rcases kinds hk with k|k|k|k|k|k|k<;>simp only[Ho,KZ,PN,k]at u1 u2 u3 ⊢ <;>simp<;>grind
 constructor
 ·rintro⟨x,h1,h2,h3⟩;exact⟨x,(key x h2).1 h1,h2,h3⟩
 ·rintro⟨x,h1,h2,h3⟩;exact⟨x,(key x h2).2 h1,h2,h3⟩
theorem Na: ∀ (l:List Chg) (own:List Atm),(Cz l own).2=0→ ∀ c∈l,C0 c=0
 | [],_,_,c,hc=>by cases hc
 |x::l,own,h,c,hc=>by
  rw[Cz]at h
  split at h
  ·rename_i h1;exact absurd h h1
  rename_i h1
  split at h
  ·rename_i h2;exact absurd h h2
  rcases AG.1 hc with rfl|hc
  ·simpa using h1
  ·exact Na l _ h c hc
theorem RZ: ∀ (cs:List Chg) (m:List Dig) (d:Dig),d∈cs.foldl Oi m↔d∈m∨ ∃ c∈cs,d∈FU (MC c)
 | [],m,d=>by simp
 |c::cs,m,d=>by
  rw[Bz,RZ cs,Oi,HB]
  simp only[AG,exists_eq_or_imp,or_assoc]
theorem Ra: ∀ (cs:List Chg) (m:List Dig),Gy m→Gy (cs.foldl Oi m)
 | [],m,h=>h
 |c::cs,m,h=>Ra cs _ (Fo h)
theorem xK (p:Pat):nP p=BL p:=by
 unfold nP BL
 by_cases h:(CU p).2≠0
 ·rw[if_pos h,if_pos h]
 rw[if_neg h,if_neg h]
 have h0:(CF p).2=0:=by
  by_cases h1:(CF p).2≠0
  ·rw[CU,if_pos h1]at h;exact absurd h1 h
  ·simpa using h1
 have hF: ∀ c∈p.changes,C0 c=0:=by
  rw[Ig]at h0
  split at h0
  ·rename_i h1;exact absurd h0 h1
  ·exact Na _ _ h0
 refine Gy.ext (tV _) (Ra _ _ (Fo Gy.nil)) fun d=>?_
 rw[tU,RZ,HB,kI]
 simp only[Ah,List.mem_flatMap,Aa,false_or]
 constructor
 ·rintro(h|⟨c,hc,h⟩)
  ·exact .inl h
  ·exact .inr ⟨c,hc,(Yg (hF c hc) d).1 h⟩
 ·rintro(h|⟨c,hc,h⟩)
  ·exact .inl h
  ·exact .inr ⟨c,hc,(Yg (hF c hc) d).2 h⟩
instance vj (p:Pat) [hs:Ay (E4 p=false)]:C9 Tryz.prog 20 [.agg (Ba p)] (.slice ((BL p).map eDig) .ro):=xK p ▸ fe p
end Go.Proofs
namespace Go.Proofs
open Go Go.Q
attribute [local irreducible] EY AU BH Fk
def gr (s:List Sto):List (Dig × List Dig):=s.foldl (fun m x=>Dd x.id (BL x.patch) m) []
theorem da {s:List Sto} {k:Nat} (h:k < s.length):gr (s.take (k+1))=Dd s[k].id (BL s[k].patch) (gr (s.take k)):=by
 rw[A7 h,gr,CB];rfl
instance th (s:List Sto) (t:CD) [hs:Ay (Gw s)]:C9 Tryz.prog 78 [.slice (s.map eSto) t] (.fmap (Bb kDig (KV eDig) (gr s))):=⟨by
 have hs:=hs.out
 refine Av Tryz.func78 Tryz.ntmps78 rfl (rs:= [.tmp 2]) rfl rfl fun hb LF=>?_
 refine zC fun b=>?_
 refine AZ (σ:=Nat) (fun k=>k≤s.length) (fun k=>s.length - k) (fun k=> [(3,.raw (.map (some b))),(7,.slice (s.map eSto) t),(8,.raw (.int .i64 s.length)),(9,.raw (.int .i64 k))]) (fun k=> .map b (Bb kDig (KV eDig) (gr (s.take k)))::LF) 0 (by simp) ⟨rfl,rfl,rfl,rfl⟩ (.refl _) ?_
 intro k hk
 refine wf ?_
 refine A6 (fun hc=>?_) (fun hc=>?_)
 ·have hlt:k < s.length:=by omega
  have h8:=hs.1
  have:Ay (E4 s[k].patch=false):=⟨hs.2 _ (AH hlt)⟩
  refine wz fun b5=>?_
  refine B2 5 ?_
  refine wn ?_
  refine BX 6 ?_ ?_
  ·decide+kernel
  refine wf ?_
  refine⟨k+1,by omega,by dsimp only;omega,⟨rfl,rfl,rfl,rfl⟩,?_⟩
  dsimp only
  rw[da hlt]
  exact .refl _
 ·refine Gd ?_
  rw[AB (by omega)]
  refine O9 [(3,.fmap (Bb kDig (KV eDig) (gr s)))] (.inr ⟨rfl,rfl⟩) (.refl _) ?_
  refine wf ?_
  exact Aw (.refl _)⟩
def Kp (out l:List Dig):List Dig:=l.foldl (fun o d=>if d∈o then o else o++ [d]) out
theorem gb {out l:List Dig} {k:Nat} (h:k < l.length):Kp out (l.take (k+1))=if l[k]∈Kp out (l.take k)then Kp out (l.take k)else Kp out (l.take k)++ [l[k]]:=by
 rw[A7 h,Kp,CB];rfl
theorem lZ (out:List Dig): ∀ l:List Dig,(Kp out l).length≤out.length+l.length:=by
 intro l
 induction l generalizing out with
 |nil=>simp[Kp]
 |cons x l ih=>
  have:=ih (if x∈out then out else out++ [x])
  rw[Kp,Bz]
  refine Cq this ?_
  split<;>simp<;>omega
def WC (met:List (Dig × Bool)) (out:List Dig):Prop:= ∀ d,(CY d met).getD false=decide (d∈out)
theorem WC.add {met:List (Dig × Bool)} {out:List Dig} (h:WC met out) (d:Dig):WC (Dd d true met) (out++ [d]):=fun x=>by
 rw[HQ]
 by_cases e:x=d
 ·subst e;simp
 ·rw[if_neg e,h x];simp[e]
def pz (b6 m b7:Nat) (out:List Dig) (L:List Res):Prop:= ∃ met v R,WC met out∧Uy v out R∧L= .box b6 121 [.raw (.map (some m))]:: .map m (Bb kDig vBool met):: .box b7 24 [.raw v]::R
theorem Dw {a b c:Res} {L LF:List Res}:(a::b::c::(L++LF)).Perm (L++(a::b::c::LF)):=((BT (l₁:=L)).trans (.cons a ((BT (l₁:=L)).trans (.cons b BT)))).symm
def P8 (G:List (Dig × List Dig)) (l:List Dig):Bool:=l.all fun d=>(CY d G).isSome
theorem dv (G:List (Dig × List Dig)) (l:List Dig) (t:CD) (b6 m b7:Nat) (out:List Dig) (L:List Res) (hL:pz b6 m b7 out L) (hb:out.length+l.length≤1000):
  BH Tryz.prog 160 [.slice (l.map eDig) t,.pt [.fmap (Bb kDig (KV eDig) G)] 0,.raw (.pointer (some ⟨b6,0,none⟩)),.raw (.pointer (some ⟨b7,0,none⟩))] L (fun r L'=>r= .raw (.bool (P8 G l))∧ ∃ out',pz b6 m b7 out' L'∧(P8 G l=true→out'=Kp out l)):=by
 refine C8 Tryz.func160 rfl Tryz.ntmps160 (rs:= [.tmp 5]) rfl rfl fun hbd LF=>?_
 refine wf ?_
 refine AZ (σ:=Nat × List Res) (fun k=>k.1≤l.length∧(∀ i (h:i < l.length),i < k.1→(CY l[i] G).isSome=true)∧pz b6 m b7 (Kp out (l.take k.1)) k.2) (fun k=>l.length - k.1) (fun k=> [(1,.pt [.fmap (Bb kDig (KV eDig) G)] 0),(2,.raw (.pointer (some ⟨b6,0,none⟩))),(3,.raw (.pointer (some ⟨b7,0,none⟩))),(10,.slice (l.map eDig) t),(11,.raw (.int .i64 l.length)),(12,.raw (.int .i64 k.1))]) (fun k=>k.2++LF) (0,L) ⟨by simp,by simp,hL⟩ ⟨rfl,rfl,rfl,rfl,rfl,rfl⟩ (.refl _) ?_
 rintro⟨k,L1⟩ ⟨hk,hall,met,v,R,hm,hv,rfl⟩
 dsimp only at hk hall hm hv ⊢
 refine wf ?_
 refine A6 (fun hc=>?_) (fun hc=>?_)
 ·have hlt:k < l.length:=by omega
  refine wz fun b=>?_
  refine B2 7 ?_
  refine wf ?_
  refine AO (fun h=>?_) (fun h=>?_)
  ·have h0:(CY l[k] G).isSome=false:=by simpa using h
   have hA:P8 G l=false:=by
    unfold P8
    exact J5.2 ⟨l[k],AH hlt,by simp[h0]⟩
   refine wf ?_
   exact⟨trivial,_,_,.cons (.tmp 5) .nil,.refl _,by rw[hA];exact rfl,_,⟨met,v,R,hm,hv,rfl⟩,fun h=>by rw[hA]at h;cases h⟩
  have hi:(CY l[k] G).isSome=true:=by simpa using h
  have hall': ∀ i (h:i < l.length),i < k+1→(CY l[i] G).isSome=true:=fun i hi' hik=>by
   rcases BN i k with h'|h'
   ·exact hall i hi' h'
   ·have e:i=k:=by omega
    subst e;exact hi
  refine wf ?_
  have hml:=hm l[k]
  have ht:=gb (out:=out) hlt
  refine AO (fun h=>?_) (fun h=>?_)
  ·have hno:l[k]∉Kp out (l.take k):=by
    rw[hml]at h;simpa using h
   rw[if_neg hno]at ht
   have hol:=lZ out (l.take k)
   rw[Ab]at hol
   refine wf ?_
   refine Sw (κ:=Dig) (ek:=kDig) (ev:=vBool) (k0:=l[k]) (x0:=true) (L':= .box b6 121 [.raw (.map (some m))]:: .box b7 24 [.raw v]::(R++LF)) rfl (.swap _ _ _) (.refl _) (.refl _) ?_
   refine AE ?_
   refine EH (.swap _ _ _) ?_
   refine wf ?_
   refine Il (f:=eDig) (m:= [l[k]]) (R:=R) (LF:= .box b6 121 [.raw (.map (some m))]:: .map m (Bb kDig vBool (Dd l[k] true met)):: .box b7 24 [.raw v]::LF) (fun R'=> .box b6 121 [.raw (.map (some m))]:: .map m (Bb kDig vBool (Dd l[k] true met)):: .box b7 24 [.raw v]::(R'++LF)) rfl rfl hv Dw (fun R'=>Dw.symm) (by simp only[AN,Ae];omega) (by simp only[AN,Ae];omega) fun v2 R2 hv2=>?_
   refine wf ?_
   refine Hl [.raw v2] rfl rfl hv2.one rfl (by simp) ?_
   refine wf ?_
   refine wf ?_
   refine⟨(k+1,_),⟨by dsimp only;omega,hall',Dd l[k] true met,v2,R2,?_,?_,rfl⟩,by dsimp only;omega,⟨rfl,rfl,rfl,rfl,rfl,rfl⟩,.refl _⟩
   ·dsimp only;rw[ht];exact hm.add _
   ·dsimp only;rw[ht];exact hv2
  ·have hyes:l[k]∈Kp out (l.take k):=by
    rw[hml]at h;simpa using h
   rw[if_pos hyes]at ht
   refine wf ?_
   exact⟨(k+1,_),⟨by dsimp only;omega,hall',met,v,R,by dsimp only;rw[ht];exact hm,by dsimp only;rw[ht];exact hv,rfl⟩,by dsimp only;omega,⟨rfl,rfl,rfl,rfl,rfl,rfl⟩,.refl _⟩
 ·have hA:P8 G l=true:=by
   unfold P8
   refine Bf.2 fun d hd=>?_
   obtain⟨i,hi,rfl⟩:=Ag.1 hd
   exact hall i hi (by omega)
  refine wf ?_
  rw[AB (by omega)]at hm hv
  exact⟨trivial,_,_,.cons (.tmp 5) .nil,.refl _,by rw[hA];exact rfl,_,⟨met,v,R,hm,hv,rfl⟩,fun _=>rfl⟩
end Go.Proofs
namespace Go.Proofs
open Go Go.Q
def ndG (G:List (Dig × List Dig)) (d:Dig):List Dig:=(CY d G).getD []
theorem Ry (out:List Dig) (x:Dig) (l:List Dig):Kp out (x::l)=Kp (if x∈out then out else out++ [x]) l:=rfl
theorem Kf: ∀ {l out:List Dig} {d:Dig},d∈Kp out l↔d∈out∨d∈l
 | [],out,d=>by simp[Kp]
 |x::l,out,d=>by
  rw[Ry,Kf]
  split
  ·rename_i h
   constructor
   ·rintro(h1|h1)
    ·exact .inl h1
    ·exact .inr (AL _ h1)
   ·rintro(h1|h1)
    ·exact .inl h1
    ·rcases AG.1 h1 with rfl|h1
     ·exact .inl h
     ·exact .inr h1
  ·simp[or_assoc]
theorem Q1: ∀ {l out:List Dig},out.Nodup→(Kp out l).Nodup
 | [],_,h=>h
 |x::l,out,h=>by
  rw[Ry]
  refine Q1 ?_
  split
  ·exact h
  ·rename_i hx
   refine H2.2 ⟨h,Fx _ _,fun a ha b hb=>?_⟩
   rw[Aj.1 hb]
   rintro rfl
   exact hx ha
theorem OT: ∀ {l out:List Dig},out <+:Kp out l
 | [],_=>List.prefix_refl _
 |x::l,out=>by
  rw[Ry]
  refine List.IsPrefix.trans ?_ OT
  split
  ·exact List.prefix_refl _
  ·exact List.prefix_append _ _
structure lr (nd:Dig→List Dig) (l out:List Dig) (i:Nat):Prop where
 nodup:out.Nodup
 sub: ∀ d∈l,d∈out
 reach: ∀ d∈out,Q.Reach nd l d
 done: ∀ j (h:j < out.length),j < i→ ∀ d∈nd out[j],d∈out
theorem lr.start (nd:Dig→List Dig) (l:List Dig):lr nd l (Kp [] l) 0:=
 ⟨Q1 .nil,fun d hd=>Kf.2 (.inr hd),fun d hd=> .base ((Kf.1 hd).elim (fun h=>absurd h (by simp)) id),fun _ _ h=>absurd h (by omega)⟩
theorem lr.step {nd:Dig→List Dig} {l out:List Dig} {i:Nat} (h:lr nd l out i) (hi:i < out.length):lr nd l (Kp out (nd out[i])) (i+1):=by
 refine⟨Q1 h.nodup,fun d hd=>Kf.2 (.inl (h.sub d hd)),fun d hd=>?_,fun j hj hji d hd=>?_⟩
 ·rcases Kf.1 hd with h1|h1
  ·exact h.reach d h1
  ·exact .step (h.reach _ (AH hi)) h1
 ·have hjo:j < out.length:=by omega
  have e:(Kp out (nd out[i]))[j]=out[j]:=(OT.getElem hjo).symm
  rw[e]at hd
  by_cases hj2:j < i
  ·exact Kf.2 (.inl (h.done j hjo hj2 d hd))
  ·have hje:j=i:=by omega
   subst hje
   exact Kf.2 (.inr hd)
theorem lr.fin {nd:Dig→List Dig} {l out:List Dig} {i:Nat} (h:lr nd l out i) (hi:out.length≤i) (d:Dig):d∈out↔Q.Reach nd l d:=by
 refine⟨h.reach d,fun hr=>?_⟩
 induction hr with
 |base hd=>exact h.sub _ hd
 |step _ hd ih=>
  obtain⟨j,hj,rfl⟩:=Ag.1 ih
  exact h.done j hj (by omega) _ hd
theorem lr.len {nd:Dig→List Dig} {l out U:List Dig} {i:Nat} (h:lr nd l out i) (hU: ∀ x∈U,∀ d∈nd x,d∈U) (hl: ∀ d∈l,d∈U):out.length≤U.length:=
 Ei h.nodup fun d hd=>(h.reach d hd).in_ hU hl
theorem eb {l:List Dig} (h:l.Nodup):Gy (sortD l):=by
 have h2:(sortD l).Nodup:=(List.mergeSort_perm l _).nodup_iff.2 h
 refine B6.2 fun i j hi hj hij=>?_
 have a:=B6.1 (KB l) i j hi hj hij
 have b:=B6.1 h2 i j hi hj hij
 rcases Dig.tri (sortD l)[i] (sortD l)[j]with h'|h'|h'
 ·exact h'
 ·exact absurd h' b
 ·exact absurd h' a
theorem VI {l:List Dig} {d:Dig}:d∈sortD l↔d∈l:=cJ
theorem qz: ∀ (s:List Sto) (m:List (Dig × List Dig)) (d:Dig),(CY d (s.foldl (fun m x=>Dd x.id (BL x.patch) m) m)).isSome=(decide (d∈ids s)||(CY d m).isSome)
 | [],m,d=>by simp[ids]
 |x::s,m,d=>by
  rw[Bz,qz s,HQ]
  by_cases e:d=x.id<;>simp[ids,e]
theorem kd: ∀ (s:List Sto) (m:List (Dig × List Dig)) (d:Dig) (r:List Dig),CY d (s.foldl (fun m x=>Dd x.id (BL x.patch) m) m)=some r→(∃ x∈s,x.id=d∧r=BL x.patch)∨CY d m=some r
 | [],m,d,r,h=> .inr h
 |x::s,m,d,r,h=>by
  rw[Bz]at h
  rcases kd s _ d r h with ⟨y,hy,h1,h2⟩|h1
  ·exact .inl ⟨y,AL _ hy,h1,h2⟩
  ·rw[HQ]at h1
   split at h1
   ·rename_i e
    exact .inl ⟨x,AI,e.symm,(DM h1).symm⟩
   ·exact .inr h1
theorem XN (s:List Sto) (d:Dig):(CY d (gr s)).isSome=decide (d∈ids s):=by
 rw[gr,qz];simp[CY]
theorem Bx.ndG {s:List Sto} (v:Bx s):Go.Proofs.ndG (gr s)=Go.Proofs.ndS s:=by
 funext d
 have h1:=XN s d
 unfold Go.Proofs.ndG
 cases hg:CY d (gr s)with
 |none=>
  rw[hg]at h1
  have hd: ¬d∈ids s:=by simpa using h1
  have hn:Go.Proofs.getS s d=none:=by
   cases hs:Go.Proofs.getS s d with
   |none=>rfl
   |some p=>
    obtain⟨x,hx,e,_⟩:=Kj hs
    exact absurd (AY.2 ⟨x,hx,e⟩) hd
  rw[Go.Proofs.ndS,hn,NR,NR,Tn]
 |some r=>
  rcases kd s [] d r hg with ⟨x,hx,e,rfl⟩|h2
  ·subst e
   rw[v.ndS hx];rfl
  ·simp[CY]at h2
attribute [local irreducible] EY AU BH Fk
def clG (G:List (Dig × List Dig)) (U l:List Dig):List Dig × Bool:=if P8 G l=false then([],false)else(MN (ndG G) U.length (Dh [] l),true)
structure lk (G:List (Dig × List Dig)) (U:List Dig):Prop where
 is: ∀ d,(CY d G).isSome=decide (d∈U)
 len:U.length≤200
 cl: ∀ x∈U,∀ d∈ndG G x,d∈U
 nd: ∀ x,(ndG G x).length≤400
theorem lk.all {G:List (Dig × List Dig)} {U l:List Dig} (h:lk G U):P8 G l=true↔ ∀ d∈l,d∈U:=by
 unfold P8
 rw[Bf]
 exact⟨fun k d hd=>by have:=k d hd;rw[h.is]at this;exact BP this,fun k d hd=>by rw[h.is];exact BC (k d hd)⟩
theorem ma:Ck Tryz.prog 24 [.raw (.slice none 0 0)]:=Nq (v:= .slice none 0 0) (by kernel_rfl) rfl fun _=> .raw _
theorem TE (G:List (Dig × List Dig)) (U:List Dig) (hG:lk G U) (l:List Dig) (t:CD) (hl:l.length≤400):C9 Tryz.prog 108 [.fmap (Bb kDig (KV eDig) G),.slice (l.map eDig) t] (.tuple [.slice ((clG G U l).1.map eDig) .ro,.raw (.bool (clG G U l).2)]):=⟨by
 refine Av Tryz.func108 Tryz.ntmps108 rfl (rs:= [.tmp 4,.tmp 5]) rfl rfl fun hb LF=>?_
 refine wf ?_
 refine Rj fun m=>?_
 refine CA fun b6=>?_
 refine wf ?_
 refine CA (hZ:=ma) fun b7=>?_
 refine wf ?_
 refine CV (xs:= [.tmp 13]) [.box b6 121 [.raw (.map (some m))],.map m (Bb kDig vBool []),.box b7 24 [.raw (.slice none 0 0)]] LF (f:=160) (cs:= [.pt [.fmap (Bb kDig (KV eDig) G)] 0,.raw (.pointer (some ⟨b6,0,none⟩)),.raw (.pointer (some ⟨b7,0,none⟩))]) (.refl _) rfl rfl (BT (l₁:= [_,_])).symm _ (dv G l t b6 m b7 [] _ ⟨[],.slice none 0 0,[],fun d=>by simp[CY],.nil none (by simp),rfl⟩ (by simp;omega)) fun r L1 ⟨hr,out0,hC,ho⟩=>?_
 subst hr
 refine wf ?_
 refine AO (fun h=>?_) (fun h=>?_)
 ·have h0:P8 G l=false:=by simpa using h
  refine wf ?_
  refine HD (hs:=DC _ _) ?_
  rw[clG,if_pos h0]
  exact .tuple2 (.ro _ _) (.refl _)
 have h1:P8 G l=true:=by simpa using h
 have hlU:=hG.all.1 h1
 rw[clG,if_neg (by simp[h1])]
 have ho:=ho h1
 subst ho
 refine wf ?_
 refine AZ (σ:=Nat × List Dig × List Res) (fun k=>k.1≤k.2.1.length∧lr (ndG G) l k.2.1 k.1∧pz b6 m b7 k.2.1 k.2.2) (fun k=>U.length - k.1) (fun k=> [(2,.pt [.fmap (Bb kDig (KV eDig) G)] 0),(7,.raw (.pointer (some ⟨b7,0,none⟩))),(8,.clo 160 [.pt [.fmap (Bb kDig (KV eDig) G)] 0,.raw (.pointer (some ⟨b6,0,none⟩)),.raw (.pointer (some ⟨b7,0,none⟩))]),(9,.raw (.int .i64 k.1))]) (fun k=>k.2.2++LF) (0,Kp [] l,L1) ⟨by simp,lr.start _ _,hC⟩ ⟨rfl,rfl,rfl,rfl⟩ (.refl _) ?_
 rintro⟨k,out,L2⟩ ⟨hk,hI,met,v,R,hm,hv,rfl⟩
 dsimp only at hk hI hm hv ⊢
 have hol:=hI.len hG.cl hlU
 have hUl:=hG.len
 obtain⟨o,c,rfl⟩:=hv.slice
 refine wf ?_
 refine IH rfl ?_
 refine wf ?_
 refine A6 (fun hc=>?_) (fun hc=>?_)
 ·have hlt:k < out.length:=by omega
  have hne:out≠ []:=fun e=>by subst e;simp at hlt
  obtain⟨_,r,cur,rest,rfl,rfl,hcur,hsz,hlc⟩:=hv.inv hne
  refine wn ?_
  refine BX 7 ?_ ?_
  ·decide+kernel
  refine wf ?_
  refine DI (k:=k) rfl rfl hlt ?_
  refine Od (f:=eDig) (a0:=out[k]) rfl (En _ (AL _ (AL _ (AL _ AI)))) (by rw[hcur,BM];exact Pa FP out k hlt rest) (by omega) ?_
  refine wf ?_
  have hin:out[k]∈U:=(hI.reach _ (AH hlt)).in_ hG.cl hlU
  have hA:P8 G (ndG G out[k])=true:=hG.all.2 (hG.cl _ hin)
  have hnd:=hG.nd out[k]
  refine CV (xs:= [.tmp 28]) (.box b6 121 [.raw (.map (some m))]:: .map m (Bb kDig vBool met):: .box b7 24 [.raw (.slice (some ⟨r,0,none⟩) out.length c)]:: [.raw r (.cells cur 31 (0,0))]) LF (f:=160) (cs:= [.pt [.fmap (Bb kDig (KV eDig) G)] 0,.raw (.pointer (some ⟨b6,0,none⟩)),.raw (.pointer (some ⟨b7,0,none⟩))]) (.refl _) rfl rfl (.refl _) _ (dv G (ndG G out[k]) .ro b6 m b7 out _ ⟨met,_,_,hm,hv,rfl⟩ (by omega)) fun r L3 ⟨hr,out1,hC1,ho1⟩=>?_
  have ho1:=ho1 hA
  subst ho1
  refine wf ?_
  refine wf ?_
  have hpl:=(OT (out:=out) (l:=ndG G out[k])).length_le
  exact⟨(k+1,Kp out (ndG G out[k]),L3),⟨by dsimp only;omega,hI.step hlt,hC1⟩,by dsimp only;omega,⟨rfl,rfl,rfl,rfl⟩,.refl _⟩
 have hfin:=hI.fin (by omega)
 have hmx:(sortD out).length≤maxN∧(sortD out).length*32≤maxN:=by
  have:maxN=140737488355328:=rfl
  have h2:(sortD out).length=out.length:=Dn _
  omega
 refine wf ?_
 refine CV (xs:= [.tmp 30,.func 61]) R (.box b6 121 [.raw (.map (some m))]:: .map m (Bb kDig vBool met):: .box b7 24 [.raw (.slice o out.length c)]::LF) (f:=60) (cs:= []) (C4 _) rfl rfl Dw _ (SZ out _ R hv (by omega)) fun r L3 ⟨v2,e2,hv2⟩=>?_
 subst e2
 refine AE ?_
 refine EH Dw.symm ?_
 refine DT ?_
 refine CK (by kernel_rfl) ?_
 refine wo ?_
 refine AE ?_
 refine Gk (f:=eDig) 4 hv2 hmx Dw rfl ?_
 refine wf ?_
 refine HD ?_
 have e:sortD out=MN (ndG G) U.length (Dh [] l):=by
  refine Gy.ext (eb hI.nodup) (Oy (Fo .nil)) fun d=>?_
  rw[VI,hfin]
  exact(MJ hG.cl hlU (Al _)).symm
 rw[e]
 exact .refl _⟩
theorem IK (p:Pat):Gy (BL p):=by
 unfold BL
 split
 ·exact .nil
 ·exact Ra _ _ (Fo .nil)
theorem oO (s:List Sto) (d:Dig):Gy (ndS s d):=IK _
theorem Bx.grOk {s:List Sto} (v:Bx s):lk (gr s) (ids s):=by
 have h8:=v.close.1.1
 refine⟨XN s,by rw[HR];omega,fun x _ d hd=>?_,fun x=>?_⟩
 ·rw[v.ndG]at hd
  exact v.close.nd x d hd
 ·rw[v.ndG]
  have:=v.close.small (oO s x) (v.close.nd x)
  omega
theorem Bx.clG {s:List Sto} (v:Bx s) (l:List Dig):(Go.Proofs.clG (gr s) (ids s) l).1=(Dj s l).1∧(Dj s l).2=if(Go.Proofs.clG (gr s) (ids s) l).2=false then 7 else 0:=by
 have h1:P8 (gr s) l=Da (ids s) l:=by
  unfold P8 Da
  congr 1
  funext d
  exact XN s d
 unfold Go.Proofs.clG Dj
 rw[h1,v.ndG,HR]
 split<;>simp
instance aK (s:List Sto) (l:List Dig) (t u:CD) [hs:Ay (Bx s)] [hl:Ay (l.length≤400)]:C9 Tryz.prog 46 [.slice (s.map eSto) t,.slice (l.map eDig) u] (.tuple [.slice ((Dj s l).1.map eDig) .ro,.raw (.int .i64 (Dj s l).2)]):=⟨by
 have v:=hs.out
 have i1:Ay (Gw s):=⟨v.close.1⟩
 have i2:=fun t=>TE (gr s) (ids s) v.grOk l t hl.out
 refine Av Tryz.func46 Tryz.ntmps46 rfl (rs:= [.tmp 4,.tmp 5]) rfl rfl fun hb LF=>?_
 obtain⟨e1,e2⟩:=v.clG l
 refine wf ?_
 refine AO (fun h=>?_) (fun h=>?_)
 ·have h0:(clG (gr s) (ids s) l).2=false:=by simpa using h
  rw[if_pos h0]at e2
  have e3:(Dj s l).1= []:=by
   unfold Dj at e2 ⊢
   split
   ·rfl
   ·rename_i h3
    rw[if_neg h3]at e2
    simp at e2
  refine wf ?_
  refine HD ?_
  rw[e2,e3]
  exact .tuple2 (.ro _ _) (.refl _)
 ·have h0:(clG (gr s) (ids s) l).2=true:=by simpa using h
  rw[h0]at e2
  simp at e2
  refine wf ?_
  refine HD ?_
  rw[e2,←e1]
  exact .refl _⟩
def cm (l:List Dig):List (Dig × Bool):=l.foldl (fun m x=>Dd x true m) []
def cM (s l:List Sto):List (Dig × List (Dig × Bool)):=l.foldl (fun m x=>Dd x.id (cm (Py s x.id)) m) []
def zT (s:List Sto):List PV:= [.slice (s.map eSto) .ro]++ [.fmap (Bb kDig (zD kDig vBool) (cM s s))]
@[simp] theorem xT (s:List Sto):(zT s).length=2:=rfl
instance zL {a b c:PV}:Eg [a,b] 0 [c] [c,b]:=DH (a:= [a]) (b:= [b]) (new:= [c]) rfl
instance zK {a b c:PV}:Eg [a,b] 1 [c] [a,c]:=Af (a:= [a]) (n:=1) (off:=0) rfl (Kd (a:= [b]) (new:= [c]) rfl)
instance {b:Option Nat}:E1 (.raw (.map b)) [.raw (.map b)]:=⟨.one (Di.out)⟩
attribute [local irreducible] NP
end Go.Proofs
namespace Go.Proofs
open Go Go.Q
attribute [local irreducible] EY AU BH Fk
def oc (l:List Dig) (d:Dig):Int:=if d∈l then(l.idxOf d:Int)else -1
theorem ZZ {l:List Dig} {d:Dig} {k:Nat} (hk:k < l.length) (hn:d∉l.take k) (e:d=l[k]):l.idxOf d=k:=by
 induction l generalizing k with
 |nil=>simp at hk
 |cons x l ih=>
  cases k with
  |zero=>simp at e;subst e;simp
  |succ k=>
   simp only[P3,AG,not_or]at hn
   have:=ih (k:=k) (by simpa using hk) hn.2 (by simpa using e)
   rw[List.idxOf_cons,beq_eq_false_iff_ne.2 (Ne.symm hn.1),cond_false,this]
instance vm (l:List Dig) (d:Dig) (t:CD):C9 Tryz.prog 77 [.slice (l.map eDig) t,.agg (eDig d)] (.raw (.int .i64 (oc l d))):=⟨by
 refine Av Tryz.func77 Tryz.ntmps77 rfl (rs:= [.tmp 4]) rfl rfl fun hb LF=>?_
 have hlen:l.length≤140737488355328:=(hb (.slice (l.map eDig) t) (by simp)).slice_map
 refine wf ?_
 refine AZ (σ:=Nat) (fun k=>k≤l.length∧d∉l.take k) (fun k=>l.length - k) (fun k=> [(0,.slice (l.map eDig) t),(3,.pt (eDig d) 0),(7,.raw (.int .i64 l.length)),(8,.raw (.int .i64 k))]) (fun _=>LF) 0 ⟨by simp,by simp⟩ ⟨rfl,rfl,rfl,rfl⟩ (.refl _) ?_
 rintro k ⟨hk,hn⟩
 refine wf ?_
 refine A6 (fun hc=>?_) (fun hc=>?_)
 ·have hlt:k < l.length:=by omega
  refine wf ?_
  refine A6 (fun h=>?_) (fun h=>?_)
  ·refine wf ?_
   refine Aw (.of_eq ?_)
   rw[oc,if_pos (h ▸ AH hlt),ZZ hlt hn h]
  ·refine wf ?_
   refine⟨k+1,⟨by omega,?_⟩,by dsimp only;omega,⟨rfl,rfl,rfl,rfl⟩,.refl _⟩
   rw[A7 hlt,Ah,Aj]
   rintro(h'|h')
   ·exact hn h'
   ·exact h h'
 ·refine wf ?_
  refine Aw (.of_eq ?_)
  rw[AB (by omega)]at hn
  rw[oc,if_neg hn]⟩
instance py (l:List Dig) (d:Dig) (t:CD):C9 Tryz.prog 26 [.slice (l.map eDig) t,.agg (eDig d)] (.raw (.bool (decide (d∈l)))):=⟨by
 refine Av Tryz.func26 Tryz.ntmps26 rfl (rs:= [.tmp 4]) rfl rfl fun hb LF=>?_
 refine wf ?_
 refine Aw (.of_eq ?_)
 by_cases h:d∈l<;>simp[oc,h]⟩
instance vp (l m:List Dig) (t u:CD):C9 Tryz.prog 24 [.slice (l.map eDig) t,.slice (m.map eDig) u] (.raw (.bool (decide (l=m)))):=⟨by
 refine Av Tryz.func24 Tryz.ntmps24 rfl (rs:= [.tmp 4]) rfl rfl fun hb LF=>?_
 have hlen:l.length≤140737488355328:=(hb (.slice (l.map eDig) t) (by simp)).slice_map
 refine wf ?_
 refine AR (fun h=>?_) (fun h=>?_)
 ·refine wf ?_
  refine Aw (.of_eq ?_)
  have: ¬l=m:=fun e=>by subst e;exact h rfl
  simp[this]
 have hlm:l.length=m.length:=by omega
 refine wf ?_
 refine AZ (σ:=Nat) (fun k=>k≤l.length∧l.take k=m.take k) (fun k=>l.length - k) (fun k=> [(0,.slice (l.map eDig) t),(1,.slice (m.map eDig) u),(12,.raw (.int .i64 l.length)),(13,.raw (.int .i64 k))]) (fun _=>LF) 0 ⟨by simp,by simp⟩ ⟨rfl,rfl,rfl,rfl⟩ (.refl _) ?_
 rintro k ⟨hk,he⟩
 refine wf ?_
 refine A6 (fun hc=>?_) (fun hc=>?_)
 ·have hlt:k < l.length:=by omega
  have hltm:k < m.length:=by omega
  refine wf ?_
  refine AR (fun h=>?_) (fun h=>?_)
  ·refine wf ?_
   refine Aw (.of_eq ?_)
   have: ¬l=m:=fun e=>by subst e;exact h rfl
   simp[this]
  ·refine wf ?_
   refine⟨k+1,⟨by omega,?_⟩,by dsimp only;omega,⟨rfl,rfl,rfl,rfl⟩,.refl _⟩
   rw[A7 hlt,A7 hltm,he,h]
 ·refine wf ?_
  refine Aw (.of_eq ?_)
  rw[AB (by omega),AB (by omega)]at he
  simp[he]⟩
end Go.Proofs
namespace Go.Proofs
open Go Go.Q
attribute [local irreducible] EY AU BH Fk
def Fh {α:Type} (p:α→Bool) (l:List α):Int:=if l.any p=true then(l.findIdx p:Int)else -1
theorem JZ {α:Type} {p:α→Bool} {l:List α} {k:Nat} (hk:k < l.length) (hn:(l.take k).any p=false) (e:p l[k]=true):l.findIdx p=k:=by
 refine qD hk |>.2 ⟨e,fun j hj=>?_⟩
 have:=Bc.1 hn (l[j]) (DD.2 ⟨j,by omega,rfl⟩)
 simpa using this
theorem fp (F:Nat) (cs:List PV) (p:Dig→Bool) [hF:B1 Tryz.prog F] [hp: ∀ d,C9 Tryz.prog F (.agg (eDig d)::cs) (.raw (.bool (p d)))] (l:List Dig) (t:CD):
  C9 Tryz.prog 109 [.slice (l.map eDig) t,.clo F cs] (.raw (.int .i64 (Fh p l))):=⟨by
 refine Av Tryz.func109 Tryz.ntmps109 rfl (rs:= [.tmp 4]) rfl rfl fun hb LF=>?_
 have hlen:l.length≤140737488355328:=(hb (.slice (l.map eDig) t) (by simp)).slice_map
 refine wf ?_
 refine AZ (σ:=Nat) (fun k=>k≤l.length∧(l.take k).any p=false) (fun k=>l.length - k) (fun k=> [(0,.slice (l.map eDig) t),(1,.clo F cs),(7,.raw (.int .i64 l.length)),(8,.raw (.int .i64 k))]) (fun _=>LF) 0 ⟨by simp,by simp⟩ ⟨rfl,rfl,rfl,rfl⟩ (.refl _) ?_
 rintro k ⟨hk,hn⟩
 refine wf ?_
 refine A6 (fun hc=>?_) (fun hc=>?_)
 ·have hlt:k < l.length:=by omega
  refine wf ?_
  refine AO (fun h=>?_) (fun h=>?_)
  ·refine wf ?_
   refine Aw (.of_eq ?_)
   have e:l.any p=true:=Bn.2 ⟨l[k],AH hlt,h⟩
   rw[Fh,if_pos e,JZ hlt hn h]
  ·refine wf ?_
   refine⟨k+1,⟨by omega,?_⟩,by dsimp only;omega,⟨rfl,rfl,rfl,rfl⟩,.refl _⟩
   rw[A7 hlt,Ef,hn]
   simp[h]
 ·refine wf ?_
  refine Aw (.of_eq ?_)
  rw[AB (by omega)]at hn
  rw[Fh,if_neg (by simp[hn])]⟩
theorem KJ (F:Nat) (cs:List PV) (p:Dig→Bool) [hF:B1 Tryz.prog F] [hp: ∀ d,C9 Tryz.prog F (.agg (eDig d)::cs) (.raw (.bool (p d)))] (l:List Dig) (t:CD):
  C9 Tryz.prog 47 [.slice (l.map eDig) t,.clo F cs] (.raw (.bool (l.any p))):=⟨by
 have i1: ∀ t,C9 Tryz.prog 109 [.slice (l.map eDig) t,.clo F cs] (.raw (.int .i64 (Fh p l))):=fp F cs p l
 refine Av Tryz.func47 Tryz.ntmps47 rfl (rs:= [.tmp 4]) rfl rfl fun hb LF=>?_
 refine wf ?_
 refine Aw (.of_eq ?_)
 cases h:l.any p<;>simp[Fh,h]⟩
theorem U3 (F:Nat) (cs:List PV) (p:Sto→Bool) [hF:B1 Tryz.prog F] (l:List Sto) (t:CD) (hp: ∀ d∈l,C9 Tryz.prog F (.agg (eSto d)::cs) (.raw (.bool (p d)))):
  C9 Tryz.prog 51 [.slice (l.map eSto) t,.clo F cs] (.raw (.int .i64 (Fh p l))):=⟨by
 refine Av Tryz.func51 Tryz.ntmps51 rfl (rs:= [.tmp 4]) rfl rfl fun hb LF=>?_
 have hlen:l.length≤140737488355328:=(hb (.slice (l.map eSto) t) (by simp)).slice_map
 refine wf ?_
 refine AZ (σ:=Nat) (fun k=>k≤l.length∧(l.take k).any p=false) (fun k=>l.length - k) (fun k=> [(0,.slice (l.map eSto) t),(1,.clo F cs),(7,.raw (.int .i64 l.length)),(8,.raw (.int .i64 k))]) (fun _=>LF) 0 ⟨by simp,by simp⟩ ⟨rfl,rfl,rfl,rfl⟩ (.refl _) ?_
 rintro k ⟨hk,hn⟩
 refine wf ?_
 refine A6 (fun hc=>?_) (fun hc=>?_)
 ·have hlt:k < l.length:=by omega
  have hpk:=hp _ (AH hlt)
  refine wf ?_
  refine AO (fun h=>?_) (fun h=>?_)
  ·refine wf ?_
   refine Aw (.of_eq ?_)
   have e:l.any p=true:=Bn.2 ⟨l[k],AH hlt,h⟩
   rw[Fh,if_pos e,JZ hlt hn h]
  ·refine wf ?_
   refine⟨k+1,⟨by omega,?_⟩,by dsimp only;omega,⟨rfl,rfl,rfl,rfl⟩,.refl _⟩
   rw[A7 hlt,Ef,hn]
   simp[h]
 ·refine wf ?_
  refine Aw (.of_eq ?_)
  rw[AB (by omega)]at hn
  rw[Fh,if_neg (by simp[hn])]⟩
theorem Vn (F:Nat) (cs:List PV) (p:Sto→Bool) [hF:B1 Tryz.prog F] [hp: ∀ d,C9 Tryz.prog F (.agg (eSto d)::cs) (.raw (.bool (p d)))] (l:List Sto) (t:CD):
  C9 Tryz.prog 51 [.slice (l.map eSto) t,.clo F cs] (.raw (.int .i64 (Fh p l))):=U3 F cs p l t fun d _=>hp d
theorem Uq (F:Nat) (cs:List PV) (p:Sto→Bool) [hF:B1 Tryz.prog F] (l:List Sto) (t:CD) (hp: ∀ d∈l,C9 Tryz.prog F (.agg (eSto d)::cs) (.raw (.bool (p d)))):
  C9 Tryz.prog 97 [.slice (l.map eSto) t,.clo F cs] (.raw (.bool (l.any p))):=⟨by
 have i1: ∀ t,C9 Tryz.prog 51 [.slice (l.map eSto) t,.clo F cs] (.raw (.int .i64 (Fh p l))):=fun t=>U3 F cs p l t hp
 refine Av Tryz.func97 Tryz.ntmps97 rfl (rs:= [.tmp 4]) rfl rfl fun hb LF=>?_
 refine wf ?_
 refine Aw (.of_eq ?_)
 cases h:l.any p<;>simp[Fh,h]⟩
end Go.Proofs
