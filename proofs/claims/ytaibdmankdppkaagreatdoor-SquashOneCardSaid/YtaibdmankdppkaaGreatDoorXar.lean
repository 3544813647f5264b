/- Plain laws: splitting: the program's way and the reference's. -/
import Derived.Test.YtaibdmankdppkaaGreatDoorXaq
import Derived.Test.YtaibdmankdppkaaGreatDoorXah
import Derived.Test.YtaibdmankdppkaaGreatDoorXaj
import Derived.Test.YtaibdmankdppkaaGreatDoorXaf
import Derived.Maps.RangeRun
import Derived.Test.YtaibdmankdppkaaGreatDoorXap
import Derived.Test.YtaibdmankdppkaaGreatDoorXam
import Derived.Test.YtaibdmankdppkaaGreatDoorXan
set_option linter.unusedSimpArgs false
set_option linter.unusedVariables false
set_option maxHeartbeats 8000000
namespace Go.Proofs
open Go Go.Q Go.Sort
theorem Zn {cs:List Chg} {f:Chg→Nat} {l:List Nat} (hn:l.Nodup) (hl: ∀ c∈l,c < cs.length):(l.map fun c=>f (cs.getD c Chg.zero)).sum≤(cs.map f).sum:=by
 have a:=Py (f:=fun c=>f (cs.getD c Chg.zero)) (u:=List.range cs.length) hn fun c hc=>BW.2 (hl c hc)
 have e:(List.range cs.length).map (fun c=>f (cs.getD c Chg.zero))=cs.map f:=by
  refine DY (by simp) fun i h1 h2=>?_
  simp only[AR,FF]at h1
  simp[List.getD,h1]
 rw[e]at a
 exact a
theorem Nf {α:Type}: ∀ (l:List α),(l.map fun _=>1).sum=l.length
 | []=>rfl
 |a::l=>by rw[Aq,DD,Nf l,AN,LQ]
theorem FR {α:Type} [DecidableEq α] {l u:List α} (hn:l.Nodup) (h: ∀ x∈l,x∈u):l.length≤u.length:=by
 have:=Py (f:=fun _=>1) hn h
 rwa [Nf,Nf]at this
theorem V7 {x:Sto} {P:List (List Nat)} (hg:Fl x.patch=false) (hh:(x.patch.changes.map Il).sum≤2000) {is:List Dig} (hi:(Ax x.patch++is).length≤200) {l:List Nat} (hn:l.Nodup) (hl: ∀ c∈l,c < x.patch.changes.length) {m:Mta} (ha:m.author.length≤60) (hm:m.message.length≤60):E5 (Ia x P is l m)=false:=by
 obtain⟨f1,f2,f3,f4,f5⟩:=L5 hg
 have gr:Qz x.patch≤3000∧ ∀ c∈x.patch.changes,aH c=false:=by
  unfold Fl at hg
  simp only[CJ,A8,Bf]at hg
  exact⟨by omega,fun c hc=>by simpa using hg.1.1.1 c hc⟩
 have s1:=Zn (f:=GH) hn hl
 have s2:=Zn (f:=Il) hn hl
 have s3:=Zn (f:=fun _=>1) hn hl
 have q1:=VY (sortD (Ax x.patch++is))
 have q2:(sortD (Ax x.patch++is)).length=(Ax x.patch++is).length:=by unfold sortD;rw[DN]
 have comp: ∀ (g:Chg→Nat),(∀ f c,g (GP f c)=g c)→((l.map fun c=>GP (fS P x.patch.changes is is.length) (x.patch.changes.getD c Chg.zero)).map g)=l.map fun c=>g (x.patch.changes.getD c Chg.zero):=fun g h=>by
  rw[CK]
  exact C6 fun c _=>h _ _
 have c1:=comp GH fun f c=>(KN f c).2.1
 have c2:=comp Il fun f c=>(KN f c).2.2
 have len1:=Nf l
 have len2:=Nf x.patch.changes
 have tt:Qz x.patch=x.patch.author.length+x.patch.message.length+(x.patch.changes.map GH).sum:=rfl
 unfold E5 Ia
 dsimp only
 simp only[CJ,A8,Bf]
 refine⟨⟨⟨⟨fun c hc=>?_,?_⟩,?_⟩,?_⟩,?_⟩
 ·obtain⟨i,hi',rfl⟩:=AO.1 hc
  obtain⟨z1,z2,_⟩:=KN (fS P x.patch.changes is is.length) (x.patch.changes.getD i Chg.zero)
  have hlt:=hl i hi'
  have e:x.patch.changes.getD i Chg.zero=x.patch.changes[i]:=by simp[List.getD,hlt]
  have hmem:x.patch.changes[i]∈x.patch.changes:=AJ hlt
  have:=IU (f:=GH) hmem
  have:=gr.2 _ hmem
  rw[z1,z2,e]
  simp[this];omega
 ·unfold Qz
  dsimp only
  rw[c1];omega
 ·omega
 ·rw[AR];omega
 ·rw[c2];omega
structure KF (s:List Sto) (x:Sto) (t:List Sto) (is:List Dig):Prop where
 val:Bc t
 len:t.length≤s.length+is.length
 new: ∀ d∈is,d∈ids t
 others: ∀ d∈ids s,d≠x.id→d∈ids t
theorem KF.step {s:List Sto} {x:Sto} {t:List Sto} {is:List Dig} (a:KF s x t is) {p:Pat} (hb:E5 p=false) (hl:t.length < 200) (h:(FJ t p).2.2=0):
  KF s x (FJ t p).1 (is++ [(FJ t p).2.1])∧dV t ⟨(FJ t p).2.1,p⟩∧(FJ t p).1=KY t ⟨(FJ t p).2.1,p⟩:=by
 obtain⟨hf,e⟩:=a.val.rAdd_ok hb h
 rw[e]
 dsimp only
 refine⟨⟨a.val.put hf hl,?_,fun d hd=>?_,fun d hd hne=>HL.2 (.inr (a.others d hd hne))⟩,hf,rfl⟩
 ·have:=a.len
  rw[YK,AA,BA];omega
 ·rcases Ai.1 hd with hd|hd
  ·exact HL.2 (.inr (a.new d hd))
  ·exact HL.2 (.inl (Ag.1 hd))
theorem KF.ids {s:List Sto} {x:Sto} {t:List Sto} {is:List Dig} (a:KF s x t is) (hn:U4 s x is) {d:Dig} (hf:d∉Go.Proofs.ids t) (hz:d≠Dig.zero):U4 s x (is++ [d]):=by
 refine⟨fun e he=>?_,?_,fun e he hs=>?_⟩
 ·rcases Ai.1 he with he|he
  ·exact hn.nz e he
  ·rw[Ag.1 he];exact hz
 ·refine EU.2 ⟨hn.nodup,by simp,fun e he e' he' k=>?_⟩
  rw[Ag.1 he']at k
  exact hf (k ▸ a.new e he)
 ·rcases Ai.1 he with he|he
  ·exact hn.old e he hs
  ·rw[Ag.1 he]at hs ⊢
   exact DW fun k=>hf (a.others d hs k)
theorem kP (l:List Dig) (d:Dig):Kh (sortD (l++ [d]))=FU (Kh (sortD l)) d:=by
 refine(Fw _).1.ext (LY (Fw l).1) fun e=>?_
 rw[(Fw _).2,KM,(Fw l).2,Ai,Ag]
 exact Or.comm
structure Oh (s:List Sto) (x:Sto) (P:List (List Nat)) (o:List (List Nat × Mta)):Prop where
 great:Fl x.patch=false
 heavy:(x.patch.changes.map Il).sum≤2000
 set:s.length≤8
 parts:P.length≤8
 metas: ∀ e∈o,e.2.author.length≤60∧e.2.message.length≤60
theorem Oh.big {s:List Sto} {x:Sto} {P:List (List Nat)} {o:List (List Nat × Mta)} (z:Oh s x P o) (h:HR s x P) {is:List Dig} (hk:is.length < P.length) {e:List Nat × Mta} (he:e∈o) (hp:e.1=P[is.length]):E5 (Ia x P is e.1 e.2)=false:=by
 have n1:(Ax x.patch).length≤s.length:=by
  have:=FR (Ga x.patch).nodup (fun d hd=>h.val.close.2 x h.mem d hd)
  unfold Go.Proofs.ids at this
  rwa [AR]at this
 have:=z.set
 have:=z.parts
 refine V7 z.great z.heavy (by rw[AA];omega) ?_ ?_ (z.metas e he).1 (z.metas e he).2
 ·rw[hp]
  exact(h.parts.asc _ (AJ hk)).imp fun h=>Nat.ne_of_lt h
 ·rw[hp];exact h.parts.lt _ (AJ hk)
theorem HR.loop {s:List Sto} {x:Sto} {P:List (List Nat)} (h:HR s x P): ∀ (o:List (List Nat × Mta)) (is:List Dig) (t:List Sto),Oh s x P o→P.drop is.length=o.map (·.1)→KF s x t is→U4 s x is∨Dig.zero∈is→
  SB x P o t is=mH x o t is (Kh (sortD (Ax x.patch++is))) ((P.take is.length).flatten.map (Kp x.id P x.patch.changes is is.length)):=by
 intro o
 induction o with
 |nil=>intro is t _ _ _ _;rfl
 |cons e o ih=>
  intro is t z hP a hn
  have hk:is.length < P.length:=by
   have:=congrArg List.length hP
   rw[BB,AR,AN]at this;omega
  have hd:=CP hk
  rw[hd,Aq]at hP
  have he:P[is.length]=e.1:=(List.cons.inj hP).1
  have hrest:P.drop (is.length+1)=o.map (·.1):=(List.cons.inj hP).2
  unfold SB mH
  rcases hn with hn|hn
  ·obtain⟨p1,p2⟩:=h.part hn hk e.2
   rw[he]at p1 p2
   rw[p1]
   by_cases hz:(FJ t (Ia x P is e.1 e.2)).2.2=0
   ·rw[if_neg (by simp[hz]),if_neg (by simp[hz])]
    have hb:=z.big h hk AF he.symm
    have:=a.len
    have:=z.set
    have:=z.parts
    obtain⟨s1,s2,s3⟩:=a.step hb (by omega) hz
    have hlen:(is++ [(FJ t (Ia x P is e.1 e.2)).2.1]).length=is.length+1:=by simp
    have step:=ih (is++ [(FJ t (Ia x P is e.1 e.2)).2.1]) (FJ t (Ia x P is e.1 e.2)).1 ⟨z.great,z.heavy,z.set,z.parts,fun e he=>z.metas e (AI _ he)⟩ (by rw[hlen];exact hrest) s1 (by
     by_cases h0:(FJ t (Ia x P is e.1 e.2)).2.1=Dig.zero
     ·exact .inr (ED _ (by simp[h0]))
     ·exact .inl (a.ids hn s2.new h0))
    rw[step,hlen,p2,←kP,AV]
   ·rw[if_pos hz,if_pos hz]
  ·have hz:Dig.zero∈Kh (sortD (Ax x.patch++is)):=(Fw _).2 _ |>.2 (ED _ hn)
   obtain⟨q1,q2⟩:=eH (t:=t) (a:=e.2.author) (m:=e.2.message) (i:=e.2.time) (cs:=e.1.map fun c=>GP (fS P x.patch.changes is is.length) (x.patch.changes.getD c Chg.zero)) (cs':=(e.1.foldl (Pz x.id x.patch.changes) ((P.take is.length).flatten.map (Kp x.id P x.patch.changes is is.length),0,[])).2.2) hz
   have e1:FJ t (Ia x P is e.1 e.2)=FJ t (QN x (Kh (sortD (Ax x.patch++is))) ((P.take is.length).flatten.map (Kp x.id P x.patch.changes is is.length)) e.1 e.2):=q1
   rw[←e1]
   have q2:(FJ t (Ia x P is e.1 e.2)).2.2≠0:=q2
   rw[if_pos q2,if_pos q2]
def Pd (n:Nat) (D l:List Int) (i:Nat):Bool:=decide (l.getD i 0 < 0)||decide ((n:Int)≤l.getD i 0)||decide (l.getD i 0∈D++l.take i)||(decide (0 < i)&&decide (l.getD i 0≤l.getD (i - 1) 0))
def TK (n:Nat) (D l:List Int):Bool:=(List.range l.length).all fun i=>!Pd n D l i
def FO (n:Nat):List Int→List (List Int)→Bool
 |D,[]=>decide (D.length=n)
 |D,l::ps=>TK n D l&&decide (l≠ [])&&FO n (D++l) ps
def Qn (Q:List (List Int)) (c:Int):Int:=match Q.findIdx? fun l=>decide (c∈l)with
 |some k=>k
 |none=> -1
theorem Yc {n:Nat} {D l:List Int} (h:TK n D l=true):(∀ c∈l,0≤c∧c < n∧c∉D)∧l.Pairwise fun a b=>a < b:=by
 have st: ∀ i (hi:i < l.length),0≤l[i]∧l[i] < n∧l[i]∉D∧(0 < i→l.getD (i - 1) 0 < l[i]):=fun i hi=>by
  have:=BT.1 h i (BW.2 hi)
  unfold Pd at this
  rw[Cr,AW hi,Br]at this
  simp only[AG,CJ,J0,A8,Ai,not_or]at this
  obtain⟨⟨⟨a,b⟩,c,_⟩,d⟩:=this
  exact⟨by omega,by omega,c,fun h0=>by rcases d with d|d<;>omega⟩
 refine⟨fun c hc=>?_,?_⟩
 ·obtain⟨i,hi,rfl⟩:=Ad.1 hc
  exact⟨(st i hi).1,(st i hi).2.1,(st i hi).2.2.1⟩
 ·refine B7.2 fun i j hi hj hij=>?_
  obtain⟨k,rfl⟩: ∃ k,j=i+1+k:=⟨j - i - 1,by omega⟩
  induction k with
  |zero=>
   have:=(st (i+1) hj).2.2.2 (by omega)
   simpa [List.getD,show i < l.length by omega]using this
  |succ k ih=>
   have a:=ih (by omega) (by omega)
   have b:=(st (i+1+(k+1)) hj).2.2.2 (by omega)
   have e:l.getD (i+1+(k+1) - 1) 0=l[i+1+k]:=by simp[List.getD,show i+1+k < l.length by omega]
   rw[e]at b;omega
structure Rows (n:Nat) (D:List Int) (Q:List (List Int)):Prop where
 ne: ∀ l∈Q,l≠ []
 asc: ∀ l∈Q,l.Pairwise fun a b=>a < b
 lt: ∀ l∈Q,∀ c∈l,0≤c∧c < n∧c∉D
 apart:Q.Pairwise fun l m=> ∀ c∈l,c∉m
 len:(D++Q.flatten).length=n
theorem Mr {n:Nat}: ∀ {Q:List (List Int)} {D:List Int},FO n D Q=true→Rows n D Q
 | [],D,h=>⟨fun l hl=>absurd hl Ah,fun l hl=>absurd hl Ah,fun l hl=>absurd hl Ah,.nil,by
   unfold FO at h
   simpa using h⟩
 |l::Q,D,h=>by
  unfold FO at h
  simp only[BJ,AB]at h
  obtain⟨⟨h1,h2⟩,h3⟩:=h
  have ih:=Mr h3
  obtain⟨a,b⟩:=Yc h1
  refine⟨fun m hm=>?_,fun m hm=>?_,fun m hm=>?_,Bn.2 ⟨fun m hm c hc hcm=>?_,ih.apart⟩,?_⟩
  ·rcases AH.1 hm with rfl|hm
   ·exact h2
   ·exact ih.ne m hm
  ·rcases AH.1 hm with rfl|hm
   ·exact b
   ·exact ih.asc m hm
  ·rcases AH.1 hm with rfl|hm
   ·exact a
   ·intro c hc
    obtain⟨q1,q2,q3⟩:=ih.lt m hm c hc
    exact⟨q1,q2,fun k=>q3 (EI _ k)⟩
  ·exact(ih.lt m hm c hcm).2.2 (ED _ hc)
  ·have:=ih.len
   rw[AV]at this
   rw[Cf];exact this
theorem Kz {n:Nat} {Q:List (List Int)} (h:FO n [] Q=true):KG (Q.map fun l=>l.map Int.toNat) n:=by
 have r:=Mr h
 have inj: ∀ {l m:List Int},l∈Q→m∈Q→ ∀ c,c∈l.map Int.toNat→c∈m.map Int.toNat→(c:Int)∈l∧(c:Int)∈m:=fun {l m} hl hm c h1 h2=>by
  obtain⟨a,ha,rfl⟩:=AO.1 h1
  obtain⟨b,hb,e⟩:=AO.1 h2
  have:=r.lt l hl a ha
  have:=r.lt m hm b hb
  have:b=a:=by omega
  subst this
  have e:((b.toNat:Nat):Int)=b:=by omega
  rw[e]
  exact⟨ha,hb⟩
 have hnd:Q.flatten.Nodup:=List.pairwise_flatten.2 ⟨fun l hl=>(r.asc l hl).imp fun h=>Int.ne_of_lt h,r.apart.imp fun h x hx y hy (e:x=y)=>h x hx (e ▸ hy)⟩
 refine⟨fun l hl=>?_,fun l hl=>?_,fun l hl c hc=>?_,?_,fun c hc=>?_⟩
 ·obtain⟨m,hm,rfl⟩:=AO.1 hl
  intro e
  exact r.ne m hm (List.map_eq_nil_iff.1 e)
 ·obtain⟨m,hm,rfl⟩:=AO.1 hl
  refine Qq.2 ((r.asc m hm).imp_of_mem fun {a b} ha hb h=>?_)
  have:=r.lt m hm a ha
  have:=r.lt m hm b hb
  omega
 ·obtain⟨m,hm,rfl⟩:=AO.1 hl
  obtain⟨a,ha,rfl⟩:=AO.1 hc
  have:=r.lt m hm a ha
  omega
 ·refine Qq.2 (r.apart.imp_of_mem fun {l m} hl hm h c h1 h2=>?_)
  obtain⟨q1,q2⟩:=inj hl hm c h1 h2
  exact h _ q1 q2
 ·have hsub: ∀ a∈Q.flatten,a∈((List.range n).map fun i:Nat=>(i:Int)):=fun a ha=>by
   obtain⟨l,hl,hal⟩:=EA.1 ha
   have:=r.lt l hl a hal
   exact AO.2 ⟨a.toNat,BW.2 (by omega),by omega⟩
  have hlen:=r.len
  rw[B9]at hlen
  have:(c:Int)∈Q.flatten:=by
   refine DW fun k=>?_
   have h2: ∀ a∈((c:Int)::Q.flatten),a∈((List.range n).map fun i:Nat=>(i:Int)):=fun a ha=>by
    rcases AH.1 ha with rfl|ha
    ·exact AO.2 ⟨c,BW.2 hc,rfl⟩
    ·exact hsub a ha
   have:=Py (f:=fun _:Int=>1) (Bl.2 ⟨k,hnd⟩) h2
   simp only[Aq,DD,List.map_const',List.sum_replicate_nat,AR,FF]at this
   omega
  obtain⟨l,hl,hcl⟩:=EA.1 this
  exact⟨l.map Int.toNat,AO.2 ⟨l,hl,rfl⟩,AO.2 ⟨c,hcl,by omega⟩⟩
theorem SO {n:Nat} {Q:List (List Int)} (h:FO n [] Q=true) {c:Nat} (hc:c < n):Qn Q c=Jn (Q.map fun l=>l.map Int.toNat) c:=by
 have p:=Kz h
 have r:=Mr h
 obtain⟨hk,hm⟩:=p.mem hc
 have hk':Jn (Q.map fun l=>l.map Int.toNat) c < Q.length:=by simpa using hk
 rw[BQ]at hm
 obtain⟨a,ha,e⟩:=AO.1 hm
 have:=r.lt _ (AJ hk') a ha
 have e2:a=(c:Int):=by omega
 subst e2
 unfold Qn
 have:Q.findIdx? (fun l=>decide ((c:Int)∈l))=some (Jn (Q.map fun l=>l.map Int.toNat) c):=by
  rw[Ks]
  refine⟨hk',BK ha,fun j hj=>?_⟩
  rw[Hj,A8]
  intro hcj
  exact B7.1 r.apart j _ (by omega) hk' hj _ hcj ha
 rw[this]
end Go.Proofs
namespace Go.Q
open Go
end Go.Q
namespace Go.Proofs
open Go Go.Q
attribute [local irreducible] ER AQ H0 BG Fu
end Go.Proofs
namespace Go.Q
open Go
theorem Du.drew {w:World} {g:Gh} {L:List Res} (hi:Du w g L):Du w.drew g L∧Ee (Aj L) w g w.drew g:=
 ⟨⟨hi.sat,fun b z hz=>(hi.satM b z hz).congr rfl,fun r hr=>by have:=hi.res r hr;cases r<;>first|exact this|(rename_i t _ _;cases t<;>exact this),hi.nodup,hi.glob⟩,
  ⟨rfl,rfl,⟨rfl,Qp _⟩,Ak _,fun _ _ _=>rfl,.refl g,fun _ _ _=>⟨fun _=>rfl,rfl⟩⟩⟩
section
variable {P:Program} {N:Nat} {all:Array Oper} {K:Env→List Res→Prop} {fl:List Bool} {os:List Oper} {ρ:Env} {L:List Res} {Q:PPost} {c:Code} {d:Nat} {ty:TypeId} {pos:String} {af:Array Edge} {T KT ET:Nat}
theorem mN {x:Operand} {kvs:List (PV × PV)} (hx:ρ.ev x= .fmap kvs) [hT:OD P T KT ET]
  (k: ∀ b,AQ P N all K fl.tail os (CT ρ d (.raw (.pointer (some ⟨b,0,none⟩)))) (.iter b kvs []::L)) (hd:Nat.blt d N=true:=by rfl) (hf:fl.headD true=true:=by rfl):
  AQ P N all K fl (⟨some d,.range T x,ty,pos,af,none⟩::os) ρ L:=
 Dd rfl (PA hd) hf (fun a w g ha hi=>by
  have h1:=ha x (by simp[Op.operands])
  rw[hx]at h1
  have key: ∃ m es c,a.eval x= .map m∧(m=none→c=0)∧(∀ b,m=some b→w.heap[b]? =some (.map es c))∧U3 g m es c∧Entries g es kvs∧Gw es c:=by
   generalize a.eval x=v at h1
   cases h1 with
   |fmap hM hl hk hv=>obtain⟨hc,hs⟩:=hi.satM _ _ hM;exact⟨_,_,_,rfl,(fun e=>by cases e),(fun b e=>by cases e;exact hc),.inr ⟨_,rfl,hM⟩,⟨hl,hk,hv⟩,hs⟩
   |nilM=>exact⟨none,#[],0,rfl,fun _=>rfl,(fun b e=>by cases e),.inl ⟨rfl,rfl,rfl⟩,⟨rfl,by simp,by simp⟩,⟨by simp,by simp⟩⟩
  obtain⟨m,es,cl,e1,e0,e2,hR,hE,hS⟩:=key
  obtain⟨i1,s1⟩:=hi.allocO (.mapIter m cl #[] cl)
  have hr:(Instr.range T (a.eval x)).run P w= .ok (.pointer (some ⟨w.heap.size,0,none⟩)) (w.alloc (.mapIter m cl #[] cl)):=by
   rw[e1]
   cases m with
   |none=>rw[e0 rfl];exact run_range_nilMap w T KT ET hT.out
   |some b=>exact run_range_map w T KT ET b es cl hT.out (e2 b rfl)
  have hr':(execOp a.eval ⟨some d,.range T x,ty,pos,af,none⟩).run P w= .ok (.value (.pointer (some ⟨w.heap.size,0,none⟩))) (w.alloc (.mapIter m cl #[] cl)):=by
   simp only[execOp,hr,Sem.run_bind,Result.andThen_ok,Sem.run_pure]
  refine Oper.wq_of_run hr' ?_
  obtain⟨f1,f2⟩:=hi.fresh (b:=w.heap.size) (Ak _)
  refine⟨_,_,g,_,rfl,.raw _,⟨i1.sat,i1.satM,fun r hr=>?_,?_,i1.glob⟩,s1,?_,k _⟩
  ·rcases AH.1 hr with rfl|hr
   ·exact⟨m,es,cl,by show(w.heap.push _)[w.heap.size]? =_;simp,hR,hE,f1,f2,hS,by simp⟩
   ·exact i1.res r hr
  ·simp only[Aj,Aw,Res.block]
   exact Bl.2 ⟨fun h=>by have:=hi.lt h;omega,hi.nodup⟩
  ·intro b' hb' hlt
   simp only[Aj,Aw,Res.block]at hb'
   rcases AH.1 hb' with rfl|hb'
   ·omega
   ·exact hb')
theorem Vc {es:Array MapEntry} {i:Nat} (h:i < es.size):(es.toList.map (·.born)).getD i 0=es[i].born:=by simp[List.getD,h]
theorem Gw.inj {es:Array MapEntry} {c i j:Nat} (hS:Gw es c) (hi:i < es.size) (hj:j < es.size) (e:es[i].born=es[j].born):i=j:=by
 have hp:=B7.1 hS.nd
 have hi':i < (es.toList.map (·.born)).length:=by simpa using hi
 have hj':j < (es.toList.map (·.born)).length:=by simpa using hj
 have e':(es.toList.map (·.born))[i]=(es.toList.map (·.born))[j]:=by simpa using e
 rcases Qo i j with h|h|h
 ·exact absurd e' (hp i j hi' hj' h)
 ·exact h
 ·exact absurd e'.symm (hp j i hj' hi' h)
theorem rP {x:Operand} {b:Nat} {kvs:List (PV × PV)} {done:List Nat} {L':List Res} (hx:ρ.ev x= .raw (.pointer (some ⟨b,0,none⟩))) (hp:L.Perm (.iter b kvs done::L'))
  (k1:(∀ i,i < kvs.length→i∈done)→AQ P N all K fl.tail os (CT ρ d (.tuple [.raw (.bool false)])) (.iter b kvs done::L'))
  (k2: ∀ i (h:i < kvs.length),i∉done→AQ P N all K fl.tail os (CT ρ d (.tuple [.raw (.bool true),kvs[i].1,kvs[i].2])) (.iter b kvs (done++ [i])::L')) (hd:Nat.blt d N=true:=by rfl) (hf:fl.headD true=true:=by rfl):
  AQ P N all K fl (⟨some d,.next x false,ty,pos,af,none⟩::os) ρ L:=
 Dd rfl (PA hd) hf (Fu.perm hp fun a w g ha hi=>by
  have h1:=Ca ha (x:=x) (by simp[Op.operands]) hx
  obtain⟨m,es,cl,hb,hR,hE,hH,hM,hS,hD⟩:=hi.res _ AF
  have hlen:=hE.len
  rcases hR with ⟨rfl,rfl,rfl⟩|⟨bm,rfl,hbm⟩
  ·have hr:(execOp a.eval ⟨some d,.next x false,ty,pos,af,none⟩).run P w= .ok (.value (.tuple #[.bool false])) w:=by
    simp only[execOp,h1,Instr.next,getObj,Sem.run_bind,Sem.run,hb,Result.andThen]
    rfl
   refine Oper.wq_of_run hr ?_
   exact⟨_,_,g,_,rfl,EB.tuple (.cons (.raw _) (.nil g)),hi,.refl _ _ _,.refl _ _,k1 fun i hi'=>absurd hi' (by simp at hlen;omega)⟩
  ·obtain⟨hc,_⟩:=hi.satM _ _ hbm
   rcases run_next_at (P:=P) w ty b bm cl cl _ es cl hb hc hS.lt (Ak _)with ⟨h0,hr⟩|⟨e,he,w1,hw,hr⟩
   ·have hr':(execOp a.eval ⟨some d,.next x false,ty,pos,af,none⟩).run P w= .ok (.value (.tuple #[.bool false])) w:=by
     simp only[execOp,h1,hr,Sem.run_bind,Result.andThen_ok,Sem.run_pure]
    refine Oper.wq_of_run hr' ?_
    refine⟨_,_,g,_,rfl,EB.tuple (.cons (.raw _) (.nil g)),hi,.refl _ _ _,.refl _ _,k1 fun i hi'=>?_⟩
    have hi2:i < es.size:=by omega
    have hs:=all_seen es _ h0 es[i] (by simp)
    have hm:es[i].born∈done.map fun i=>(es.toList.map (·.born)).getD i 0:=by simpa using hs
    obtain⟨j,hj,e⟩:=AO.1 hm
    rw[Vc (hD j hj)]at e
    rw[←hS.inj (hD j hj) hi2 e];exact hj
   ·obtain⟨hm,hns⟩:=mem_left he
    obtain⟨i,hi1,rfl⟩:=Ad.1 hm
    have hi2:i < es.size:=by simpa using hi1
    have hi3:i < kvs.length:=by omega
    rw[XV]at hns hr
    have hnd:i∉done:=fun hid=>by
     have:es[i].born∈done.map fun i=>(es.toList.map (·.born)).getD i 0:=AO.2 ⟨i,hid,Vc hi2⟩
     have h2:((done.map fun i=>(es.toList.map (·.born)).getD i 0).toArray).contains es[i].born=true:=by simpa using this
     rw[hns]at h2;cases h2
    have hr':(execOp a.eval ⟨some d,.next x false,ty,pos,af,none⟩).run P w= .ok (.value (.tuple #[.bool true,es[i].key,es[i].val])) (Go.ChangeMaps.setBlock w1 b (.mapIter (some bm) cl (((done.map fun i=>(es.toList.map (·.born)).getD i 0).toArray).push es[i].born) cl)):=by
     simp only[execOp,h1,hr,Sem.run_bind,Result.andThen_ok,Sem.run_pure]
    refine Oper.wq_of_run hr' ?_
    have hi1:Du w1 g (.iter b kvs done::L')∧Ee (Aj (.iter b kvs done::L')) w g w1 g:=by
     rcases hw with rfl|rfl
     ·exact⟨hi,.refl _ _ _⟩
     ·exact hi.drew
    obtain⟨hi1,hs1⟩:=hi1
    have hndp:=hi1.nodup
    simp only[Aj,Aw,Res.block]at hndp
    have hlt:b < w1.heap.size:=hi1.lt (by simp[Aj,Res.block])
    have i2:=(hi1.sub (EO _ _)).put (.mapIter (some bm) cl (((done.map fun i=>(es.toList.map (·.born)).getD i 0).toArray).push es[i].born) cl) hH hM (Bl.1 hndp).1
    refine⟨_,.tuple [.raw (.bool true),kvs[i].1,kvs[i].2],g,.iter b kvs (done++ [i])::L',rfl,EB.tuple (.cons (.raw _) (.cons (hE.key i hi2 hi3) (.cons (hE.val i hi2 hi3) (.nil g)))),⟨i2.sat,i2.satM,fun r hr=>?_,hi.nodup,hi.glob⟩,hs1.trans (.refl _ _) (.put _ (by simp[Aj,Res.block])),fun b' hb' _=>hb',k2 i hi3 hnd⟩
    rcases AH.1 hr with rfl|hr
    ·refine⟨some bm,es,cl,?_,.inr ⟨bm,rfl,hbm⟩,hE,hH,hM,hS,fun j hj=>?_⟩
     ·rw[show Go.ChangeMaps.setBlock w1 b _=w1.putObj b _ from rfl,World.putObj_heap_same hlt]
      congr 2
      simp[hi2]
     ·rcases Ai.1 hj with hj|hj
      ·exact hD j hj
      ·rw[Ag.1 hj];exact hi2
    ·exact i2.res r hr)
theorem mX {x:Operand} {b i:Nat} {kvs:List (PV × PV)} {done:List Nat} (hx:ρ.ev x= .raw (.pointer (some ⟨b,0,none⟩))) (hm:Res.iter b kvs (done++ [i])∈L) (h:i < kvs.length)
  (k:AQ P N all K fl.tail os (CT ρ d (.tuple [kvs[i].1,kvs[i].2])) L) (hd:Nat.blt d N=true:=by rfl):AQ P N all K fl (⟨some d,.entry x,ty,pos,af,none⟩::os) ρ L:=
 Bh hd (BC fun a w g ha hi=>by
  have h1:=Ca ha (x:=x) (by simp[Op.operands]) hx
  obtain⟨m,es,cl,hb,hR,hE,hH,hM,hS,hD⟩:=hi.res _ hm
  have hi2:i < es.size:=hD i (by simp)
  rcases hR with ⟨rfl,rfl,rfl⟩|⟨bm,rfl,hbm⟩
  ·simp at hi2
  ·obtain⟨hc,_⟩:=hi.satM _ _ hbm
   have e1:((done++ [i]).map fun i=>(es.toList.map (·.born)).getD i 0).toArray=((done.map fun i=>(es.toList.map (·.born)).getD i 0).toArray).push es[i].born:=by simp[hi2]
   rw[e1]at hb
   have hr:=run_entry_at (P:=P) w b bm cl _ es cl es[i] hb hc (by simp) hS.nd
   refine⟨_,?_,EB.tuple (.cons (hE.key i hi2 h) (.cons (hE.val i hi2 h) (.nil g)))⟩
   simp only[execOp,h1,hr,Sem.run_bind,Result.andThen_ok,Sem.run_pure]) k
end
theorem MB {κ:Type} [DecidableEq κ] {k:κ}: ∀ {l:List κ},Hy k l=none→Hy k (l++ [k])=some l.length
 | [],_=>by simp[Hy]
 |a::l,h=>by
  simp only[Hy]at h
  by_cases e:k=a
  ·simp[e]at h
  ·simp only[e,if_false,U5]at h
   simp[Hy,e,MB h]
theorem RL {κ α:Type} [DecidableEq κ] (k:κ) (x y:α): ∀ l:List (κ × α),DJ k x (DJ k y l)=DJ k x l
 | []=>by simp[DJ]
 |(a,z)::l=>by
  by_cases e:k=a
  ·subst e;simp[DJ]
  ·simp[DJ,e,RL k x y l]
structure bM {κ α:Type} [DecidableEq κ] (es:Array MapEntry) (cl:Nat) (l:List (κ × α)) (k0:κ) (i:Nat) (n:Int):Prop where
 st:Gw es cl
 idx:Hy k0 (l.map (·.1))=some i
 len:es.size=l.length
 born: ∀ h:i < es.size,(es[i].born:Int)=n
def KB (es:Array MapEntry) (kvs:List (PV × PV)):Res:= .know (es.toList.map (·.key)++es.toList.map (·.val)) (kvs.map (·.1)++kvs.map (·.2))
theorem Entries.know {g:Gh} {es:Array MapEntry} {kvs:List (PV × PV)} (h:Entries g es kvs):EB g (es.toList.map (·.key)++es.toList.map (·.val)) (kvs.map (·.1)++kvs.map (·.2)):=by
 have hl:=h.len
 refine EB.append ⟨by simp[hl],fun i h1 h2=>?_⟩ ⟨by simp[hl],fun i h1 h2=>?_⟩
 ·simpa using h.key i (by simpa using h1) (by simpa using h2)
 ·simpa using h.val i (by simpa using h1) (by simpa using h2)
theorem Entries.of_know {g:Gh} {es:Array MapEntry} {kvs:List (PV × PV)} (hl:es.size=kvs.length) (h:EB g (es.toList.map (·.key)++es.toList.map (·.val)) (kvs.map (·.1)++kvs.map (·.2))):Entries g es kvs:=by
 refine⟨hl,fun i h1 h2=>?_,fun i h1 h2=>?_⟩
 ·have:=h.at_ i (by simp;omega) (by simp;omega)
  rw[BN (by simpa using h1),BN (by simpa using h2)]at this
  simpa using this
 ·have:=h.at_ (es.size+i) (by simp;omega) (by simp;omega)
  rw[Bt (by simp),Bt (by simp;omega)]at this
  simpa [hl]using this
section
variable {P:Program} {N:Nat} {all:Array Oper} {K:Env→List Res→Prop} {fl:List Bool} {os:List Oper} {ρ:Env} {L:List Res} {d:Nat} {ty:TypeId} {pos:String} {af:Array Edge}
variable {κ α:Type} [DecidableEq κ] {ek:κ→PV} {ev:α→PV} {T KT ET:Nat}
theorem Sh [hT:OD P T KT ET] [hK:SG P KT ek] {a0:α} [hz:ZV P ET ev a0] {x y:Operand} {b:Nat} {l:List (κ × α)} {k0:κ} {L':List Res} (hx:ρ.ev x= .raw (.map (some b))) (hp:L.Perm (.map b (Bb ek ev l)::L')) (hk:Le (ρ.ev y) (ek k0))
  (k: ∀ es cl i n,bM es cl (DJ k0 ((CU k0 l).getD a0) l) k0 i n→AQ P N all K fl.tail os (CT ρ d (.tuple [ev ((CU k0 l).getD a0),.raw (.int .i64 n)])) (.raw b (.map es cl)::KB es (Bb ek ev (DJ k0 ((CU k0 l).getD a0) l))::L')) (hd:Nat.blt d N=true:=by rfl) (hfl:fl.headD true=true:=by rfl):
  AQ P N all K fl (⟨some d,.mapEntry T x y,ty,pos,af,none⟩::os) ρ L:=
 Dd rfl (PA hd) hfl (Fu.perm hp fun a w g ha hi=>by
  have h1:=Ca ha (x:=x) (by simp[Op.operands]) hx
  have h2:=hk g _ (ha y (by simp[Op.operands]))
  obtain⟨es,cl,hb,hE,hH,hM,hS⟩:=hi.res _ (AF)
  have hl:es.size=l.length:=by simpa [Bb]using hE.len
  have hf:=hK.out.find g (a.eval y) k0 es.toList (l.map (·.1)) w h2 (by simpa using hl) (fun i h h'=>by
   have:=hE.key i (by simpa using h) (by simpa [Bb]using h')
   simpa [Bb]using this)
  have hlt:b < w.heap.size:=(BH.1 hb).1
  have hnd:=hi.nodup
  simp only[Aj,Aw,Res.block]at hnd
  have hrest:Du w g L':=hi.sub (EO _ _)
  have fin: ∀ (es':Array MapEntry) (cl' i:Nat) (n:Int) (u:Value),Entries g es' (Bb ek ev (DJ k0 ((CU k0 l).getD a0) l))→bM es' cl' (DJ k0 ((CU k0 l).getD a0) l) k0 i n→VR g u (ev ((CU k0 l).getD a0))→(Instr.mapEntry T (a.eval x) (a.eval y)).run P w= .ok (.tuple #[u,goInt n]) (w.putObj b (.map es' cl'))→
    Oper.wq P ⟨some d,.mapEntry T x y,ty,pos,af,none⟩ a w (fun a' w'=> ∃ v x g' L'',a'=a.put (some d) v∧VR g' v x∧Du w' g' L''∧Ee (Aj (.map b (Bb ek ev l)::L')) w g w' g'∧De w (.map b (Bb ek ev l)::L') L''∧AQ P N all K fl.tail os (CT ρ d x) L''):=fun es' cl' i n u hE' hO hu hr=>by
   have hr':(execOp a.eval ⟨some d,.mapEntry T x y,ty,pos,af,none⟩).run P w= .ok (.value (.tuple #[u,goInt n])) (w.putObj b (.map es' cl')):=by
    simp only[execOp,hr,Sem.run_bind,Result.andThen_ok,Sem.run_pure]
   refine Oper.wq_of_run hr' ?_
   have i2:=hrest.put (.map es' cl') hH hM (Bl.1 hnd).1
   refine⟨_,.tuple [ev ((CU k0 l).getD a0),.raw (.int .i64 n)],g,.raw b (.map es' cl')::KB es' (Bb ek ev (DJ k0 ((CU k0 l).getD a0) l))::L',rfl,EB.tuple (.cons hu (.cons (.raw _) (.nil g))),⟨i2.sat,i2.satM,fun r hr=>?_,?_,hi.glob⟩,.put _ (by simp[Aj,Res.block]),fun b' hb' _=>?_,k es' cl' i n hO⟩
   ·rcases AH.1 hr with rfl|hr
    ·exact⟨World.putObj_heap_same hlt,hH,hM⟩
    ·rcases AH.1 hr with rfl|hr
     ·exact hE'.know
     ·exact i2.res r hr
   ·simpa only[Aj,Aw,Res.block,KB]using hnd
   ·simpa only[Aj,Aw,Res.block,KB]using hb'
  cases hi':Hy k0 (l.map (·.1))with
  |none=>
   rw[hi']at hf
   obtain⟨i0,z,z1,z2,z3⟩:=hz.out
   have e0:(CU k0 l).getD a0=a0:=by rw[Lz k0 hi'];rfl
   rw[e0]at fin
   rw[Gq k0 a0 hi']at fin
   refine fin (es.push { key:=a.eval y,val:=z,born:=cl }) (cl+1) l.length cl z ?_ ⟨hS.push rfl,?_,by simp[hl],fun h=>?_⟩ (z3 g) ?_
   ·rw[Bb,An]
    refine⟨by simp[hl],fun i j1 j2=>?_,fun i j1 j2=>?_⟩
    ·by_cases hi2:i < es.size
     ·rw[MQ hi2,BN (by simp;omega)]
      exact hE.key i hi2 (by simp[Bb];omega)
     ·have e:i=es.size:=by simp at j1;omega
      subst e
      rw[Bt (by simp[hl])]
      rw[MR];simpa [hl]using h2
    ·by_cases hi2:i < es.size
     ·rw[MQ hi2,BN (by simp;omega)]
      exact hE.val i hi2 (by simp[Bb];omega)
     ·have e:i=es.size:=by simp at j1;omega
      subst e
      rw[Bt (by simp[hl])]
      rw[MR];simpa [hl]using z3 g
   ·rw[An]
    have:=MB hi'
    simpa using this
   ·simp[←hl]
   ·unfold Instr.mapEntry
    simp only[Sem.run_bind,run_underlying hT.out,Result.andThen_ok,h1,MapKept.run_getObj_map hb,hK.out.check false g _ k0 w h2,hf,SI,zeroValue,typeInfo,run_program,z1,z2,Sem.run_pure,MapKept.run_setObj_map _ hb]
    rfl
  |some i=>
   rw[hi']at hf
   obtain⟨y0,e1,e2,e3⟩:=Hx k0 ((CU k0 l).getD a0) hi'
   have hli:i < l.length:=(Bu.1 e1).1
   have hli':i < es.size:=by omega
   have hy0:l[i]=(k0,y0):=(Bu.1 e1).2
   have e0:(CU k0 l).getD a0=y0:=by rw[e3];rfl
   rw[e0]at e2 fin
   have e4:l.set i (k0,y0)=l:=by rw[←hy0];exact List.set_getElem_self hli
   rw[e4]at e2
   rw[e2]at fin
   have hkey:VR g es[i].key (ek k0):=by
    have:=hE.key i hli' (by simp[Bb];exact hli)
    simpa [Bb,hy0]using this
   have hval:VR g es[i].val (ev y0):=by
    have:=hE.val i hli' (by simp[Bb];exact hli)
    simpa [Bb,hy0]using this
   have hsame:=hK.out.same g _ _ k0 hkey h2
   refine fin (es.modify i fun e=>{ e with key:=a.eval y }) cl i es[i].born es[i].val ?_ ⟨hS.modify fun _=>rfl,hi',by simpa using hl,fun h=>by simp[Eo]⟩ hval ?_
   ·refine⟨by simp[Bb,hl],fun j j1 j2=>?_,fun j j1 j2=>?_⟩
    ·simp only[H5]at j1
     rw[Eo (by simpa using j1)]
     by_cases hj:i=j
     ·subst hj
      simp[Bb,hy0];exact h2
     ·simp only[hj,if_false]
      exact hE.key j j1 j2
    ·simp only[H5]at j1
     rw[Eo (by simpa using j1)]
     by_cases hj:i=j
     ·subst hj
      simp[Bb,hy0];exact hval
     ·simp only[hj,if_false]
      exact hE.val j j1 j2
   ·have hf2:(Instr.findKey KT (a.eval y) es.toList).run P w= .ok (some (i,es[i].val)) w:=by rw[hf];simp[hli']
    have hst:(Instr.keyThatStays es[i].key (a.eval y)).run P w= .ok (a.eval y) w:=by unfold Instr.keyThatStays;rw[if_pos hsame];rfl
    unfold Instr.mapEntry
    simp only[Sem.run_bind,run_underlying hT.out,Result.andThen_ok,h1,MapKept.run_getObj_map hb,hK.out.check false g _ k0 w h2,hf2,CQ hli',Gx,Br,hst,MapKept.run_setObj_map _ hb]
    rfl)
theorem Q6 {es:Array MapEntry} {cl i:Nat} {n:Int} {x y z:Operand} {b:Nat} {l:List (κ × α)} {k0:κ} {x0:α} {L':List Res} (hO:bM es cl l k0 i n) (hx:ρ.ev x= .raw (.map (some b))) (hy:ρ.ev y= .raw (.int .i64 n)) (hz:Le (ρ.ev z) (ev x0)) (hp:L.Perm (.raw b (.map es cl)::KB es (Bb ek ev l)::L'))
  (k:AQ P N all K fl.tail os ρ (.map b (Bb ek ev (DJ k0 x0 l))::L')) (hfl:fl.headD true=true:=by rfl):AQ P N all K fl (⟨none,.entryStore T x y z,ty,pos,af,none⟩::os) ρ L:=
 Dd rfl (fun _ e=>by cases e) hfl (Fu.perm hp fun a w g ha hi=>by
  have h1:=Ca ha (x:=x) (by simp[Op.operands]) hx
  have h2:=Ca ha (x:=y) (by simp[Op.operands]) hy
  have h3:=hz g _ (ha z (by simp[Op.operands]))
  obtain⟨hb,hH,hM⟩:=hi.res _ (AF)
  have hkn:=hi.res _ (AI _ AF)
  have hE:Entries g es (Bb ek ev l):= .of_know (by simpa [Bb]using hO.len) hkn
  obtain⟨y0,e1,e2,_⟩:=Hx k0 x0 hO.idx
  have hli:i < l.length:=(Bu.1 e1).1
  have hli':i < es.size:=by have:=hO.len;omega
  have hy0:l[i]=(k0,y0):=(Bu.1 e1).2
  have hlt:b < w.heap.size:=(BH.1 hb).1
  have hbn:=hO.born hli'
  have hnd:=hi.nodup
  simp only[Aj,Aw,Res.block,KB]at hnd
  have hrest:Du w g L':=hi.sub ((EO _ _).trans (EO _ _))
  have hfi:es.findIdx? (fun e=>(e.born:Int)==n)=some i:=by
   rw[Array.findIdx?_eq_some_iff_getElem]
   refine⟨hli',by simpa using hbn,fun j hj=>?_⟩
   have hj':j < es.size:=by omega
   intro h
   have:(es[j].born:Int)=n:=by simpa using h
   have:=hO.st.inj hj' hli' (by omega)
   omega
  have hr:(Instr.entryStore T (a.eval x) (a.eval y) (a.eval z)).run P w= .ok () (w.putObj b (.map (es.modify i fun e=>{ e with val:=a.eval z }) cl)):=by
   unfold Instr.entryStore
   simp only[Sem.run_bind,h1,h2,MapKept.run_getObj_map hb,asInt,asIntOf,Sem.run_pure,Result.andThen_ok,hfi,MapKept.run_setObj_map _ hb]
   rfl
  have hr':(execOp a.eval ⟨none,.entryStore T x y z,ty,pos,af,none⟩).run P w= .ok .skip (w.putObj b (.map (es.modify i fun e=>{ e with val:=a.eval z }) cl)):=by
   simp only[execOp,hr,Sem.run_bind,Result.andThen_ok,Sem.run_pure]
  refine Oper.wq_of_run hr' ?_
  have i2:=hrest.put (.map (es.modify i fun e=>{ e with val:=a.eval z }) cl) hH hM (Bl.1 hnd).1
  refine⟨undef,.raw undef,g,.map b (Bb ek ev (DJ k0 x0 l))::L',rfl,.raw _,⟨i2.sat,i2.satM,fun r hr=>?_,?_,hi.glob⟩,.put _ (by simp[Aj,Res.block]),fun b' hb' _=>?_,k⟩
  ·rcases AH.1 hr with rfl|hr
   ·refine⟨_,cl,World.putObj_heap_same hlt,?_,hH,hM,hO.st.modify fun _=>rfl⟩
    rw[e2]
    refine⟨by simp[Bb,hO.len],fun j j1 j2=>?_,fun j j1 j2=>?_⟩
    ·simp only[H5]at j1
     have j3:j < l.length:=by have:=hO.len;omega
     rw[Eo (by simpa using j1)]
     have:=hE.key j j1 (by simp[Bb];exact j3)
     by_cases hj:i=j
     ·subst hj
      simpa [Bb,hy0]using this
     ·simp only[hj,if_false]
      simpa [Bb,Om hj]using this
    ·simp only[H5]at j1
     have j3:j < l.length:=by have:=hO.len;omega
     rw[Eo (by simpa using j1)]
     by_cases hj:i=j
     ·subst hj
      simp[Bb];exact h3
     ·simp only[hj,if_false]
      have:=hE.val j j1 (by simp[Bb];exact j3)
      simpa [Bb,Om hj]using this
   ·exact i2.res r hr
  ·simpa only[Aj,Aw,Res.block]using hnd
  ·simpa only[Aj,Aw,Res.block,KB]using hb')
end
end Go.Q
namespace Go.Proofs
open Go Go.Q
attribute [local irreducible] ER AQ BG Fu
def Xa (x:List Dig × CN):PV:= .slice (x.1.map eDig) x.2
instance yo:ZV Tryz.prog 24 Xa ([],.nil):=dW (v:= .slice none 0 0) (by kernel_rfl) fun _=> .nilN none (by simp)
def Zl (x:List Dig × CN):Res:= .tok x.2 x.1.length 32
def UB (m:List (Dig × (List Dig × CN))):List Res:=m.map fun e=>Zl e.2
def qj (k:Dig) (m:List (Dig × (List Dig × CN))) (R:List Res):Prop:=(CU k m=none∧R=UB m)∨ ∃ v,CU k m=some v∧(UB m).Perm (Zl v::R)
theorem PD (k:Dig): ∀ m:List (Dig × (List Dig × CN)),∃ R,qj k m R∧ ∀ v,(UB (DJ k v m)).Perm (Zl v::R)
 | []=>⟨[],.inl ⟨rfl,rfl⟩,fun v=> .refl _⟩
 |(a,y)::l=>by
  by_cases e:k=a
  ·exact⟨UB l,.inr ⟨y,by simp[CU,e],.refl _⟩,fun v=>by simp[DJ,e,UB]⟩
  ·obtain⟨R,h1,h2⟩:=PD k l
   refine⟨Zl y::R,?_,fun v=>?_⟩
   ·rcases h1 with ⟨h,rfl⟩|⟨v,h,hp⟩
    ·exact .inl ⟨by simp[CU,e,h],rfl⟩
    ·exact .inr ⟨v,by simp[CU,e,h],(List.Perm.cons (Zl y) hp).trans (.swap _ _ _)⟩
   ·have e2:DJ k v ((a,y)::l)=(a,y)::DJ k v l:=by simp[DJ,e]
    rw[e2]
    exact(List.Perm.cons (Zl y) (h2 v)).trans (.swap _ _ _)
theorem YH {P:Program} {N:Nat} {c:Code} {Q:PPost} {ρ:Env} {A LF R:List Res} {m:List (Dig × (List Dig × CN))} {k:Dig} (h:qj k m R) (hk:ER P N c Q ρ (A++Zl ((CU k m).getD ([],.nil))::(R++LF))):ER P N c Q ρ (A++(UB m++LF)):=by
 rcases h with ⟨h,rfl⟩|⟨v,h,hp⟩
 ·rw[h]at hk
  refine EL 32 ?_
  exact EP Bg.symm hk
 ·rw[h]at hk
  exact EP (List.Perm.append_left A (hp.append_right LF)) hk
def aY (m:List (Dig × (List Dig × CN))) (d:Dig):List Dig:=((CU d m).getD ([],.nil)).1
def gK (G:List (Dig × List Dig)) (i:Nat):Dig:=(G.getD i (Dig.zero,[])).1
def gV (G:List (Dig × List Dig)) (i:Nat):List Dig:=(G.getD i (Dig.zero,[])).2
def aa (G:List (Dig × List Dig)) (done:List Nat) (d:Dig):List Dig:=(done.filter fun i=>decide (d∈gV G i)).map (gK G)
structure NV (G:List (Dig × List Dig)) (done:List Nat) (y:Dig) (part ex:List Dig) (m:List (Dig × (List Dig × CN))):Prop where
 val: ∀ d,aY m d=aa G done d++(if d∈part then [y]else [])
 is: ∀ d,(CU d m).isSome=true↔(∃ i∈done,d=gK G i∨d∈gV G i)∨d∈ex
theorem NV.start (G:List (Dig × List Dig)) (y:Dig):NV G [] y [] [] []:=⟨fun d=>by simp[aY,CU,aa],fun d=>by simp[CU]⟩
theorem cH (m:List (Dig × (List Dig × CN))) (k d:Dig) (v:List Dig × CN):aY (DJ k v m) d=if d=k then v.1 else aY m d:=by
 unfold aY
 rw[HN]
 by_cases h:d=k
 ·rw[if_pos h,if_pos h];rfl
 ·rw[if_neg h,if_neg h]
theorem NV.own {G:List (Dig × List Dig)} {done:List Nat} {z y:Dig} {m:List (Dig × (List Dig × CN))} (h:NV G done z [] [] m) (t:CN):NV G done y [] [y] (DJ y (aY m y++ [],t) m):=by
 refine⟨fun d=>?_,fun d=>?_⟩
 ·rw[cH]
  have:=h.val d
  by_cases e:d=y
  ·subst e;simpa using this
  ·rw[if_neg e];simpa using this
 ·rw[HN]
  by_cases e:d=y
  ·subst e;simp
  ·rw[if_neg e,h.is d];simp[e]
theorem NV.step {G:List (Dig × List Dig)} {done:List Nat} {y x:Dig} {part:List Dig} {m:List (Dig × (List Dig × CN))} (h:NV G done y part (y::part) m) (hx:x∉part) (t:CN):NV G done y (part++ [x]) (y::(part++ [x])) (DJ x (aY m x++ [y],t) m):=by
 refine⟨fun d=>?_,fun d=>?_⟩
 ·rw[cH]
  have:=h.val d
  by_cases e:d=x
  ·subst e
   rw[if_neg hx]at this
   rw[if_pos rfl,this,if_pos (by simp)];simp
  ·rw[if_neg e,this]
   by_cases e2:d∈part<;>simp[e,e2]
 ·rw[HN]
  by_cases e:d=x
  ·subst e;simp
  ·rw[if_neg e,h.is d];simp[e]
theorem NV.next {G:List (Dig × List Dig)} {done:List Nat} {z:Dig} {i:Nat} {m:List (Dig × (List Dig × CN))} (h:NV G done (gK G i) (gV G i) (gK G i::gV G i) m):NV G (done++ [i]) z [] [] m:=by
 refine⟨fun d=>?_,fun d=>?_⟩
 ·rw[h.val d]
  unfold aa
  by_cases e:d∈gV G i<;>simp[e]
 ·rw[h.is d]
  constructor
  ·rintro(⟨j,hj,h2⟩|h2)
   ·exact .inl ⟨j,by simp[hj],h2⟩
   ·exact .inl ⟨i,by simp,by simpa using h2⟩
  ·rintro(⟨j,hj,h2⟩|h2)
   ·rcases Ai.1 hj with hj|hj
    ·exact .inl ⟨j,hj,h2⟩
    ·rw[Ag.1 hj]at h2
     exact .inr (by simpa using h2)
   ·cases h2
theorem NV.len {G:List (Dig × List Dig)} {done:List Nat} {y:Dig} {part ex:List Dig} {m:List (Dig × (List Dig × CN))} (h:NV G done y part ex m) (d:Dig):(aY m d).length≤done.length+1:=by
 rw[h.val d]
 have:(aa G done d).length≤done.length:=by unfold aa;rw[AR];exact DP _ _
 rw[AA]
 split<;>simp<;>omega
theorem Tv {done:List Nat} {n:Nat} (h1:done.Nodup) (h2: ∀ i∈done,i < n):done.length≤n:=by
 have:=FR h1 (u:=List.range n) fun i hi=>BW.2 (h2 i hi)
 simpa using this
theorem w5 (m:List (Dig × (List Dig × CN))):Le (.fmap (Bb kDig Xa m)) (.fmap (Bb kDig (KO eDig) (m.map fun e=>(e.1,e.2.1)))):=fun g v h=>by
 generalize hk:Bb kDig Xa m=kvs at h
 cases h with
 |fmap hM hl hk2 hv=>
  subst hk
  refine .fmap hM (by simpa [Bb]using hl) (fun i h1 h2=>?_) (fun i h1 h2=>?_)
  ·have:=hk2 i h1 (by simpa [Bb]using h2)
   simpa [Bb]using this
  ·have:=hv i h1 (by simpa [Bb]using h2)
   simp only[Bb,BQ]at this ⊢
   exact this.ro
 |nilM=>
  have:m= []:=by simpa [Bb]using hk
  subst this
  exact .nilM
theorem Yj (m:List (Dig × (List Dig × CN))) (d:Dig):CU d (m.map fun e=>(e.1,e.2.1))=(CU d m).map (·.1):=by
 induction m with
 |nil=>rfl
 |cons x m ih=>
  obtain⟨a,y⟩:=x
  simp only[Aq,CU,ih]
  split<;>rfl
theorem cJ (m:List (Dig × (List Dig × CN))) (d:Dig):ndG (m.map fun e=>(e.1,e.2.1)) d=aY m d:=by
 unfold ndG aY
 rw[Yj]
 cases CU d m<;>rfl
theorem de (G:List (Dig × List Dig)) (hl:G.length≤1000) (hnd: ∀ i,(gV G i).Nodup) (hvl: ∀ i,(gV G i).length≤1000):
  BG Tryz.prog 107 [.fmap (Bb kDig (KO eDig) G)] [] (fun r L'=>(∃ m done,r= .fmap (Bb kDig Xa m)∧done.Nodup∧(∀ i,i∈done↔i < G.length)∧NV G done Dig.zero [] [] m)∧L'= []):=by
 refine CA Tryz.func107 rfl Tryz.ntmps107 (rs:= [.tmp 2]) rfl rfl fun hb LF=>?_
 rw[B9]
 refine wf ?_
 refine RN fun m=>?_
 refine wf ?_
 refine mN (kvs:=Bb kDig (KO eDig) G) rfl fun b=>?_
 refine wf ?_
 refine Ab (σ:=List Nat × List (Dig × (List Dig × CN))) (fun k=>k.1.Nodup∧(∀ i∈k.1,i < G.length)∧NV G k.1 Dig.zero [] [] k.2) (fun k=>G.length - k.1.length) (fun k=> [(3,.raw (.map (some m))),(10,.raw (.pointer (some ⟨b,0,none⟩)))]) (fun k=> .iter b (Bb kDig (KO eDig) G) k.1:: .map m (Bb kDig Xa k.2)::(UB k.2++LF)) ([],[]) ⟨.nil,by simp,.start _ _⟩ ⟨rfl,rfl⟩ (.refl _) ?_
 rintro⟨done,T⟩ ⟨hdn,hdl,hT⟩
 dsimp only at hdn hdl hT ⊢
 have hkl:(Bb kDig (KO eDig) G).length=G.length:=by simp[Bb]
 refine wf ?_
 refine rP rfl (.refl _) (fun hall=>?_) (fun i hi hni=>?_)
 ·refine wo ?_
  refine AD ?_
  refine Da ?_
  refine KX (t:=false) rfl (fun h=>by cases h) (fun _=>?_)
  refine Gj ?_
  refine Nt [(3,.fmap (Bb kDig Xa T))] (.inr ⟨rfl,rfl⟩) (.swap _ _ _) ?_
  refine wf ?_
  refine⟨trivial,_,[],.cons (.tmp 2) .nil,?_,⟨T,done,rfl,hdn,fun i=>⟨hdl i,fun h=>hall i (by rw[hkl];exact h)⟩,hT⟩,rfl⟩
  exact .cons _ (DU _ _)
 have hi2:i < G.length:=by rw[←hkl];exact hi
 have hgd:G.getD i (Dig.zero,[])=G[i]:=by simp[List.getD,hi2]
 have hgk:gK G i=G[i].1:=by unfold gK;rw[hgd]
 have hgv:gV G i=G[i].2:=by unfold gV;rw[hgd]
 have e1:(Bb kDig (KO eDig) G)[i].1= .agg (eDig (gK G i)):=by rw[hgk];simp[Bb,kDig]
 have e2:(Bb kDig (KO eDig) G)[i].2= .slice ((gV G i).map eDig) .ro:=by rw[hgv];simp[Bb,KO]
 have hdl2:=Tv hdn hdl
 rw[e1,e2]
 refine wf ?_
 refine mX rfl AF hi ?_
 rw[e1,e2]
 refine wf ?_
 refine CC fun b4=>?_
 refine wo ?_
 refine AD ?_
 refine Ay 4 ?_
 have hok: ∀ z,(aY T z).length≤1001:=fun z=>by have:=hT.len z;omega
 obtain⟨R,hR1,hR2⟩:=PD (gK G i) T
 refine YH (A:= [.iter b (Bb kDig (KO eDig) G) (done++ [i]),.map m (Bb kDig Xa T)]) hR1 ?_
 have hl0:=hok (gK G i)
 have hown:=fun t=>hT.own (y:=gK G i) t
 unfold aY at hl0 hown
 generalize hv0:(CU (gK G i) T).getD ([],CN.nil)=v0 at hl0 hown ⊢
 obtain⟨l0,t0⟩:=v0
 dsimp only at hl0 hown
 refine wf ?_
 refine Sh (ek:=kDig) (ev:=Xa) (k0:=gK G i) (l:=T) (L':= .iter b (Bb kDig (KO eDig) G) (done++ [i]):: .tok t0 l0.length 32::(R++LF)) rfl (.swap _ _ _) (.refl _) fun es cl ix n hO=>?_
 rw[hv0]at hO ⊢
 refine wf ?_
 refine Ij (f:=eDig) (l:=l0) (m:= []) (t:=t0) (L':=fun t'=> .raw m (.map es cl)::KB es (Bb kDig Xa (DJ (gK G i) (l0,t0) T)):: .iter b (Bb kDig (KO eDig) G) (done++ [i]):: .tok t' (l0++ []).length 32::(R++LF)) rfl rfl (by simp only[Af];omega) (by simp only[Af];omega) (fun t'=> .there (.there (.there .here))) fun t'=>?_
 refine wf ?_
 refine Q6 (ek:=kDig) (ev:=Xa) (x0:=(l0++ [],t')) (L':= .iter b (Bb kDig (KO eDig) G) (done++ [i]):: .tok t' (l0++ []).length 32::(R++LF)) hO rfl rfl (.refl _) (.refl _) ?_
 rw[RL]
 refine AD ?_
 have hT1:=hown t'
 have hp1:=hR2 (l0++ [],t')
 generalize DJ (gK G i) (l0++ [],t') T=T1 at hT1 hp1 ⊢
 refine EP (L':= .iter b (Bb kDig (KO eDig) G) (done++ [i]):: .map m (Bb kDig Xa T1)::(UB T1++LF)) ((List.Perm.swap _ _ _).trans (.cons _ (.cons _ ((hp1.append_right LF).symm)))) ?_
 clear hp1 hown hl0 hv0 hR1 hR2 hO
 have hni2:=hnd i
 have hvli:=hvl i
 have hnx:=fun m=>NV.next (G:=G) (done:=done) (z:=Dig.zero) (i:=i) (m:=m)
 generalize gK G i=y at hT1 hnx ⊢
 generalize gV G i=nv at hni2 hvli hnx ⊢
 refine wf ?_
 refine Ab (σ:=Nat × List (Dig × (List Dig × CN))) (fun j=>j.1≤nv.length∧NV G done y (nv.take j.1) (y::nv.take j.1) j.2) (fun j=>nv.length - j.1) (fun j=> [(3,.raw (.map (some m))),(4,.pt (eDig y) 0),(10,.raw (.pointer (some ⟨b,0,none⟩))),(23,.slice (nv.map eDig) .ro),(24,.raw (.int .i64 nv.length)),(25,.raw (.int .i64 j.1))]) (fun j=> .iter b (Bb kDig (KO eDig) G) (done++ [i]):: .map m (Bb kDig Xa j.2)::(UB j.2++LF)) (0,T1) ⟨by simp,hT1⟩ ⟨rfl,rfl,rfl,rfl,rfl,rfl⟩ (.refl _) ?_
 clear hT1
 rintro⟨j,T2⟩ ⟨hj,hT2⟩
 dsimp only at hj hT2 ⊢
 refine wf ?_
 refine A6 (fun hc=>?_) (fun hc=>?_)
 ·have hlt:j < nv.length:=by omega
  have hnj:nv[j]∉nv.take j:=fun h=>by
   obtain⟨q,hq,e⟩:=Ad.1 h
   rw[AZ]at hq
   rw[FG]at e
   have:=(B7.1 hni2) q j (by omega) hlt (by omega)
   exact this e
  have hl0:(aY T2 nv[j]).length≤1001:=by have:=hT2.len nv[j];omega
  have hown:=fun t=>hT2.step hnj t
  rw[←A7 hlt]at hown
  obtain⟨R,hR1,hR2⟩:=PD nv[j] T2
  refine wf ?_
  refine CC fun b7=>?_
  refine wo ?_
  refine AD ?_
  refine Ay 7 ?_
  refine YH (A:= [.iter b (Bb kDig (KO eDig) G) (done++ [i]),.map m (Bb kDig Xa T2)]) hR1 ?_
  unfold aY at hl0 hown
  generalize hv0:(CU nv[j] T2).getD ([],CN.nil)=v0 at hl0 hown ⊢
  obtain⟨l0,t0⟩:=v0
  dsimp only at hl0 hown
  refine wf ?_
  refine Sh (ek:=kDig) (ev:=Xa) (k0:=nv[j]) (l:=T2) (L':= .iter b (Bb kDig (KO eDig) G) (done++ [i]):: .tok t0 l0.length 32::(R++LF)) rfl (.swap _ _ _) (.refl _) fun es cl ix n hO=>?_
  rw[hv0]at hO ⊢
  refine wf ?_
  refine Ij (f:=eDig) (l:=l0) (m:= [y]) (t:=t0) (L':=fun t'=> .raw m (.map es cl)::KB es (Bb kDig Xa (DJ nv[j] (l0,t0) T2)):: .iter b (Bb kDig (KO eDig) G) (done++ [i]):: .tok t' (l0++ [y]).length 32::(R++LF)) rfl rfl (by simp only[AN,Af];omega) (by simp only[AN,Af];omega) (fun t'=> .there (.there (.there .here))) fun t'=>?_
  refine wf ?_
  refine Q6 (ek:=kDig) (ev:=Xa) (x0:=(l0++ [y],t')) (L':= .iter b (Bb kDig (KO eDig) G) (done++ [i]):: .tok t' (l0++ [y]).length 32::(R++LF)) hO rfl rfl (.refl _) (.refl _) ?_
  rw[RL]
  refine AD ?_
  have hT3:=hown t'
  have hp3:=hR2 (l0++ [y],t')
  generalize DJ nv[j] (l0++ [y],t') T2=T3 at hT3 hp3 ⊢
  refine EP (L':= .iter b (Bb kDig (KO eDig) G) (done++ [i]):: .map m (Bb kDig Xa T3)::(UB T3++LF)) ((List.Perm.swap _ _ _).trans (.cons _ (.cons _ ((hp3.append_right LF).symm)))) ?_
  refine wf ?_
  exact⟨(j+1,T3),⟨by dsimp only;omega,hT3⟩,by dsimp only;omega,⟨rfl,rfl,rfl,rfl,rfl,rfl⟩,.refl _⟩
 ·rw[AE (by omega)]at hT2
  refine wf ?_
  refine⟨(done++ [i],T2),⟨EU.2 ⟨hdn,by simp,fun a ha c hc=>?_⟩,fun q hq=>?_,hnx _ hT2⟩,?_,⟨rfl,rfl⟩,.refl _⟩
  ·rw[Ag.1 hc];rintro rfl;exact hni ha
  ·rcases Ai.1 hq with hq|hq
   ·exact hdl q hq
   ·rw[Ag.1 hq];exact hi2
  ·dsimp only
   have h3:(done++ [i]).length≤G.length:=Tv (EU.2 ⟨hdn,by simp,fun a ha c hc=>by rw[Ag.1 hc];rintro rfl;exact hni ha⟩) fun q hq=>by
    rcases Ai.1 hq with hq|hq
    ·exact hdl q hq
    ·rw[Ag.1 hq];exact hi2
   rw[AA,BA]at h3 ⊢
   omega
theorem VH {κ:Type} [DecidableEq κ] {k:κ}: ∀ {l:List κ},k∉l→Hy k l=none
 | [],_=>rfl
 |a::l,h=>by
  have h1:k≠a:=fun e=>h (by simp[e])
  rw[Hy,if_neg h1,VH fun h'=>h (AI _ h')];rfl
theorem VN: ∀ (s:List Sto) (m:List (Dig × List Dig)),(∀ x∈s,x.id∉m.map (·.1))→(ids s).Nodup→s.foldl (fun m x=>DJ x.id (Ax x.patch) m) m=m++s.map fun x=>(x.id,Ax x.patch)
 | [],m,_,_=>by simp
 |x::s,m,h,hn=>by
  have hn2:=Bn.1 hn
  rw[C0,Gq _ _ (VH (h x (by simp))),VN s _ (fun y hy=>?_) hn2.2]
  ·simp
  ·rw[An,Ai]
   rintro(h2|h2)
   ·exact h y (by simp[hy]) h2
   ·have e:y.id=x.id:=by simpa using h2
    exact hn2.1 y.id (AO.2 ⟨y,hy,rfl⟩) e.symm
theorem an {s:List Sto} (h:Gm (ids s)):gr s=s.map fun x=>(x.id,Ax x.patch):=by
 rw[gr,VN s [] (by simp) h.nodup,B9]
theorem VO {s:List Sto} (h:Gm (ids s)) {i:Nat} (hi:i < s.length):gK (gr s) i=s[i].id∧gV (gr s) i=Ax s[i].patch:=by
 have e:(gr s).getD i (Dig.zero,[])=(s[i].id,Ax s[i].patch):=by
  rw[an h];simp[List.getD,hi]
 exact⟨by rw[gK,e],by rw[gV,e]⟩
theorem kB {s:List Sto} (h:Gm (ids s)) {i:Nat} (hi: ¬i < s.length):gV (gr s) i= []:=by
 have e:(gr s).getD i (Dig.zero,[])=(Dig.zero,[]):=by
  rw[an h,List.getD,FT (by rw[AR];omega)];rfl
 rw[gV,e]
theorem ju {s:List Sto} (h:Gm (ids s)):(gr s).length=s.length:=by rw[an h,AR]
theorem Bc.turned_of {s:List Sto} (v:Bc s) {done:List Nat} {m:List (Dig × (List Dig × CN))} (hn:done.Nodup) (hd: ∀ i,i∈done↔i < (gr s).length) (h:NV (gr s) done Dig.zero [] [] m):Pf (Go.Proofs.ndS s) (ids s) (m.map fun e=>(e.1,e.2.1)):=by
 have hl:=ju v.asc
 have hval: ∀ x,aY m x=aa (gr s) done x:=fun x=>by have:=h.val x;simpa using this
 refine⟨fun d=>?_,fun x y=>?_,fun x=>?_⟩
 ·rw[Yj,Option.isSome_map]
  have:=h.is d
  by_cases hd2:d∈ids s
  ·obtain⟨x,hx,rfl⟩:=AO.1 hd2
   obtain⟨i,hi,rfl⟩:=Ad.1 hx
   rw[BK hd2]
   exact this.2 (.inl ⟨i,(hd i).2 (by omega),.inl (VO v.asc hi).1.symm⟩)
  ·rw[Ck hd2]
   cases hm:(CU d m).isSome with
   |false=>rfl
   |true=>
    rcases this.1 hm with ⟨i,hi,h2⟩|h2
    ·have hi2:i < s.length:=by have:=(hd i).1 hi;omega
     obtain⟨e1,e2⟩:=VO v.asc hi2
     rcases h2 with h2|h2
     ·exact absurd (by rw[h2,e1];exact AO.2 ⟨s[i],AJ hi2,rfl⟩) hd2
     ·rw[e2]at h2
      exact absurd (v.close.2 _ (AJ hi2) d h2) hd2
    ·cases h2
 ·rw[cJ,hval]
  unfold aa
  constructor
  ·intro hy
   obtain⟨i,hi,rfl⟩:=AO.1 hy
   obtain⟨h1,h2⟩:=Ef.1 hi
   have hi2:i < s.length:=by have:=(hd i).1 h1;omega
   obtain⟨e1,e2⟩:=VO v.asc hi2
   have h2:=BF h2
   rw[e2]at h2
   rw[e1]
   exact⟨AO.2 ⟨s[i],AJ hi2,rfl⟩,by rw[v.ndS (AJ hi2)];exact h2⟩
  ·rintro⟨hy,hx⟩
   obtain⟨z,hz,rfl⟩:=AO.1 hy
   obtain⟨i,hi,rfl⟩:=Ad.1 hz
   obtain⟨e1,e2⟩:=VO v.asc hi
   rw[v.ndS hz]at hx
   exact AO.2 ⟨i,Ef.2 ⟨(hd i).2 (by omega),BK (by rw[e2];exact hx)⟩,e1⟩
 ·rw[cJ]
  have h1:=h.len x
  have h2:=Tv hn (n:=(gr s).length) fun i hi=>(hd i).1 hi
  have:=v.close.1.1
  omega
theorem ed {s:List Sto} (v:Bc s) {x:Sto} (hx:x∈s):(Ax x.patch).length≤200:=by
 have h1:=FR (Ga x.patch).nodup (fun d hd=>v.close.2 x hx d hd)
 have:=v.close.1.1
 rw[HO]at h1
 omega
theorem eN {P:Program} {f:FuncId} {args:List PV} {L:List Res} {R R':PV→List Res→Prop} (h:BG P f args L R) (hr: ∀ x L',R x L'→ ∃ y,Le x y∧R' y L'):BG P f args L R':=by
 unfold BG at h ⊢
 intro vs w g LF hv hi
 refine(h vs w g LF hv hi).mono ?_
 rintro e w' ⟨v,x,g',L',h1,h2,h3,h4,h5,h6⟩
 obtain⟨y,hy,h7⟩:=hr x L' h6
 exact⟨v,y,g',L',h1,hy g' v h2,h3,h4,h5,h7⟩
theorem Zk (s:List Sto) (v:Bc s):BG Tryz.prog 107 [.fmap (Bb kDig (KO eDig) (gr s))] [] (fun r L'=>(∃ T,r= .fmap (Bb kDig (KO eDig) T)∧Pf (ndS s) (ids s) T)∧L'= []):=by
 have hl:=ju v.asc
 have h40:=v.close.1.1
 refine eN (de (gr s) (by omega) (fun i=>?_) (fun i=>?_)) ?_
 ·by_cases hi:i < s.length
  ·rw[(VO v.asc hi).2];exact(Ga _).nodup
  ·rw[kB v.asc hi];exact .nil
 ·by_cases hi:i < s.length
  ·rw[(VO v.asc hi).2];have:=ed v (AJ hi);omega
  ·rw[kB v.asc hi];simp
 ·rintro x L' ⟨⟨m,done,rfl,h1,h2,h3⟩,rfl⟩
  exact⟨_,w5 m,⟨_,rfl,v.turned_of h1 h2 h3⟩,rfl⟩
instance uX (s:List Sto) (l:List Dig) (t u:CN) [hs:B4 (Bc s)] [hl:B4 (l.length≤400)]:C9 Tryz.prog 45 [.slice (s.map eSto) t,.slice (l.map eDig) u] (.tuple [.slice ((LG s l).1.map eDig) .ro,.raw (.int .i64 (LG s l).2)]):=⟨by
 have v:=hs.out
 have h40:=v.close.1.1
 have i1:B4 (HY s):=⟨v.close.1⟩
 refine Au Tryz.func45 Tryz.ntmps45 rfl (rs:= [.tmp 4,.tmp 5]) rfl rfl fun hb LF=>?_
 refine wf ?_
 refine CV (xs:= [.tmp 10]) [] LF (f:=107) (cs:= []) (C5 _) rfl rfl (.refl _) _ (Zk s v) fun r L' ⟨⟨T,e1,hT⟩,e2⟩=>?_
 subst e1;rw[e2,B9]
 obtain⟨e1,e2⟩:=v.turned hT l
 have i2:=fun t=>Sn T (ids s) (hT.ok (by rw[HO];omega)) l t hl.out
 refine wf ?_
 refine AU (fun h=>?_) (fun h=>?_)
 ·have h0:(clG T (ids s) l).2=false:=by simpa using h
  rw[if_pos h0]at e2
  have e3:(LG s l).1= []:=by
   unfold LG at e2 ⊢
   split
   ·rfl
   ·rename_i h3
    rw[if_neg h3]at e2
    simp at e2
  refine wf ?_
  refine HD ?_
  rw[e2,e3]
  exact .tuple2 (.ro _ _) (.refl _)
 ·have h0:(clG T (ids s) l).2=true:=by simpa using h
  rw[h0]at e2
  simp at e2
  refine wf ?_
  refine HD ?_
  rw[e2,←e1]
  exact .refl _⟩
instance fm (s:List Sto) (p q:Dig) (t:CN) [hs:B4 (Bc s)]:C9 Tryz.prog 27 [.slice (s.map eSto) t,.agg (eDig p),.agg (eDig q)] (.raw (.bool (Mh s p q))):=⟨by
 have v:=hs.out
 have cx:=fun t u=>ZZ s [p] t u (hl:=⟨by simp⟩)
 rw[v.knows]
 refine Au Tryz.func27 Tryz.ntmps27 rfl (rs:= [.tmp 6]) rfl rfl fun hb LF=>?_
 refine wf ?_
 refine Ar (fun hp=>?_) (fun hp=>?_)
 ·refine wf ?_
  refine Az (.of_eq ?_)
  rw[hp];rfl
 ·refine wf ?_
  refine Az (.of_eq ?_)
  rw[hp];rfl⟩
end Go.Proofs
namespace Go.Q
open Go
section
variable {P:Program} {N:Nat} {all:Array Oper} {K:Env→List Res→Prop} {fl:List Bool} {os:List Oper} {ρ:Env} {L:List Res} {d:Nat} {ty:TypeId} {pos:String} {af:Array Edge}
theorem iU {T E sz by_:Nat} [hT:Zb P T E sz by_] (hz: ∀ i z,P.info? E=some i→i.zero=some z→ ∀ x∈z.cells,x.oneCell'=true) {x:Operand} {r off n c:Nat} {cs:List PV} {L':List Res} (F:Res→List Res) (hx:ρ.ev x= .raw (.slice (some ⟨r,off,none⟩) n c)) (hn:0 < n) (hle:off+n*sz≤cs.length)
  (hp:L.Perm (.box r E cs::L')) (hq: ∀ c,(c::L').Perm (F c))
  (k: ∀ zs:List PV,zs.length=n*sz→AQ P N all K fl.tail os ρ (F (.box r E (cs.take off++zs++cs.drop (off+n*sz))))) (hfl:fl.headD true=true:=by rfl):
  AQ P N all K fl (⟨none,.call { callee:= .builtin .clear,args:= #[x],argTypes:= #[T] },ty,pos,af,none⟩::os) ρ L:=
 Dd rfl (fun _ e=>by cases e) hfl (Fu.perm hp fun a w g ha hi0=>by
  have h1:=Ca ha (x:=x) (by simp[Op.operands,Call.operands]) hx
  obtain⟨i,z,t1,t2,t3,t4,t5,t6,t7,t8⟩:=hT.out
  obtain⟨us,hus,hi⟩:=hi0.boxRaw
  have hul:=hus.len
  obtain⟨k1,k2,k3,k4,k5⟩:=hi.rawHead
  have hzl:(Builtin.zeroCells z.cells n).toList.length=n*sz:=by rw[CZ,size_zeroCells,t6]
  have hz1: ∀ x∈(Builtin.zeroCells z.cells n).toList,x.oneCell'=true:=fun x hx=>by
   simp only[Builtin.zeroCells,Array.toList_map,AO]at hx
   obtain⟨j,_,rfl⟩:=hx
   have hj:j % z.cells.size < z.cells.size:=bP _ (by rw[t6];omega)
   rw[getElem!_pos z.cells _ hj]
   exact hz i z t2 t5 _ (Array.getElem_mem hj)
  obtain⟨w',hrun,hb',hos,htp,hout,hsz,hk⟩:=FW (P:=P) (Builtin.zeroCells z.cells n).toList w us off 0 k1 (by rw[hzl];omega) hz1
  have he:execOp a.eval ⟨none,.call { callee:= .builtin .clear,args:= #[x],argTypes:= #[T] },ty,pos,af,none⟩=(do pure (.value (←Builtin.clear_ #[T] ty (#[x].map a.eval)))):=rfl
  have hr:(execOp a.eval ⟨none,.call { callee:= .builtin .clear,args:= #[x],argTypes:= #[T] },ty,pos,af,none⟩).run P w= .ok (.value (.tuple #[])) w':=by
   rw[he]
   obtain⟨m,rfl⟩: ∃ m,n=m+1:=⟨n - 1,by omega⟩
   simp[Builtin.clear_,h1,run_underlying t1,zeroValue,typeInfo,t2,t5,hrun]
  rw[Dr,hzl]at hb'
  have hi2:=hi.turnRaw hb' hk
  have hbox:=Du.rawBox (cs:=cs.take off++(Builtin.zeroCells z.cells n).toList.map .raw++cs.drop (off+n*sz)) hi2 (by
   simpa using ((hus.take off).append (EB.raws g (Builtin.zeroCells z.cells n).toList)).append (hus.drop (off+n*sz)))
  refine Oper.wq_of_run hr ?_
  exact⟨_,.raw _,g,_,rfl,.raw _,hbox.perm (hq _),⟨hos,htp,hout,EF hsz.symm,fun b _ hn=>hk b (fun e=>hn (by simp[Aj,Res.block,e])),.refl g,fun _ _ _=>⟨fun _=>rfl,rfl⟩⟩,
   fun b hb _=>by
    have:=(DR (hq _)).symm.subset hb
    simpa [Aj,Res.block]using this,k _ (by rw[AR,hzl])⟩)
end
end Go.Q
namespace Go.Proofs
open Go Go.Q
attribute [local irreducible] ER AQ BG Fu
end Go.Proofs
