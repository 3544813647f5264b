/- Plain laws: splitting: the program's way and the reference's. -/
import Derived.Test.YtaibdmankdppkaaGreatDoorYaq
import Derived.Test.YtaibdmankdppkaaGreatDoorYan
import Derived.Laws.MakeOwn
import Derived.Test.YtaibdmankdppkaaGreatDoorYal
set_option linter.unusedSimpArgs false
set_option linter.unusedVariables false
namespace Go.Proofs
open Go Go.Q Go.Sort
theorem aq {cs:List Chg} {f:Chg→Nat} {l:List Nat} (hn:l.Nodup) (hl: ∀ c∈l,c < cs.length):(l.map fun c=>f (cs.getD c Chg.zero)).sum≤(cs.map f).sum:=by
 have a:=QC (f:=fun c=>f (cs.getD c Chg.zero)) (u:=List.range cs.length) hn fun c hc=>Br.2 (hl c hc)
 have e:(List.range cs.length).map (fun c=>f (cs.getD c Chg.zero))=cs.map f:=by
  refine EA (by simp) fun i h1 h2=>?_
  simp only[AR,H4]at h1
  simp[List.getD,h1]
 rw[e]at a
 exact a
theorem Nm {α:Type}: ∀ (l:List α),(l.map fun _=>1).sum=l.length
 | []=>rfl
 |a::l=>by rw[Ar,DI,Nm l,AN,Jn]
theorem Eg {α:Type} [DecidableEq α] {l u:List α} (hn:l.Nodup) (h: ∀ x∈l,x∈u):l.length≤u.length:=by
 have:=QC (f:=fun _=>1) hn h
 rwa [Nm,Nm]at this
theorem fb {x:Sto} {P:List (List Nat)} (hg:Fk x.patch=false) (hh:(x.patch.changes.map Iq).sum≤2000) {is:List Dig} (hi:(BP x.patch++is).length≤200) {l:List Nat} (hn:l.Nodup) (hl: ∀ c∈l,c < x.patch.changes.length) {m:Mta} (ha:m.author.length≤60) (hm:m.message.length≤60):ED (JB x P is l m)=false:=by
 obtain⟨f1,f2,f3,f4,f5⟩:=L9 hg
 have gr:RR x.patch≤3000∧ ∀ c∈x.patch.changes,bP c=false:=by
  unfold Fk at hg
  simp only[CT,A8,Bl]at hg
  exact⟨by omega,fun c hc=>by simpa using hg.1.1.1 c hc⟩
 have s1:=aq (f:=GH) hn hl
 have s2:=aq (f:=Iq) hn hl
 have s3:=aq (f:=fun _=>1) hn hl
 have q1:=W7 (sortD (BP x.patch++is))
 have q2:(sortD (BP x.patch++is)).length=(BP x.patch++is).length:=by unfold sortD;rw[Cg]
 have comp: ∀ (g:Chg→Nat),(∀ f c,g (Eo f c)=g c)→((l.map fun c=>Eo (fS P x.patch.changes is is.length) (x.patch.changes.getD c Chg.zero)).map g)=l.map fun c=>g (x.patch.changes.getD c Chg.zero):=fun g h=>by
  rw[CG]
  exact CC fun c _=>h _ _
 have c1:=comp GH fun f c=>(KS f c).2.1
 have c2:=comp Iq fun f c=>(KS f c).2.2
 have len1:=Nm l
 have len2:=Nm x.patch.changes
 have tt:RR x.patch=x.patch.author.length+x.patch.message.length+(x.patch.changes.map GH).sum:=rfl
 unfold ED JB
 dsimp only
 simp only[CT,A8,Bl]
 refine⟨⟨⟨⟨fun c hc=>?_,?_⟩,?_⟩,?_⟩,?_⟩
 ·obtain⟨i,hi',rfl⟩:=AQ.1 hc
  obtain⟨z1,z2,_⟩:=KS (fS P x.patch.changes is is.length) (x.patch.changes.getD i Chg.zero)
  have hlt:=hl i hi'
  have e:x.patch.changes.getD i Chg.zero=x.patch.changes[i]:=by simp[List.getD,hlt]
  have hmem:x.patch.changes[i]∈x.patch.changes:=AF hlt
  have:=IM (f:=GH) hmem
  have:=gr.2 _ hmem
  rw[z1,z2,e]
  simp[this];omega
 ·unfold RR
  dsimp only
  rw[c1];omega
 ·omega
 ·rw[AR];omega
 ·rw[c2];omega
structure KI (s:List Sto) (x:Sto) (t:List Sto) (is:List Dig):Prop where
 val:BH t
 len:t.length≤s.length+is.length
 new: ∀ d∈is,d∈ids t
 others: ∀ d∈ids s,d≠x.id→d∈ids t
theorem KI.step {s:List Sto} {x:Sto} {t:List Sto} {is:List Dig} (a:KI s x t is) {p:Pat} (hb:ED p=false) (hl:t.length < 200) (h:(FC t p).2.2=0):
  KI s x (FC t p).1 (is++ [(FC t p).2.1])∧ef t ⟨(FC t p).2.1,p⟩∧(FC t p).1=Kb t ⟨(FC t p).2.1,p⟩:=by
 obtain⟨hf,e⟩:=a.val.rAdd_ok hb h
 rw[e]
 dsimp only
 refine⟨⟨a.val.put hf hl,?_,fun d hd=>?_,fun d hd hne=>HS.2 (.inr (a.others d hd hne))⟩,hf,rfl⟩
 ·have:=a.len
  rw[Yt,AA,B6];omega
 ·rcases Aj.1 hd with hd|hd
  ·exact HS.2 (.inr (a.new d hd))
  ·exact HS.2 (.inl (An.1 hd))
theorem KI.ids {s:List Sto} {x:Sto} {t:List Sto} {is:List Dig} (a:KI s x t is) (hn:Ud s x is) {d:Dig} (hf:d∉Go.Proofs.ids t) (hz:d≠Dig.zero):Ud s x (is++ [d]):=by
 refine⟨fun e he=>?_,?_,fun e he hs=>?_⟩
 ·rcases Aj.1 he with he|he
  ·exact hn.nz e he
  ·rw[An.1 he];exact hz
 ·refine EH.2 ⟨hn.nodup,by simp,fun e he e' he' k=>?_⟩
  rw[An.1 he']at k
  exact hf (k ▸ a.new e he)
 ·rcases Aj.1 he with he|he
  ·exact hn.old e he hs
  ·rw[An.1 he]at hs ⊢
   exact DE fun k=>hf (a.others d hs k)
theorem la (l:List Dig) (d:Dig):Kj (sortD (l++ [d]))=FT (Kj (sortD l)) d:=by
 refine(Ic _).1.ext (Lb (Ic l).1) fun e=>?_
 rw[(Ic _).2,KR,(Ic l).2,Aj,An]
 exact Or.comm
structure Oy (s:List Sto) (x:Sto) (P:List (List Nat)) (o:List (List Nat × Mta)):Prop where
 great:Fk x.patch=false
 heavy:(x.patch.changes.map Iq).sum≤2000
 set:s.length≤8
 parts:P.length≤8
 metas: ∀ e∈o,e.2.author.length≤60∧e.2.message.length≤60
theorem Oy.big {s:List Sto} {x:Sto} {P:List (List Nat)} {o:List (List Nat × Mta)} (z:Oy s x P o) (h:HZ s x P) {is:List Dig} (hk:is.length < P.length) {e:List Nat × Mta} (he:e∈o) (hp:e.1=P[is.length]):ED (JB x P is e.1 e.2)=false:=by
 have n1:(BP x.patch).length≤s.length:=by
  have:=Eg (JG x.patch).nodup (fun d hd=>h.val.close.2 x h.mem d hd)
  unfold Go.Proofs.ids at this
  rwa [AR]at this
 have:=z.set
 have:=z.parts
 refine fb z.great z.heavy (by rw[AA];omega) ?_ ?_ (z.metas e he).1 (z.metas e he).2
 ·rw[hp]
  exact(h.parts.asc _ (AF hk)).imp fun h=>Nat.ne_of_lt h
 ·rw[hp];exact h.parts.lt _ (AF hk)
theorem HZ.loop {s:List Sto} {x:Sto} {P:List (List Nat)} (h:HZ s x P): ∀ (o:List (List Nat × Mta)) (is:List Dig) (t:List Sto),Oy s x P o→P.drop is.length=o.map (·.1)→KI s x t is→Ud s x is∨Dig.zero∈is→
  Wh x P o t is=ni x o t is (Kj (sortD (BP x.patch++is))) ((P.take is.length).flatten.map (Kt x.id P x.patch.changes is is.length)):=by
 intro o
 induction o with
 |nil=>intro is t _ _ _ _;rfl
 |cons e o ih=>
  intro is t z hP a hn
  have hk:is.length < P.length:=by
   have:=congrArg List.length hP
   rw[B5,AR,AN]at this;omega
  have hd:=CH hk
  rw[hd,Ar]at hP
  have he:P[is.length]=e.1:=(List.cons.inj hP).1
  have hrest:P.drop (is.length+1)=o.map (·.1):=(List.cons.inj hP).2
  unfold Wh ni
  rcases hn with hn|hn
  ·obtain⟨p1,p2⟩:=h.part hn hk e.2
   rw[he]at p1 p2
   rw[p1]
   by_cases hz:(FC t (JB x P is e.1 e.2)).2.2=0
   ·rw[if_neg (by simp[hz]),if_neg (by simp[hz])]
    have hb:=z.big h hk AG he.symm
    have:=a.len
    have:=z.set
    have:=z.parts
    obtain⟨s1,s2,s3⟩:=a.step hb (by omega) hz
    have hlen:(is++ [(FC t (JB x P is e.1 e.2)).2.1]).length=is.length+1:=by simp
    have step:=ih (is++ [(FC t (JB x P is e.1 e.2)).2.1]) (FC t (JB x P is e.1 e.2)).1 ⟨z.great,z.heavy,z.set,z.parts,fun e he=>z.metas e (AH _ he)⟩ (by rw[hlen];exact hrest) s1 (by
     by_cases h0:(FC t (JB x P is e.1 e.2)).2.1=Dig.zero
     ·exact .inr (EE _ (by simp[h0]))
     ·exact .inl (a.ids hn s2.new h0))
    rw[step,hlen,p2,←la,AU]
   ·rw[if_pos hz,if_pos hz]
  ·have hz:Dig.zero∈Kj (sortD (BP x.patch++is)):=(Ic _).2 _ |>.2 (EE _ hn)
   obtain⟨q1,q2⟩:=fV (t:=t) (a:=e.2.author) (m:=e.2.message) (i:=e.2.time) (cs:=e.1.map fun c=>Eo (fS P x.patch.changes is is.length) (x.patch.changes.getD c Chg.zero)) (cs':=(e.1.foldl (QD x.id x.patch.changes) ((P.take is.length).flatten.map (Kt x.id P x.patch.changes is is.length),0,[])).2.2) hz
   have e1:FC t (JB x P is e.1 e.2)=FC t (QX x (Kj (sortD (BP x.patch++is))) ((P.take is.length).flatten.map (Kt x.id P x.patch.changes is is.length)) e.1 e.2):=q1
   rw[←e1]
   have q2:(FC t (JB x P is e.1 e.2)).2.2≠0:=q2
   rw[if_pos q2,if_pos q2]
def R4 (n:Nat) (D l:List Int) (i:Nat):Bool:=decide (l.getD i 0 < 0)||decide ((n:Int)≤l.getD i 0)||decide (l.getD i 0∈D++l.take i)||(decide (0 < i)&&decide (l.getD i 0≤l.getD (i - 1) 0))
def Tp (n:Nat) (D l:List Int):Bool:=(List.range l.length).all fun i=>!R4 n D l i
def Fw (n:Nat):List Int→List (List Int)→Bool
 |D,[]=>decide (D.length=n)
 |D,l::ps=>Tp n D l&&decide (l≠ [])&&Fw n (D++l) ps
def RA (Q:List (List Int)) (c:Int):Int:=match Q.findIdx? fun l=>decide (c∈l)with
 |some k=>k
 |none=> -1
theorem ZF {n:Nat} {D l:List Int} (h:Tp n D l=true):(∀ c∈l,0≤c∧c < n∧c∉D)∧l.Pairwise fun a b=>a < b:=by
 have st: ∀ i (hi:i < l.length),0≤l[i]∧l[i] < n∧l[i]∉D∧(0 < i→l.getD (i - 1) 0 < l[i]):=fun i hi=>by
  have:=Bg.1 h i (Br.2 hi)
  unfold R4 at this
  rw[C0,AO hi,BU]at this
  simp only[AJ,CT,VF,A8,Aj,not_or]at this
  obtain⟨⟨⟨a,b⟩,c,_⟩,d⟩:=this
  exact⟨by omega,by omega,c,fun h0=>by rcases d with d|d<;>omega⟩
 refine⟨fun c hc=>?_,?_⟩
 ·obtain⟨i,hi,rfl⟩:=AZ.1 hc
  exact⟨(st i hi).1,(st i hi).2.1,(st i hi).2.2.1⟩
 ·refine Ay.2 fun i j hi hj hij=>?_
  obtain⟨k,rfl⟩: ∃ k,j=i+1+k:=⟨j - i - 1,by omega⟩
  induction k with
  |zero=>
   have:=(st (i+1) hj).2.2.2 (by omega)
   simpa [List.getD,show i < l.length by omega]using this
  |succ k ih=>
   have a:=ih (by omega) (by omega)
   have b:=(st (i+1+(k+1)) hj).2.2.2 (by omega)
   have e:l.getD (i+1+(k+1) - 1) 0=l[i+1+k]:=by simp[List.getD,show i+1+k < l.length by omega]
   rw[e]at b;omega
structure Rows (n:Nat) (D:List Int) (Q:List (List Int)):Prop where
 ne: ∀ l∈Q,l≠ []
 asc: ∀ l∈Q,l.Pairwise fun a b=>a < b
 lt: ∀ l∈Q,∀ c∈l,0≤c∧c < n∧c∉D
 apart:Q.Pairwise fun l m=> ∀ c∈l,c∉m
 len:(D++Q.flatten).length=n
theorem N1 {n:Nat}: ∀ {Q:List (List Int)} {D:List Int},Fw n D Q=true→Rows n D Q
 | [],D,h=>⟨fun l hl=>absurd hl Ai,fun l hl=>absurd hl Ai,fun l hl=>absurd hl Ai,.nil,by
   unfold Fw at h
   simpa using h⟩
 |l::Q,D,h=>by
  unfold Fw at h
  simp only[BW,AB]at h
  obtain⟨⟨h1,h2⟩,h3⟩:=h
  have ih:=N1 h3
  obtain⟨a,b⟩:=ZF h1
  refine⟨fun m hm=>?_,fun m hm=>?_,fun m hm=>?_,Bq.2 ⟨fun m hm c hc hcm=>?_,ih.apart⟩,?_⟩
  ·rcases AI.1 hm with rfl|hm
   ·exact h2
   ·exact ih.ne m hm
  ·rcases AI.1 hm with rfl|hm
   ·exact b
   ·exact ih.asc m hm
  ·rcases AI.1 hm with rfl|hm
   ·exact a
   ·intro c hc
    obtain⟨q1,q2,q3⟩:=ih.lt m hm c hc
    exact⟨q1,q2,fun k=>q3 (Dc _ k)⟩
  ·exact(ih.lt m hm c hcm).2.2 (EE _ hc)
  ·have:=ih.len
   rw[AU]at this
   rw[Ck];exact this
theorem O2 {n:Nat} {Q:List (List Int)} (h:Fw n [] Q=true):LG (Q.map fun l=>l.map Int.toNat) n:=by
 have r:=N1 h
 have inj: ∀ {l m:List Int},l∈Q→m∈Q→ ∀ c,c∈l.map Int.toNat→c∈m.map Int.toNat→(c:Int)∈l∧(c:Int)∈m:=fun {l m} hl hm c h1 h2=>by
  obtain⟨a,ha,rfl⟩:=AQ.1 h1
  obtain⟨b,hb,e⟩:=AQ.1 h2
  have:=r.lt l hl a ha
  have:=r.lt m hm b hb
  have:b=a:=by omega
  subst this
  have e:((b.toNat:Nat):Int)=b:=by omega
  rw[e]
  exact⟨ha,hb⟩
 have hnd:Q.flatten.Nodup:=List.pairwise_flatten.2 ⟨fun l hl=>(r.asc l hl).imp fun h=>Int.ne_of_lt h,r.apart.imp fun h x hx y hy (e:x=y)=>h x hx (e ▸ hy)⟩
 refine⟨fun l hl=>?_,fun l hl=>?_,fun l hl c hc=>?_,?_,fun c hc=>?_⟩
 ·obtain⟨m,hm,rfl⟩:=AQ.1 hl
  intro e
  exact r.ne m hm (List.map_eq_nil_iff.1 e)
 ·obtain⟨m,hm,rfl⟩:=AQ.1 hl
  refine RF.2 ((r.asc m hm).imp_of_mem fun {a b} ha hb h=>?_)
  have:=r.lt m hm a ha
  have:=r.lt m hm b hb
  omega
 ·obtain⟨m,hm,rfl⟩:=AQ.1 hl
  obtain⟨a,ha,rfl⟩:=AQ.1 hc
  have:=r.lt m hm a ha
  omega
 ·refine RF.2 (r.apart.imp_of_mem fun {l m} hl hm h c h1 h2=>?_)
  obtain⟨q1,q2⟩:=inj hl hm c h1 h2
  exact h _ q1 q2
 ·have hsub: ∀ a∈Q.flatten,a∈((List.range n).map fun i:Nat=>(i:Int)):=fun a ha=>by
   obtain⟨l,hl,hal⟩:=E9.1 ha
   have:=r.lt l hl a hal
   exact AQ.2 ⟨a.toNat,Br.2 (by omega),by omega⟩
  have hlen:=r.len
  rw[B8]at hlen
  have:(c:Int)∈Q.flatten:=by
   refine DE fun k=>?_
   have h2: ∀ a∈((c:Int)::Q.flatten),a∈((List.range n).map fun i:Nat=>(i:Int)):=fun a ha=>by
    rcases AI.1 ha with rfl|ha
    ·exact AQ.2 ⟨c,Br.2 hc,rfl⟩
    ·exact hsub a ha
   have:=QC (f:=fun _:Int=>1) (Bf.2 ⟨k,hnd⟩) h2
   simp only[Ar,DI,List.map_const',List.sum_replicate_nat,AR,H4]at this
   omega
  obtain⟨l,hl,hcl⟩:=E9.1 this
  exact⟨l.map Int.toNat,AQ.2 ⟨l,hl,rfl⟩,AQ.2 ⟨c,hcl,by omega⟩⟩
theorem Sq {n:Nat} {Q:List (List Int)} (h:Fw n [] Q=true) {c:Nat} (hc:c < n):RA Q c=K3 (Q.map fun l=>l.map Int.toNat) c:=by
 have p:=O2 h
 have r:=N1 h
 obtain⟨hk,hm⟩:=p.mem hc
 have hk':K3 (Q.map fun l=>l.map Int.toNat) c < Q.length:=by simpa using hk
 rw[BN]at hm
 obtain⟨a,ha,e⟩:=AQ.1 hm
 have:=r.lt _ (AF hk') a ha
 have e2:a=(c:Int):=by omega
 subst e2
 unfold RA
 have:Q.findIdx? (fun l=>decide ((c:Int)∈l))=some (K3 (Q.map fun l=>l.map Int.toNat) c):=by
  rw[Kv]
  refine⟨hk',BR ha,fun j hj=>?_⟩
  rw[Jq,A8]
  intro hcj
  exact Ay.1 r.apart j _ (by omega) hk' hj _ hcj ha
 rw[this]
def Eh (Q:List (List Int)):List (List Nat):=Q.map fun l=>l.map Int.toNat
def im (c:Chg):List Ident:=c.over++(if 2≤c.kind∧c.kind≤6 then [c.file]else [])++(if c.kind=2 then [c.parent]else [])++(if c.kind=5∨c.kind=6 then [c.after,c.before]else [])
theorem fu {c:Chg} {y:Ident}:y∈im c↔y∈Ct c:=by
 unfold im Ct
 simp only[Aj]
 constructor
 ·rintro(((h|h)|h)|h)
  ·exact .inr h
  ·exact .inl (.inl (.inl h))
  ·exact .inl (.inl (.inr h))
  ·exact .inl (.inr h)
 ·rintro(((h|h)|h)|h)
  ·exact .inl (.inl (.inr h))
  ·exact .inl (.inr h)
  ·exact .inr h
  ·exact .inl (.inl (.inl h))
def bj (cs:List Chg) (y:Ident):Int:=if Ea y=true∧cs≠ []then(Dz cs y.n:Int)else -1
def cN (Q:List (List Int)) (cs:List Chg):Bool:=(List.range cs.length).any fun i=>(im (cs.getD i Chg.zero)).any fun y=>decide (0≤bj cs y)&&decide (RA Q i < RA Q (bj cs y))
theorem Oi {cs:List Chg} {n:Int} (h:cs≠ []):Dz cs n < cs.length:=by
 unfold Dz
 have h1:=Dk (fun i=>decide ((CP cs i:Int)≤n)) (List.range cs.length)
 rw[H4]at h1
 have:cs.length≠0:=fun e=>h (BL e)
 omega
theorem lV {cs:List Chg} {Q:List (List Int)} (h:Fw cs.length [] Q=true):cN Q cs=Ki (Eh Q) cs:=by
 unfold cN Ki
 rw[Ih,Bu,Bu]
 refine exists_congr fun i=>and_congr_right fun hi=>?_
 have hi:=Br.1 hi
 have hne:cs≠ []:=fun e=>by rw[e]at hi;exact absurd hi (DK _)
 rw[Bu,Bu]
 refine exists_congr fun y=>?_
 rw[fu]
 refine and_congr_right fun _=>?_
 unfold bj
 by_cases ho:Ea y=true
 ·rw[if_pos ⟨ho,hne⟩,ho,Sq h hi,Sq h (Oi hne)]
  simp only[BW,AB,EK]
  unfold Eh
  omega
 ·rw[if_neg fun k=>ho k.1]
  simp[ho]
def Mf (s:List Sto) (id:Dig) (Q:List (List Int)) (ms:List Mta):List Sto × List Dig × Int:=
 match getS s id with
 |none=>([],[],7)
 |some p=>if NT s [id]=true then([],[],19)else if Fw p.changes.length [] Q=false∨ms.length≠Q.length then([],[],1)else
  if Ki (Eh Q) p.changes=true then([],[],9)else Wh ⟨id,p⟩ (Eh Q) ((Eh Q).zip ms) (Ju s [id]) []
def ar (s:List Sto) (id:Dig) (Q:List (List Int)) (ms:List Mta):List Sto × List Dig × Int:=
 match getS s id with
 |none=>([],[],7)
 |some p=>if NT s [id]=true then([],[],19)else if Fw p.changes.length [] Q=false∨ms.length≠Q.length then([],[],1)else
  if cN Q p.changes=true then([],[],9)else ni ⟨id,p⟩ ((Eh Q).zip ms) (Ju s [id]) [] (BP p) []
theorem Kc (Q:List (List Int)):(Eh Q).length=Q.length:=by simp[Eh]
theorem dA {α β:Type}: ∀ {l:List α} {m:List β},m.length=l.length→(l.zip m).map (·.1)=l
 | [],_,_=>by simp
 |a::l,[],h=>by simp at h
 |a::l,b::m,h=>by
  rw[List.zip_cons_cons,Ar,dA (by simpa using h)]
structure Sv (Q:List (List Int)) (ms:List Mta):Prop where
 parts:Q.length≤8
 metas: ∀ m∈ms,m.author.length≤60∧m.message.length≤60
theorem NA {s:List Sto} (hg:Fv s=false):s.length≤8∧ ∀ x∈s,Fk x.patch=false∧(x.patch.changes.map Iq).sum≤2000:=by
 unfold Fv at hg
 simp only[CT,A8,Bl]at hg
 obtain⟨⟨h1,h2⟩,h3⟩:=hg
 have ht:s.take 9=s:=AE (by omega)
 rw[ht]at h1 h3
 refine⟨by omega,fun x hx=>⟨by simpa using h1 x hx,?_⟩⟩
 have:=IM (f:=vX) hx
 have e:vX x=(x.patch.changes.map Iq).sum:=rfl
 omega
theorem VL {s:List Sto} (hg:Fv s=false) {x:Sto} (hx:x∈s) {Q:List (List Int)} {ms:List Mta} (z:Sv Q ms):Oy s x (Eh Q) ((Eh Q).zip ms):=by
 obtain⟨g1,g2⟩:=NA hg
 exact⟨(g2 x hx).1,(g2 x hx).2,g1,by rw[Kc];exact z.parts,fun e he=>z.metas _ (List.of_mem_zip he).2⟩
theorem YI {s:List Sto} (v:BH s) {x:Sto} (hx:x∈s) (h:NT s [x.id]=false):KI s x (Ju s [x.id]) []:=by
 refine⟨v.out h,by have:(Ju s [x.id]).length≤s.length:=Dk _ _;simpa using this,fun d hd=>absurd hd Ai,fun d hd hne=>?_⟩
 obtain⟨y,hy,rfl⟩:=AQ.1 hd
 exact AQ.2 ⟨y,Qb.2 ⟨hy,by simpa using hne⟩,rfl⟩
theorem dH {s:List Sto} (v:BH s) {x:Sto} (hx:x∈s) {Q:List (List Int)} (hQ:Fw x.patch.changes.length [] Q=true) (he:Ki (Eh Q) x.patch.changes=false):HZ s x (Eh Q):=⟨v,hx,O2 hQ,he⟩
theorem jA {s:List Sto} (v:BH s) (hg:Fv s=false) (id:Dig) {Q:List (List Int)} {ms:List Mta} (z:Sv Q ms):Mf s id Q ms=ar s id Q ms:=by
 unfold Mf ar
 cases hp:getS s id with
 |none=>rfl
 |some p=>
  dsimp only
  have hx:(⟨id,p⟩:Sto)∈s:=Rv hp
  by_cases h1:NT s [id]=true
  ·rw[if_pos h1,if_pos h1]
  rw[if_neg h1,if_neg h1]
  by_cases h2:Fw p.changes.length [] Q=false∨ms.length≠Q.length
  ·rw[if_pos h2,if_pos h2]
  rw[if_neg h2,if_neg h2]
  have hQ:Fw p.changes.length [] Q=true:=by
   cases hq:Fw p.changes.length [] Q with
   |true=>rfl
   |false=>exact absurd (.inl hq) h2
  have hl:ms.length=Q.length:=DE fun k=>h2 (.inr k)
  rw[lV hQ]
  by_cases h3:Ki (Eh Q) p.changes=true
  ·rw[if_pos h3,if_pos h3]
  rw[if_neg h3,if_neg h3]
  have ok:=dH v hx hQ (by simpa using h3)
  have:=ok.loop ((Eh Q).zip ms) [] (Ju s [id]) (VL hg hx z) (by rw[dA (by rw[Kc];exact hl)];rfl) (YI v hx (by simpa using h1)) (.inl ⟨fun d hd=>absurd hd Ai,.nil,fun d hd=>absurd hd Ai⟩)
  rw[this]
  congr 1
  refine((Ic _).1.ext (JG p) fun d=>?_)
  rw[(Ic _).2,BX]
theorem XT {t:List Sto} {x:Sto} (v:BH (Kb t x)):getS (Kb t x) x.id=some x.patch:=v.getS (HC.2 (.inl rfl))
def P3 (r:List Ident × List Ident) (a:Atm):List Ident × List Ident:=
 if a.id∈r.1 then r else(if a.kind=7 then r.1++a.over else r.1,r.2++a.over)
def GM (l:List Atm):List Ident × List Ident:=l.foldl P3 ([],[])
def Xw (l:List Atm):Prop:= ∀ i (hi:i < l.length) j (hj:j < l.length),l[i].id∈l[j].over→j < i
theorem ZO: ∀ (l:List Atm) (r:List Ident × List Ident) (x:Ident),x∈r.1→x∈(l.foldl P3 r).1
 | [],_,_,h=>h
 |a::l,r,x,h=>by
  refine ZO l _ x ?_
  unfold P3
  split
  ·exact h
  ·dsimp only
   split
   ·exact Dc _ h
   ·exact h
theorem ZP: ∀ (l:List Atm) (r:List Ident × List Ident) (x:Ident),x∈(l.foldl P3 r).1→x∈r.1∨ ∃ b∈l,x∈b.over
 | [],_,_,h=> .inl h
 |a::l,r,x,h=>by
  rcases ZP l _ x h with h|⟨b,hb,hx⟩
  ·unfold P3 at h
   split at h
   ·exact .inl h
   ·dsimp only at h
    split at h
    ·rcases Aj.1 h with h|h
     ·exact .inl h
     ·exact .inr ⟨a,AG,h⟩
    ·exact .inl h
  ·exact .inr ⟨b,AH _ hb,hx⟩
def iH (l:List Atm) (x:Ident):Prop:=x∉(GM l).1
theorem ZN {l:List Atm} (hl:Xw l): ∀ k,k≤l.length→ ∀ x,(x∈(GM (l.take k)).1↔ ∃ i,∃ hi:i < l.length,i < k∧iH l l[i].id∧l[i].kind=7∧x∈l[i].over)∧(x∈(GM (l.take k)).2↔ ∃ i,∃ hi:i < l.length,i < k∧iH l l[i].id∧x∈l[i].over):=by
 intro k
 induction k with
 |zero=>
  intro _ x
  constructor
  ·constructor
   ·intro h;simp[GM]at h
   ·rintro⟨i,_,h,_⟩;omega
  ·constructor
   ·intro h;simp[GM]at h
   ·rintro⟨i,_,h,_⟩;omega
 |succ k ih=>
  intro hk x
  have hlt:k < l.length:=by omega
  obtain⟨i1,i2⟩:=ih (by omega) x
  have e:GM (l.take (k+1))=P3 (GM (l.take k)) l[k]:=by
   unfold GM
   rw[A7 hlt,BO];rfl
  have now:l[k].id∈(GM (l.take k)).1↔ ¬iH l l[k].id:=by
   unfold iH
   constructor
   ·intro h h'
    apply h'
    have e2:GM l=(l.drop k).foldl P3 (GM (l.take k)):=by
     unfold GM
     rw[←BO,Bm]
    rw[e2]
    exact ZO _ _ _ h
   ·intro h
    have h:=Cy.1 h
    have e2:GM l=(l.drop k).foldl P3 (GM (l.take k)):=by
     unfold GM
     rw[←BO,Bm]
    rw[e2]at h
    rcases ZP _ _ _ h with h|⟨b,hb,hx⟩
    ·exact h
    ·exfalso
     obtain⟨j,hj,rfl⟩:=AZ.1 hb
     rw[B5]at hj
     rw[H5]at hx
     have:=hl k hlt (k+j) (by omega) hx
     omega
  rw[e]
  unfold P3
  by_cases he:iH l l[k].id
  ·rw[if_neg fun h=>now.1 h he]
   dsimp only
   constructor
   ·by_cases h7:l[k].kind=7
    ·rw[if_pos h7,Aj,i1]
     constructor
     ·rintro(⟨i,hi,a,b⟩|h)
      ·exact⟨i,hi,by omega,b⟩
      ·exact⟨k,hlt,by omega,he,h7,h⟩
     ·rintro⟨i,hi,a,b,c,d⟩
      rcases B9 i k with h|h
      ·exact .inl ⟨i,hi,h,b,c,d⟩
      ·have:i=k:=by omega
       subst this;exact .inr d
    ·rw[if_neg h7,i1]
     constructor
     ·rintro⟨i,hi,a,b⟩;exact⟨i,hi,by omega,b⟩
     ·rintro⟨i,hi,a,b,c,d⟩
      rcases B9 i k with h|h
      ·exact⟨i,hi,h,b,c,d⟩
      ·have:i=k:=by omega
       subst this;exact absurd c h7
   ·rw[Aj,i2]
    constructor
    ·rintro(⟨i,hi,a,b⟩|h)
     ·exact⟨i,hi,by omega,b⟩
     ·exact⟨k,hlt,by omega,he,h⟩
    ·rintro⟨i,hi,a,b,d⟩
     rcases B9 i k with h|h
     ·exact .inl ⟨i,hi,h,b,d⟩
     ·have:i=k:=by omega
      subst this;exact .inr d
  ·rw[if_pos (now.2 he)]
   constructor
   ·rw[i1]
    constructor
    ·rintro⟨i,hi,a,b⟩;exact⟨i,hi,by omega,b⟩
    ·rintro⟨i,hi,a,b,c,d⟩
     rcases B9 i k with h|h
     ·exact⟨i,hi,h,b,c,d⟩
     ·have:i=k:=by omega
      subst this;exact absurd b he
   ·rw[i2]
    constructor
    ·rintro⟨i,hi,a,b⟩;exact⟨i,hi,by omega,b⟩
    ·rintro⟨i,hi,a,b,d⟩
     rcases B9 i k with h|h
     ·exact⟨i,hi,h,b,d⟩
     ·have:i=k:=by omega
      subst this;exact absurd b he
theorem Ss {l:List Atm} (hl:Xw l) (x:Ident):iH l x↔ ¬ ∃ b∈l,iH l b.id∧b.kind=7∧x∈b.over:=by
 have:=(ZN hl l.length (Ah _) x).1
 rw[AE (Ah _)]at this
 unfold iH at this ⊢
 rw[this]
 refine not_congr ⟨?_,?_⟩
 ·rintro⟨i,hi,_,h⟩;exact⟨l[i],AF hi,h⟩
 ·rintro⟨b,hb,h⟩
  obtain⟨i,hi,rfl⟩:=AZ.1 hb
  exact⟨i,hi,hi,h⟩
theorem Zz {l:List Atm} (hl:Xw l) (x:Ident):x∈(GM l).2↔ ∃ b∈l,iH l b.id∧x∈b.over:=by
 have:=(ZN hl l.length (Ah _) x).2
 rw[AE (Ah _)]at this
 rw[this]
 constructor
 ·rintro⟨i,hi,_,h⟩;exact⟨l[i],AF hi,h⟩
 ·rintro⟨b,hb,h⟩
  obtain⟨i,hi,rfl⟩:=AZ.1 hb
  exact⟨i,hi,hi,h⟩
structure aN (l m:List Atm) (φ:Ident→Ident):Prop where
 to: ∀ a∈l,∃ b∈m,b.id=φ a.id∧b.kind=a.kind∧ ∀ c∈l,c.id∈a.over↔φ c.id∈b.over
 from_: ∀ b∈m,∃ a∈l,b.id=φ a.id∧b.kind=a.kind∧ ∀ c∈l,c.id∈a.over↔φ c.id∈b.over
theorem aN.eff {l m:List Atm} {φ:Ident→Ident} (h:aN l m φ) (hl:Xw l) (hm:Xw m): ∀ k i (hi:i < l.length),i≤k→(iH l l[i].id↔iH m (φ l[i].id)):=by
 intro k
 induction k with
 |zero=>
  intro i hi hk
  have h0:i=0:=by omega
  subst h0
  rw[Ss hl,Ss hm]
  refine not_congr ⟨?_,?_⟩
  ·rintro⟨b,hb,_,_,hx⟩
   obtain⟨j,hj,rfl⟩:=AZ.1 hb
   exact absurd (hl 0 hi j hj hx) (DK _)
  ·rintro⟨b,hb,_,_,hx⟩
   obtain⟨a,ha,_,_,e3⟩:=h.from_ b hb
   have:=(e3 _ (AF hi)).2 hx
   obtain⟨j,hj,rfl⟩:=AZ.1 ha
   exact absurd (hl 0 hi j hj this) (DK _)
 |succ k ih=>
  intro i hi hk
  rw[Ss hl,Ss hm]
  refine not_congr ⟨?_,?_⟩
  ·rintro⟨a,ha,he,h7,hx⟩
   obtain⟨b,hb,e1,e2,e3⟩:=h.to a ha
   obtain⟨j,hj,rfl⟩:=AZ.1 ha
   have hji:=hl i hi j hj hx
   exact⟨b,hb,by rw[e1];exact(ih j hj (by omega)).1 he,by rw[e2];exact h7,(e3 _ (AF hi)).1 hx⟩
  ·rintro⟨b,hb,he,h7,hx⟩
   obtain⟨a,ha,e1,e2,e3⟩:=h.from_ b hb
   have hx':=(e3 _ (AF hi)).2 hx
   obtain⟨j,hj,rfl⟩:=AZ.1 ha
   have hji:=hl i hi j hj hx'
   exact⟨l[j],ha,(ih j hj (by omega)).2 (by rw[←e1];exact he),by rw[←e2];exact h7,hx'⟩
theorem aN.dead {l m:List Atm} {φ:Ident→Ident} (h:aN l m φ) (hl:Xw l) (hm:Xw m) {c:Atm} (hc:c∈l):c.id∈(GM l).2↔φ c.id∈(GM m).2:=by
 have eff: ∀ a∈l,(iH l a.id↔iH m (φ a.id)):=fun a ha=>by
  obtain⟨i,hi,rfl⟩:=AZ.1 ha
  exact h.eff hl hm i i hi (Ah _)
 rw[Zz hl,Zz hm]
 constructor
 ·rintro⟨a,ha,he,hx⟩
  obtain⟨b,hb,e1,_,e3⟩:=h.to a ha
  exact⟨b,hb,by rw[e1];exact(eff a ha).1 he,(e3 c hc).1 hx⟩
 ·rintro⟨b,hb,he,hx⟩
  obtain⟨a,ha,e1,_,e3⟩:=h.from_ b hb
  exact⟨a,ha,(eff a ha).2 (by rw[←e1];exact he),(e3 c hc).2 hx⟩
def atmS (s:List Sto) (d:Dig):List Atm:=(El ((getS s d).getD Pat.zero)).1
def Lj (s:List Sto):List Atm:=((BK s).flatMap (atmS s)).reverse
theorem BH.atmS {s:List Sto} (v:BH s) {x:Sto} (hx:x∈s):Go.Proofs.atmS s x.id=(C9 x.patch).1.map (fP x.id):=by
 have h:=v.id x hx
 have h3:(Kq x.patch).2.2=0:=by rw[Tc];exact h.1
 unfold Go.Proofs.atmS El
 rw[v.getS hx,BU,if_neg (by simp[h3]),if_neg (by simp[h.1]),(So h3).1,h.2]
theorem Vx: ∀ (l:List Chg) (own:List Atm),∃ m,l.foldl (fun own c=>own++Ca c own.length) own=own++m
 | [],own=>⟨[],by simp⟩
 |c::l,own=>by
  obtain⟨m,e⟩:=Vx l (own++Ca c own.length)
  exact⟨Ca c own.length++m,by rw[BM,e,AU]⟩
theorem NY.atom {p:Pat} (h:NY p) {i:Nat} (hi:i < p.changes.length) {k:Nat} (hk:k < cntC p.changes[i]):(C9 p).1[CP p.changes i+k]? =(Ca p.changes[i] (CP p.changes i))[k]?:=by
 have e:p.changes=p.changes.take i++p.changes[i]::p.changes.drop (i+1):=by rw[←CH hi,Bm]
 have hl:=Rf p.changes i
 obtain⟨m,hm⟩:=Vx (p.changes.drop (i+1)) (QZ p.changes i++Ca p.changes[i] (QZ p.changes i).length)
 have:(C9 p).1=QZ p.changes i++(Ca p.changes[i] (CP p.changes i)++m):=by
  rw[h.made]
  conv=>lhs;rw[e,BO,BM]
  unfold QZ at hm hl ⊢
  rw[hm,hl,AU]
 rw[this,EI (by omega),hl,zM,Cf (by rw[IW];exact hk)]
theorem NY.split {p:Pat} (h:NY p) {n:Nat} (hn:n < Hg p): ∃ i,∃ hi:i < p.changes.length,∃ k,k < cntC p.changes[i]∧n=CP p.changes i+k:=by
 rw[h.cnt]at hn
 obtain⟨i,hi,a,b⟩:=XH p.changes (n:Int) (by omega) p.changes.length (Ah _) (by omega)
 rw[HX hi]at b
 exact⟨i,hi,n - CP p.changes i,by omega,by omega⟩
theorem NY.lt {p:Pat} (h:NY p) {i:Nat} (hi:i < p.changes.length) {k:Nat} (hk:k < cntC p.changes[i]):CP p.changes i+k < Hg p:=by
 have a:=HX hi
 have b:=Ej p.changes (show i+1≤p.changes.length by omega)
 rw[h.cnt];omega
def fc (c:Chg):List Ident:=if c.kind=2∨c.kind=3∨c.kind=4∨c.kind=6∨c.kind=7 then c.over else []
theorem Oj {c:Chg} {n:Int} {a:Atm} (h:a∈Ca c n):a.over=fc c:=by
 unfold Ca at h
 unfold fc
 repeat' split at h
 all_goals simp only[An,Aj,AQ]at h
 all_goals first
  |(subst h;rename_i e;simp only[e];rfl)
  |(rcases h with ⟨_,_,rfl⟩|⟨_,_,rfl⟩<;>(rw[if_neg (by omega)];rfl))
theorem Vo (f:Ident→Ident) (c:Chg) (n n':Int):(Ca (Eo f c) n').map (fun a=>(a.kind,a.type,a.name,a.mode,a.data,a.text))=(Ca c n).map fun a=>(a.kind,a.type,a.name,a.mode,a.data,a.text):=by
 unfold Ca
 have hk:(Eo f c).kind=c.kind:=rfl
 have hl:(Eo f c).lines=c.lines:=rfl
 rw[hk,hl]
 repeat' split
 all_goals first
  |rfl
  |(simp only[Ak,CG];rfl)
theorem Qs (d:Dig) (a:Atm):(fP d a).id=Cr a.id d∧(fP d a).kind=a.kind∧(fP d a).type=a.type∧(fP d a).name=a.name∧(fP d a).mode=a.mode∧(fP d a).data=a.data∧(fP d a).text=a.text∧(fP d a).over=sortI (a.over.map fun y=>Cr y d):=by
 unfold fP ub mu mw my gg
 dsimp only
 by_cases h7:a.kind=7
 ·simp[h7]
 by_cases h2:a.kind=2
 ·simp[h2]
 by_cases h6:a.kind=6
 ·simp[h6]
 simp[h7,h2,h6]
def IQ (x:Sto) (i k:Nat):Atm:=fP x.id ((Ca (x.patch.changes.getD i Chg.zero) (CP x.patch.changes i)).getD k Atm.zero)
theorem Qn {cs:List Chg} {i:Nat} (h:i < cs.length):cs.getD i Chg.zero=cs[i]:=by simp[List.getD,h]
theorem S8 {x:Sto} {i:Nat} (hi:i < x.patch.changes.length) {k:Nat} (hk:k < cntC x.patch.changes[i]): ∃ a∈Ca x.patch.changes[i] (CP x.patch.changes i),IQ x i k=fP x.id a∧a.id=⟨Dig.zero,CP x.patch.changes i+k⟩:=by
 have hl:k < (Ca x.patch.changes[i] (CP x.patch.changes i)).length:=by rw[IW];exact hk
 refine⟨(Ca x.patch.changes[i] (CP x.patch.changes i))[k],AF hl,?_,Vg _ _ k hl⟩
 unfold IQ
 rw[Qn hi,C0,AO hl,BU]
theorem J2 {x:Sto} {i:Nat} (hi:i < x.patch.changes.length) {k:Nat} (hk:k < cntC x.patch.changes[i]):(IQ x i k).id=⟨x.id,(CP x.patch.changes i+k:Nat)⟩:=by
 obtain⟨a,_,e,hid⟩:=S8 hi hk
 rw[e,(Qs x.id a).1,hid]
 unfold Cr
 rw[if_pos ⟨rfl,by dsimp only;omega⟩]
 dsimp only
 congr 1
theorem Ox {x:Sto} {i:Nat} (hi:i < x.patch.changes.length) {k:Nat} (hk:k < cntC x.patch.changes[i]) {w:Ident}:w∈(IQ x i k).over↔ ∃ y∈fc x.patch.changes[i],w=Cr y x.id:=by
 obtain⟨a,ha,e,_⟩:=S8 hi hk
 rw[e,(Qs x.id a).2.2.2.2.2.2.2,OV,AQ,Oj ha]
 exact⟨fun⟨y,hy,e⟩=>⟨y,hy,e.symm⟩,fun⟨y,hy,e⟩=>⟨y,hy,e.symm⟩⟩
theorem BH.at_get {s:List Sto} (v:BH s) {x:Sto} (hx:x∈s) {i:Nat} (hi:i < x.patch.changes.length) {k:Nat} (hk:k < cntC x.patch.changes[i]):(Go.Proofs.atmS s x.id)[CP x.patch.changes i+k]? =some (IQ x i k):=by
 have hp:=EN (Fj (v.id x hx).1).1
 have hl:k < (Ca x.patch.changes[i] (CP x.patch.changes i)).length:=by rw[IW];exact hk
 rw[v.atmS hx,EW,hp.atom hi hk,AO hl,Ed]
 unfold IQ
 rw[Qn hi,C0,AO hl,BU]
theorem BH.at_len {s:List Sto} (v:BH s) {x:Sto} (hx:x∈s):(Go.Proofs.atmS s x.id).length=Hg x.patch:=by
 rw[v.atmS hx,AR];rfl
theorem BH.mem_at {s:List Sto} (v:BH s) {x:Sto} (hx:x∈s) {a:Atm}:a∈Go.Proofs.atmS s x.id↔ ∃ i,∃ hi:i < x.patch.changes.length,∃ k,k < cntC x.patch.changes[i]∧a=IQ x i k:=by
 have hp:=EN (Fj (v.id x hx).1).1
 constructor
 ·intro h
  obtain⟨n,hn,e⟩:=List.mem_iff_getElem?.1 h |>.imp fun n e=>(⟨(Bb.1 e).1,e⟩: ∃ _:n < (Go.Proofs.atmS s x.id).length,_)
  rw[v.at_len hx]at hn
  obtain⟨i,hi,k,hk,rfl⟩:=hp.split hn
  rw[v.at_get hx hi hk]at e
  exact⟨i,hi,k,hk,(CN e).symm⟩
 ·rintro⟨i,hi,k,hk,rfl⟩
  exact List.mem_of_getElem? (v.at_get hx hi hk)
theorem BH.mem_seq {s:List Sto} (v:BH s) {a:Atm}:a∈Lj s↔ ∃ x∈s,∃ i,∃ hi:i < x.patch.changes.length,∃ k,k < cntC x.patch.changes[i]∧a=IQ x i k:=by
 unfold Lj
 rw[List.mem_reverse,Sj]
 constructor
 ·rintro⟨d,hd,ha⟩
  obtain⟨x,hx,rfl⟩:=AQ.1 ((C8 s).sub d hd)
  exact⟨x,hx,(v.mem_at hx).1 ha⟩
 ·rintro⟨x,hx,h⟩
  exact⟨x.id,v.mem_order (AQ.2 ⟨x,hx,rfl⟩),(v.mem_at hx).2 h⟩
theorem Qa {c:Chg} {y:Ident} (h:y∈fc c):y∈c.over:=by
 unfold fc at h
 split at h
 ·exact h
 ·cases h
theorem BH.over_at {s:List Sto} (v:BH s) {x:Sto} (hx:x∈s) {i:Nat} (hi:i < x.patch.changes.length) {y:Ident} (hy:y∈x.patch.changes[i].over):
  (y.patch=Dig.zero∧0≤y.n∧y.n < CP x.patch.changes i∧Cr y x.id=⟨x.id,y.n⟩)∨(y.patch≠Dig.zero∧Cr y x.id=y∧y.patch∈BP x.patch∧y.patch≠x.id∧ ∃ z∈s,z.id=y.patch∧0≤y.n∧y.n < Hg z.patch):=by
 have hp:=EN (Fj (v.id x hx).1).1
 have hc:=AF hi
 obtain⟨u1,u2⟩:=(v.uses hx hc).over y hy
 have u3:=(Pb (hp.refs i hi)).over y hy
 rw[Rf]at u3
 by_cases hz:y.patch=Dig.zero
 ·refine .inl ⟨hz,u1.1,u3.2 hz,?_⟩
  unfold Cr
  rw[if_pos ⟨hz,u1.1⟩]
 ·refine .inr ⟨hz,?_,?_,?_,u2 hz⟩
  ·unfold Cr
   rw[if_neg fun k=>hz k.1]
  ·exact JW (v.id x hx).1 hc (by simp[Ks,hy]) (by simp[FM,hz])
  ·exact(v.not_self hx hc (by simp[Ks,hy])).elim (fun k=>k) fun k=>absurd k hz
theorem kt {l:List Atm} (h1:l.Pairwise fun a b=>b.id∉a.over) (h2: ∀ a∈l,a.id∉a.over):Xw l.reverse:=by
 intro i hi j hj h
 rw[List.length_reverse]at hi hj
 rw[Y1,Y1]at h
 refine DE fun k=>?_
 rcases Nat.eq_or_lt_of_le (Nat.le_of_not_lt k)with e|e
 ·subst e
  exact h2 _ (AF _) h
 ·exact Ay.1 h1 (l.length - 1 - j) (l.length - 1 - i) (by omega) (by omega) (by omega) h
theorem BH.late {s:List Sto} (v:BH s):Xw (Lj s):=by
 have bound: ∀ x∈s,∀ i (hi:i < x.patch.changes.length) k,k < cntC x.patch.changes[i]→ ∀ w∈(IQ x i k).over,w.patch=x.id→w.n < (CP x.patch.changes i:Int)+k:=fun x hx i hi k hk w hw e=>by
  obtain⟨y,hy,rfl⟩:=(Ox hi hk).1 hw
  rcases v.over_at hx hi (Qa hy)with ⟨_,_,b,e2⟩|⟨_,e2,_,b,_⟩
  ·rw[e2];dsimp only;omega
  ·rw[e2]at e;exact absurd e b
 refine kt ?_ fun a ha=>?_
 ·refine List.pairwise_flatMap.2 ⟨fun d hd=>?_,?_⟩
  ·obtain⟨x,hx,rfl⟩:=AQ.1 ((C8 s).sub d hd)
   have hp:=EN (Fj (v.id x hx).1).1
   refine Ay.2 fun p q hq1 hq2 hpq h=>?_
   have l1:=hq1
   have l2:=hq2
   rw[v.at_len hx]at l1 l2
   obtain⟨i,hi,k,hk,e1⟩:=hp.split l1
   obtain⟨j,hj,m,hm,e2⟩:=hp.split l2
   have g1:=v.at_get hx hi hk
   have g2:=v.at_get hx hj hm
   rw[←e1,AO hq1]at g1
   rw[←e2,AO hq2]at g2
   rw[CN g1,CN g2,J2 hj hm]at h
   have:=bound x hx i hi k hk _ h rfl
   dsimp only at this
   omega
  ·refine Ay.2 fun p q hp hq hpq a ha b hb h=>?_
   obtain⟨x,hx,ex⟩:=AQ.1 ((C8 s).sub _ (AF hp))
   obtain⟨z,hz,ez⟩:=AQ.1 ((C8 s).sub _ (AF hq))
   have hnd:=(C8 s).nodup
   rw[←ex]at ha
   rw[←ez]at hb
   obtain⟨i,hi,k,hk,rfl⟩:=(v.mem_at hx).1 ha
   obtain⟨j,hj,m,hm,rfl⟩:=(v.mem_at hz).1 hb
   rw[J2 hj hm]at h
   obtain⟨y,hy,e⟩:=(Ox hi hk).1 h
   have hne:z.id≠x.id:=fun e=>by
    rw[ex,ez]at e
    have:=(ma hnd).1 e
    omega
   rcases v.over_at hx hi (Qa hy)with ⟨_,_,_,e2⟩|⟨_,e2,n,_,_⟩
   ·rw[e2]at e
    exact hne (congrArg Ident.patch e)
   ·rw[e2]at e
    rw[←congrArg Ident.patch e]at n
    have r:=v.rank hx n
    dsimp only at r
    have r1:PF s x.id≤p:=by
     rw[ex];exact SP hp
    have r2:PF s z.id=q:=by
     have hlt:(BK s).idxOf z.id < (BK s).length:=sa (v.mem_order (AQ.2 ⟨z,hz,rfl⟩))
     exact(ma hnd).1 ((List.getElem_idxOf hlt).trans ez)
    omega
 ·obtain⟨d,hd,ha⟩:=Sj.1 ha
  obtain⟨x,hx,rfl⟩:=AQ.1 ((C8 s).sub d hd)
  obtain⟨i,hi,k,hk,rfl⟩:=(v.mem_at hx).1 ha
  intro h
  rw[J2 hi hk]at h
  have:=bound x hx i hi k hk _ h rfl
  dsimp only at this
  omega
end Go.Proofs
namespace Go.Q
open Go
section
variable {P:Program} {N:Nat} {all:Array Oper} {K:Env→List Res→Prop} {fl:List Bool} {os:List Oper} {ρ:Env} {L:List Res}
variable {d:Nat} {ty:TypeId} {pos:String} {af:Array Edge}
theorem kf (u:Value) (n:Nat):madeCells #[u] (n*1)=(List.replicate n u).toArray:=by
 refine Array.ext (by simp[madeCells]) fun i h1 h2=>?_
 simp[madeCells,Nat.mod_one]
theorem rA {T E by_:Nat} {z:PV} [hT:MO P T E] [hE:EZ P E 1 by_] [hZ:Cp P E [z]] {x y:Operand} {k k':IntKind} {n:Nat} (hx:ρ.ev x= .raw (.int k (n:Int))) (hy:ρ.ev y= .raw (.int k' (n:Int))) (hb:by_*n≤140737488355328) (hn:n≤140737488355328)
  (kk: ∀ b,AV P N all K fl.tail os (CV ρ d (.raw (.slice (some ⟨b,0,none⟩) n n))) (.box b E (List.replicate n z)::L)) (hd:Nat.blt d N=true:=by rfl) (hf:fl.headD true=true:=by rfl):
  AV P N all K fl (⟨some d,.makeSlice T x y,ty,pos,af,none⟩::os) ρ L:=
 Da rfl (PO hd) hf (fun a w g ha hi=>by
  have h1:=Cd ha (x:=x) (by simp[Op.operands]) hx
  have h2:=Cd ha (x:=y) (by simp[Op.operands]) hy
  obtain⟨i,e1,e2,e3⟩:=hE.out
  obtain⟨i',v,us,q1,q2,q3,q4⟩:=hZ.out
  rw[e1]at q1
  obtain rfl:=CN q1
  obtain⟨u,rfl⟩: ∃ u,us= [u]:=by
   have:=(q4 g).len
   match us,this with
   | [u],_=>exact⟨u,rfl⟩
  have hu:=(q4 g).uncons.1
  have hv:EB g (List.replicate n u) (List.replicate n z):=⟨by simp,fun i k1 k2=>by
   rw[A08,A08];exact hu⟩
  obtain⟨i1,i2,i3⟩:=hi.alloc hv E
  have hr:(execOp a.eval ⟨some d,.makeSlice T x y,ty,pos,af,none⟩).run P w= .ok (.value (.slice (some ⟨w.heap.size,0,none⟩) n n)) { w with heap:=w.heap.push (.cells (List.replicate n u).toArray E (0,0)) }:=by
   have hbb:(i.bytes:Int)*(n:Int)≤281474976710656:=by
    rw[e3,←qi];omega
   have hm:=run_make (P:=P) w T E i v hT.out e1 q2 k k' n n (by omega) (by omega) hbb (by omega)
   rw[q3,e2,Dx]at hm
   have hm2:madeCells [u].toArray (n*1)=(List.replicate n u).toArray:=kf u n
   rw[hm2]at hm
   simp only[execOp,h1,h2,Sem.run_bind,hm,Result.andThen_ok,Sem.run_pure]
   rfl
  refine Oper.wq_of_run hr ?_
  exact⟨_,_,g,_,rfl,.raw _,i1,i2,i3,kk _⟩)
theorem we {α:Type} {vf:α→List Value} {T E sz by_:Nat} {z:List PV} [hT:MO P T E] [hE:EZ P E sz by_] [hZ:Cp P E z] {x y:Operand} {k k':IntKind} {c:Nat} (hx:ρ.ev x= .raw (.int k 0)) (hy:ρ.ev y= .raw (.int k' (c:Int))) (hb:by_*c≤140737488355328) (hn:c≤140737488355328)
  (kk: ∀ v R,Jy vf E sz v [] R→AV P N all K fl.tail os (CV ρ d (.raw v)) (R++L)) (hd:Nat.blt d N=true:=by rfl) (hf:fl.headD true=true:=by rfl):
  AV P N all K fl (⟨some d,.makeSlice T x y,ty,pos,af,none⟩::os) ρ L:=
 Da rfl (PO hd) hf (fun a w g ha hi=>by
  have h1:=Cd ha (x:=x) (by simp[Op.operands]) hx
  have h2:=Cd ha (x:=y) (by simp[Op.operands]) hy
  obtain⟨i,e1,e2,e3⟩:=hE.out
  obtain⟨i',v,us,q1,q2,q3,q4⟩:=hZ.out
  rw[e1]at q1
  obtain rfl:=CN q1
  obtain⟨i1,s1⟩:=hi.allocO (.cells (madeCells v.cells (c*sz)) E (0,0))
  obtain⟨f1,f2⟩:=hi.fresh (b:=w.heap.size) (Ah _)
  have hnew:w.heap.size∉Al L:=fun h=>by have:=hi.lt h;omega
  have i2:=i1.addRaw (l:=w.heap.size) (o:= .cells (madeCells v.cells (c*sz)) E (0,0)) (by show(w.heap.push _)[w.heap.size]? =_;simp) f1 f2 hnew
  have hr:(execOp a.eval ⟨some d,.makeSlice T x y,ty,pos,af,none⟩).run P w= .ok (.value (.slice (some ⟨w.heap.size,0,none⟩) 0 c)) (w.alloc (.cells (madeCells v.cells (c*sz)) E (0,0))):=by
   have hbb:(i.bytes:Int)*(c:Int)≤281474976710656:=by
    rw[e3,←qi];omega
   have hm:=run_make (P:=P) w T E i v hT.out e1 q2 k k' 0 c (by omega) (by omega) hbb (by omega)
   rw[e2,Dx]at hm
   simp only[execOp,h1,h2,Sem.run_bind,hm,Result.andThen_ok,Sem.run_pure]
   rfl
  refine Oper.wq_of_run hr ?_
  refine⟨_,_,g,_,rfl,.raw _,i2,?_,?_,kk _ [.raw w.heap.size (.cells (madeCells v.cells (c*sz)) E (0,0))] ?_⟩
  ·exact s1
  ·intro b hb hlt'
   rcases AI.1 (show b∈w.heap.size::Al L from by simpa [Al,Res.block]using hb)with rfl|hb
   ·omega
   ·exact hb
  ·unfold Jy
   exact .row (by simp) (by rw[size_madeCells]) (by simp) (by simp))
theorem ZE {o:Oper} {Ψ Ψ':PV→List Res→Prop} (h:Fc P o ρ L Ψ) (k: ∀ x L',Ψ x L'→ ∃ L'',L'.Perm L''∧Ψ' x L''):Fc P o ρ L Ψ':=
 fun a w g ha hi=>(h a w g ha hi).mono fun _ _ ⟨v,x,g',L',h1,h2,h3,h4,h5,h6⟩=>by
  obtain⟨L'',q1,q2⟩:=k _ _ h6
  exact⟨v,x,g',L'',h1,h2,h3.perm q1,h4,fun b hb hlt=>h5 b ((DV q1).symm.subset hb) hlt,q2⟩
theorem Bx {x:Operand} {xs:List Operand} {xa:Array Operand} {ats:Array TypeId} {f:Nat} {cs args:List PV} (L₁ LF:List Res) [hf:Az P f] (F:List Res→List Res)
  (hx:Le (ρ.ev x) (.clo f cs)) (hxa:xa=xs.toArray) (hargs:xs.map ρ.ev++cs=args) (hp:L.Perm (L₁++LF)) (R:PV→List Res→Prop) (hc:BA P f args L₁ R) (hq: ∀ L',(L'++LF).Perm (F L')) (k: ∀ r L',R r L'→AV P N all K fl.tail os (CV ρ d r) (F L')) (hd:Nat.blt d N=true:=by rfl) (hfl:fl.headD true=true:=by rfl):
  AV P N all K fl (⟨some d,.call { callee:= .value x,args:=xa,argTypes:=ats },ty,pos,af,none⟩::os) ρ L:=by
 subst hxa
 exact Da rfl (PO hd) hfl (ZE (Og hx hargs hp (Ψ:=fun r L''=> ∃ L',L''=L'++LF∧R r L') (hc.mono fun r L' h=>⟨L',rfl,h⟩)) fun r L'' ⟨L',e,h⟩=>⟨F L',e ▸ hq L',k r L' h⟩)
theorem QI {x:Operand} {xs:List Operand} {xa:Array Operand} {ats:Array TypeId} {f:Nat} {cs args:List PV} (L₁ LF:List Res) (X:PV) [hf:Az P f]
  (hx:Le (ρ.ev x) (.clo f cs)) (hxa:xa=xs.toArray) (hargs:xs.map ρ.ev++cs=args) (hp:L.Perm (L₁++LF)) (hc:BA P f args L₁ (fun r L'=>r=X∧L'=L₁)) (k:AV P N all K fl.tail os (CV ρ d X) L) (hd:Nat.blt d N=true:=by rfl):
  AV P N all K fl (⟨some d,.call { callee:= .value x,args:=xa,argTypes:=ats },ty,pos,af,none⟩::os) ρ L:=by
 subst hxa
 exact Bh hd (ZE (Og hx hargs hp (Ψ:=fun r L''=>r=X∧L''=L₁++LF) (hc.mono fun r L' ⟨e1,e2⟩=>⟨e1,by rw[e2]⟩)) fun r L'' ⟨e1,e2⟩=>⟨L,e2 ▸ hp.symm,e1,rfl⟩) k
end
end Go.Q
namespace Go.Proofs
open Go Go.Q
attribute [local irreducible] ER AV Gw BA Fc
end Go.Proofs
