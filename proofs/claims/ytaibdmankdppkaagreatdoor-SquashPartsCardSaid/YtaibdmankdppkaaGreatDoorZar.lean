/- Plain laws: splitting: the program's way and the reference's. -/
import Derived.Test.YtaibdmankdppkaaGreatDoorZaq
import Derived.Test.YtaibdmankdppkaaGreatDoorZan
import Derived.Laws.MakeOwn
import Derived.Test.YtaibdmankdppkaaGreatDoorZal
set_option linter.unusedSimpArgs false
set_option linter.unusedVariables false
namespace Go.Proofs
open Go Go.Q Go.Sort
theorem bG {cs:List Chg} {f:Chg→Nat} {l:List Nat} (hn:l.Nodup) (hl: ∀ c∈l,c < cs.length):(l.map fun c=>f (cs.getD c Chg.zero)).sum≤(cs.map f).sum:=by
 have a:=Sz (f:=fun c=>f (cs.getD c Chg.zero)) (u:=List.range cs.length) hn fun c hc=>Bg.2 (hl c hc)
 have e:(List.range cs.length).map (fun c=>f (cs.getD c Chg.zero))=cs.map f:=by
  refine EC (by simp) fun i h1 h2=>?_
  simp only[AR,HH]at h1
  simp[List.getD,h1]
 rw[e]at a
 exact a
theorem Nv {α:Type}: ∀ (l:List α),(l.map fun _=>1).sum=l.length
 | []=>rfl
 |a::l=>by rw[Ar,DY,Nv l,AL,Ju]
theorem El {α:Type} [DecidableEq α] {l u:List α} (hn:l.Nodup) (h: ∀ x∈l,x∈u):l.length≤u.length:=by
 have:=Sz (f:=fun _=>1) hn h
 rwa [Nv,Nv]at this
theorem fu {x:Sto} {P:List (List Nat)} (hg:GV x.patch=false) (hh:(x.patch.changes.map KF).sum≤2000) {is:List Dig} (hi:(B7 x.patch++is).length≤200) {l:List Nat} (hn:l.Nodup) (hl: ∀ c∈l,c < x.patch.changes.length) {m:Mta} (ha:m.author.length≤60) (hm:m.message.length≤60):E7 (Ez x P is l m)=false:=by
 obtain⟨f1,f2,f3,f4,f5⟩:=OE hg
 have gr:XB x.patch≤3000∧ ∀ c∈x.patch.changes,fi c=false:=by
  unfold GV at hg
  simp only[Cr,A8,Br]at hg
  exact⟨by omega,fun c hc=>by simpa using hg.1.1.1 c hc⟩
 have s1:=bG (f:=IE) hn hl
 have s2:=bG (f:=KF) hn hl
 have s3:=bG (f:=fun _=>1) hn hl
 have q1:=iK (sortD (B7 x.patch++is))
 have q2:(sortD (B7 x.patch++is)).length=(B7 x.patch++is).length:=by unfold sortD;rw[DA]
 have comp: ∀ (g:Chg→Nat),(∀ f c,g (FU f c)=g c)→((l.map fun c=>FU (fS P x.patch.changes is is.length) (x.patch.changes.getD c Chg.zero)).map g)=l.map fun c=>g (x.patch.changes.getD c Chg.zero):=fun g h=>by
  rw[CR]
  exact Ca fun c _=>h _ _
 have c1:=comp IE fun f c=>(S3 f c).2.1
 have c2:=comp KF fun f c=>(S3 f c).2.2
 have len1:=Nv l
 have len2:=Nv x.patch.changes
 have tt:XB x.patch=x.patch.author.length+x.patch.message.length+(x.patch.changes.map IE).sum:=rfl
 unfold E7 Ez
 dsimp only
 simp only[Cr,A8,Br]
 refine⟨⟨⟨⟨fun c hc=>?_,?_⟩,?_⟩,?_⟩,?_⟩
 ·obtain⟨i,hi',rfl⟩:=AQ.1 hc
  obtain⟨z1,z2,_⟩:=S3 (fS P x.patch.changes is is.length) (x.patch.changes.getD i Chg.zero)
  have hlt:=hl i hi'
  have e:x.patch.changes.getD i Chg.zero=x.patch.changes[i]:=by simp[List.getD,hlt]
  have hmem:x.patch.changes[i]∈x.patch.changes:=AB hlt
  have:=JT (f:=IE) hmem
  have:=gr.2 _ hmem
  rw[z1,z2,e]
  simp[this];omega
 ·unfold XB
  dsimp only
  rw[c1];omega
 ·omega
 ·rw[AR];omega
 ·rw[c2];omega
structure Je (s:List Sto) (x:Sto) (t:List Sto) (is:List Dig):Prop where
 val:BP t
 len:t.length≤s.length+is.length
 new: ∀ d∈is,d∈ids t
 others: ∀ d∈ids s,d≠x.id→d∈ids t
theorem Je.step {s:List Sto} {x:Sto} {t:List Sto} {is:List Dig} (a:Je s x t is) {p:Pat} (hb:E7 p=false) (hl:t.length < 200) (h:(FB t p).2.2=0):
  Je s x (FB t p).1 (is++ [(FB t p).2.1])∧mh t ⟨(FB t p).2.1,p⟩∧(FB t p).1=MF t ⟨(FB t p).2.1,p⟩:=by
 obtain⟨hf,e⟩:=a.val.rAdd_ok hb h
 rw[e]
 dsimp only
 refine⟨⟨a.val.put hf hl,?_,fun d hd=>?_,fun d hd hne=>Hh.2 (.inr (a.others d hd hne))⟩,hf,rfl⟩
 ·have:=a.len
  rw[Tt,AA,Au];omega
 ·rcases Aj.1 hd with hd|hd
  ·exact Hh.2 (.inr (a.new d hd))
  ·exact Hh.2 (.inl (Ah.1 hd))
theorem Je.ids {s:List Sto} {x:Sto} {t:List Sto} {is:List Dig} (a:Je s x t is) (hn:Uu s x is) {d:Dig} (hf:d∉Go.Proofs.ids t) (hz:d≠Dig.zero):Uu s x (is++ [d]):=by
 refine⟨fun e he=>?_,?_,fun e he hs=>?_⟩
 ·rcases Aj.1 he with he|he
  ·exact hn.nz e he
  ·rw[Ah.1 he];exact hz
 ·refine EG.2 ⟨hn.nodup,by simp,fun e he e' he' k=>?_⟩
  rw[Ah.1 he']at k
  exact hf (k ▸ a.new e he)
 ·rcases Aj.1 he with he|he
  ·exact hn.old e he hs
  ·rw[Ah.1 he]at hs ⊢
   exact Cd fun k=>hf (a.others d hs k)
theorem ls (l:List Dig) (d:Dig):KX (sortD (l++ [d]))=FX (KX (sortD l)) d:=by
 refine(H4 _).1.ext (Lk (H4 l).1) fun e=>?_
 rw[(H4 _).2,KV,(H4 l).2,Aj,Ah]
 exact Or.comm
structure MX (s:List Sto) (x:Sto) (P:List (List Nat)) (o:List (List Nat × Mta)):Prop where
 great:GV x.patch=false
 heavy:(x.patch.changes.map KF).sum≤2000
 set:s.length≤8
 parts:P.length≤8
 metas: ∀ e∈o,e.2.author.length≤60∧e.2.message.length≤60
theorem MX.big {s:List Sto} {x:Sto} {P:List (List Nat)} {o:List (List Nat × Mta)} (z:MX s x P o) (h:Fj s x P) {is:List Dig} (hk:is.length < P.length) {e:List Nat × Mta} (he:e∈o) (hp:e.1=P[is.length]):E7 (Ez x P is e.1 e.2)=false:=by
 have n1:(B7 x.patch).length≤s.length:=by
  have:=El (IY x.patch).nodup (fun d hd=>h.val.close.2 x h.mem d hd)
  unfold Go.Proofs.ids at this
  rwa [AR]at this
 have:=z.set
 have:=z.parts
 refine fu z.great z.heavy (by rw[AA];omega) ?_ ?_ (z.metas e he).1 (z.metas e he).2
 ·rw[hp]
  exact(h.parts.asc _ (AB hk)).imp fun h=>Nat.ne_of_lt h
 ·rw[hp];exact h.parts.lt _ (AB hk)
theorem Fj.loop {s:List Sto} {x:Sto} {P:List (List Nat)} (h:Fj s x P): ∀ (o:List (List Nat × Mta)) (is:List Dig) (t:List Sto),MX s x P o→P.drop is.length=o.map (·.1)→Je s x t is→Uu s x is∨Dig.zero∈is→
  PF x P o t is=nw x o t is (KX (sortD (B7 x.patch++is))) ((P.take is.length).flatten.map (Kt x.id P x.patch.changes is is.length)):=by
 intro o
 induction o with
 |nil=>intro is t _ _ _ _;rfl
 |cons e o ih=>
  intro is t z hP a hn
  have hk:is.length < P.length:=by
   have:=congrArg List.length hP
   rw[B4,AR,AL]at this;omega
  have hd:=C6 hk
  rw[hd,Ar]at hP
  have he:P[is.length]=e.1:=(yY hP).1
  have hrest:P.drop (is.length+1)=o.map (·.1):=(yY hP).2
  unfold PF nw
  rcases hn with hn|hn
  ·obtain⟨p1,p2⟩:=h.part hn hk e.2
   rw[he]at p1 p2
   rw[p1]
   by_cases hz:(FB t (Ez x P is e.1 e.2)).2.2=0
   ·rw[if_neg (by simp[hz]),if_neg (by simp[hz])]
    have hb:=z.big h hk AG he.symm
    have:=a.len
    have:=z.set
    have:=z.parts
    obtain⟨s1,s2,s3⟩:=a.step hb (by omega) hz
    have hlen:(is++ [(FB t (Ez x P is e.1 e.2)).2.1]).length=is.length+1:=by simp
    have step:=ih (is++ [(FB t (Ez x P is e.1 e.2)).2.1]) (FB t (Ez x P is e.1 e.2)).1 ⟨z.great,z.heavy,z.set,z.parts,fun e he=>z.metas e (AJ _ he)⟩ (by rw[hlen];exact hrest) s1 (by
     by_cases h0:(FB t (Ez x P is e.1 e.2)).2.1=Dig.zero
     ·exact .inr (DW _ (by simp[h0]))
     ·exact .inl (a.ids hn s2.new h0))
    rw[step,hlen,p2,←ls,AV]
   ·rw[if_pos hz,if_pos hz]
  ·have hz:Dig.zero∈KX (sortD (B7 x.patch++is)):=(H4 _).2 _ |>.2 (DW _ hn)
   obtain⟨q1,q2⟩:=Vu (t:=t) (a:=e.2.author) (m:=e.2.message) (i:=e.2.time) (cs:=e.1.map fun c=>FU (fS P x.patch.changes is is.length) (x.patch.changes.getD c Chg.zero)) (cs':=(e.1.foldl (QV x.id x.patch.changes) ((P.take is.length).flatten.map (Kt x.id P x.patch.changes is is.length),0,[])).2.2) hz
   have e1:FB t (Ez x P is e.1 e.2)=FB t (Qm x (KX (sortD (B7 x.patch++is))) ((P.take is.length).flatten.map (Kt x.id P x.patch.changes is is.length)) e.1 e.2):=q1
   rw[←e1]
   have q2:(FB t (Ez x P is e.1 e.2)).2.2≠0:=q2
   rw[if_pos q2,if_pos q2]
def RJ (n:Nat) (D l:List Int) (i:Nat):Bool:=decide (l.getD i 0 < 0)||decide ((n:Int)≤l.getD i 0)||decide (l.getD i 0∈D++l.take i)||(decide (0 < i)&&decide (l.getD i 0≤l.getD (i - 1) 0))
def U2 (n:Nat) (D l:List Int):Bool:=(List.range l.length).all fun i=>!RJ n D l i
def FL (n:Nat):List Int→List (List Int)→Bool
 |D,[]=>decide (D.length=n)
 |D,l::ps=>U2 n D l&&decide (l≠ [])&&FL n (D++l) ps
def RP (Q:List (List Int)) (c:Int):Int:=match Q.findIdx? fun l=>decide (c∈l)with
 |some k=>k
 |none=> -1
theorem ZO {n:Nat} {D l:List Int} (h:U2 n D l=true):(∀ c∈l,0≤c∧c < n∧c∉D)∧l.Pairwise fun a b=>a < b:=by
 have st: ∀ i (hi:i < l.length),0≤l[i]∧l[i] < n∧l[i]∉D∧(0 < i→l.getD (i - 1) 0 < l[i]):=fun i hi=>by
  have:=Bc.1 h i (Bg.2 hi)
  unfold RJ at this
  rw[BG,AO hi,Bj]at this
  simp only[AI,Cr,VQ,A8,Aj,not_or]at this
  obtain⟨⟨⟨a,b⟩,c,_⟩,d⟩:=this
  exact⟨by omega,by omega,c,fun h0=>by rcases d with d|d<;>omega⟩
 refine⟨fun c hc=>?_,?_⟩
 ·obtain⟨i,hi,rfl⟩:=AY.1 hc
  exact⟨(st i hi).1,(st i hi).2.1,(st i hi).2.2.1⟩
 ·refine Ax.2 fun i j hi hj hij=>?_
  obtain⟨k,rfl⟩: ∃ k,j=i+1+k:=⟨j - i - 1,by omega⟩
  induction k with
  |zero=>
   have:=(st (i+1) hj).2.2.2 (by omega)
   simpa [List.getD,show i < l.length by omega]using this
  |succ k ih=>
   have a:=ih (by omega) (by omega)
   have b:=(st (i+1+(k+1)) hj).2.2.2 (by omega)
   have e:l.getD (i+1+(k+1) - 1) 0=l[i+1+k]:=by simp[List.getD,show i+1+k < l.length by omega]
   rw[e]at b;omega
structure Rows (n:Nat) (D:List Int) (Q:List (List Int)):Prop where
 ne: ∀ l∈Q,l≠ []
 asc: ∀ l∈Q,l.Pairwise fun a b=>a < b
 lt: ∀ l∈Q,∀ c∈l,0≤c∧c < n∧c∉D
 apart:Q.Pairwise fun l m=> ∀ c∈l,c∉m
 len:(D++Q.flatten).length=n
theorem NB {n:Nat}: ∀ {Q:List (List Int)} {D:List Int},FL n D Q=true→Rows n D Q
 | [],D,h=>⟨fun l hl=>absurd hl Ai,fun l hl=>absurd hl Ai,fun l hl=>absurd hl Ai,.nil,by
   unfold FL at h
   simpa using h⟩
 |l::Q,D,h=>by
  unfold FL at h
  simp only[BR,AD]at h
  obtain⟨⟨h1,h2⟩,h3⟩:=h
  have ih:=NB h3
  obtain⟨a,b⟩:=ZO h1
  refine⟨fun m hm=>?_,fun m hm=>?_,fun m hm=>?_,Bq.2 ⟨fun m hm c hc hcm=>?_,ih.apart⟩,?_⟩
  ·rcases AH.1 hm with rfl|hm
   ·exact h2
   ·exact ih.ne m hm
  ·rcases AH.1 hm with rfl|hm
   ·exact b
   ·exact ih.asc m hm
  ·rcases AH.1 hm with rfl|hm
   ·exact a
   ·intro c hc
    obtain⟨q1,q2,q3⟩:=ih.lt m hm c hc
    exact⟨q1,q2,fun k=>q3 (E1 _ k)⟩
  ·exact(ih.lt m hm c hcm).2.2 (DW _ hc)
  ·have:=ih.len
   rw[AV]at this
   rw[Ch];exact this
theorem OA {n:Nat} {Q:List (List Int)} (h:FL n [] Q=true):J8 (Q.map fun l=>l.map Int.toNat) n:=by
 have r:=NB h
 have inj: ∀ {l m:List Int},l∈Q→m∈Q→ ∀ c,c∈l.map Int.toNat→c∈m.map Int.toNat→(c:Int)∈l∧(c:Int)∈m:=fun {l m} hl hm c h1 h2=>by
  obtain⟨a,ha,rfl⟩:=AQ.1 h1
  obtain⟨b,hb,e⟩:=AQ.1 h2
  have:=r.lt l hl a ha
  have:=r.lt m hm b hb
  have:b=a:=by omega
  subst this
  have e:((b.toNat:Nat):Int)=b:=by omega
  rw[e]
  exact⟨ha,hb⟩
 have hnd:Q.flatten.Nodup:=List.pairwise_flatten.2 ⟨fun l hl=>(r.asc l hl).imp fun h=>Int.ne_of_lt h,r.apart.imp fun h x hx y hy (e:x=y)=>h x hx (e ▸ hy)⟩
 refine⟨fun l hl=>?_,fun l hl=>?_,fun l hl c hc=>?_,?_,fun c hc=>?_⟩
 ·obtain⟨m,hm,rfl⟩:=AQ.1 hl
  intro e
  exact r.ne m hm (List.map_eq_nil_iff.1 e)
 ·obtain⟨m,hm,rfl⟩:=AQ.1 hl
  refine RU.2 ((r.asc m hm).imp_of_mem fun {a b} ha hb h=>?_)
  have:=r.lt m hm a ha
  have:=r.lt m hm b hb
  omega
 ·obtain⟨m,hm,rfl⟩:=AQ.1 hl
  obtain⟨a,ha,rfl⟩:=AQ.1 hc
  have:=r.lt m hm a ha
  omega
 ·refine RU.2 (r.apart.imp_of_mem fun {l m} hl hm h c h1 h2=>?_)
  obtain⟨q1,q2⟩:=inj hl hm c h1 h2
  exact h _ q1 q2
 ·have hsub: ∀ a∈Q.flatten,a∈((List.range n).map fun i:Nat=>(i:Int)):=fun a ha=>by
   obtain⟨l,hl,hal⟩:=EB.1 ha
   have:=r.lt l hl a hal
   exact AQ.2 ⟨a.toNat,Bg.2 (by omega),by omega⟩
  have hlen:=r.len
  rw[BB]at hlen
  have:(c:Int)∈Q.flatten:=by
   refine Cd fun k=>?_
   have h2: ∀ a∈((c:Int)::Q.flatten),a∈((List.range n).map fun i:Nat=>(i:Int)):=fun a ha=>by
    rcases AH.1 ha with rfl|ha
    ·exact AQ.2 ⟨c,Bg.2 hc,rfl⟩
    ·exact hsub a ha
   have:=Sz (f:=fun _:Int=>1) (Bo.2 ⟨k,hnd⟩) h2
   simp only[Ar,DY,List.map_const',List.sum_replicate_nat,AR,HH]at this
   omega
  obtain⟨l,hl,hcl⟩:=EB.1 this
  exact⟨l.map Int.toNat,AQ.2 ⟨l,hl,rfl⟩,AQ.2 ⟨c,hcl,by omega⟩⟩
theorem TH {n:Nat} {Q:List (List Int)} (h:FL n [] Q=true) {c:Nat} (hc:c < n):RP Q c=JE (Q.map fun l=>l.map Int.toNat) c:=by
 have p:=OA h
 have r:=NB h
 obtain⟨hk,hm⟩:=p.mem hc
 have hk':JE (Q.map fun l=>l.map Int.toNat) c < Q.length:=by simpa using hk
 rw[BK]at hm
 obtain⟨a,ha,e⟩:=AQ.1 hm
 have:=r.lt _ (AB hk') a ha
 have e2:a=(c:Int):=by omega
 subst e2
 unfold RP
 have:Q.findIdx? (fun l=>decide ((c:Int)∈l))=some (JE (Q.map fun l=>l.map Int.toNat) c):=by
  rw[Kv]
  refine⟨hk',BF ha,fun j hj=>?_⟩
  rw[Jv,A8]
  intro hcj
  exact Ax.1 r.apart j _ (by omega) hk' hj _ hcj ha
 rw[this]
def E4 (Q:List (List Int)):List (List Nat):=Q.map fun l=>l.map Int.toNat
def jJ (c:Chg):List Ident:=c.over++(if 2≤c.kind∧c.kind≤6 then [c.file]else [])++(if c.kind=2 then [c.parent]else [])++(if c.kind=5∨c.kind=6 then [c.after,c.before]else [])
theorem gJ {c:Chg} {y:Ident}:y∈jJ c↔y∈Ct c:=by
 unfold jJ Ct
 simp only[Aj]
 constructor
 ·rintro(((h|h)|h)|h)
  ·exact .inr h
  ·exact .inl (.inl (.inl h))
  ·exact .inl (.inl (.inr h))
  ·exact .inl (.inr h)
 ·rintro(((h|h)|h)|h)
  ·exact .inl (.inl (.inr h))
  ·exact .inl (.inr h)
  ·exact .inr h
  ·exact .inl (.inl (.inl h))
def c8 (cs:List Chg) (y:Ident):Int:=if Ed y=true∧cs≠ []then(DT cs y.n:Int)else -1
def cd (Q:List (List Int)) (cs:List Chg):Bool:=(List.range cs.length).any fun i=>(jJ (cs.getD i Chg.zero)).any fun y=>decide (0≤c8 cs y)&&decide (RP Q i < RP Q (c8 cs y))
theorem P1 {cs:List Chg} {n:Int} (h:cs≠ []):DT cs n < cs.length:=by
 unfold DT
 have h1:=Eb (fun i=>decide ((CD cs i:Int)≤n)) (List.range cs.length)
 rw[HH]at h1
 have:cs.length≠0:=fun e=>h (BN e)
 omega
theorem ln {cs:List Chg} {Q:List (List Int)} (h:FL cs.length [] Q=true):cd Q cs=K1 (E4 Q) cs:=by
 unfold cd K1
 rw[Iu,Bw,Bw]
 refine exists_congr fun i=>and_congr_right fun hi=>?_
 have hi:=Bg.1 hi
 have hne:cs≠ []:=fun e=>by rw[e]at hi;exact absurd hi (DF _)
 rw[Bw,Bw]
 refine exists_congr fun y=>?_
 rw[gJ]
 refine and_congr_right fun _=>?_
 unfold c8
 by_cases ho:Ed y=true
 ·rw[if_pos ⟨ho,hne⟩,ho,TH h hi,TH h (P1 hne)]
  simp only[BR,AD,EK]
  unfold E4
  omega
 ·rw[if_neg fun k=>ho k.1]
  simp[ho]
def H7 (s:List Sto) (id:Dig) (Q:List (List Int)) (ms:List Mta):List Sto × List Dig × Int:=
 match getS s id with
 |none=>([],[],7)
 |some p=>if MH s [id]=true then([],[],19)else if FL p.changes.length [] Q=false∨ms.length≠Q.length then([],[],1)else
  if K1 (E4 Q) p.changes=true then([],[],9)else PF ⟨id,p⟩ (E4 Q) ((E4 Q).zip ms) (Ir s [id]) []
def bJ (s:List Sto) (id:Dig) (Q:List (List Int)) (ms:List Mta):List Sto × List Dig × Int:=
 match getS s id with
 |none=>([],[],7)
 |some p=>if MH s [id]=true then([],[],19)else if FL p.changes.length [] Q=false∨ms.length≠Q.length then([],[],1)else
  if cd Q p.changes=true then([],[],9)else nw ⟨id,p⟩ ((E4 Q).zip ms) (Ir s [id]) [] (B7 p) []
theorem IJ (Q:List (List Int)):(E4 Q).length=Q.length:=by simp[E4]
theorem dQ {α β:Type}: ∀ {l:List α} {m:List β},m.length=l.length→(l.zip m).map (·.1)=l
 | [],_,_=>by simp
 |a::l,[],h=>by simp at h
 |a::l,b::m,h=>by
  rw[List.zip_cons_cons,Ar,dQ (by simpa using h)]
structure PA (Q:List (List Int)) (ms:List Mta):Prop where
 parts:Q.length≤8
 metas: ∀ m∈ms,m.author.length≤60∧m.message.length≤60
theorem NJ {s:List Sto} (hg:GQ s=false):s.length≤8∧ ∀ x∈s,GV x.patch=false∧(x.patch.changes.map KF).sum≤2000:=by
 unfold GQ at hg
 simp only[Cr,A8,Br]at hg
 obtain⟨⟨h1,h2⟩,h3⟩:=hg
 have ht:s.take 9=s:=AF (by omega)
 rw[ht]at h1 h3
 refine⟨by omega,fun x hx=>⟨by simpa using h1 x hx,?_⟩⟩
 have:=JT (f:=xN) hx
 have e:xN x=(x.patch.changes.map KF).sum:=rfl
 omega
theorem Re {s:List Sto} (hg:GQ s=false) {x:Sto} (hx:x∈s) {Q:List (List Int)} {ms:List Mta} (z:PA Q ms):MX s x (E4 Q) ((E4 Q).zip ms):=by
 obtain⟨g1,g2⟩:=NJ hg
 exact⟨(g2 x hx).1,(g2 x hx).2,g1,by rw[IJ];exact z.parts,fun e he=>z.metas _ (List.of_mem_zip he).2⟩
theorem TR {s:List Sto} (v:BP s) {x:Sto} (hx:x∈s) (h:MH s [x.id]=false):Je s x (Ir s [x.id]) []:=by
 refine⟨v.out h,by have:(Ir s [x.id]).length≤s.length:=Eb _ _;simpa using this,fun d hd=>absurd hd Ai,fun d hd hne=>?_⟩
 obtain⟨y,hy,rfl⟩:=AQ.1 hd
 exact AQ.2 ⟨y,Tz.2 ⟨hy,by simpa using hne⟩,rfl⟩
theorem Wv {s:List Sto} (v:BP s) {x:Sto} (hx:x∈s) {Q:List (List Int)} (hQ:FL x.patch.changes.length [] Q=true) (he:K1 (E4 Q) x.patch.changes=false):Fj s x (E4 Q):=⟨v,hx,OA hQ,he⟩
theorem jS {s:List Sto} (v:BP s) (hg:GQ s=false) (id:Dig) {Q:List (List Int)} {ms:List Mta} (z:PA Q ms):H7 s id Q ms=bJ s id Q ms:=by
 unfold H7 bJ
 cases hp:getS s id with
 |none=>rfl
 |some p=>
  dsimp only
  have hx:(⟨id,p⟩:Sto)∈s:=MQ hp
  by_cases h1:MH s [id]=true
  ·rw[if_pos h1,if_pos h1]
  rw[if_neg h1,if_neg h1]
  by_cases h2:FL p.changes.length [] Q=false∨ms.length≠Q.length
  ·rw[if_pos h2,if_pos h2]
  rw[if_neg h2,if_neg h2]
  have hQ:FL p.changes.length [] Q=true:=by
   cases hq:FL p.changes.length [] Q with
   |true=>rfl
   |false=>exact absurd (.inl hq) h2
  have hl:ms.length=Q.length:=Cd fun k=>h2 (.inr k)
  rw[ln hQ]
  by_cases h3:K1 (E4 Q) p.changes=true
  ·rw[if_pos h3,if_pos h3]
  rw[if_neg h3,if_neg h3]
  have ok:=Wv v hx hQ (by simpa using h3)
  have:=ok.loop ((E4 Q).zip ms) [] (Ir s [id]) (Re hg hx z) (by rw[dQ (by rw[IJ];exact hl)];rfl) (TR v hx (by simpa using h1)) (.inl ⟨fun d hd=>absurd hd Ai,.nil,fun d hd=>absurd hd Ai⟩)
  rw[this]
  congr 1
  refine((H4 _).1.ext (IY p) fun d=>?_)
  rw[(H4 _).2,BW]
def PH (r:List Ident × List Ident) (a:Atm):List Ident × List Ident:=
 if a.id∈r.1 then r else(if a.kind=7 then r.1++a.over else r.1,r.2++a.over)
def GY (l:List Atm):List Ident × List Ident:=l.foldl PH ([],[])
def Y1 (l:List Atm):Prop:= ∀ i (hi:i < l.length) j (hj:j < l.length),l[i].id∈l[j].over→j < i
theorem ZY: ∀ (l:List Atm) (r:List Ident × List Ident) (x:Ident),x∈r.1→x∈(l.foldl PH r).1
 | [],_,_,h=>h
 |a::l,r,x,h=>by
  refine ZY l _ x ?_
  unfold PH
  split
  ·exact h
  ·dsimp only
   split
   ·exact E1 _ h
   ·exact h
theorem ZZ: ∀ (l:List Atm) (r:List Ident × List Ident) (x:Ident),x∈(l.foldl PH r).1→x∈r.1∨ ∃ b∈l,x∈b.over
 | [],_,_,h=> .inl h
 |a::l,r,x,h=>by
  rcases ZZ l _ x h with h|⟨b,hb,hx⟩
  ·unfold PH at h
   split at h
   ·exact .inl h
   ·dsimp only at h
    split at h
    ·rcases Aj.1 h with h|h
     ·exact .inl h
     ·exact .inr ⟨a,AG,h⟩
    ·exact .inl h
  ·exact .inr ⟨b,AJ _ hb,hx⟩
def ig (l:List Atm) (x:Ident):Prop:=x∉(GY l).1
theorem ZX {l:List Atm} (hl:Y1 l): ∀ k,k≤l.length→ ∀ x,(x∈(GY (l.take k)).1↔ ∃ i,∃ hi:i < l.length,i < k∧ig l l[i].id∧l[i].kind=7∧x∈l[i].over)∧(x∈(GY (l.take k)).2↔ ∃ i,∃ hi:i < l.length,i < k∧ig l l[i].id∧x∈l[i].over):=by
 intro k
 induction k with
 |zero=>
  intro _ x
  constructor
  ·constructor
   ·intro h;simp[GY]at h
   ·rintro⟨i,_,h,_⟩;omega
  ·constructor
   ·intro h;simp[GY]at h
   ·rintro⟨i,_,h,_⟩;omega
 |succ k ih=>
  intro hk x
  have hlt:k < l.length:=by omega
  obtain⟨i1,i2⟩:=ih (by omega) x
  have e:GY (l.take (k+1))=PH (GY (l.take k)) l[k]:=by
   unfold GY
   rw[A7 hlt,BX];rfl
  have now:l[k].id∈(GY (l.take k)).1↔ ¬ig l l[k].id:=by
   unfold ig
   constructor
   ·intro h h'
    apply h'
    have e2:GY l=(l.drop k).foldl PH (GY (l.take k)):=by
     unfold GY
     rw[←BX,Bf]
    rw[e2]
    exact ZY _ _ _ h
   ·intro h
    have h:=CZ.1 h
    have e2:GY l=(l.drop k).foldl PH (GY (l.take k)):=by
     unfold GY
     rw[←BX,Bf]
    rw[e2]at h
    rcases ZZ _ _ _ h with h|⟨b,hb,hx⟩
    ·exact h
    ·exfalso
     obtain⟨j,hj,rfl⟩:=AY.1 hb
     rw[B4]at hj
     rw[HJ]at hx
     have:=hl k hlt (k+j) (by omega) hx
     omega
  rw[e]
  unfold PH
  by_cases he:ig l l[k].id
  ·rw[if_neg fun h=>now.1 h he]
   dsimp only
   constructor
   ·by_cases h7:l[k].kind=7
    ·rw[if_pos h7,Aj,i1]
     constructor
     ·rintro(⟨i,hi,a,b⟩|h)
      ·exact⟨i,hi,by omega,b⟩
      ·exact⟨k,hlt,by omega,he,h7,h⟩
     ·rintro⟨i,hi,a,b,c,d⟩
      rcases B8 i k with h|h
      ·exact .inl ⟨i,hi,h,b,c,d⟩
      ·have:i=k:=by omega
       subst this;exact .inr d
    ·rw[if_neg h7,i1]
     constructor
     ·rintro⟨i,hi,a,b⟩;exact⟨i,hi,by omega,b⟩
     ·rintro⟨i,hi,a,b,c,d⟩
      rcases B8 i k with h|h
      ·exact⟨i,hi,h,b,c,d⟩
      ·have:i=k:=by omega
       subst this;exact absurd c h7
   ·rw[Aj,i2]
    constructor
    ·rintro(⟨i,hi,a,b⟩|h)
     ·exact⟨i,hi,by omega,b⟩
     ·exact⟨k,hlt,by omega,he,h⟩
    ·rintro⟨i,hi,a,b,d⟩
     rcases B8 i k with h|h
     ·exact .inl ⟨i,hi,h,b,d⟩
     ·have:i=k:=by omega
      subst this;exact .inr d
  ·rw[if_pos (now.2 he)]
   constructor
   ·rw[i1]
    constructor
    ·rintro⟨i,hi,a,b⟩;exact⟨i,hi,by omega,b⟩
    ·rintro⟨i,hi,a,b,c,d⟩
     rcases B8 i k with h|h
     ·exact⟨i,hi,h,b,c,d⟩
     ·have:i=k:=by omega
      subst this;exact absurd b he
   ·rw[i2]
    constructor
    ·rintro⟨i,hi,a,b⟩;exact⟨i,hi,by omega,b⟩
    ·rintro⟨i,hi,a,b,d⟩
     rcases B8 i k with h|h
     ·exact⟨i,hi,h,b,d⟩
     ·have:i=k:=by omega
      subst this;exact absurd b he
theorem TJ {l:List Atm} (hl:Y1 l) (x:Ident):ig l x↔ ¬ ∃ b∈l,ig l b.id∧b.kind=7∧x∈b.over:=by
 have:=(ZX hl l.length (Ak _) x).1
 rw[AF (Ak _)]at this
 unfold ig at this ⊢
 rw[this]
 refine not_congr ⟨?_,?_⟩
 ·rintro⟨i,hi,_,h⟩;exact⟨l[i],AB hi,h⟩
 ·rintro⟨b,hb,h⟩
  obtain⟨i,hi,rfl⟩:=AY.1 hb
  exact⟨i,hi,hi,h⟩
theorem aJ {l:List Atm} (hl:Y1 l) (x:Ident):x∈(GY l).2↔ ∃ b∈l,ig l b.id∧x∈b.over:=by
 have:=(ZX hl l.length (Ak _) x).2
 rw[AF (Ak _)]at this
 rw[this]
 constructor
 ·rintro⟨i,hi,_,h⟩;exact⟨l[i],AB hi,h⟩
 ·rintro⟨b,hb,h⟩
  obtain⟨i,hi,rfl⟩:=AY.1 hb
  exact⟨i,hi,hi,h⟩
structure ab (l m:List Atm) (φ:Ident→Ident):Prop where
 to: ∀ a∈l,∃ b∈m,b.id=φ a.id∧b.kind=a.kind∧ ∀ c∈l,c.id∈a.over↔φ c.id∈b.over
 from_: ∀ b∈m,∃ a∈l,b.id=φ a.id∧b.kind=a.kind∧ ∀ c∈l,c.id∈a.over↔φ c.id∈b.over
theorem ab.eff {l m:List Atm} {φ:Ident→Ident} (h:ab l m φ) (hl:Y1 l) (hm:Y1 m): ∀ k i (hi:i < l.length),i≤k→(ig l l[i].id↔ig m (φ l[i].id)):=by
 intro k
 induction k with
 |zero=>
  intro i hi hk
  have h0:i=0:=by omega
  subst h0
  rw[TJ hl,TJ hm]
  refine not_congr ⟨?_,?_⟩
  ·rintro⟨b,hb,_,_,hx⟩
   obtain⟨j,hj,rfl⟩:=AY.1 hb
   exact absurd (hl 0 hi j hj hx) (DF _)
  ·rintro⟨b,hb,_,_,hx⟩
   obtain⟨a,ha,_,_,e3⟩:=h.from_ b hb
   have:=(e3 _ (AB hi)).2 hx
   obtain⟨j,hj,rfl⟩:=AY.1 ha
   exact absurd (hl 0 hi j hj this) (DF _)
 |succ k ih=>
  intro i hi hk
  rw[TJ hl,TJ hm]
  refine not_congr ⟨?_,?_⟩
  ·rintro⟨a,ha,he,h7,hx⟩
   obtain⟨b,hb,e1,e2,e3⟩:=h.to a ha
   obtain⟨j,hj,rfl⟩:=AY.1 ha
   have hji:=hl i hi j hj hx
   exact⟨b,hb,by rw[e1];exact(ih j hj (by omega)).1 he,by rw[e2];exact h7,(e3 _ (AB hi)).1 hx⟩
  ·rintro⟨b,hb,he,h7,hx⟩
   obtain⟨a,ha,e1,e2,e3⟩:=h.from_ b hb
   have hx':=(e3 _ (AB hi)).2 hx
   obtain⟨j,hj,rfl⟩:=AY.1 ha
   have hji:=hl i hi j hj hx'
   exact⟨l[j],ha,(ih j hj (by omega)).2 (by rw[←e1];exact he),by rw[←e2];exact h7,hx'⟩
theorem ab.dead {l m:List Atm} {φ:Ident→Ident} (h:ab l m φ) (hl:Y1 l) (hm:Y1 m) {c:Atm} (hc:c∈l):c.id∈(GY l).2↔φ c.id∈(GY m).2:=by
 have eff: ∀ a∈l,(ig l a.id↔ig m (φ a.id)):=fun a ha=>by
  obtain⟨i,hi,rfl⟩:=AY.1 ha
  exact h.eff hl hm i i hi (Ak _)
 rw[aJ hl,aJ hm]
 constructor
 ·rintro⟨a,ha,he,hx⟩
  obtain⟨b,hb,e1,_,e3⟩:=h.to a ha
  exact⟨b,hb,by rw[e1];exact(eff a ha).1 he,(e3 c hc).1 hx⟩
 ·rintro⟨b,hb,he,hx⟩
  obtain⟨a,ha,e1,_,e3⟩:=h.from_ b hb
  exact⟨a,ha,(eff a ha).2 (by rw[←e1];exact he),(e3 c hc).2 hx⟩
def atmS (s:List Sto) (d:Dig):List Atm:=(En ((getS s d).getD Pat.zero)).1
def Lp (s:List Sto):List Atm:=((CT s).flatMap (atmS s)).reverse
theorem BP.atmS {s:List Sto} (v:BP s) {x:Sto} (hx:x∈s):Go.Proofs.atmS s x.id=(CA x.patch).1.map (fP x.id):=by
 have h:=v.id x hx
 have h3:(Kq x.patch).2.2=0:=by rw[Tn];exact h.1
 unfold Go.Proofs.atmS En
 rw[v.getS hx,Bj,if_neg (by simp[h3]),if_neg (by simp[h.1]),(TD h3).1,h.2]
theorem W9: ∀ (l:List Chg) (own:List Atm),∃ m,l.foldl (fun own c=>own++CW c own.length) own=own++m
 | [],own=>⟨[],by simp⟩
 |c::l,own=>by
  obtain⟨m,e⟩:=W9 l (own++CW c own.length)
  exact⟨CW c own.length++m,by rw[Bp,e,AV]⟩
theorem Ni.atom {p:Pat} (h:Ni p) {i:Nat} (hi:i < p.changes.length) {k:Nat} (hk:k < FH p.changes[i]):(CA p).1[CD p.changes i+k]? =(CW p.changes[i] (CD p.changes i))[k]?:=by
 have e:p.changes=p.changes.take i++p.changes[i]::p.changes.drop (i+1):=by rw[←C6 hi,Bf]
 have hl:=Rr p.changes i
 obtain⟨m,hm⟩:=W9 (p.changes.drop (i+1)) (Qo p.changes i++CW p.changes[i] (Qo p.changes i).length)
 have:(CA p).1=Qo p.changes i++(CW p.changes[i] (CD p.changes i)++m):=by
  rw[h.made]
  conv=>lhs;rw[e,BX,Bp]
  unfold Qo at hm hl ⊢
  rw[hm,hl,AV]
 rw[this,EI (by omega),hl,Nat.add_sub_cancel_left,CF (by rw[Hc];exact hk)]
theorem Ni.split {p:Pat} (h:Ni p) {n:Nat} (hn:n < Hl p): ∃ i,∃ hi:i < p.changes.length,∃ k,k < FH p.changes[i]∧n=CD p.changes i+k:=by
 rw[h.cnt]at hn
 obtain⟨i,hi,a,b⟩:=XO p.changes (n:Int) (by omega) p.changes.length (Ak _) (by omega)
 rw[FV hi]at b
 exact⟨i,hi,n - CD p.changes i,by omega,by omega⟩
theorem Ni.lt {p:Pat} (h:Ni p) {i:Nat} (hi:i < p.changes.length) {k:Nat} (hk:k < FH p.changes[i]):CD p.changes i+k < Hl p:=by
 have a:=FV hi
 have b:=EN p.changes (show i+1≤p.changes.length by omega)
 rw[h.cnt];omega
def fv (c:Chg):List Ident:=if c.kind=2∨c.kind=3∨c.kind=4∨c.kind=6∨c.kind=7 then c.over else []
theorem P2 {c:Chg} {n:Int} {a:Atm} (h:a∈CW c n):a.over=fv c:=by
 unfold CW at h
 unfold fv
 repeat' split at h
 all_goals simp only[Ah,Aj,AQ]at h
 all_goals first
  |(subst h;rename_i e;simp only[e];rfl)
  |(rcases h with ⟨_,_,rfl⟩|⟨_,_,rfl⟩<;>(rw[if_neg (by omega)];rfl))
theorem W0 (f:Ident→Ident) (c:Chg) (n n':Int):(CW (FU f c) n').map (fun a=>(a.kind,a.type,a.name,a.mode,a.data,a.text))=(CW c n).map fun a=>(a.kind,a.type,a.name,a.mode,a.data,a.text):=by
 unfold CW
 have hk:(FU f c).kind=c.kind:=rfl
 have hl:(FU f c).lines=c.lines:=rfl
 rw[hk,hl]
 repeat' split
 all_goals first
  |rfl
  |(simp only[Aq,CR];rfl)
theorem R8 (d:Dig) (a:Atm):(fP d a).id=Cq a.id d∧(fP d a).kind=a.kind∧(fP d a).type=a.type∧(fP d a).name=a.name∧(fP d a).mode=a.mode∧(fP d a).data=a.data∧(fP d a).text=a.text∧(fP d a).over=sortI (a.over.map fun y=>Cq y d):=by
 unfold fP ui nK nL nM iE
 dsimp only
 by_cases h7:a.kind=7
 ·simp[h7]
 by_cases h2:a.kind=2
 ·simp[h2]
 by_cases h6:a.kind=6
 ·simp[h6]
 simp[h7,h2,h6]
def Ib (x:Sto) (i k:Nat):Atm:=fP x.id ((CW (x.patch.changes.getD i Chg.zero) (CD x.patch.changes i)).getD k Atm.zero)
theorem MR {cs:List Chg} {i:Nat} (h:i < cs.length):cs.getD i Chg.zero=cs[i]:=by simp[List.getD,h]
theorem SI {x:Sto} {i:Nat} (hi:i < x.patch.changes.length) {k:Nat} (hk:k < FH x.patch.changes[i]): ∃ a∈CW x.patch.changes[i] (CD x.patch.changes i),Ib x i k=fP x.id a∧a.id=⟨Dig.zero,CD x.patch.changes i+k⟩:=by
 have hl:k < (CW x.patch.changes[i] (CD x.patch.changes i)).length:=by rw[Hc];exact hk
 refine⟨(CW x.patch.changes[i] (CD x.patch.changes i))[k],AB hl,?_,Vq _ _ k hl⟩
 unfold Ib
 rw[MR hi,BG,AO hl,Bj]
theorem J7 {x:Sto} {i:Nat} (hi:i < x.patch.changes.length) {k:Nat} (hk:k < FH x.patch.changes[i]):(Ib x i k).id=⟨x.id,(CD x.patch.changes i+k:Nat)⟩:=by
 obtain⟨a,_,e,hid⟩:=SI hi hk
 rw[e,(R8 x.id a).1,hid]
 unfold Cq
 rw[if_pos ⟨rfl,by dsimp only;omega⟩]
 dsimp only
 congr 1
theorem P9 {x:Sto} {i:Nat} (hi:i < x.patch.changes.length) {k:Nat} (hk:k < FH x.patch.changes[i]) {w:Ident}:w∈(Ib x i k).over↔ ∃ y∈fv x.patch.changes[i],w=Cq y x.id:=by
 obtain⟨a,ha,e,_⟩:=SI hi hk
 rw[e,(R8 x.id a).2.2.2.2.2.2.2,Oi,AQ,P2 ha]
 exact⟨fun⟨y,hy,e⟩=>⟨y,hy,e.symm⟩,fun⟨y,hy,e⟩=>⟨y,hy,e.symm⟩⟩
theorem BP.at_get {s:List Sto} (v:BP s) {x:Sto} (hx:x∈s) {i:Nat} (hi:i < x.patch.changes.length) {k:Nat} (hk:k < FH x.patch.changes[i]):(Go.Proofs.atmS s x.id)[CD x.patch.changes i+k]? =some (Ib x i k):=by
 have hp:=EH (Fc (v.id x hx).1).1
 have hl:k < (CW x.patch.changes[i] (CD x.patch.changes i)).length:=by rw[Hc];exact hk
 rw[v.atmS hx,EY,hp.atom hi hk,AO hl,Eh]
 unfold Ib
 rw[MR hi,BG,AO hl,Bj]
theorem BP.at_len {s:List Sto} (v:BP s) {x:Sto} (hx:x∈s):(Go.Proofs.atmS s x.id).length=Hl x.patch:=by
 rw[v.atmS hx,AR];rfl
theorem BP.mem_at {s:List Sto} (v:BP s) {x:Sto} (hx:x∈s) {a:Atm}:a∈Go.Proofs.atmS s x.id↔ ∃ i,∃ hi:i < x.patch.changes.length,∃ k,k < FH x.patch.changes[i]∧a=Ib x i k:=by
 have hp:=EH (Fc (v.id x hx).1).1
 constructor
 ·intro h
  obtain⟨n,hn,e⟩:=List.mem_iff_getElem?.1 h |>.imp fun n e=>(⟨(Ba.1 e).1,e⟩: ∃ _:n < (Go.Proofs.atmS s x.id).length,_)
  rw[v.at_len hx]at hn
  obtain⟨i,hi,k,hk,rfl⟩:=hp.split hn
  rw[v.at_get hx hi hk]at e
  exact⟨i,hi,k,hk,(CJ e).symm⟩
 ·rintro⟨i,hi,k,hk,rfl⟩
  exact List.mem_of_getElem? (v.at_get hx hi hk)
theorem BP.mem_seq {s:List Sto} (v:BP s) {a:Atm}:a∈Lp s↔ ∃ x∈s,∃ i,∃ hi:i < x.patch.changes.length,∃ k,k < FH x.patch.changes[i]∧a=Ib x i k:=by
 unfold Lp
 rw[List.mem_reverse,Sw]
 constructor
 ·rintro⟨d,hd,ha⟩
  obtain⟨x,hx,rfl⟩:=AQ.1 ((Da s).sub d hd)
  exact⟨x,hx,(v.mem_at hx).1 ha⟩
 ·rintro⟨x,hx,h⟩
  exact⟨x.id,v.mem_order (AQ.2 ⟨x,hx,rfl⟩),(v.mem_at hx).2 h⟩
theorem Qp {c:Chg} {y:Ident} (h:y∈fv c):y∈c.over:=by
 unfold fv at h
 split at h
 ·exact h
 ·cases h
theorem BP.over_at {s:List Sto} (v:BP s) {x:Sto} (hx:x∈s) {i:Nat} (hi:i < x.patch.changes.length) {y:Ident} (hy:y∈x.patch.changes[i].over):
  (y.patch=Dig.zero∧0≤y.n∧y.n < CD x.patch.changes i∧Cq y x.id=⟨x.id,y.n⟩)∨(y.patch≠Dig.zero∧Cq y x.id=y∧y.patch∈B7 x.patch∧y.patch≠x.id∧ ∃ z∈s,z.id=y.patch∧0≤y.n∧y.n < Hl z.patch):=by
 have hp:=EH (Fc (v.id x hx).1).1
 have hc:=AB hi
 obtain⟨u1,u2⟩:=(v.uses hx hc).over y hy
 have u3:=(Px (hp.refs i hi)).over y hy
 rw[Rr]at u3
 by_cases hz:y.patch=Dig.zero
 ·refine .inl ⟨hz,u1.1,u3.2 hz,?_⟩
  unfold Cq
  rw[if_pos ⟨hz,u1.1⟩]
 ·refine .inr ⟨hz,?_,?_,?_,u2 hz⟩
  ·unfold Cq
   rw[if_neg fun k=>hz k.1]
  ·exact Jc (v.id x hx).1 hc (by simp[Ks,hy]) (by simp[FP,hz])
  ·exact(v.not_self hx hc (by simp[Ks,hy])).elim (fun k=>k) fun k=>absurd k hz
theorem lG {l:List Atm} (h1:l.Pairwise fun a b=>b.id∉a.over) (h2: ∀ a∈l,a.id∉a.over):Y1 l.reverse:=by
 intro i hi j hj h
 rw[List.length_reverse]at hi hj
 rw[Y5,Y5]at h
 refine Cd fun k=>?_
 rcases Nat.eq_or_lt_of_le (Nat.le_of_not_lt k)with e|e
 ·subst e
  exact h2 _ (AB _) h
 ·exact Ax.1 h1 (l.length - 1 - j) (l.length - 1 - i) (by omega) (by omega) (by omega) h
theorem BP.late {s:List Sto} (v:BP s):Y1 (Lp s):=by
 have bound: ∀ x∈s,∀ i (hi:i < x.patch.changes.length) k,k < FH x.patch.changes[i]→ ∀ w∈(Ib x i k).over,w.patch=x.id→w.n < (CD x.patch.changes i:Int)+k:=fun x hx i hi k hk w hw e=>by
  obtain⟨y,hy,rfl⟩:=(P9 hi hk).1 hw
  rcases v.over_at hx hi (Qp hy)with ⟨_,_,b,e2⟩|⟨_,e2,_,b,_⟩
  ·rw[e2];dsimp only;omega
  ·rw[e2]at e;exact absurd e b
 refine lG ?_ fun a ha=>?_
 ·refine List.pairwise_flatMap.2 ⟨fun d hd=>?_,?_⟩
  ·obtain⟨x,hx,rfl⟩:=AQ.1 ((Da s).sub d hd)
   have hp:=EH (Fc (v.id x hx).1).1
   refine Ax.2 fun p q hq1 hq2 hpq h=>?_
   have l1:=hq1
   have l2:=hq2
   rw[v.at_len hx]at l1 l2
   obtain⟨i,hi,k,hk,e1⟩:=hp.split l1
   obtain⟨j,hj,m,hm,e2⟩:=hp.split l2
   have g1:=v.at_get hx hi hk
   have g2:=v.at_get hx hj hm
   rw[←e1,AO hq1]at g1
   rw[←e2,AO hq2]at g2
   rw[CJ g1,CJ g2,J7 hj hm]at h
   have:=bound x hx i hi k hk _ h rfl
   dsimp only at this
   omega
  ·refine Ax.2 fun p q hp hq hpq a ha b hb h=>?_
   obtain⟨x,hx,ex⟩:=AQ.1 ((Da s).sub _ (AB hp))
   obtain⟨z,hz,ez⟩:=AQ.1 ((Da s).sub _ (AB hq))
   have hnd:=(Da s).nodup
   rw[←ex]at ha
   rw[←ez]at hb
   obtain⟨i,hi,k,hk,rfl⟩:=(v.mem_at hx).1 ha
   obtain⟨j,hj,m,hm,rfl⟩:=(v.mem_at hz).1 hb
   rw[J7 hj hm]at h
   obtain⟨y,hy,e⟩:=(P9 hi hk).1 h
   have hne:z.id≠x.id:=fun e=>by
    rw[ex,ez]at e
    have:=(Sy hnd).1 e
    omega
   rcases v.over_at hx hi (Qp hy)with ⟨_,_,_,e2⟩|⟨_,e2,n,_,_⟩
   ·rw[e2]at e
    exact hne (congrArg Ident.patch e)
   ·rw[e2]at e
    rw[←congrArg Ident.patch e]at n
    have r:=v.rank hx n
    dsimp only at r
    have r1:Qc s x.id≤p:=by
     rw[ex];exact Sc hp
    have r2:Qc s z.id=q:=by
     have hlt:(CT s).idxOf z.id < (CT s).length:=sh (v.mem_order (AQ.2 ⟨z,hz,rfl⟩))
     exact(Sy hnd).1 ((List.getElem_idxOf hlt).trans ez)
    omega
 ·obtain⟨d,hd,ha⟩:=Sw.1 ha
  obtain⟨x,hx,rfl⟩:=AQ.1 ((Da s).sub d hd)
  obtain⟨i,hi,k,hk,rfl⟩:=(v.mem_at hx).1 ha
  intro h
  rw[J7 hi hk]at h
  have:=bound x hx i hi k hk _ h rfl
  dsimp only at this
  omega
end Go.Proofs
namespace Go.Q
open Go
section
variable {P:Program} {N:Nat} {all:Array Oper} {K:Env→List Res→Prop} {fl:List Bool} {os:List Oper} {ρ:Env} {L:List Res}
variable {d:Nat} {ty:TypeId} {pos:String} {af:Array Edge}
theorem kv (u:Value) (n:Nat):madeCells #[u] (n*1)=(List.replicate n u).toArray:=by
 refine Array.ext (by simp[madeCells]) fun i h1 h2=>?_
 simp[madeCells,Nat.mod_one]
theorem rN {T E by_:Nat} {z:PV} [hT:Ma P T E] [hE:Ea P E 1 by_] [hZ:Ck P E [z]] {x y:Operand} {k k':IntKind} {n:Nat} (hx:ρ.ev x= .raw (.int k (n:Int))) (hy:ρ.ev y= .raw (.int k' (n:Int))) (hb:by_*n≤140737488355328) (hn:n≤140737488355328)
  (kk: ∀ b,AU P N all K fl.tail os (CU ρ d (.raw (.slice (some ⟨b,0,none⟩) n n))) (.box b E (List.replicate n z)::L)) (hd:Nat.blt d N=true:=by rfl) (hf:fl.headD true=true:=by rfl):
  AU P N all K fl (⟨some d,.makeSlice T x y,ty,pos,af,none⟩::os) ρ L:=
 Dd rfl (Ph hd) hf (fun a w g ha hi=>by
  have h1:=Cc ha (x:=x) (by simp[Op.operands]) hx
  have h2:=Cc ha (x:=y) (by simp[Op.operands]) hy
  obtain⟨i,e1,e2,e3⟩:=hE.out
  obtain⟨i',v,us,q1,q2,q3,q4⟩:=hZ.out
  rw[e1]at q1
  obtain rfl:=CJ q1
  obtain⟨u,rfl⟩: ∃ u,us= [u]:=by
   have:=(q4 g).len
   match us,this with
   | [u],_=>exact⟨u,rfl⟩
  have hu:=(q4 g).uncons.1
  have hv:ED g (List.replicate n u) (List.replicate n z):=⟨by simp,fun i k1 k2=>by
   rw[A0F,A0F];exact hu⟩
  obtain⟨i1,i2,i3⟩:=hi.alloc hv E
  have hr:(execOp a.eval ⟨some d,.makeSlice T x y,ty,pos,af,none⟩).run P w= .ok (.value (.slice (some ⟨w.heap.size,0,none⟩) n n)) { w with heap:=w.heap.push (.cells (List.replicate n u).toArray E (0,0)) }:=by
   have hbb:(i.bytes:Int)*(n:Int)≤281474976710656:=by
    rw[e3,←qt];omega
   have hm:=run_make (P:=P) w T E i v hT.out e1 q2 k k' n n (by omega) (by omega) hbb (by omega)
   rw[q3,e2,Dz]at hm
   have hm2:madeCells [u].toArray (n*1)=(List.replicate n u).toArray:=kv u n
   rw[hm2]at hm
   simp only[execOp,h1,h2,Sem.run_bind,hm,Result.andThen_ok,Sem.run_pure]
   rfl
  refine Oper.wq_of_run hr ?_
  exact⟨_,_,g,_,rfl,.raw _,i1,i2,i3,kk _⟩)
theorem wu {α:Type} {vf:α→List Value} {T E sz by_:Nat} {z:List PV} [hT:Ma P T E] [hE:Ea P E sz by_] [hZ:Ck P E z] {x y:Operand} {k k':IntKind} {c:Nat} (hx:ρ.ev x= .raw (.int k 0)) (hy:ρ.ev y= .raw (.int k' (c:Int))) (hb:by_*c≤140737488355328) (hn:c≤140737488355328)
  (kk: ∀ v R,K2 vf E sz v [] R→AU P N all K fl.tail os (CU ρ d (.raw v)) (R++L)) (hd:Nat.blt d N=true:=by rfl) (hf:fl.headD true=true:=by rfl):
  AU P N all K fl (⟨some d,.makeSlice T x y,ty,pos,af,none⟩::os) ρ L:=
 Dd rfl (Ph hd) hf (fun a w g ha hi=>by
  have h1:=Cc ha (x:=x) (by simp[Op.operands]) hx
  have h2:=Cc ha (x:=y) (by simp[Op.operands]) hy
  obtain⟨i,e1,e2,e3⟩:=hE.out
  obtain⟨i',v,us,q1,q2,q3,q4⟩:=hZ.out
  rw[e1]at q1
  obtain rfl:=CJ q1
  obtain⟨i1,s1⟩:=hi.allocO (.cells (madeCells v.cells (c*sz)) E (0,0))
  obtain⟨f1,f2⟩:=hi.fresh (b:=w.heap.size) (Ak _)
  have hnew:w.heap.size∉An L:=fun h=>by have:=hi.lt h;omega
  have i2:=i1.addRaw (l:=w.heap.size) (o:= .cells (madeCells v.cells (c*sz)) E (0,0)) (by show(w.heap.push _)[w.heap.size]? =_;simp) f1 f2 hnew
  have hr:(execOp a.eval ⟨some d,.makeSlice T x y,ty,pos,af,none⟩).run P w= .ok (.value (.slice (some ⟨w.heap.size,0,none⟩) 0 c)) (w.alloc (.cells (madeCells v.cells (c*sz)) E (0,0))):=by
   have hbb:(i.bytes:Int)*(c:Int)≤281474976710656:=by
    rw[e3,←qt];omega
   have hm:=run_make (P:=P) w T E i v hT.out e1 q2 k k' 0 c (by omega) (by omega) hbb (by omega)
   rw[e2,Dz]at hm
   simp only[execOp,h1,h2,Sem.run_bind,hm,Result.andThen_ok,Sem.run_pure]
   rfl
  refine Oper.wq_of_run hr ?_
  refine⟨_,_,g,_,rfl,.raw _,i2,?_,?_,kk _ [.raw w.heap.size (.cells (madeCells v.cells (c*sz)) E (0,0))] ?_⟩
  ·exact s1
  ·intro b hb hlt'
   rcases AH.1 (show b∈w.heap.size::An L from by simpa [An,Res.block]using hb)with rfl|hb
   ·omega
   ·exact hb
  ·unfold K2
   exact .row (by simp) (by rw[size_madeCells]) (by simp) (by simp))
theorem ZN {o:Oper} {Ψ Ψ':PV→List Res→Prop} (h:Fk P o ρ L Ψ) (k: ∀ x L',Ψ x L'→ ∃ L'',L'.Perm L''∧Ψ' x L''):Fk P o ρ L Ψ':=
 fun a w g ha hi=>(h a w g ha hi).mono fun _ _ ⟨v,x,g',L',h1,h2,h3,h4,h5,h6⟩=>by
  obtain⟨L'',q1,q2⟩:=k _ _ h6
  exact⟨v,x,g',L'',h1,h2,h3.perm q1,h4,fun b hb hlt=>h5 b ((DX q1).symm.subset hb) hlt,q2⟩
theorem C0 {x:Operand} {xs:List Operand} {xa:Array Operand} {ats:Array TypeId} {f:Nat} {cs args:List PV} (L₁ LF:List Res) [hf:B2 P f] (F:List Res→List Res)
  (hx:Le (ρ.ev x) (.clo f cs)) (hxa:xa=xs.toArray) (hargs:xs.map ρ.ev++cs=args) (hp:L.Perm (L₁++LF)) (R:PV→List Res→Prop) (hc:BA P f args L₁ R) (hq: ∀ L',(L'++LF).Perm (F L')) (k: ∀ r L',R r L'→AU P N all K fl.tail os (CU ρ d r) (F L')) (hd:Nat.blt d N=true:=by rfl) (hfl:fl.headD true=true:=by rfl):
  AU P N all K fl (⟨some d,.call { callee:= .value x,args:=xa,argTypes:=ats },ty,pos,af,none⟩::os) ρ L:=by
 subst hxa
 exact Dd rfl (Ph hd) hfl (ZN (Oy hx hargs hp (Ψ:=fun r L''=> ∃ L',L''=L'++LF∧R r L') (hc.mono fun r L' h=>⟨L',rfl,h⟩)) fun r L'' ⟨L',e,h⟩=>⟨F L',e ▸ hq L',k r L' h⟩)
theorem Qa {x:Operand} {xs:List Operand} {xa:Array Operand} {ats:Array TypeId} {f:Nat} {cs args:List PV} (L₁ LF:List Res) (X:PV) [hf:B2 P f]
  (hx:Le (ρ.ev x) (.clo f cs)) (hxa:xa=xs.toArray) (hargs:xs.map ρ.ev++cs=args) (hp:L.Perm (L₁++LF)) (hc:BA P f args L₁ (fun r L'=>r=X∧L'=L₁)) (k:AU P N all K fl.tail os (CU ρ d X) L) (hd:Nat.blt d N=true:=by rfl):
  AU P N all K fl (⟨some d,.call { callee:= .value x,args:=xa,argTypes:=ats },ty,pos,af,none⟩::os) ρ L:=by
 subst hxa
 exact Bk hd (ZN (Oy hx hargs hp (Ψ:=fun r L''=>r=X∧L''=L₁++LF) (hc.mono fun r L' ⟨e1,e2⟩=>⟨e1,by rw[e2]⟩)) fun r L'' ⟨e1,e2⟩=>⟨L,e2 ▸ hp.symm,e1,rfl⟩) k
end
end Go.Q
namespace Go.Proofs
open Go Go.Q
attribute [local irreducible] ER AU H8 BA Fk
end Go.Proofs
