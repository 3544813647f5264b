/- Plain laws: splitting: the program's way and the reference's. -/
import Derived.Test.YtaibdmankdppkaaGreatDoorVaq
import Derived.Test.YtaibdmankdppkaaGreatDoorVah
import Derived.Test.YtaibdmankdppkaaGreatDoorVaj
import Derived.Test.YtaibdmankdppkaaGreatDoorVaf
import Derived.Maps.RangeRun
import Derived.Test.YtaibdmankdppkaaGreatDoorVap
import Derived.Test.YtaibdmankdppkaaGreatDoorVam
import Derived.Test.YtaibdmankdppkaaGreatDoorVan
set_option linter.unusedSimpArgs false
set_option linter.unusedVariables false
set_option maxHeartbeats 8000000
namespace Go.Proofs
open Go Go.Q Go.Sort
theorem R9 {cs:List Chg} {f:Chg→Nat} {l:List Nat} (hn:l.Nodup) (hl: ∀ c∈l,c < cs.length):(l.map fun c=>f (cs.getD c Chg.zero)).sum≤(cs.map f).sum:=by
 have a:=SY (f:=fun c=>f (cs.getD c Chg.zero)) (u:=List.range cs.length) hn fun c hc=>BZ.2 (hl c hc)
 have e:(List.range cs.length).map (fun c=>f (cs.getD c Chg.zero))=cs.map f:=by
  refine Dc (by simp) fun i h1 h2=>?_
  simp only[AQ,Fy]at h1
  simp[List.getD,h1]
 rw[e]at a
 exact a
theorem KX {α:Type}: ∀ (l:List α),(l.map fun _=>1).sum=l.length
 | []=>rfl
 |a::l=>by rw[Aq,Cr,KX l,AN,Jt]
theorem Ei {α:Type} [DecidableEq α] {l u:List α} (hn:l.Nodup) (h: ∀ x∈l,x∈u):l.length≤u.length:=by
 have:=SY (f:=fun _=>1) hn h
 rwa [KX,KX]at this
theorem fM {x:Sto} {P:List (List Nat)} (hg:Ff x.patch=false) (hh:(x.patch.changes.map Hq).sum≤2000) {is:List Dig} (hi:(BL x.patch++is).length≤200) {l:List Nat} (hn:l.Nodup) (hl: ∀ c∈l,c < x.patch.changes.length) {m:Mta} (ha:m.author.length≤60) (hm:m.message.length≤60):E4 (JA x P is l m)=false:=by
 obtain⟨f1,f2,f3,f4,f5⟩:=Jj hg
 have gr:SL x.patch≤3000∧ ∀ c∈x.patch.changes,Yj c=false:=by
  unfold Ff at hg
  simp only[CH,A8,Bc]at hg
  exact⟨by omega,fun c hc=>by simpa using hg.1.1.1 c hc⟩
 have s1:=R9 (f:=Fq) hn hl
 have s2:=R9 (f:=Hq) hn hl
 have s3:=R9 (f:=fun _=>1) hn hl
 have q1:=gL (sortD (BL x.patch++is))
 have q2:(sortD (BL x.patch++is)).length=(BL x.patch++is).length:=by unfold sortD;rw[Dn]
 have comp: ∀ (g:Chg→Nat),(∀ f c,g (HP f c)=g c)→((l.map fun c=>HP (fS P x.patch.changes is is.length) (x.patch.changes.getD c Chg.zero)).map g)=l.map fun c=>g (x.patch.changes.getD c Chg.zero):=fun g h=>by
  rw[Cd]
  exact DF fun c _=>h _ _
 have c1:=comp Fq fun f c=>(Rf f c).2.1
 have c2:=comp Hq fun f c=>(Rf f c).2.2
 have len1:=KX l
 have len2:=KX x.patch.changes
 have tt:SL x.patch=x.patch.author.length+x.patch.message.length+(x.patch.changes.map Fq).sum:=rfl
 unfold E4 JA
 dsimp only
 simp only[CH,A8,Bc]
 refine⟨⟨⟨⟨fun c hc=>?_,?_⟩,?_⟩,?_⟩,?_⟩
 ·obtain⟨i,hi',rfl⟩:=AY.1 hc
  obtain⟨z1,z2,_⟩:=Rf (fS P x.patch.changes is is.length) (x.patch.changes.getD i Chg.zero)
  have hlt:=hl i hi'
  have e:x.patch.changes.getD i Chg.zero=x.patch.changes[i]:=by simp[List.getD,hlt]
  have hmem:x.patch.changes[i]∈x.patch.changes:=AH hlt
  have:=IQ (f:=Fq) hmem
  have:=gr.2 _ hmem
  rw[z1,z2,e]
  simp[this];omega
 ·unfold SL
  dsimp only
  rw[c1];omega
 ·omega
 ·rw[AQ];omega
 ·rw[c2];omega
structure J1 (s:List Sto) (x:Sto) (t:List Sto) (is:List Dig):Prop where
 val:Bx t
 len:t.length≤s.length+is.length
 new: ∀ d∈is,d∈ids t
 others: ∀ d∈ids s,d≠x.id→d∈ids t
theorem J1.step {s:List Sto} {x:Sto} {t:List Sto} {is:List Dig} (a:J1 s x t is) {p:Pat} (hb:E4 p=false) (hl:t.length < 200) (h:(Ec t p).2.2=0):
  J1 s x (Ec t p).1 (is++ [(Ec t p).2.1])∧lq t ⟨(Ec t p).2.1,p⟩∧(Ec t p).1=Ke t ⟨(Ec t p).2.1,p⟩:=by
 obtain⟨hf,e⟩:=a.val.rAdd_ok hb h
 rw[e]
 dsimp only
 refine⟨⟨a.val.put hf hl,?_,fun d hd=>?_,fun d hd hne=>HO.2 (.inr (a.others d hd hne))⟩,hf,rfl⟩
 ·have:=a.len
  rw[Yt,AD,Ax];omega
 ·rcases Ah.1 hd with hd|hd
  ·exact HO.2 (.inr (a.new d hd))
  ·exact HO.2 (.inl (Aj.1 hd))
theorem J1.ids {s:List Sto} {x:Sto} {t:List Sto} {is:List Dig} (a:J1 s x t is) (hn:Ub s x is) {d:Dig} (hf:d∉Go.Proofs.ids t) (hz:d≠Dig.zero):Ub s x (is++ [d]):=by
 refine⟨fun e he=>?_,?_,fun e he hs=>?_⟩
 ·rcases Ah.1 he with he|he
  ·exact hn.nz e he
  ·rw[Aj.1 he];exact hz
 ·refine Ez.2 ⟨hn.nodup,by simp,fun e he e' he' k=>?_⟩
  rw[Aj.1 he']at k
  exact hf (k ▸ a.new e he)
 ·rcases Ah.1 he with he|he
  ·exact hn.old e he hs
  ·rw[Aj.1 he]at hs ⊢
   exact Cf fun k=>hf (a.others d hs k)
theorem l4 (l:List Dig) (d:Dig):Ko (sortD (l++ [d]))=Ep (Ko (sortD l)) d:=by
 refine(Ie _).1.ext (Lr (Ie l).1) fun e=>?_
 rw[(Ie _).2,KU,(Ie l).2,Ah,Aj]
 exact Or.comm
structure P1 (s:List Sto) (x:Sto) (P:List (List Nat)) (o:List (List Nat × Mta)):Prop where
 great:Ff x.patch=false
 heavy:(x.patch.changes.map Hq).sum≤2000
 set:s.length≤8
 parts:P.length≤8
 metas: ∀ e∈o,e.2.author.length≤60∧e.2.message.length≤60
theorem P1.big {s:List Sto} {x:Sto} {P:List (List Nat)} {o:List (List Nat × Mta)} (z:P1 s x P o) (h:HX s x P) {is:List Dig} (hk:is.length < P.length) {e:List Nat × Mta} (he:e∈o) (hp:e.1=P[is.length]):E4 (JA x P is e.1 e.2)=false:=by
 have n1:(BL x.patch).length≤s.length:=by
  have:=Ei (IK x.patch).nodup (fun d hd=>h.val.close.2 x h.mem d hd)
  unfold Go.Proofs.ids at this
  rwa [AQ]at this
 have:=z.set
 have:=z.parts
 refine fM z.great z.heavy (by rw[AD];omega) ?_ ?_ (z.metas e he).1 (z.metas e he).2
 ·rw[hp]
  exact(h.parts.asc _ (AH hk)).imp fun h=>Nat.ne_of_lt h
 ·rw[hp];exact h.parts.lt _ (AH hk)
theorem HX.loop {s:List Sto} {x:Sto} {P:List (List Nat)} (h:HX s x P): ∀ (o:List (List Nat × Mta)) (is:List Dig) (t:List Sto),P1 s x P o→P.drop is.length=o.map (·.1)→J1 s x t is→Ub s x is∨Dig.zero∈is→
  Wb x P o t is=Wa x o t is (Ko (sortD (BL x.patch++is))) ((P.take is.length).flatten.map (Kx x.id P x.patch.changes is is.length)):=by
 intro o
 induction o with
 |nil=>intro is t _ _ _ _;rfl
 |cons e o ih=>
  intro is t z hP a hn
  have hk:is.length < P.length:=by
   have:=congrArg List.length hP
   rw[B4,AQ,AN]at this;omega
  have hd:=Br hk
  rw[hd,Aq]at hP
  have he:P[is.length]=e.1:=(List.cons.inj hP).1
  have hrest:P.drop (is.length+1)=o.map (·.1):=(List.cons.inj hP).2
  unfold Wb Wa
  rcases hn with hn|hn
  ·obtain⟨p1,p2⟩:=h.part hn hk e.2
   rw[he]at p1 p2
   rw[p1]
   by_cases hz:(Ec t (JA x P is e.1 e.2)).2.2=0
   ·rw[if_neg (by simp[hz]),if_neg (by simp[hz])]
    have hb:=z.big h hk AI he.symm
    have:=a.len
    have:=z.set
    have:=z.parts
    obtain⟨s1,s2,s3⟩:=a.step hb (by omega) hz
    have hlen:(is++ [(Ec t (JA x P is e.1 e.2)).2.1]).length=is.length+1:=by simp
    have step:=ih (is++ [(Ec t (JA x P is e.1 e.2)).2.1]) (Ec t (JA x P is e.1 e.2)).1 ⟨z.great,z.heavy,z.set,z.parts,fun e he=>z.metas e (AL _ he)⟩ (by rw[hlen];exact hrest) s1 (by
     by_cases h0:(Ec t (JA x P is e.1 e.2)).2.1=Dig.zero
     ·exact .inr (Dm _ (by simp[h0]))
     ·exact .inl (a.ids hn s2.new h0))
    rw[step,hlen,p2,←l4,AV]
   ·rw[if_pos hz,if_pos hz]
  ·have hz:Dig.zero∈Ko (sortD (BL x.patch++is)):=(Ie _).2 _ |>.2 (Dm _ hn)
   obtain⟨q1,q2⟩:=fE (t:=t) (a:=e.2.author) (m:=e.2.message) (i:=e.2.time) (cs:=e.1.map fun c=>HP (fS P x.patch.changes is is.length) (x.patch.changes.getD c Chg.zero)) (cs':=(e.1.foldl (GJ x.id x.patch.changes) ((P.take is.length).flatten.map (Kx x.id P x.patch.changes is is.length),0,[])).2.2) hz
   have e1:Ec t (JA x P is e.1 e.2)=Ec t (K6 x (Ko (sortD (BL x.patch++is))) ((P.take is.length).flatten.map (Kx x.id P x.patch.changes is is.length)) e.1 e.2):=q1
   rw[←e1]
   have q2:(Ec t (JA x P is e.1 e.2)).2.2≠0:=q2
   rw[if_pos q2,if_pos q2]
def KK (n:Nat) (D l:List Int) (i:Nat):Bool:=decide (l.getD i 0 < 0)||decide ((n:Int)≤l.getD i 0)||decide (l.getD i 0∈D++l.take i)||(decide (0 < i)&&decide (l.getD i 0≤l.getD (i - 1) 0))
def Th (n:Nat) (D l:List Int):Bool:=(List.range l.length).all fun i=>!KK n D l i
def Ed (n:Nat):List Int→List (List Int)→Bool
 |D,[]=>decide (D.length=n)
 |D,l::ps=>Th n D l&&decide (l≠ [])&&Ed n (D++l) ps
def OE (Q:List (List Int)) (c:Int):Int:=match Q.findIdx? fun l=>decide (c∈l)with
 |some k=>k
 |none=> -1
theorem ZJ {n:Nat} {D l:List Int} (h:Th n D l=true):(∀ c∈l,0≤c∧c < n∧c∉D)∧l.Pairwise fun a b=>a < b:=by
 have st: ∀ i (hi:i < l.length),0≤l[i]∧l[i] < n∧l[i]∉D∧(0 < i→l.getD (i - 1) 0 < l[i]):=fun i hi=>by
  have:=Bf.1 h i (BZ.2 hi)
  unfold KK at this
  rw[Ct,AW hi,CJ]at this
  simp only[AF,CH,VA,A8,Ah,not_or]at this
  obtain⟨⟨⟨a,b⟩,c,_⟩,d⟩:=this
  exact⟨by omega,by omega,c,fun h0=>by rcases d with d|d<;>omega⟩
 refine⟨fun c hc=>?_,?_⟩
 ·obtain⟨i,hi,rfl⟩:=Ag.1 hc
  exact⟨(st i hi).1,(st i hi).2.1,(st i hi).2.2.1⟩
 ·refine B6.2 fun i j hi hj hij=>?_
  obtain⟨k,rfl⟩: ∃ k,j=i+1+k:=⟨j - i - 1,by omega⟩
  induction k with
  |zero=>
   have:=(st (i+1) hj).2.2.2 (by omega)
   simpa [List.getD,show i < l.length by omega]using this
  |succ k ih=>
   have a:=ih (by omega) (by omega)
   have b:=(st (i+1+(k+1)) hj).2.2.2 (by omega)
   have e:l.getD (i+1+(k+1) - 1) 0=l[i+1+k]:=by simp[List.getD,show i+1+k < l.length by omega]
   rw[e]at b;omega
structure Rows (n:Nat) (D:List Int) (Q:List (List Int)):Prop where
 ne: ∀ l∈Q,l≠ []
 asc: ∀ l∈Q,l.Pairwise fun a b=>a < b
 lt: ∀ l∈Q,∀ c∈l,0≤c∧c < n∧c∉D
 apart:Q.Pairwise fun l m=> ∀ c∈l,c∉m
 len:(D++Q.flatten).length=n
theorem N5 {n:Nat}: ∀ {Q:List (List Int)} {D:List Int},Ed n D Q=true→Rows n D Q
 | [],D,h=>⟨fun l hl=>absurd hl Aa,fun l hl=>absurd hl Aa,fun l hl=>absurd hl Aa,.nil,by
   unfold Ed at h
   simpa using h⟩
 |l::Q,D,h=>by
  unfold Ed at h
  simp only[BQ,AA]at h
  obtain⟨⟨h1,h2⟩,h3⟩:=h
  have ih:=N5 h3
  obtain⟨a,b⟩:=ZJ h1
  refine⟨fun m hm=>?_,fun m hm=>?_,fun m hm=>?_,Bm.2 ⟨fun m hm c hc hcm=>?_,ih.apart⟩,?_⟩
  ·rcases AG.1 hm with rfl|hm
   ·exact h2
   ·exact ih.ne m hm
  ·rcases AG.1 hm with rfl|hm
   ·exact b
   ·exact ih.asc m hm
  ·rcases AG.1 hm with rfl|hm
   ·exact a
   ·intro c hc
    obtain⟨q1,q2,q3⟩:=ih.lt m hm c hc
    exact⟨q1,q2,fun k=>q3 (En _ k)⟩
  ·exact(ih.lt m hm c hcm).2.2 (Dm _ hc)
  ·have:=ih.len
   rw[AV]at this
   rw[CX];exact this
theorem LG {n:Nat} {Q:List (List Int)} (h:Ed n [] Q=true):KL (Q.map fun l=>l.map Int.toNat) n:=by
 have r:=N5 h
 have inj: ∀ {l m:List Int},l∈Q→m∈Q→ ∀ c,c∈l.map Int.toNat→c∈m.map Int.toNat→(c:Int)∈l∧(c:Int)∈m:=fun {l m} hl hm c h1 h2=>by
  obtain⟨a,ha,rfl⟩:=AY.1 h1
  obtain⟨b,hb,e⟩:=AY.1 h2
  have:=r.lt l hl a ha
  have:=r.lt m hm b hb
  have:b=a:=by omega
  subst this
  have e:((b.toNat:Nat):Int)=b:=by omega
  rw[e]
  exact⟨ha,hb⟩
 have hnd:Q.flatten.Nodup:=List.pairwise_flatten.2 ⟨fun l hl=>(r.asc l hl).imp fun h=>Int.ne_of_lt h,r.apart.imp fun h x hx y hy (e:x=y)=>h x hx (e ▸ hy)⟩
 refine⟨fun l hl=>?_,fun l hl=>?_,fun l hl c hc=>?_,?_,fun c hc=>?_⟩
 ·obtain⟨m,hm,rfl⟩:=AY.1 hl
  intro e
  exact r.ne m hm (List.map_eq_nil_iff.1 e)
 ·obtain⟨m,hm,rfl⟩:=AY.1 hl
  refine Qz.2 ((r.asc m hm).imp_of_mem fun {a b} ha hb h=>?_)
  have:=r.lt m hm a ha
  have:=r.lt m hm b hb
  omega
 ·obtain⟨m,hm,rfl⟩:=AY.1 hl
  obtain⟨a,ha,rfl⟩:=AY.1 hc
  have:=r.lt m hm a ha
  omega
 ·refine Qz.2 (r.apart.imp_of_mem fun {l m} hl hm h c h1 h2=>?_)
  obtain⟨q1,q2⟩:=inj hl hm c h1 h2
  exact h _ q1 q2
 ·have hsub: ∀ a∈Q.flatten,a∈((List.range n).map fun i:Nat=>(i:Int)):=fun a ha=>by
   obtain⟨l,hl,hal⟩:=Db.1 ha
   have:=r.lt l hl a hal
   exact AY.2 ⟨a.toNat,BZ.2 (by omega),by omega⟩
  have hlen:=r.len
  rw[BB]at hlen
  have:(c:Int)∈Q.flatten:=by
   refine Cf fun k=>?_
   have h2: ∀ a∈((c:Int)::Q.flatten),a∈((List.range n).map fun i:Nat=>(i:Int)):=fun a ha=>by
    rcases AG.1 ha with rfl|ha
    ·exact AY.2 ⟨c,BZ.2 hc,rfl⟩
    ·exact hsub a ha
   have:=SY (f:=fun _:Int=>1) (Bo.2 ⟨k,hnd⟩) h2
   simp only[Aq,Cr,List.map_const',List.sum_replicate_nat,AQ,Fy]at this
   omega
  obtain⟨l,hl,hcl⟩:=Db.1 this
  exact⟨l.map Int.toNat,AY.2 ⟨l,hl,rfl⟩,AY.2 ⟨c,hcl,by omega⟩⟩
theorem Sd {n:Nat} {Q:List (List Int)} (h:Ed n [] Q=true) {c:Nat} (hc:c < n):OE Q c=K7 (Q.map fun l=>l.map Int.toNat) c:=by
 have p:=LG h
 have r:=N5 h
 obtain⟨hk,hm⟩:=p.mem hc
 have hk':K7 (Q.map fun l=>l.map Int.toNat) c < Q.length:=by simpa using hk
 rw[B5]at hm
 obtain⟨a,ha,e⟩:=AY.1 hm
 have:=r.lt _ (AH hk') a ha
 have e2:a=(c:Int):=by omega
 subst e2
 unfold OE
 have:Q.findIdx? (fun l=>decide ((c:Int)∈l))=some (K7 (Q.map fun l=>l.map Int.toNat) c):=by
  rw[Gn]
  refine⟨hk',BC ha,fun j hj=>?_⟩
  rw[Hh,A8]
  intro hcj
  exact B6.1 r.apart j _ (by omega) hk' hj _ hcj ha
 rw[this]
end Go.Proofs
namespace Go.Q
open Go
theorem WX {cs r q:List PV} {off n o m:Nat} (h:PA cs off n r) (k:PA r o m q):PA cs (off+o) m q:=⟨by
 obtain⟨h1,h2⟩:=h.out
 obtain⟨k1,k2⟩:=k.out
 have hl:r.length=n:=by rw[←h1];simp;omega
 refine⟨?_,by omega⟩
 rw[←k1,←h1,ur,uq,GY,Cp (by omega)]⟩
theorem Xp {cs r:List PV} {off n o:Nat} {c:PV} (h:PA cs off n r) (k:At r o c):At cs (off+o) c:=⟨by
 obtain⟨h1,h2⟩:=h.out
 have:=k.out
 rw[←h1,FX,FY]at this
 split at this
 ·exact this
 ·cases this⟩
theorem nb {cs r r' cs' new:List PV} {off n o:Nat} (h:PA cs off n r) (k:Eg r o new r') (p:Eg cs off r' cs'):Eg cs (off+o) new cs':=⟨by
 obtain⟨h1,h2⟩:=h.out
 obtain⟨k1,k2⟩:=k.out
 obtain⟨p1,p2⟩:=p.out
 have hl:r.length=n:=by rw[←h1];simp;omega
 have hl':r'.length=n:=by rw[←k1];simp;omega
 refine⟨?_,by omega⟩
 rw[←p1,←k1,←h1]
 have e1:((cs.drop off).take n).take o=(cs.drop off).take o:=by rw[uq,Cp (by omega)]
 have e2:cs.drop (off+o+new.length)=((cs.drop off).take n).drop (o+new.length)++cs.drop (off+r'.length):=by
  rw[hl',ur,GY,←Dx]
  conv=>lhs;rw[←C6 (n - (o+new.length)) (cs.drop (off+o+new.length)),GY]
  congr 2
  omega
 rw[e1,e2,List.take_add]
 have e3:((cs.take off)++(((cs.drop off).take o++new)++((cs.drop off).take n).drop (o+new.length))).length=off+n:=by
  simp;omega
 simp only[AV,hl']
 rw[show((cs.drop off).take o++(new++((cs.drop off).take n).drop (o+new.length))).length=n by simp;omega]⟩
end Go.Q
namespace Go.Proofs
open Go Go.Q
attribute [local irreducible] EY AU GP BH Fk
def xC (l:List Mvd):Prop:= ∀ m∈l,0≤m.lo∧m.hi≤1000000000∧0≤m.dst∧m.dst≤1000000000
theorem fc {m:Mvd} {l:List Mvd} {x:Ident} (h: ¬(x.patch=m.old∧m.lo≤x.n∧x.n < m.hi)):N9 (m::l) x=N9 l x:=by
 rw[N9,if_neg h]
theorem ZK (l:List Mvd) (x:Ident) (v:Value) (R:List Res) (hv:Fv 108 67 v (l.map eMvd) R) (hok:xC l) (hl:l.length≤1000000):
  BH Tryz.prog 134 [.raw v,.agg (eIdent x)] R (fun r L'=>r= .agg (eIdent (N9 l x))∧L'=R):=by
 refine C8 Tryz.func134 rfl Tryz.ntmps134 (rs:= [.cell 4 65]) rfl rfl fun hb LF=>?_
 obtain⟨⟨o,cc,rfl⟩,_⟩:=hv.slice
 rw[AQ]at hv ⊢
 refine Y0 fun b4=>?_
 refine wf ?_
 refine AZ (σ:=Nat) (fun k=>k≤l.length∧N9 l x=N9 (l.drop k) x) (fun k=>l.length - k) (fun k=> [(0,.raw (.slice o l.length cc)),(3,.pt (eIdent x) 0),(4,.raw (.pointer (some ⟨b4,0,none⟩))),(5,.raw (.int .i64 k))]) (fun _=> .box b4 65 (eIdent Ident.zero)::(R++LF)) 0 ⟨by simp,rfl⟩ ⟨rfl,rfl,rfl,rfl⟩ (.refl _) ?_
 rintro k ⟨hk,he⟩
 refine wf ?_
 refine IH rfl ?_
 refine wf ?_
 refine A6 (fun hc=>?_) (fun hc=>?_)
 ·have hlt:k < l.length:=by omega
  obtain⟨r,rest,rfl,rfl,hn,hcl,hsz,hcc⟩:=hv.inv (by omega)
  have hs:PA ((l.map eMvd).flatten++rest) (0+k*67) 67 (eMvd l[k]):=by
   have:=MQ (rest:=rest) hsz (i:=k) (by omega)
   rwa [B5]at this
  have i1:PA ((l.map eMvd).flatten++rest) (0+k*67+0) 32 (eDig l[k].old):=WX hs inferInstance
  have i2:At ((l.map eMvd).flatten++rest) (0+k*67+32) (.raw (.int .i64 l[k].lo)):=Xp hs inferInstance
  have i3:At ((l.map eMvd).flatten++rest) (0+k*67+33) (.raw (.int .i64 l[k].hi)):=Xp hs inferInstance
  have i4:PA ((l.map eMvd).flatten++rest) (0+k*67+34) 32 (eDig l[k].patch):=WX hs inferInstance
  have i5:At ((l.map eMvd).flatten++rest) (0+k*67+66) (.raw (.int .i64 l[k].dst)):=Xp hs inferInstance
  have hm:=hok _ (AH hlt)
  have hd:l.drop k=l[k]::l.drop (k+1):=Br hlt
  generalize l[k]=m at*
  generalize (l.map eMvd).flatten++rest=cs at*
  refine wf ?_
  refine BG [(39,.raw (.bool (decide (x.patch=m.old∧m.lo≤x.n∧x.n < m.hi)))),(0,.raw (.slice (some ⟨r,0,none⟩) l.length cc)),(3,.pt (eIdent x) 0),(4,.raw (.pointer (some ⟨b4,0,none⟩))),(5,.raw (.int .i64 k))] (.box b4 65 (eIdent Ident.zero):: .box r 108 cs::LF) ?_ ?_
  ·repeat' (first|(refine DI (k:=k) rfl rfl hlt ?_;refine wf ?_)|(refine A6 (fun h=>?_) (fun h=>?_)<;>refine wf ?_)|(refine AR (fun h=>?_) (fun h=>?_)<;>refine wf ?_)|(refine AO (fun h=>?_) (fun h=>?_)<;>refine wf ?_)|(refine Ao (fun h=>?_) (fun h=>?_)<;>(have h2:=h;(try simp only[AA,A8,AF,AJ]at h2);refine wf ?_)))
   all_goals (refine⟨⟨Bh (by rfl) ?_,rfl,rfl,rfl,rfl⟩,.refl _⟩;first|(simp_all;done)|(simp_all;omega)|grind)
  refine wf ?_
  refine A6 (fun h=>?_) (fun h=>?_)
  ·refine wn ?_
   refine BX 20 ?_ ?_
   ·decide+kernel
   refine wf ?_
   refine DI (k:=k) rfl rfl hlt ?_
   refine wf ?_
   refine DI (k:=k) rfl rfl hlt ?_
   refine wf ?_
   refine DI (k:=k) rfl rfl hlt ?_
   refine wf ?_
   rw[he,hd,N9,if_pos h]
   exact⟨trivial,_,_,.cons (.cell 4 65 rfl AI Ea.out (by simp)) .nil,.cons _ (.refl _),rfl,rfl⟩
  ·refine wf ?_
   exact⟨k+1,⟨by omega,by rw[he,hd,fc h]⟩,by dsimp only;omega,⟨rfl,rfl,rfl,rfl⟩,.refl _⟩
 ·refine wf ?_
  rw[Bu (by omega)]at he
  rw[he]
  exact⟨trivial,_,_,.cons (.cell 4 65 rfl AI Ea.out (by simp)) .nil,.cons _ (.refl _),rfl,rfl⟩
theorem Tb {a b c:Res} {L LF:List Res}:(a::b::c::(L++LF)).Perm (L++(a::b::c::LF)):=((BT (l₁:=L)).trans (.cons a ((BT (l₁:=L)).trans (.cons b (BT (l₁:=L)))))).symm
def av (f:Ident→Ident) (c:Chg):Chg:=if 2≤c.kind∧c.kind≤6 then { c with file:=f c.file }else c
def eu (f:Ident→Ident) (c:Chg):Chg:=if c.kind=2 then { c with parent:=f c.parent }else c
def dD (f:Ident→Ident) (c:Chg):Chg:=if c.kind=5∨c.kind=6 then { c with after:=f c.after,before:=f c.before }else c
theorem wi (f:Ident→Ident) (c:Chg) (X:List Ident): { dD f (eu f (av f c))with over:=X }= { c with file:=if 2≤c.kind∧c.kind≤6 then f c.file else c.file,parent:=if c.kind=2 then f c.parent else c.parent,after:=if c.kind=5∨c.kind=6 then f c.after else c.after,before:=if c.kind=5∨c.kind=6 then f c.before else c.before,over:=X }:=by
 unfold dD eu av
 by_cases h1:2≤c.kind∧c.kind≤6<;>by_cases h2:c.kind=2<;>by_cases h3:c.kind=5∨c.kind=6<;>simp[h1,h2,h3]
theorem nX (f:Ident→Ident) (c:Chg):(av f c).kind=c.kind∧(eu f (av f c)).kind=c.kind∧(av f c).parent=c.parent∧(eu f (av f c)).after=c.after∧(eu f (av f c)).before=c.before∧(dD f (eu f (av f c))).over=c.over:=by
 unfold dD eu av
 by_cases h1:2≤c.kind∧c.kind≤6<;>by_cases h2:c.kind=2<;>by_cases h3:c.kind=5∨c.kind=6<;>simp[h1,h2,h3]
def r9 (c:Chg):List Ident:= [c.file,c.parent,c.after,c.before]++c.over
theorem Yf (c:Chg) (d:Dig) (l:List Mvd) (v:Value) (R:List Res) (hv:Fv 108 67 v (l.map eMvd) R) (hok:xC l) (hl:l.length≤1000000) (ho:c.over.length≤1000):
  BH Tryz.prog 71 [.agg (eChg c),.agg (eDig d),.raw v] R (fun r L'=>r= .agg (eChg (LV (gM l d) c))∧L'=R):=by
 refine C8 Tryz.func71 rfl Tryz.ntmps71 (rs:= [.cell 6 73]) rfl rfl fun hb LF=>?_
 refine s7 fun b3=>?_
 refine w1 ?_
 refine CA fun b6=>?_
 refine AE ?_
 repeat(refine DT ?_)
 refine CK (by kernel_rfl) ?_
 iterate 8 (refine w1 ?_)
 refine ep (c0:=eIdent c.file) (c1:=eIdent c.parent) (c2:=eIdent c.after) (c3:=eIdent c.before) (Cw.agg _) (Cw.agg _) (Cw.agg _) (Cw.agg _) ⟨by simp,by simp,by simp,by simp⟩ (by decide) fun b7=>?_
 refine wf ?_
 refine EH ((List.Perm.swap _ _ _).trans (.cons _ (.swap _ _ _))) ?_
 refine AZ (σ:=Nat × Value × List Res) (fun k=>k.1≤c.over.length∧Fv 65 33 k.2.1 (([c.file,c.parent,c.after,c.before]++c.over.take k.1).map eIdent) k.2.2) (fun k=>c.over.length - k.1) (fun k=> [(2,.raw v),(3,.raw (.pointer (some ⟨b3,0,none⟩))),(4,.pt (eDig d) 0),(6,.raw (.pointer (some ⟨b6,0,none⟩))),(7,.raw k.2.1),(8,.raw (.int .i64 k.1))]) (fun k=> .box b6 73 (eChg Chg.zero):: .box b3 73 (eChg c)::(k.2.2++(R++LF))) (0,.slice (some ⟨b7,0,none⟩) 4 4,[.box b7 65 ([eIdent c.file,eIdent c.parent,eIdent c.after,eIdent c.before].flatten++ [])]) ⟨by simp,show Fv 65 33 (.slice (some ⟨b7,0,none⟩) 4 4) [eIdent c.file,eIdent c.parent,eIdent c.after,eIdent c.before] _ from .row rfl (by decide) (by simp) (by simp)⟩ ⟨rfl,rfl,rfl,rfl,rfl,rfl⟩ (.refl _) ?_
 rintro⟨k,v7,R7⟩ ⟨hk,hR⟩
 dsimp only at hk hR ⊢
 refine wf ?_
 refine A6 (fun hc=>?_) (fun hc=>?_)
 ·have hlt:k < c.over.length:=by omega
  refine wf ?_
  refine TB (f:=eIdent) (m:= [c.over[k]]) (R:=R7) (LF:= .box b6 73 (eChg Chg.zero):: .box b3 73 (eChg c)::(R++LF)) (fun R'=> .box b6 73 (eChg Chg.zero):: .box b3 73 (eChg c)::(R'++(R++LF))) rfl rfl hR An (fun R'=>An.symm) (by simp;omega) (by simp;omega) fun v3 R3 h3=>?_
  refine wf ?_
  refine wf ?_
  refine⟨(k+1,v3,R3),⟨by dsimp only;omega,?_⟩,by dsimp only;omega,⟨rfl,rfl,rfl,rfl,rfl,rfl⟩,.refl _⟩
  dsimp only
  rw[A7 hlt,←AV,Au]
  exact h3
 rw[AB (by omega)]at hR
 obtain⟨F,hF⟩: ∃ F,F=r9 c:=⟨_,rfl⟩
 have hFl:F.length=4+c.over.length:=by rw[hF];simp[r9];omega
 rw[show([c.file,c.parent,c.after,c.before]++c.over)=F from hF.symm]at hR
 obtain⟨⟨o,cF,rfl⟩,_⟩:=hR.slice
 rw[AQ]at hR ⊢
 refine wf ?_
 refine AZ (σ:=Nat × List Res) (fun k=>k.1≤F.length∧Fv 65 33 (.slice o F.length cF) (((F.take k.1).map (gM l d)++F.drop k.1).map eIdent) k.2) (fun k=>F.length - k.1) (fun k=> [(2,.raw v),(3,.raw (.pointer (some ⟨b3,0,none⟩))),(4,.pt (eDig d) 0),(6,.raw (.pointer (some ⟨b6,0,none⟩))),(7,.raw (.slice o F.length cF)),(9,.raw (.int .i64 k.1))]) (fun k=> .box b6 73 (eChg Chg.zero):: .box b3 73 (eChg c)::(k.2++(R++LF))) (0,R7) ⟨by simp,by simpa using hR⟩ ⟨rfl,rfl,rfl,rfl,rfl,rfl⟩ (.refl _) ?_
 clear hR
 rintro⟨k,R8⟩ ⟨hk,hR⟩
 dsimp only at hk hR ⊢
 refine wf ?_
 refine IH rfl ?_
 refine wf ?_
 refine A6 (fun hc=>?_) (fun hc=>?_)
 ·have hlt:k < F.length:=by omega
  obtain⟨xs,hxs⟩: ∃ xs,xs=((F.take k).map (gM l d)++F.drop k).map eIdent:=⟨_,rfl⟩
  rw[←hxs]at hR
  have hlk:xs.length=F.length:=by rw[hxs];simp;omega
  have hel:xs[k]'(by omega)=eIdent F[k]:=by
   subst hxs
   rw[B5,BO (by simp;omega),FB]
   congr 2
   simp;omega
  obtain⟨r,rest,rfl,rfl,hn,hcl,hsz,hcc⟩:=hR.inv (by omega)
  have hs:PA (xs.flatten++rest) (0+k*33) 33 (eIdent F[k]):=by
   rw[←hel];exact MQ hsz (by omega)
  have i1:PA (xs.flatten++rest) (0+k*33+0) 32 (eDig F[k].patch):=WX hs inferInstance
  have i2:At (xs.flatten++rest) (0+k*33+32) (.raw (.int .i64 F[k].n)):=Xp hs inferInstance
  have hset:xs.set k (eIdent (gM l d F[k]))=((F.take (k+1)).map (gM l d)++F.drop (k+1)).map eIdent:=by
   rw[hxs]
   refine Dc (by simp;omega) fun i k1 k2=>?_
   rw[SU]
   split
   ·rename_i e
    subst e
    rw[B5,B7 (by simp;omega)]
    simp
   ·rename_i e
    rw[B5,B5]
    congr 1
    rcases BN i k with h'|h'
    ·rw[B7 (by simp;omega),B7 (by simp;omega)]
     simp
    ·rw[BO (by simp;omega),BO (by simp;omega)]
     simp only[FB,AQ,Ab]
     congr 1
     omega
  have iput: ∀ y:Ident,Eg (xs.flatten++rest) (0+k*33) (eIdent y) ((xs.set k (eIdent y)).flatten++rest):=fun y=>Qh hsz (by omega) (by simp)
  have hfin:Fv 65 33 (.slice (some ⟨r,0,none⟩) F.length cF) (((F.take (k+1)).map (gM l d)++F.drop (k+1)).map eIdent) [.box r 65 ((xs.set k (eIdent (gM l d F[k]))).flatten++rest)]:=by
   have hnew: ∀ e∈xs.set k (eIdent (gM l d F[k])),e.length=33:=fun e he=>by
    rw[hset]at he
    obtain⟨a,_,rfl⟩:=AY.1 he
    simp
   rw[←hset]
   refine .row (by rw[CT,hlk]) hcl hnew ?_
   have h1:=Cv hnew
   have h2:=Cv hsz
   rw[CT]at h1
   omega
  generalize F[k]=x at*
  generalize xs.flatten++rest=cs at*
  refine wf ?_
  refine BG [(56,.raw (.bool (EO x))),(2,.raw v),(3,.raw (.pointer (some ⟨b3,0,none⟩))),(4,.pt (eDig d) 0),(6,.raw (.pointer (some ⟨b6,0,none⟩))),(7,.raw (.slice (some ⟨r,0,none⟩) F.length cF)),(9,.raw (.int .i64 k))] (.box b6 73 (eChg Chg.zero):: .box b3 73 (eChg c):: .box r 65 cs::(R++LF)) ?_ ?_
  ·repeat' (first|(refine DI (k:=k) rfl rfl hlt ?_;refine wf ?_)|(refine A6 (fun h=>?_) (fun h=>?_)<;>refine wf ?_)|(refine AR (fun h=>?_) (fun h=>?_)<;>refine wf ?_)|(refine AO (fun h=>?_) (fun h=>?_)<;>refine wf ?_)|(refine Ao (fun h=>?_) (fun h=>?_)<;>(have h2:=h;(try simp only[AA,A8,AF,AJ]at h2);refine wf ?_)))
   all_goals (refine⟨⟨Bh (by rfl) ?_,rfl,rfl,rfl,rfl,rfl,rfl⟩,.refl _⟩;unfold EO;simp_all)
  refine wf ?_
  refine AO (fun h=>?_) (fun h=>?_)
  ·have hg:gM l d x=N9 l ⟨d,x.n⟩:=by unfold gM;rw[if_pos h]
   refine wn ?_
   refine BX 12 ?_ ?_
   ·decide+kernel
   refine wf ?_
   refine DI (k:=k) rfl rfl hlt ?_
   refine wf ?_
   refine L6 (xs:= [.tmp 59,.tmp 66]) R (.box b6 73 (eChg Chg.zero):: .box b3 73 (eChg c):: .box r 65 cs::LF) (.agg (eIdent (N9 l ⟨d,x.n⟩))) (f:=134) (cs:= []) (C4 _) rfl rfl Tb (ZK l ⟨d,x.n⟩ v R hv hok hl) ?_
   refine wf ?_
   refine DI (k:=k) rfl rfl hlt ?_
   rw[←hg]
   refine wf ?_
   refine wf ?_
   exact⟨(k+1,_),⟨by dsimp only;omega,hfin⟩,by dsimp only;omega,⟨rfl,rfl,rfl,rfl,rfl,rfl⟩,.refl _⟩
  ·have hg:gM l d x=N9 l x:=by unfold gM;rw[if_neg (by simp[h])]
   refine wf ?_
   refine DI (k:=k) rfl rfl hlt ?_
   refine wf ?_
   refine L6 (xs:= [.tmp 71,.tmp 75]) R (.box b6 73 (eChg Chg.zero):: .box b3 73 (eChg c):: .box r 65 cs::LF) (.agg (eIdent (N9 l x))) (f:=134) (cs:= []) (C4 _) rfl rfl Tb (ZK l x v R hv hok hl) ?_
   refine wf ?_
   refine DI (k:=k) rfl rfl hlt ?_
   rw[←hg]
   refine wf ?_
   refine wf ?_
   exact⟨(k+1,_),⟨by dsimp only;omega,hfin⟩,by dsimp only;omega,⟨rfl,rfl,rfl,rfl,rfl,rfl⟩,.refl _⟩
 have hkk:k=F.length:=by omega
 subst hkk
 rw[DK,SV,BJ]at hR
 obtain⟨r,rest,rfl,rfl,hn,hcl,hsz,hcc⟩:=hR.inv (by omega)
 have sub: ∀ i y,F[i]? =some y→PA (((F.map (gM l d)).map eIdent).flatten++rest) (0+i*33) 33 (eIdent (gM l d y)):=fun i y h=>by
  obtain⟨hi,e⟩:=Bj.1 h
  have:=MQ (rest:=rest) hsz (i:=i) (by simpa using hi)
  rw[B5,B5,e]at this
  exact this
 have s0:=sub 0 c.file (by rw[hF];rfl)
 have s1:=sub 1 c.parent (by rw[hF];rfl)
 have s2:=sub 2 c.after (by rw[hF];rfl)
 have s3:=sub 3 c.before (by rw[hF];rfl)
 generalize ((F.map (gM l d)).map eIdent).flatten++rest=cs at*
 obtain⟨k1,k2,k3,k4,k5,k6⟩:=nX (gM l d) c
 refine wf ?_
 refine BG [(85,.raw (.bool (decide (2≤c.kind∧c.kind≤6)))),(2,.raw v),(3,.raw (.pointer (some ⟨b3,0,none⟩))),(4,.pt (eDig d) 0),(6,.raw (.pointer (some ⟨b6,0,none⟩))),(7,.raw (.slice (some ⟨r,0,none⟩) F.length cF))] (.box b6 73 (eChg Chg.zero):: .box b3 73 (eChg c):: .box r 65 cs::(R++LF)) ?_ ?_
 ·repeat' (first|(refine A6 (fun h=>?_) (fun h=>?_)<;>refine wf ?_)|(refine AR (fun h=>?_) (fun h=>?_)<;>refine wf ?_)|(refine AO (fun h=>?_) (fun h=>?_)<;>refine wf ?_)|(refine Ao (fun h=>?_) (fun h=>?_)<;>(have h2:=h;(try simp only[AA,A8,AF,AJ]at h2);refine wf ?_)))
  all_goals (refine⟨⟨Bh (by rfl) ?_,rfl,rfl,rfl,rfl,rfl⟩,.refl _⟩;first|(simp_all;done)|(simp_all;omega)|grind)
 refine wf ?_
 refine Hs True [(2,.raw v),(3,.raw (.pointer (some ⟨b3,0,none⟩))),(4,.pt (eDig d) 0),(6,.raw (.pointer (some ⟨b6,0,none⟩))),(7,.raw (.slice (some ⟨r,0,none⟩) F.length cF))] (.box b6 73 (eChg Chg.zero):: .box b3 73 (eChg (av (gM l d) c)):: .box r 65 cs::(R++LF)) ?_ fun _=>?_
 ·refine A6 (fun h=>?_) (fun h=>?_)
  ·refine wf ?_
   refine DI (k:=0) rfl rfl (by omega) ?_
   refine wf ?_
   rw[show av (gM l d) c= { c with file:=gM l d c.file } by rw[av,if_pos h]]
   exact⟨trivial,⟨rfl,rfl,rfl,rfl,rfl⟩,.refl _⟩
  ·refine wf ?_
   rw[show av (gM l d) c=c by rw[av,if_neg h]]
   exact⟨trivial,⟨rfl,rfl,rfl,rfl,rfl⟩,.refl _⟩
 generalize hc1:av (gM l d) c=c1 at k1 k2 k3 k4 k5 k6
 refine wf ?_
 refine Hs True [(2,.raw v),(3,.raw (.pointer (some ⟨b3,0,none⟩))),(4,.pt (eDig d) 0),(6,.raw (.pointer (some ⟨b6,0,none⟩))),(7,.raw (.slice (some ⟨r,0,none⟩) F.length cF))] (.box b6 73 (eChg Chg.zero):: .box b3 73 (eChg (eu (gM l d) c1)):: .box r 65 cs::(R++LF)) ?_ fun _=>?_
 ·refine A6 (fun h=>?_) (fun h=>?_)
  ·refine wf ?_
   refine DI (k:=1) rfl rfl (by omega) ?_
   refine wf ?_
   rw[show eu (gM l d) c1= { c1 with parent:=gM l d c.parent } by rw[eu,if_pos h,k3]]
   exact⟨trivial,⟨rfl,rfl,rfl,rfl,rfl⟩,.refl _⟩
  ·refine wf ?_
   rw[show eu (gM l d) c1=c1 by rw[eu,if_neg h]]
   exact⟨trivial,⟨rfl,rfl,rfl,rfl,rfl⟩,.refl _⟩
 generalize hc2:eu (gM l d) c1=c2 at k2 k4 k5 k6
 refine wf ?_
 refine BG [(104,.raw (.bool (decide (c2.kind=5∨c2.kind=6)))),(2,.raw v),(3,.raw (.pointer (some ⟨b3,0,none⟩))),(4,.pt (eDig d) 0),(6,.raw (.pointer (some ⟨b6,0,none⟩))),(7,.raw (.slice (some ⟨r,0,none⟩) F.length cF))] (.box b6 73 (eChg Chg.zero):: .box b3 73 (eChg c2):: .box r 65 cs::(R++LF)) ?_ ?_
 ·repeat' (first|(refine A6 (fun h=>?_) (fun h=>?_)<;>refine wf ?_)|(refine AR (fun h=>?_) (fun h=>?_)<;>refine wf ?_)|(refine AO (fun h=>?_) (fun h=>?_)<;>refine wf ?_)|(refine Ao (fun h=>?_) (fun h=>?_)<;>(have h2:=h;(try simp only[AA,A8,AF,AJ]at h2);refine wf ?_)))
  all_goals (refine⟨⟨Bh (by rfl) ?_,rfl,rfl,rfl,rfl,rfl⟩,.refl _⟩;first|(simp_all;done)|(simp_all;omega)|grind)
 refine wf ?_
 refine Hs True [(2,.raw v),(3,.raw (.pointer (some ⟨b3,0,none⟩))),(4,.pt (eDig d) 0),(6,.raw (.pointer (some ⟨b6,0,none⟩))),(7,.raw (.slice (some ⟨r,0,none⟩) F.length cF))] (.box b6 73 (eChg Chg.zero):: .box b3 73 (eChg (dD (gM l d) c2)):: .box r 65 cs::(R++LF)) ?_ fun _=>?_
 ·refine A6 (fun h=>?_) (fun h=>?_)
  ·refine wn ?_
   refine FM [2,5,7,9] (by decide+kernel) ?_
   refine Ar 0 ?_
   refine Ar 1 (hq:=fun _=>by refine DI (k:=2) rfl rfl (by omega) ?_;refine AE ?_;exact⟨Ch _ _ _,rfl⟩) ?_
   refine Ar 3 ?_
   refine Ar 4 (hq:=fun _=>by refine DI (k:=3) rfl rfl (by omega) ?_;refine AE ?_;exact⟨Ch _ _ _,rfl⟩) ?_
   refine C3 (fuel:=5) [2,5] (by decide+kernel) (by simp) fun i hi=>?_
   simp only[AG,Aa,or_false]at hi
   rcases hi with rfl|rfl
   ·refine⟨_,rfl,?_⟩
    refine wo ?_
    refine AE ?_
    refine Ar 6 ?_
    refine C3 (fuel:=3) [5,7] (by decide+kernel) (by simp) fun i hi=>?_
    simp only[AG,Aa,or_false]at hi
    rcases hi with rfl|rfl
    ·refine⟨_,rfl,?_⟩
     refine wo ?_
     refine AE ?_
     refine Ad 2 7 ?_
     refine wo ?_
     refine AE ?_
     refine Ar 8 ?_
     refine Ad 0 9 ?_
     refine wo ?_
     refine AE ?_
     refine CN (by decide+kernel) ?_
     rw[show dD (gM l d) c2= { c2 with after:=gM l d c.after,before:=gM l d c.before } by rw[dD,if_pos h,k4,k5]]
     exact⟨trivial,⟨rfl,rfl,rfl,rfl,rfl⟩,.refl _⟩
    ·refine⟨_,rfl,?_⟩
     refine wo ?_
     refine AE ?_
     refine Ad 2 5 ?_
     refine wo ?_
     refine AE ?_
     refine Ar 8 ?_
     refine Ad 0 9 ?_
     refine wo ?_
     refine AE ?_
     refine CN (by decide+kernel) ?_
     rw[show dD (gM l d) c2= { c2 with after:=gM l d c.after,before:=gM l d c.before } by rw[dD,if_pos h,k4,k5]]
     exact⟨trivial,⟨rfl,rfl,rfl,rfl,rfl⟩,.refl _⟩
   ·refine⟨_,rfl,?_⟩
    refine wo ?_
    refine AE ?_
    refine Ad 4 2 ?_
    refine wo ?_
    refine AE ?_
    refine Ar 6 ?_
    refine Ad 2 7 ?_
    refine wo ?_
    refine AE ?_
    refine Ar 8 ?_
    refine Ad 0 9 ?_
    refine wo ?_
    refine AE ?_
    refine CN (by decide+kernel) ?_
    rw[show dD (gM l d) c2= { c2 with after:=gM l d c.after,before:=gM l d c.before } by rw[dD,if_pos h,k4,k5]]
    exact⟨trivial,⟨rfl,rfl,rfl,rfl,rfl⟩,.refl _⟩
  ·refine wf ?_
   rw[show dD (gM l d) c2=c2 by rw[dD,if_neg h]]
   exact⟨trivial,⟨rfl,rfl,rfl,rfl,rfl⟩,.refl _⟩
 generalize hc3:dD (gM l d) c2=c3 at k6
 refine wf ?_
 refine AZ (σ:=Nat × CD × List Ident) (fun k=>4≤k.1∧k.1≤F.length∧(4 < k.1→k.2.1= .ro)∧k.2.2=(((F.map (gM l d)).take k.1).drop 4).foldl IR []) (fun k=>F.length - k.1) (fun k=> [(2,.raw v),(3,.raw (.pointer (some ⟨b3,0,none⟩))),(6,.raw (.pointer (some ⟨b6,0,none⟩))),(7,.raw (.slice (some ⟨r,0,none⟩) F.length cF)),(10,.slice (k.2.2.map eIdent) k.2.1),(11,.raw (.int .i64 k.1))]) (fun _=> .box b6 73 (eChg Chg.zero):: .box b3 73 (eChg c3):: .box r 65 cs::(R++LF)) (4,.nil,[]) ⟨by decide,by dsimp only;omega,fun h=>absurd h (by decide),by rw[Bu (by simp;omega)];rfl⟩ ⟨rfl,rfl,rfl,rfl,rfl,rfl⟩ (.refl _) ?_
 rintro⟨k,u,A⟩ ⟨hk4,hk,hu,hA⟩
 dsimp only at hk4 hk hu hA ⊢
 refine wf ?_
 refine IH rfl ?_
 refine wf ?_
 have hal:A.length≤2000:=by
  rw[hA]
  obtain⟨a1,a2⟩:=Kh (((F.map (gM l d)).take k).drop 4) [] .nil
  have:=Ei a1.nodup (u:=((F.map (gM l d)).take k).drop 4) fun x hx=>((a2 x).1 hx).elim (fun h=>absurd h Aa) (fun h=>h)
  simp only[B4,Ab,AQ]at this
  omega
 refine A6 (fun hc=>?_) (fun hc=>?_)
 ·have hlt:k < F.length:=by omega
  have i1:Ay (A.length≤1000000):=⟨by omega⟩
  have sk:=sub k F[k] (AW hlt)
  have hst:IR A (gM l d F[k])=(((F.map (gM l d)).take (k+1)).drop 4).foldl IR []:=by
   rw[hA,A7 (by simpa using hlt),mX (by simp;omega),CB,B5]
   rfl
  refine wf ?_
  refine DI (k:=k) rfl rfl hlt ?_
  refine wf ?_
  exact⟨(k+1,.ro,_),⟨by dsimp only;omega,by dsimp only;omega,fun _=>rfl,hst⟩,by dsimp only;omega,⟨rfl,rfl,rfl,rfl,rfl,rfl⟩,.refl _⟩
 have hkk:k=F.length:=by omega
 have hX:((F.map (gM l d)).take k).drop 4=c.over.map (gM l d):=by
  rw[hkk,AB (by simp),hF];rfl
 rw[hX]at hA
 have hr:LV (gM l d) c= { c3 with over:=(c.over.map (gM l d)).foldl IR [] }:=by
  rw[←hc3,←hc2,←hc1,wi];rfl
 have hmem:=(Kh (c.over.map (gM l d)) [] .nil).2
 rw[←hA]at hr hmem
 clear hA
 generalize hXA:A=X at*
 refine wf ?_
 by_cases hX0:X= []
 ·have ho0:c.over= []:=by
   cases h:c.over with
   |nil=>rfl
   |cons y m=>
    have:=(hmem (gM l d y)).2 (.inr (by rw[h];exact AI))
    rw[hX0]at this;cases this
  subst hX0
  have hr2:LV (gM l d) c=c3:=by
   rw[hr,←ho0,←k6]
  rw[hr2]
  refine HL (by rfl) ?_
  refine wf ?_
  exact⟨trivial,_,_,.cons (.cell 6 73 rfl AI Ea.out (by simp)) .nil,.cons _ (.cons _ (.cons _ (.refl _))),rfl,rfl⟩
 ·have hu:u= .ro:=by
   refine hu ?_
   refine Cf fun h=>hX0 ?_
   have ho0:c.over= []:=BA (by omega)
   cases X with
   |nil=>rfl
   |cons y m=>
    have:=(hmem y).1 AI
    rw[ho0]at this
    simp at this
  subst hu
  have hpos:0 < X.length:=Hb.2 hX0
  refine A6 (fun _=>?_) (fun h=>?_)
  ·rw[hr]
   refine wf ?_
   exact⟨trivial,_,_,.cons (.cell 6 73 rfl AI Ea.out (by simp)) .nil,.cons _ (.cons _ (.cons _ (.refl _))),rfl,rfl⟩
  ·omega
end Go.Proofs
namespace Go.Q
open Go
theorem Dt.drew {w:World} {g:Gh} {L:List Res} (hi:Dt w g L):Dt w.drew g L∧Eb (Ak L) w g w.drew g:=
 ⟨⟨hi.sat,fun b z hz=>(hi.satM b z hz).congr rfl,fun r hr=>by have:=hi.res r hr;cases r<;>first|exact this|(rename_i t _ _;cases t<;>exact this),hi.nodup,hi.glob⟩,
  ⟨rfl,rfl,⟨rfl,Nm _⟩,Al _,fun _ _ _=>rfl,.refl g,fun _ _ _=>⟨fun _=>rfl,rfl⟩⟩⟩
section
variable {P:Program} {N:Nat} {all:Array Oper} {K:Env→List Res→Prop} {fl:List Bool} {os:List Oper} {ρ:Env} {L:List Res} {Q:PPost} {c:Code} {d:Nat} {ty:TypeId} {pos:String} {af:Array Edge} {T KT ET:Nat}
theorem nK {x:Operand} {kvs:List (PV × PV)} (hx:ρ.ev x= .fmap kvs) [hT:OW P T KT ET]
  (k: ∀ b,AU P N all K fl.tail os (CR ρ d (.raw (.pointer (some ⟨b,0,none⟩)))) (.iter b kvs []::L)) (hd:Nat.blt d N=true:=by rfl) (hf:fl.headD true=true:=by rfl):
  AU P N all K fl (⟨some d,.range T x,ty,pos,af,none⟩::os) ρ L:=
 DY rfl (P7 hd) hf (fun a w g ha hi=>by
  have h1:=ha x (by simp[Op.operands])
  rw[hx]at h1
  have key: ∃ m es c,a.eval x= .map m∧(m=none→c=0)∧(∀ b,m=some b→w.heap[b]? =some (.map es c))∧Ua g m es c∧Entries g es kvs∧Gx es c:=by
   generalize a.eval x=v at h1
   cases h1 with
   |fmap hM hl hk hv=>obtain⟨hc,hs⟩:=hi.satM _ _ hM;exact⟨_,_,_,rfl,(fun e=>by cases e),(fun b e=>by cases e;exact hc),.inr ⟨_,rfl,hM⟩,⟨hl,hk,hv⟩,hs⟩
   |nilM=>exact⟨none,#[],0,rfl,fun _=>rfl,(fun b e=>by cases e),.inl ⟨rfl,rfl,rfl⟩,⟨rfl,by simp,by simp⟩,⟨by simp,by simp⟩⟩
  obtain⟨m,es,cl,e1,e0,e2,hR,hE,hS⟩:=key
  obtain⟨i1,s1⟩:=hi.allocO (.mapIter m cl #[] cl)
  have hr:(Instr.range T (a.eval x)).run P w= .ok (.pointer (some ⟨w.heap.size,0,none⟩)) (w.alloc (.mapIter m cl #[] cl)):=by
   rw[e1]
   cases m with
   |none=>rw[e0 rfl];exact run_range_nilMap w T KT ET hT.out
   |some b=>exact run_range_map w T KT ET b es cl hT.out (e2 b rfl)
  have hr':(execOp a.eval ⟨some d,.range T x,ty,pos,af,none⟩).run P w= .ok (.value (.pointer (some ⟨w.heap.size,0,none⟩))) (w.alloc (.mapIter m cl #[] cl)):=by
   simp only[execOp,hr,Sem.run_bind,Result.andThen_ok,Sem.run_pure]
  refine Oper.wq_of_run hr' ?_
  obtain⟨f1,f2⟩:=hi.fresh (b:=w.heap.size) (Al _)
  refine⟨_,_,g,_,rfl,.raw _,⟨i1.sat,i1.satM,fun r hr=>?_,?_,i1.glob⟩,s1,?_,k _⟩
  ·rcases AG.1 hr with rfl|hr
   ·exact⟨m,es,cl,by show(w.heap.push _)[w.heap.size]? =_;simp,hR,hE,f1,f2,hS,by simp⟩
   ·exact i1.res r hr
  ·simp only[Ak,B0,Res.block]
   exact Bo.2 ⟨fun h=>by have:=hi.lt h;omega,hi.nodup⟩
  ·intro b' hb' hlt
   simp only[Ak,B0,Res.block]at hb'
   rcases AG.1 hb' with rfl|hb'
   ·omega
   ·exact hb')
theorem W5 {es:Array MapEntry} {i:Nat} (h:i < es.size):(es.toList.map (·.born)).getD i 0=es[i].born:=by simp[List.getD,h]
theorem Gx.inj {es:Array MapEntry} {c i j:Nat} (hS:Gx es c) (hi:i < es.size) (hj:j < es.size) (e:es[i].born=es[j].born):i=j:=by
 have hp:=B6.1 hS.nd
 have hi':i < (es.toList.map (·.born)).length:=by simpa using hi
 have hj':j < (es.toList.map (·.born)).length:=by simpa using hj
 have e':(es.toList.map (·.born))[i]=(es.toList.map (·.born))[j]:=by simpa using e
 rcases Qy i j with h|h|h
 ·exact absurd e' (hp i j hi' hj' h)
 ·exact h
 ·exact absurd e'.symm (hp j i hj' hi' h)
theorem sQ {x:Operand} {b:Nat} {kvs:List (PV × PV)} {done:List Nat} {L':List Res} (hx:ρ.ev x= .raw (.pointer (some ⟨b,0,none⟩))) (hp:L.Perm (.iter b kvs done::L'))
  (k1:(∀ i,i < kvs.length→i∈done)→AU P N all K fl.tail os (CR ρ d (.tuple [.raw (.bool false)])) (.iter b kvs done::L'))
  (k2: ∀ i (h:i < kvs.length),i∉done→AU P N all K fl.tail os (CR ρ d (.tuple [.raw (.bool true),kvs[i].1,kvs[i].2])) (.iter b kvs (done++ [i])::L')) (hd:Nat.blt d N=true:=by rfl) (hf:fl.headD true=true:=by rfl):
  AU P N all K fl (⟨some d,.next x false,ty,pos,af,none⟩::os) ρ L:=
 DY rfl (P7 hd) hf (Fk.perm hp fun a w g ha hi=>by
  have h1:=Cb ha (x:=x) (by simp[Op.operands]) hx
  obtain⟨m,es,cl,hb,hR,hE,hH,hM,hS,hD⟩:=hi.res _ AI
  have hlen:=hE.len
  rcases hR with ⟨rfl,rfl,rfl⟩|⟨bm,rfl,hbm⟩
  ·have hr:(execOp a.eval ⟨some d,.next x false,ty,pos,af,none⟩).run P w= .ok (.value (.tuple #[.bool false])) w:=by
    simp only[execOp,h1,Instr.next,getObj,Sem.run_bind,Sem.run,hb,Result.andThen]
    rfl
   refine Oper.wq_of_run hr ?_
   exact⟨_,_,g,_,rfl,E7.tuple (.cons (.raw _) (.nil g)),hi,.refl _ _ _,.refl _ _,k1 fun i hi'=>absurd hi' (by simp at hlen;omega)⟩
  ·obtain⟨hc,_⟩:=hi.satM _ _ hbm
   rcases run_next_at (P:=P) w ty b bm cl cl _ es cl hb hc hS.lt (Al _)with ⟨h0,hr⟩|⟨e,he,w1,hw,hr⟩
   ·have hr':(execOp a.eval ⟨some d,.next x false,ty,pos,af,none⟩).run P w= .ok (.value (.tuple #[.bool false])) w:=by
     simp only[execOp,h1,hr,Sem.run_bind,Result.andThen_ok,Sem.run_pure]
    refine Oper.wq_of_run hr' ?_
    refine⟨_,_,g,_,rfl,E7.tuple (.cons (.raw _) (.nil g)),hi,.refl _ _ _,.refl _ _,k1 fun i hi'=>?_⟩
    have hi2:i < es.size:=by omega
    have hs:=all_seen es _ h0 es[i] (by simp)
    have hm:es[i].born∈done.map fun i=>(es.toList.map (·.born)).getD i 0:=by simpa using hs
    obtain⟨j,hj,e⟩:=AY.1 hm
    rw[W5 (hD j hj)]at e
    rw[←hS.inj (hD j hj) hi2 e];exact hj
   ·obtain⟨hm,hns⟩:=mem_left he
    obtain⟨i,hi1,rfl⟩:=Ag.1 hm
    have hi2:i < es.size:=by simpa using hi1
    have hi3:i < kvs.length:=by omega
    rw[Xz]at hns hr
    have hnd:i∉done:=fun hid=>by
     have:es[i].born∈done.map fun i=>(es.toList.map (·.born)).getD i 0:=AY.2 ⟨i,hid,W5 hi2⟩
     have h2:((done.map fun i=>(es.toList.map (·.born)).getD i 0).toArray).contains es[i].born=true:=by simpa using this
     rw[hns]at h2;cases h2
    have hr':(execOp a.eval ⟨some d,.next x false,ty,pos,af,none⟩).run P w= .ok (.value (.tuple #[.bool true,es[i].key,es[i].val])) (Go.ChangeMaps.setBlock w1 b (.mapIter (some bm) cl (((done.map fun i=>(es.toList.map (·.born)).getD i 0).toArray).push es[i].born) cl)):=by
     simp only[execOp,h1,hr,Sem.run_bind,Result.andThen_ok,Sem.run_pure]
    refine Oper.wq_of_run hr' ?_
    have hi1:Dt w1 g (.iter b kvs done::L')∧Eb (Ak (.iter b kvs done::L')) w g w1 g:=by
     rcases hw with rfl|rfl
     ·exact⟨hi,.refl _ _ _⟩
     ·exact hi.drew
    obtain⟨hi1,hs1⟩:=hi1
    have hndp:=hi1.nodup
    simp only[Ak,B0,Res.block]at hndp
    have hlt:b < w1.heap.size:=hi1.lt (by simp[Ak,Res.block])
    have i2:=(hi1.sub (EL _ _)).put (.mapIter (some bm) cl (((done.map fun i=>(es.toList.map (·.born)).getD i 0).toArray).push es[i].born) cl) hH hM (Bo.1 hndp).1
    refine⟨_,.tuple [.raw (.bool true),kvs[i].1,kvs[i].2],g,.iter b kvs (done++ [i])::L',rfl,E7.tuple (.cons (.raw _) (.cons (hE.key i hi2 hi3) (.cons (hE.val i hi2 hi3) (.nil g)))),⟨i2.sat,i2.satM,fun r hr=>?_,hi.nodup,hi.glob⟩,hs1.trans (.refl _ _) (.put _ (by simp[Ak,Res.block])),fun b' hb' _=>hb',k2 i hi3 hnd⟩
    rcases AG.1 hr with rfl|hr
    ·refine⟨some bm,es,cl,?_,.inr ⟨bm,rfl,hbm⟩,hE,hH,hM,hS,fun j hj=>?_⟩
     ·rw[show Go.ChangeMaps.setBlock w1 b _=w1.putObj b _ from rfl,World.putObj_heap_same hlt]
      congr 2
      simp[hi2]
     ·rcases Ah.1 hj with hj|hj
      ·exact hD j hj
      ·rw[Aj.1 hj];exact hi2
    ·exact i2.res r hr)
theorem nS {x:Operand} {b i:Nat} {kvs:List (PV × PV)} {done:List Nat} (hx:ρ.ev x= .raw (.pointer (some ⟨b,0,none⟩))) (hm:Res.iter b kvs (done++ [i])∈L) (h:i < kvs.length)
  (k:AU P N all K fl.tail os (CR ρ d (.tuple [kvs[i].1,kvs[i].2])) L) (hd:Nat.blt d N=true:=by rfl):AU P N all K fl (⟨some d,.entry x,ty,pos,af,none⟩::os) ρ L:=
 Bg hd (B9 fun a w g ha hi=>by
  have h1:=Cb ha (x:=x) (by simp[Op.operands]) hx
  obtain⟨m,es,cl,hb,hR,hE,hH,hM,hS,hD⟩:=hi.res _ hm
  have hi2:i < es.size:=hD i (by simp)
  rcases hR with ⟨rfl,rfl,rfl⟩|⟨bm,rfl,hbm⟩
  ·simp at hi2
  ·obtain⟨hc,_⟩:=hi.satM _ _ hbm
   have e1:((done++ [i]).map fun i=>(es.toList.map (·.born)).getD i 0).toArray=((done.map fun i=>(es.toList.map (·.born)).getD i 0).toArray).push es[i].born:=by simp[hi2]
   rw[e1]at hb
   have hr:=run_entry_at (P:=P) w b bm cl _ es cl es[i] hb hc (by simp) hS.nd
   refine⟨_,?_,E7.tuple (.cons (hE.key i hi2 h) (.cons (hE.val i hi2 h) (.nil g)))⟩
   simp only[execOp,h1,hr,Sem.run_bind,Result.andThen_ok,Sem.run_pure]) k
end
theorem MM {κ:Type} [DecidableEq κ] {k:κ}: ∀ {l:List κ},Hx k l=none→Hx k (l++ [k])=some l.length
 | [],_=>by simp[Hx]
 |a::l,h=>by
  simp only[Hx]at h
  by_cases e:k=a
  ·simp[e]at h
  ·simp only[e,if_false,Ud]at h
   simp[Hx,e,MM h]
theorem Ri {κ α:Type} [DecidableEq κ] (k:κ) (x y:α): ∀ l:List (κ × α),Dd k x (Dd k y l)=Dd k x l
 | []=>by simp[Dd]
 |(a,z)::l=>by
  by_cases e:k=a
  ·subst e;simp[Dd]
  ·simp[Dd,e,Ri k x y l]
structure cB {κ α:Type} [DecidableEq κ] (es:Array MapEntry) (cl:Nat) (l:List (κ × α)) (k0:κ) (i:Nat) (n:Int):Prop where
 st:Gx es cl
 idx:Hx k0 (l.map (·.1))=some i
 len:es.size=l.length
 born: ∀ h:i < es.size,(es[i].born:Int)=n
def KG (es:Array MapEntry) (kvs:List (PV × PV)):Res:= .know (es.toList.map (·.key)++es.toList.map (·.val)) (kvs.map (·.1)++kvs.map (·.2))
theorem Entries.know {g:Gh} {es:Array MapEntry} {kvs:List (PV × PV)} (h:Entries g es kvs):E7 g (es.toList.map (·.key)++es.toList.map (·.val)) (kvs.map (·.1)++kvs.map (·.2)):=by
 have hl:=h.len
 refine E7.append ⟨by simp[hl],fun i h1 h2=>?_⟩ ⟨by simp[hl],fun i h1 h2=>?_⟩
 ·simpa using h.key i (by simpa using h1) (by simpa using h2)
 ·simpa using h.val i (by simpa using h1) (by simpa using h2)
theorem Entries.of_know {g:Gh} {es:Array MapEntry} {kvs:List (PV × PV)} (hl:es.size=kvs.length) (h:E7 g (es.toList.map (·.key)++es.toList.map (·.val)) (kvs.map (·.1)++kvs.map (·.2))):Entries g es kvs:=by
 refine⟨hl,fun i h1 h2=>?_,fun i h1 h2=>?_⟩
 ·have:=h.at_ i (by simp;omega) (by simp;omega)
  rw[B7 (by simpa using h1),B7 (by simpa using h2)]at this
  simpa using this
 ·have:=h.at_ (es.size+i) (by simp;omega) (by simp;omega)
  rw[BO (by simp),BO (by simp;omega)]at this
  simpa [hl]using this
section
variable {P:Program} {N:Nat} {all:Array Oper} {K:Env→List Res→Prop} {fl:List Bool} {os:List Oper} {ρ:Env} {L:List Res} {d:Nat} {ty:TypeId} {pos:String} {af:Array Edge}
variable {κ α:Type} [DecidableEq κ] {ek:κ→PV} {ev:α→PV} {T KT ET:Nat}
theorem Sy [hT:OW P T KT ET] [hK:SR P KT ek] {a0:α} [hz:ZV P ET ev a0] {x y:Operand} {b:Nat} {l:List (κ × α)} {k0:κ} {L':List Res} (hx:ρ.ev x= .raw (.map (some b))) (hp:L.Perm (.map b (Bb ek ev l)::L')) (hk:Le (ρ.ev y) (ek k0))
  (k: ∀ es cl i n,cB es cl (Dd k0 ((CY k0 l).getD a0) l) k0 i n→AU P N all K fl.tail os (CR ρ d (.tuple [ev ((CY k0 l).getD a0),.raw (.int .i64 n)])) (.raw b (.map es cl)::KG es (Bb ek ev (Dd k0 ((CY k0 l).getD a0) l))::L')) (hd:Nat.blt d N=true:=by rfl) (hfl:fl.headD true=true:=by rfl):
  AU P N all K fl (⟨some d,.mapEntry T x y,ty,pos,af,none⟩::os) ρ L:=
 DY rfl (P7 hd) hfl (Fk.perm hp fun a w g ha hi=>by
  have h1:=Cb ha (x:=x) (by simp[Op.operands]) hx
  have h2:=hk g _ (ha y (by simp[Op.operands]))
  obtain⟨es,cl,hb,hE,hH,hM,hS⟩:=hi.res _ (AI)
  have hl:es.size=l.length:=by simpa [Bb]using hE.len
  have hf:=hK.out.find g (a.eval y) k0 es.toList (l.map (·.1)) w h2 (by simpa using hl) (fun i h h'=>by
   have:=hE.key i (by simpa using h) (by simpa [Bb]using h')
   simpa [Bb]using this)
  have hlt:b < w.heap.size:=(BF.1 hb).1
  have hnd:=hi.nodup
  simp only[Ak,B0,Res.block]at hnd
  have hrest:Dt w g L':=hi.sub (EL _ _)
  have fin: ∀ (es':Array MapEntry) (cl' i:Nat) (n:Int) (u:Value),Entries g es' (Bb ek ev (Dd k0 ((CY k0 l).getD a0) l))→cB es' cl' (Dd k0 ((CY k0 l).getD a0) l) k0 i n→VR g u (ev ((CY k0 l).getD a0))→(Instr.mapEntry T (a.eval x) (a.eval y)).run P w= .ok (.tuple #[u,goInt n]) (w.putObj b (.map es' cl'))→
    Oper.wq P ⟨some d,.mapEntry T x y,ty,pos,af,none⟩ a w (fun a' w'=> ∃ v x g' L'',a'=a.put (some d) v∧VR g' v x∧Dt w' g' L''∧Eb (Ak (.map b (Bb ek ev l)::L')) w g w' g'∧De w (.map b (Bb ek ev l)::L') L''∧AU P N all K fl.tail os (CR ρ d x) L''):=fun es' cl' i n u hE' hO hu hr=>by
   have hr':(execOp a.eval ⟨some d,.mapEntry T x y,ty,pos,af,none⟩).run P w= .ok (.value (.tuple #[u,goInt n])) (w.putObj b (.map es' cl')):=by
    simp only[execOp,hr,Sem.run_bind,Result.andThen_ok,Sem.run_pure]
   refine Oper.wq_of_run hr' ?_
   have i2:=hrest.put (.map es' cl') hH hM (Bo.1 hnd).1
   refine⟨_,.tuple [ev ((CY k0 l).getD a0),.raw (.int .i64 n)],g,.raw b (.map es' cl')::KG es' (Bb ek ev (Dd k0 ((CY k0 l).getD a0) l))::L',rfl,E7.tuple (.cons hu (.cons (.raw _) (.nil g))),⟨i2.sat,i2.satM,fun r hr=>?_,?_,hi.glob⟩,.put _ (by simp[Ak,Res.block]),fun b' hb' _=>?_,k es' cl' i n hO⟩
   ·rcases AG.1 hr with rfl|hr
    ·exact⟨World.putObj_heap_same hlt,hH,hM⟩
    ·rcases AG.1 hr with rfl|hr
     ·exact hE'.know
     ·exact i2.res r hr
   ·simpa only[Ak,B0,Res.block,KG]using hnd
   ·simpa only[Ak,B0,Res.block,KG]using hb'
  cases hi':Hx k0 (l.map (·.1))with
  |none=>
   rw[hi']at hf
   obtain⟨i0,z,z1,z2,z3⟩:=hz.out
   have e0:(CY k0 l).getD a0=a0:=by rw[ML k0 hi'];rfl
   rw[e0]at fin
   rw[Gl k0 a0 hi']at fin
   refine fin (es.push { key:=a.eval y,val:=z,born:=cl }) (cl+1) l.length cl z ?_ ⟨hS.push rfl,?_,by simp[hl],fun h=>?_⟩ (z3 g) ?_
   ·rw[Bb,Au]
    refine⟨by simp[hl],fun i j1 j2=>?_,fun i j1 j2=>?_⟩
    ·by_cases hi2:i < es.size
     ·rw[Mc hi2,B7 (by simp;omega)]
      exact hE.key i hi2 (by simp[Bb];omega)
     ·have e:i=es.size:=by simp at j1;omega
      subst e
      rw[BO (by simp[hl])]
      rw[Me];simpa [hl]using h2
    ·by_cases hi2:i < es.size
     ·rw[Mc hi2,B7 (by simp;omega)]
      exact hE.val i hi2 (by simp[Bb];omega)
     ·have e:i=es.size:=by simp at j1;omega
      subst e
      rw[BO (by simp[hl])]
      rw[Me];simpa [hl]using z3 g
   ·rw[Au]
    have:=MM hi'
    simpa using this
   ·simp[←hl]
   ·unfold Instr.mapEntry
    simp only[Sem.run_bind,run_underlying hT.out,Result.andThen_ok,h1,MapKept.run_getObj_map hb,hK.out.check false g _ k0 w h2,hf,SS,zeroValue,typeInfo,run_program,z1,z2,Sem.run_pure,MapKept.run_setObj_map _ hb]
    rfl
  |some i=>
   rw[hi']at hf
   obtain⟨y0,e1,e2,e3⟩:=Ht k0 ((CY k0 l).getD a0) hi'
   have hli:i < l.length:=(Bj.1 e1).1
   have hli':i < es.size:=by omega
   have hy0:l[i]=(k0,y0):=(Bj.1 e1).2
   have e0:(CY k0 l).getD a0=y0:=by rw[e3];rfl
   rw[e0]at e2 fin
   have e4:l.set i (k0,y0)=l:=by rw[←hy0];exact List.set_getElem_self hli
   rw[e4]at e2
   rw[e2]at fin
   have hkey:VR g es[i].key (ek k0):=by
    have:=hE.key i hli' (by simp[Bb];exact hli)
    simpa [Bb,hy0]using this
   have hval:VR g es[i].val (ev y0):=by
    have:=hE.val i hli' (by simp[Bb];exact hli)
    simpa [Bb,hy0]using this
   have hsame:=hK.out.same g _ _ k0 hkey h2
   refine fin (es.modify i fun e=>{ e with key:=a.eval y }) cl i es[i].born es[i].val ?_ ⟨hS.modify fun _=>rfl,hi',by simpa using hl,fun h=>by simp[Eo]⟩ hval ?_
   ·refine⟨by simp[Bb,hl],fun j j1 j2=>?_,fun j j1 j2=>?_⟩
    ·simp only[H4]at j1
     rw[Eo (by simpa using j1)]
     by_cases hj:i=j
     ·subst hj
      simp[Bb,hy0];exact h2
     ·simp only[hj,if_false]
      exact hE.key j j1 j2
    ·simp only[H4]at j1
     rw[Eo (by simpa using j1)]
     by_cases hj:i=j
     ·subst hj
      simp[Bb,hy0];exact hval
     ·simp only[hj,if_false]
      exact hE.val j j1 j2
   ·have hf2:(Instr.findKey KT (a.eval y) es.toList).run P w= .ok (some (i,es[i].val)) w:=by rw[hf];simp[hli']
    have hst:(Instr.keyThatStays es[i].key (a.eval y)).run P w= .ok (a.eval y) w:=by unfold Instr.keyThatStays;rw[if_pos hsame];rfl
    unfold Instr.mapEntry
    simp only[Sem.run_bind,run_underlying hT.out,Result.andThen_ok,h1,MapKept.run_getObj_map hb,hK.out.check false g _ k0 w h2,hf2,CQ hli',Gz,CJ,hst,MapKept.run_setObj_map _ hb]
    rfl)
theorem QG {es:Array MapEntry} {cl i:Nat} {n:Int} {x y z:Operand} {b:Nat} {l:List (κ × α)} {k0:κ} {x0:α} {L':List Res} (hO:cB es cl l k0 i n) (hx:ρ.ev x= .raw (.map (some b))) (hy:ρ.ev y= .raw (.int .i64 n)) (hz:Le (ρ.ev z) (ev x0)) (hp:L.Perm (.raw b (.map es cl)::KG es (Bb ek ev l)::L'))
  (k:AU P N all K fl.tail os ρ (.map b (Bb ek ev (Dd k0 x0 l))::L')) (hfl:fl.headD true=true:=by rfl):AU P N all K fl (⟨none,.entryStore T x y z,ty,pos,af,none⟩::os) ρ L:=
 DY rfl (fun _ e=>by cases e) hfl (Fk.perm hp fun a w g ha hi=>by
  have h1:=Cb ha (x:=x) (by simp[Op.operands]) hx
  have h2:=Cb ha (x:=y) (by simp[Op.operands]) hy
  have h3:=hz g _ (ha z (by simp[Op.operands]))
  obtain⟨hb,hH,hM⟩:=hi.res _ (AI)
  have hkn:=hi.res _ (AL _ AI)
  have hE:Entries g es (Bb ek ev l):= .of_know (by simpa [Bb]using hO.len) hkn
  obtain⟨y0,e1,e2,_⟩:=Ht k0 x0 hO.idx
  have hli:i < l.length:=(Bj.1 e1).1
  have hli':i < es.size:=by have:=hO.len;omega
  have hy0:l[i]=(k0,y0):=(Bj.1 e1).2
  have hlt:b < w.heap.size:=(BF.1 hb).1
  have hbn:=hO.born hli'
  have hnd:=hi.nodup
  simp only[Ak,B0,Res.block,KG]at hnd
  have hrest:Dt w g L':=hi.sub ((EL _ _).trans (EL _ _))
  have hfi:es.findIdx? (fun e=>(e.born:Int)==n)=some i:=by
   rw[Array.findIdx?_eq_some_iff_getElem]
   refine⟨hli',by simpa using hbn,fun j hj=>?_⟩
   have hj':j < es.size:=by omega
   intro h
   have:(es[j].born:Int)=n:=by simpa using h
   have:=hO.st.inj hj' hli' (by omega)
   omega
  have hr:(Instr.entryStore T (a.eval x) (a.eval y) (a.eval z)).run P w= .ok () (w.putObj b (.map (es.modify i fun e=>{ e with val:=a.eval z }) cl)):=by
   unfold Instr.entryStore
   simp only[Sem.run_bind,h1,h2,MapKept.run_getObj_map hb,asInt,asIntOf,Sem.run_pure,Result.andThen_ok,hfi,MapKept.run_setObj_map _ hb]
   rfl
  have hr':(execOp a.eval ⟨none,.entryStore T x y z,ty,pos,af,none⟩).run P w= .ok .skip (w.putObj b (.map (es.modify i fun e=>{ e with val:=a.eval z }) cl)):=by
   simp only[execOp,hr,Sem.run_bind,Result.andThen_ok,Sem.run_pure]
  refine Oper.wq_of_run hr' ?_
  have i2:=hrest.put (.map (es.modify i fun e=>{ e with val:=a.eval z }) cl) hH hM (Bo.1 hnd).1
  refine⟨undef,.raw undef,g,.map b (Bb ek ev (Dd k0 x0 l))::L',rfl,.raw _,⟨i2.sat,i2.satM,fun r hr=>?_,?_,hi.glob⟩,.put _ (by simp[Ak,Res.block]),fun b' hb' _=>?_,k⟩
  ·rcases AG.1 hr with rfl|hr
   ·refine⟨_,cl,World.putObj_heap_same hlt,?_,hH,hM,hO.st.modify fun _=>rfl⟩
    rw[e2]
    refine⟨by simp[Bb,hO.len],fun j j1 j2=>?_,fun j j1 j2=>?_⟩
    ·simp only[H4]at j1
     have j3:j < l.length:=by have:=hO.len;omega
     rw[Eo (by simpa using j1)]
     have:=hE.key j j1 (by simp[Bb];exact j3)
     by_cases hj:i=j
     ·subst hj
      simpa [Bb,hy0]using this
     ·simp only[hj,if_false]
      simpa [Bb,P4 hj]using this
    ·simp only[H4]at j1
     have j3:j < l.length:=by have:=hO.len;omega
     rw[Eo (by simpa using j1)]
     by_cases hj:i=j
     ·subst hj
      simp[Bb];exact h3
     ·simp only[hj,if_false]
      have:=hE.val j j1 (by simp[Bb];exact j3)
      simpa [Bb,P4 hj]using this
   ·exact i2.res r hr
  ·simpa only[Ak,B0,Res.block]using hnd
  ·simpa only[Ak,B0,Res.block,KG]using hb')
end
end Go.Q
namespace Go.Proofs
open Go Go.Q
attribute [local irreducible] EY AU BH Fk
def Y4 (x:List Dig × CD):PV:= .slice (x.1.map eDig) x.2
instance zp:ZV Tryz.prog 24 Y4 ([],.nil):=eH (v:= .slice none 0 0) (by kernel_rfl) fun _=> .nilN none (by simp)
def aZ (x:List Dig × CD):Res:= .tok x.2 x.1.length 32
def Uf (m:List (Dig × (List Dig × CD))):List Res:=m.map fun e=>aZ e.2
def rk (k:Dig) (m:List (Dig × (List Dig × CD))) (R:List Res):Prop:=(CY k m=none∧R=Uf m)∨ ∃ v,CY k m=some v∧(Uf m).Perm (aZ v::R)
theorem PY (k:Dig): ∀ m:List (Dig × (List Dig × CD)),∃ R,rk k m R∧ ∀ v,(Uf (Dd k v m)).Perm (aZ v::R)
 | []=>⟨[],.inl ⟨rfl,rfl⟩,fun v=> .refl _⟩
 |(a,y)::l=>by
  by_cases e:k=a
  ·exact⟨Uf l,.inr ⟨y,by simp[CY,e],.refl _⟩,fun v=>by simp[Dd,e,Uf]⟩
  ·obtain⟨R,h1,h2⟩:=PY k l
   refine⟨aZ y::R,?_,fun v=>?_⟩
   ·rcases h1 with ⟨h,rfl⟩|⟨v,h,hp⟩
    ·exact .inl ⟨by simp[CY,e,h],rfl⟩
    ·exact .inr ⟨v,by simp[CY,e,h],(List.Perm.cons (aZ y) hp).trans (.swap _ _ _)⟩
   ·have e2:Dd k v ((a,y)::l)=(a,y)::Dd k v l:=by simp[Dd,e]
    rw[e2]
    exact(List.Perm.cons (aZ y) (h2 v)).trans (.swap _ _ _)
theorem Yq {P:Program} {N:Nat} {c:Code} {Q:PPost} {ρ:Env} {A LF R:List Res} {m:List (Dig × (List Dig × CD))} {k:Dig} (h:rk k m R) (hk:EY P N c Q ρ (A++aZ ((CY k m).getD ([],.nil))::(R++LF))):EY P N c Q ρ (A++(Uf m++LF)):=by
 rcases h with ⟨h,rfl⟩|⟨v,h,hp⟩
 ·rw[h]at hk
  refine EC 32 ?_
  exact EH BT.symm hk
 ·rw[h]at hk
  exact EH (List.Perm.append_left A (hp.append_right LF)) hk
def bP (m:List (Dig × (List Dig × CD))) (d:Dig):List Dig:=((CY d m).getD ([],.nil)).1
def gK (G:List (Dig × List Dig)) (i:Nat):Dig:=(G.getD i (Dig.zero,[])).1
def gV (G:List (Dig × List Dig)) (i:Nat):List Dig:=(G.getD i (Dig.zero,[])).2
def bR (G:List (Dig × List Dig)) (done:List Nat) (d:Dig):List Dig:=(done.filter fun i=>decide (d∈gV G i)).map (gK G)
structure Nl (G:List (Dig × List Dig)) (done:List Nat) (y:Dig) (part ex:List Dig) (m:List (Dig × (List Dig × CD))):Prop where
 val: ∀ d,bP m d=bR G done d++(if d∈part then [y]else [])
 is: ∀ d,(CY d m).isSome=true↔(∃ i∈done,d=gK G i∨d∈gV G i)∨d∈ex
theorem Nl.start (G:List (Dig × List Dig)) (y:Dig):Nl G [] y [] [] []:=⟨fun d=>by simp[bP,CY,bR],fun d=>by simp[CY]⟩
theorem dM (m:List (Dig × (List Dig × CD))) (k d:Dig) (v:List Dig × CD):bP (Dd k v m) d=if d=k then v.1 else bP m d:=by
 unfold bP
 rw[HQ]
 by_cases h:d=k
 ·rw[if_pos h,if_pos h];rfl
 ·rw[if_neg h,if_neg h]
theorem Nl.own {G:List (Dig × List Dig)} {done:List Nat} {z y:Dig} {m:List (Dig × (List Dig × CD))} (h:Nl G done z [] [] m) (t:CD):Nl G done y [] [y] (Dd y (bP m y++ [],t) m):=by
 refine⟨fun d=>?_,fun d=>?_⟩
 ·rw[dM]
  have:=h.val d
  by_cases e:d=y
  ·subst e;simpa using this
  ·rw[if_neg e];simpa using this
 ·rw[HQ]
  by_cases e:d=y
  ·subst e;simp
  ·rw[if_neg e,h.is d];simp[e]
theorem Nl.step {G:List (Dig × List Dig)} {done:List Nat} {y x:Dig} {part:List Dig} {m:List (Dig × (List Dig × CD))} (h:Nl G done y part (y::part) m) (hx:x∉part) (t:CD):Nl G done y (part++ [x]) (y::(part++ [x])) (Dd x (bP m x++ [y],t) m):=by
 refine⟨fun d=>?_,fun d=>?_⟩
 ·rw[dM]
  have:=h.val d
  by_cases e:d=x
  ·subst e
   rw[if_neg hx]at this
   rw[if_pos rfl,this,if_pos (by simp)];simp
  ·rw[if_neg e,this]
   by_cases e2:d∈part<;>simp[e,e2]
 ·rw[HQ]
  by_cases e:d=x
  ·subst e;simp
  ·rw[if_neg e,h.is d];simp[e]
theorem Nl.next {G:List (Dig × List Dig)} {done:List Nat} {z:Dig} {i:Nat} {m:List (Dig × (List Dig × CD))} (h:Nl G done (gK G i) (gV G i) (gK G i::gV G i) m):Nl G (done++ [i]) z [] [] m:=by
 refine⟨fun d=>?_,fun d=>?_⟩
 ·rw[h.val d]
  unfold bR
  by_cases e:d∈gV G i<;>simp[e]
 ·rw[h.is d]
  constructor
  ·rintro(⟨j,hj,h2⟩|h2)
   ·exact .inl ⟨j,by simp[hj],h2⟩
   ·exact .inl ⟨i,by simp,by simpa using h2⟩
  ·rintro(⟨j,hj,h2⟩|h2)
   ·rcases Ah.1 hj with hj|hj
    ·exact .inl ⟨j,hj,h2⟩
    ·rw[Aj.1 hj]at h2
     exact .inr (by simpa using h2)
   ·cases h2
theorem Nl.len {G:List (Dig × List Dig)} {done:List Nat} {y:Dig} {part ex:List Dig} {m:List (Dig × (List Dig × CD))} (h:Nl G done y part ex m) (d:Dig):(bP m d).length≤done.length+1:=by
 rw[h.val d]
 have:(bR G done d).length≤done.length:=by unfold bR;rw[AQ];exact EA _ _
 rw[AD]
 split<;>simp<;>omega
theorem UM {done:List Nat} {n:Nat} (h1:done.Nodup) (h2: ∀ i∈done,i < n):done.length≤n:=by
 have:=Ei h1 (u:=List.range n) fun i hi=>BZ.2 (h2 i hi)
 simpa using this
theorem xV (m:List (Dig × (List Dig × CD))):Le (.fmap (Bb kDig Y4 m)) (.fmap (Bb kDig (KV eDig) (m.map fun e=>(e.1,e.2.1)))):=fun g v h=>by
 generalize hk:Bb kDig Y4 m=kvs at h
 cases h with
 |fmap hM hl hk2 hv=>
  subst hk
  refine .fmap hM (by simpa [Bb]using hl) (fun i h1 h2=>?_) (fun i h1 h2=>?_)
  ·have:=hk2 i h1 (by simpa [Bb]using h2)
   simpa [Bb]using this
  ·have:=hv i h1 (by simpa [Bb]using h2)
   simp only[Bb,B5]at this ⊢
   exact this.ro
 |nilM=>
  have:m= []:=by simpa [Bb]using hk
  subst this
  exact .nilM
theorem ZO (m:List (Dig × (List Dig × CD))) (d:Dig):CY d (m.map fun e=>(e.1,e.2.1))=(CY d m).map (·.1):=by
 induction m with
 |nil=>rfl
 |cons x m ih=>
  obtain⟨a,y⟩:=x
  simp only[Aq,CY,ih]
  split<;>rfl
theorem dN (m:List (Dig × (List Dig × CD))) (d:Dig):ndG (m.map fun e=>(e.1,e.2.1)) d=bP m d:=by
 unfold ndG bP
 rw[ZO]
 cases CY d m<;>rfl
theorem eO (G:List (Dig × List Dig)) (hl:G.length≤1000) (hnd: ∀ i,(gV G i).Nodup) (hvl: ∀ i,(gV G i).length≤1000):
  BH Tryz.prog 107 [.fmap (Bb kDig (KV eDig) G)] [] (fun r L'=>(∃ m done,r= .fmap (Bb kDig Y4 m)∧done.Nodup∧(∀ i,i∈done↔i < G.length)∧Nl G done Dig.zero [] [] m)∧L'= []):=by
 refine C8 Tryz.func107 rfl Tryz.ntmps107 (rs:= [.tmp 2]) rfl rfl fun hb LF=>?_
 rw[BB]
 refine wf ?_
 refine Rj fun m=>?_
 refine wf ?_
 refine nK (kvs:=Bb kDig (KV eDig) G) rfl fun b=>?_
 refine wf ?_
 refine AZ (σ:=List Nat × List (Dig × (List Dig × CD))) (fun k=>k.1.Nodup∧(∀ i∈k.1,i < G.length)∧Nl G k.1 Dig.zero [] [] k.2) (fun k=>G.length - k.1.length) (fun k=> [(3,.raw (.map (some m))),(10,.raw (.pointer (some ⟨b,0,none⟩)))]) (fun k=> .iter b (Bb kDig (KV eDig) G) k.1:: .map m (Bb kDig Y4 k.2)::(Uf k.2++LF)) ([],[]) ⟨.nil,by simp,.start _ _⟩ ⟨rfl,rfl⟩ (.refl _) ?_
 rintro⟨done,T⟩ ⟨hdn,hdl,hT⟩
 dsimp only at hdn hdl hT ⊢
 have hkl:(Bb kDig (KV eDig) G).length=G.length:=by simp[Bb]
 refine wf ?_
 refine sQ rfl (.refl _) (fun hall=>?_) (fun i hi hni=>?_)
 ·refine wo ?_
  refine AE ?_
  refine DT ?_
  refine Kc (t:=false) rfl (fun h=>by cases h) (fun _=>?_)
  refine Gd ?_
  refine O9 [(3,.fmap (Bb kDig Y4 T))] (.inr ⟨rfl,rfl⟩) (.swap _ _ _) ?_
  refine wf ?_
  refine⟨trivial,_,[],.cons (.tmp 2) .nil,?_,⟨T,done,rfl,hdn,fun i=>⟨hdl i,fun h=>hall i (by rw[hkl];exact h)⟩,hT⟩,rfl⟩
  exact .cons _ (DC _ _)
 have hi2:i < G.length:=by rw[←hkl];exact hi
 have hgd:G.getD i (Dig.zero,[])=G[i]:=by simp[List.getD,hi2]
 have hgk:gK G i=G[i].1:=by unfold gK;rw[hgd]
 have hgv:gV G i=G[i].2:=by unfold gV;rw[hgd]
 have e1:(Bb kDig (KV eDig) G)[i].1= .agg (eDig (gK G i)):=by rw[hgk];simp[Bb,kDig]
 have e2:(Bb kDig (KV eDig) G)[i].2= .slice ((gV G i).map eDig) .ro:=by rw[hgv];simp[Bb,KV]
 have hdl2:=UM hdn hdl
 rw[e1,e2]
 refine wf ?_
 refine nS rfl AI hi ?_
 rw[e1,e2]
 refine wf ?_
 refine CA fun b4=>?_
 refine wo ?_
 refine AE ?_
 refine B2 4 ?_
 have hok: ∀ z,(bP T z).length≤1001:=fun z=>by have:=hT.len z;omega
 obtain⟨R,hR1,hR2⟩:=PY (gK G i) T
 refine Yq (A:= [.iter b (Bb kDig (KV eDig) G) (done++ [i]),.map m (Bb kDig Y4 T)]) hR1 ?_
 have hl0:=hok (gK G i)
 have hown:=fun t=>hT.own (y:=gK G i) t
 unfold bP at hl0 hown
 generalize hv0:(CY (gK G i) T).getD ([],CD.nil)=v0 at hl0 hown ⊢
 obtain⟨l0,t0⟩:=v0
 dsimp only at hl0 hown
 refine wf ?_
 refine Sy (ek:=kDig) (ev:=Y4) (k0:=gK G i) (l:=T) (L':= .iter b (Bb kDig (KV eDig) G) (done++ [i]):: .tok t0 l0.length 32::(R++LF)) rfl (.swap _ _ _) (.refl _) fun es cl ix n hO=>?_
 rw[hv0]at hO ⊢
 refine wf ?_
 refine Gb (f:=eDig) (l:=l0) (m:= []) (t:=t0) (L':=fun t'=> .raw m (.map es cl)::KG es (Bb kDig Y4 (Dd (gK G i) (l0,t0) T)):: .iter b (Bb kDig (KV eDig) G) (done++ [i]):: .tok t' (l0++ []).length 32::(R++LF)) rfl rfl (by simp only[Ae];omega) (by simp only[Ae];omega) (fun t'=> .there (.there (.there .here))) fun t'=>?_
 refine wf ?_
 refine QG (ek:=kDig) (ev:=Y4) (x0:=(l0++ [],t')) (L':= .iter b (Bb kDig (KV eDig) G) (done++ [i]):: .tok t' (l0++ []).length 32::(R++LF)) hO rfl rfl (.refl _) (.refl _) ?_
 rw[Ri]
 refine AE ?_
 have hT1:=hown t'
 have hp1:=hR2 (l0++ [],t')
 generalize Dd (gK G i) (l0++ [],t') T=T1 at hT1 hp1 ⊢
 refine EH (L':= .iter b (Bb kDig (KV eDig) G) (done++ [i]):: .map m (Bb kDig Y4 T1)::(Uf T1++LF)) ((List.Perm.swap _ _ _).trans (.cons _ (.cons _ ((hp1.append_right LF).symm)))) ?_
 clear hp1 hown hl0 hv0 hR1 hR2 hO
 have hni2:=hnd i
 have hvli:=hvl i
 have hnx:=fun m=>Nl.next (G:=G) (done:=done) (z:=Dig.zero) (i:=i) (m:=m)
 generalize gK G i=y at hT1 hnx ⊢
 generalize gV G i=nv at hni2 hvli hnx ⊢
 refine wf ?_
 refine AZ (σ:=Nat × List (Dig × (List Dig × CD))) (fun j=>j.1≤nv.length∧Nl G done y (nv.take j.1) (y::nv.take j.1) j.2) (fun j=>nv.length - j.1) (fun j=> [(3,.raw (.map (some m))),(4,.pt (eDig y) 0),(10,.raw (.pointer (some ⟨b,0,none⟩))),(23,.slice (nv.map eDig) .ro),(24,.raw (.int .i64 nv.length)),(25,.raw (.int .i64 j.1))]) (fun j=> .iter b (Bb kDig (KV eDig) G) (done++ [i]):: .map m (Bb kDig Y4 j.2)::(Uf j.2++LF)) (0,T1) ⟨by simp,hT1⟩ ⟨rfl,rfl,rfl,rfl,rfl,rfl⟩ (.refl _) ?_
 clear hT1
 rintro⟨j,T2⟩ ⟨hj,hT2⟩
 dsimp only at hj hT2 ⊢
 refine wf ?_
 refine A6 (fun hc=>?_) (fun hc=>?_)
 ·have hlt:j < nv.length:=by omega
  have hnj:nv[j]∉nv.take j:=fun h=>by
   obtain⟨q,hq,e⟩:=Ag.1 h
   rw[Ab]at hq
   rw[FA]at e
   have:=(B6.1 hni2) q j (by omega) hlt (by omega)
   exact this e
  have hl0:(bP T2 nv[j]).length≤1001:=by have:=hT2.len nv[j];omega
  have hown:=fun t=>hT2.step hnj t
  rw[←A7 hlt]at hown
  obtain⟨R,hR1,hR2⟩:=PY nv[j] T2
  refine wf ?_
  refine CA fun b7=>?_
  refine wo ?_
  refine AE ?_
  refine B2 7 ?_
  refine Yq (A:= [.iter b (Bb kDig (KV eDig) G) (done++ [i]),.map m (Bb kDig Y4 T2)]) hR1 ?_
  unfold bP at hl0 hown
  generalize hv0:(CY nv[j] T2).getD ([],CD.nil)=v0 at hl0 hown ⊢
  obtain⟨l0,t0⟩:=v0
  dsimp only at hl0 hown
  refine wf ?_
  refine Sy (ek:=kDig) (ev:=Y4) (k0:=nv[j]) (l:=T2) (L':= .iter b (Bb kDig (KV eDig) G) (done++ [i]):: .tok t0 l0.length 32::(R++LF)) rfl (.swap _ _ _) (.refl _) fun es cl ix n hO=>?_
  rw[hv0]at hO ⊢
  refine wf ?_
  refine Gb (f:=eDig) (l:=l0) (m:= [y]) (t:=t0) (L':=fun t'=> .raw m (.map es cl)::KG es (Bb kDig Y4 (Dd nv[j] (l0,t0) T2)):: .iter b (Bb kDig (KV eDig) G) (done++ [i]):: .tok t' (l0++ [y]).length 32::(R++LF)) rfl rfl (by simp only[AN,Ae];omega) (by simp only[AN,Ae];omega) (fun t'=> .there (.there (.there .here))) fun t'=>?_
  refine wf ?_
  refine QG (ek:=kDig) (ev:=Y4) (x0:=(l0++ [y],t')) (L':= .iter b (Bb kDig (KV eDig) G) (done++ [i]):: .tok t' (l0++ [y]).length 32::(R++LF)) hO rfl rfl (.refl _) (.refl _) ?_
  rw[Ri]
  refine AE ?_
  have hT3:=hown t'
  have hp3:=hR2 (l0++ [y],t')
  generalize Dd nv[j] (l0++ [y],t') T2=T3 at hT3 hp3 ⊢
  refine EH (L':= .iter b (Bb kDig (KV eDig) G) (done++ [i]):: .map m (Bb kDig Y4 T3)::(Uf T3++LF)) ((List.Perm.swap _ _ _).trans (.cons _ (.cons _ ((hp3.append_right LF).symm)))) ?_
  refine wf ?_
  exact⟨(j+1,T3),⟨by dsimp only;omega,hT3⟩,by dsimp only;omega,⟨rfl,rfl,rfl,rfl,rfl,rfl⟩,.refl _⟩
 ·rw[AB (by omega)]at hT2
  refine wf ?_
  refine⟨(done++ [i],T2),⟨Ez.2 ⟨hdn,by simp,fun a ha c hc=>?_⟩,fun q hq=>?_,hnx _ hT2⟩,?_,⟨rfl,rfl⟩,.refl _⟩
  ·rw[Aj.1 hc];rintro rfl;exact hni ha
  ·rcases Ah.1 hq with hq|hq
   ·exact hdl q hq
   ·rw[Aj.1 hq];exact hi2
  ·dsimp only
   have h3:(done++ [i]).length≤G.length:=UM (Ez.2 ⟨hdn,by simp,fun a ha c hc=>by rw[Aj.1 hc];rintro rfl;exact hni ha⟩) fun q hq=>by
    rcases Ah.1 hq with hq|hq
    ·exact hdl q hq
    ·rw[Aj.1 hq];exact hi2
   rw[AD,Ax]at h3 ⊢
   omega
theorem Vk {κ:Type} [DecidableEq κ] {k:κ}: ∀ {l:List κ},k∉l→Hx k l=none
 | [],_=>rfl
 |a::l,h=>by
  have h1:k≠a:=fun e=>h (by simp[e])
  rw[Hx,if_neg h1,Vk fun h'=>h (AL _ h')];rfl
theorem Vq: ∀ (s:List Sto) (m:List (Dig × List Dig)),(∀ x∈s,x.id∉m.map (·.1))→(ids s).Nodup→s.foldl (fun m x=>Dd x.id (BL x.patch) m) m=m++s.map fun x=>(x.id,BL x.patch)
 | [],m,_,_=>by simp
 |x::s,m,h,hn=>by
  have hn2:=Bm.1 hn
  rw[Bz,Gl _ _ (Vk (h x (by simp))),Vq s _ (fun y hy=>?_) hn2.2]
  ·simp
  ·rw[Au,Ah]
   rintro(h2|h2)
   ·exact h y (by simp[hy]) h2
   ·have e:y.id=x.id:=by simpa using h2
    exact hn2.1 y.id (AY.2 ⟨y,hy,rfl⟩) e.symm
theorem bg {s:List Sto} (h:Gy (ids s)):gr s=s.map fun x=>(x.id,BL x.patch):=by
 rw[gr,Vq s [] (by simp) h.nodup,BB]
theorem Vs {s:List Sto} (h:Gy (ids s)) {i:Nat} (hi:i < s.length):gK (gr s) i=s[i].id∧gV (gr s) i=BL s[i].patch:=by
 have e:(gr s).getD i (Dig.zero,[])=(s[i].id,BL s[i].patch):=by
  rw[bg h];simp[List.getD,hi]
 exact⟨by rw[gK,e],by rw[gV,e]⟩
theorem kl {s:List Sto} (h:Gy (ids s)) {i:Nat} (hi: ¬i < s.length):gV (gr s) i= []:=by
 have e:(gr s).getD i (Dig.zero,[])=(Dig.zero,[]):=by
  rw[bg h,List.getD,FO (by rw[AQ];omega)];rfl
 rw[gV,e]
theorem ke {s:List Sto} (h:Gy (ids s)):(gr s).length=s.length:=by rw[bg h,AQ]
theorem Bx.turned_of {s:List Sto} (v:Bx s) {done:List Nat} {m:List (Dig × (List Dig × CD))} (hn:done.Nodup) (hd: ∀ i,i∈done↔i < (gr s).length) (h:Nl (gr s) done Dig.zero [] [] m):Q2 (Go.Proofs.ndS s) (ids s) (m.map fun e=>(e.1,e.2.1)):=by
 have hl:=ke v.asc
 have hval: ∀ x,bP m x=bR (gr s) done x:=fun x=>by have:=h.val x;simpa using this
 refine⟨fun d=>?_,fun x y=>?_,fun x=>?_⟩
 ·rw[ZO,Option.isSome_map]
  have:=h.is d
  by_cases hd2:d∈ids s
  ·obtain⟨x,hx,rfl⟩:=AY.1 hd2
   obtain⟨i,hi,rfl⟩:=Ag.1 hx
   rw[BC hd2]
   exact this.2 (.inl ⟨i,(hd i).2 (by omega),.inl (Vs v.asc hi).1.symm⟩)
  ·rw[CG hd2]
   cases hm:(CY d m).isSome with
   |false=>rfl
   |true=>
    rcases this.1 hm with ⟨i,hi,h2⟩|h2
    ·have hi2:i < s.length:=by have:=(hd i).1 hi;omega
     obtain⟨e1,e2⟩:=Vs v.asc hi2
     rcases h2 with h2|h2
     ·exact absurd (by rw[h2,e1];exact AY.2 ⟨s[i],AH hi2,rfl⟩) hd2
     ·rw[e2]at h2
      exact absurd (v.close.2 _ (AH hi2) d h2) hd2
    ·cases h2
 ·rw[dN,hval]
  unfold bR
  constructor
  ·intro hy
   obtain⟨i,hi,rfl⟩:=AY.1 hy
   obtain⟨h1,h2⟩:=GI.1 hi
   have hi2:i < s.length:=by have:=(hd i).1 h1;omega
   obtain⟨e1,e2⟩:=Vs v.asc hi2
   have h2:=BP h2
   rw[e2]at h2
   rw[e1]
   exact⟨AY.2 ⟨s[i],AH hi2,rfl⟩,by rw[v.ndS (AH hi2)];exact h2⟩
  ·rintro⟨hy,hx⟩
   obtain⟨z,hz,rfl⟩:=AY.1 hy
   obtain⟨i,hi,rfl⟩:=Ag.1 hz
   obtain⟨e1,e2⟩:=Vs v.asc hi
   rw[v.ndS hz]at hx
   exact AY.2 ⟨i,GI.2 ⟨(hd i).2 (by omega),BC (by rw[e2];exact hx)⟩,e1⟩
 ·rw[dN]
  have h1:=h.len x
  have h2:=UM hn (n:=(gr s).length) fun i hi=>(hd i).1 hi
  have:=v.close.1.1
  omega
theorem Vg {s:List Sto} (v:Bx s) {x:Sto} (hx:x∈s):(BL x.patch).length≤200:=by
 have h1:=Ei (IK x.patch).nodup (fun d hd=>v.close.2 x hx d hd)
 have:=v.close.1.1
 rw[HR]at h1
 omega
theorem fK {P:Program} {f:FuncId} {args:List PV} {L:List Res} {R R':PV→List Res→Prop} (h:BH P f args L R) (hr: ∀ x L',R x L'→ ∃ y,Le x y∧R' y L'):BH P f args L R':=by
 unfold BH at h ⊢
 intro vs w g LF hv hi
 refine(h vs w g LF hv hi).mono ?_
 rintro e w' ⟨v,x,g',L',h1,h2,h3,h4,h5,h6⟩
 obtain⟨y,hy,h7⟩:=hr x L' h6
 exact⟨v,y,g',L',h1,hy g' v h2,h3,h4,h5,h7⟩
theorem aY (s:List Sto) (v:Bx s):BH Tryz.prog 107 [.fmap (Bb kDig (KV eDig) (gr s))] [] (fun r L'=>(∃ T,r= .fmap (Bb kDig (KV eDig) T)∧Q2 (ndS s) (ids s) T)∧L'= []):=by
 have hl:=ke v.asc
 have h40:=v.close.1.1
 refine fK (eO (gr s) (by omega) (fun i=>?_) (fun i=>?_)) ?_
 ·by_cases hi:i < s.length
  ·rw[(Vs v.asc hi).2];exact(IK _).nodup
  ·rw[kl v.asc hi];exact .nil
 ·by_cases hi:i < s.length
  ·rw[(Vs v.asc hi).2];have:=Vg v (AH hi);omega
  ·rw[kl v.asc hi];simp
 ·rintro x L' ⟨⟨m,done,rfl,h1,h2,h3⟩,rfl⟩
  exact⟨_,xV m,⟨_,rfl,v.turned_of h1 h2 h3⟩,rfl⟩
instance vi (s:List Sto) (l:List Dig) (t u:CD) [hs:Ay (Bx s)] [hl:Ay (l.length≤400)]:C9 Tryz.prog 45 [.slice (s.map eSto) t,.slice (l.map eDig) u] (.tuple [.slice ((LX s l).1.map eDig) .ro,.raw (.int .i64 (LX s l).2)]):=⟨by
 have v:=hs.out
 have h40:=v.close.1.1
 have i1:Ay (Gw s):=⟨v.close.1⟩
 refine Av Tryz.func45 Tryz.ntmps45 rfl (rs:= [.tmp 4,.tmp 5]) rfl rfl fun hb LF=>?_
 refine wf ?_
 refine CV (xs:= [.tmp 10]) [] LF (f:=107) (cs:= []) (C4 _) rfl rfl (.refl _) _ (aY s v) fun r L' ⟨⟨T,e1,hT⟩,e2⟩=>?_
 subst e1;rw[e2,BB]
 obtain⟨e1,e2⟩:=v.turned hT l
 have i2:=fun t=>TE T (ids s) (hT.ok (by rw[HR];omega)) l t hl.out
 refine wf ?_
 refine AO (fun h=>?_) (fun h=>?_)
 ·have h0:(clG T (ids s) l).2=false:=by simpa using h
  rw[if_pos h0]at e2
  have e3:(LX s l).1= []:=by
   unfold LX at e2 ⊢
   split
   ·rfl
   ·rename_i h3
    rw[if_neg h3]at e2
    simp at e2
  refine wf ?_
  refine HD ?_
  rw[e2,e3]
  exact .tuple2 (.ro _ _) (.refl _)
 ·have h0:(clG T (ids s) l).2=true:=by simpa using h
  rw[h0]at e2
  simp at e2
  refine wf ?_
  refine HD ?_
  rw[e2,←e1]
  exact .refl _⟩
instance gj (s:List Sto) (p q:Dig) (t:CD) [hs:Ay (Bx s)]:C9 Tryz.prog 27 [.slice (s.map eSto) t,.agg (eDig p),.agg (eDig q)] (.raw (.bool (O4 s p q))):=⟨by
 have v:=hs.out
 have cx:=fun t u=>aK s [p] t u (hl:=⟨by simp⟩)
 rw[v.knows]
 refine Av Tryz.func27 Tryz.ntmps27 rfl (rs:= [.tmp 6]) rfl rfl fun hb LF=>?_
 refine wf ?_
 refine Ao (fun hp=>?_) (fun hp=>?_)
 ·refine wf ?_
  refine Aw (.of_eq ?_)
  rw[hp];rfl
 ·refine wf ?_
  refine Aw (.of_eq ?_)
  rw[hp];rfl⟩
end Go.Proofs
namespace Go.Q
open Go
section
variable {P:Program} {N:Nat} {all:Array Oper} {K:Env→List Res→Prop} {fl:List Bool} {os:List Oper} {ρ:Env} {L:List Res} {d:Nat} {ty:TypeId} {pos:String} {af:Array Edge}
theorem jL {T E sz by_:Nat} [hT:Y2 P T E sz by_] (hz: ∀ i z,P.info? E=some i→i.zero=some z→ ∀ x∈z.cells,x.oneCell'=true) {x:Operand} {r off n c:Nat} {cs:List PV} {L':List Res} (F:Res→List Res) (hx:ρ.ev x= .raw (.slice (some ⟨r,off,none⟩) n c)) (hn:0 < n) (hle:off+n*sz≤cs.length)
  (hp:L.Perm (.box r E cs::L')) (hq: ∀ c,(c::L').Perm (F c))
  (k: ∀ zs:List PV,zs.length=n*sz→AU P N all K fl.tail os ρ (F (.box r E (cs.take off++zs++cs.drop (off+n*sz))))) (hfl:fl.headD true=true:=by rfl):
  AU P N all K fl (⟨none,.call { callee:= .builtin .clear,args:= #[x],argTypes:= #[T] },ty,pos,af,none⟩::os) ρ L:=
 DY rfl (fun _ e=>by cases e) hfl (Fk.perm hp fun a w g ha hi0=>by
  have h1:=Cb ha (x:=x) (by simp[Op.operands,Call.operands]) hx
  obtain⟨i,z,t1,t2,t3,t4,t5,t6,t7,t8⟩:=hT.out
  obtain⟨us,hus,hi⟩:=hi0.boxRaw
  have hul:=hus.len
  obtain⟨k1,k2,k3,k4,k5⟩:=hi.rawHead
  have hzl:(Builtin.zeroCells z.cells n).toList.length=n*sz:=by rw[CZ,size_zeroCells,t6]
  have hz1: ∀ x∈(Builtin.zeroCells z.cells n).toList,x.oneCell'=true:=fun x hx=>by
   simp only[Builtin.zeroCells,Array.toList_map,AY]at hx
   obtain⟨j,_,rfl⟩:=hx
   have hj:j % z.cells.size < z.cells.size:=cG _ (by rw[t6];omega)
   rw[getElem!_pos z.cells _ hj]
   exact hz i z t2 t5 _ (Array.getElem_mem hj)
  obtain⟨w',hrun,hb',hos,htp,hout,hsz,hk⟩:=FR (P:=P) (Builtin.zeroCells z.cells n).toList w us off 0 k1 (by rw[hzl];omega) hz1
  have he:execOp a.eval ⟨none,.call { callee:= .builtin .clear,args:= #[x],argTypes:= #[T] },ty,pos,af,none⟩=(do pure (.value (←Builtin.clear_ #[T] ty (#[x].map a.eval)))):=rfl
  have hr:(execOp a.eval ⟨none,.call { callee:= .builtin .clear,args:= #[x],argTypes:= #[T] },ty,pos,af,none⟩).run P w= .ok (.value (.tuple #[])) w':=by
   rw[he]
   obtain⟨m,rfl⟩: ∃ m,n=m+1:=⟨n - 1,by omega⟩
   simp[Builtin.clear_,h1,run_underlying t1,zeroValue,typeInfo,t2,t5,hrun]
  rw[Du,hzl]at hb'
  have hi2:=hi.turnRaw hb' hk
  have hbox:=Dt.rawBox (cs:=cs.take off++(Builtin.zeroCells z.cells n).toList.map .raw++cs.drop (off+n*sz)) hi2 (by
   simpa using ((hus.take off).append (E7.raws g (Builtin.zeroCells z.cells n).toList)).append (hus.drop (off+n*sz)))
  refine Oper.wq_of_run hr ?_
  exact⟨_,.raw _,g,_,rfl,.raw _,hbox.perm (hq _),⟨hos,htp,hout,EE hsz.symm,fun b _ hn=>hk b (fun e=>hn (by simp[Ak,Res.block,e])),.refl g,fun _ _ _=>⟨fun _=>rfl,rfl⟩⟩,
   fun b hb _=>by
    have:=(DX (hq _)).symm.subset hb
    simpa [Ak,Res.block]using this,k _ (by rw[AQ,hzl])⟩)
end
end Go.Q
namespace Go.Proofs
open Go Go.Q
attribute [local irreducible] EY AU BH Fk
end Go.Proofs
