/- Plain laws: repositories that are valid; their views. -/
import Derived.Test.YtpebdiofdfpooaaGreatDoorUan
import Derived.Test.YtpebdiofdfpooaaGreatDoorUao
import Derived.Test.YtpebdiofdfpooaaGreatDoorUam
import Derived.Test.YtpebdiofdfpooaaGreatDoorUak
import Derived.Test.YtpebdiofdfpooaaGreatDoorUag
import Derived.Shelf.SlSortCmp.NoneTotal
import Derived.Shelf.SlGeneric
import Derived.Ground.SlsfProg
import Derived.Test.YtpebdiofdfpooaaGreatDoorProg
set_option linter.unusedSimpArgs false
set_option linter.unusedVariables false
set_option maxHeartbeats 8000000
namespace Go.Proofs
open Go Go.Q
def O3 (l:List Dig):Bool:=(List.range l.length).all fun i=>decide (i=0∨Dh (l.getD (i - 1) Dig.zero) (l.getD i Dig.zero) < 0)
theorem Qj {l:List Dig}:O3 l=true↔Ej l:=by
 unfold O3
 rw[Ar]
 constructor
 ·intro h
  refine Iz fun i hi=>?_
  have:=Ab (h (i+1) (DQ.2 hi))
  rcases this with h0|h0
  ·omega
  ·rw[Nat.add_sub_cancel]at h0
   simp only[List.getD,AZ hi,AZ (show i < l.length by omega),Option.getD_some]at h0
   exact h0
 ·intro h i hi
  have hi:=DQ.1 hi
  refine BL ?_
  rcases Po i with e|e
  ·exact .inl e
  ·refine .inr ?_
   simp only[List.getD,AZ hi,AZ (show i - 1 < l.length by omega),Option.getD_some]
   exact(BN.1 h) (i - 1) i (by omega) hi (by omega)
def Fw (s:List Sto) (l:List Dig):Int:=if O3 l=false then 9 else if Ca (ids s) l=false then 7 else 0
def Fj (s:List Sto) (l:List Dig):Bool:=l.all fun d=>Ca l (ndS s d)
def K1 (s:List Sto) (l:List Dig):Bool:=l.all fun p=>l.all fun q=>decide (p=q)||!Fv s p q
def KH (r:Repo) (i:Nat):Int:=
 if EK (r.branches.getD i Brn.zero).name=false then 5 else
 if 0 < i∧Hz (r.branches.getD (i - 1) Brn.zero).name (r.branches.getD i Brn.zero).name=false then 9 else
 if Fw r.pool (r.branches.getD i Brn.zero).ids≠0 then Fw r.pool (r.branches.getD i Brn.zero).ids else
 if Fj r.pool (r.branches.getD i Brn.zero).ids=false then 19 else 0
def KG (r:Repo) (i:Nat):Int:=
 if EK (r.tags.getD i Tgg.zero).name=false then 5 else
 if 0 < i∧Hz (r.tags.getD (i - 1) Tgg.zero).name (r.tags.getD i Tgg.zero).name=false then 9 else
 if 0≤C3 Brn.name r.branches (r.tags.getD i Tgg.zero).name then 6 else
 if 1000 < ((r.tags.getD i Tgg.zero).note.length:Int)then 4 else
 if Fw r.pool (r.tags.getD i Tgg.zero).tops≠0 then Fw r.pool (r.tags.getD i Tgg.zero).tops else
 if K1 r.pool (r.tags.getD i Tgg.zero).tops=false then 1 else 0
def EO (r:Repo):Int:=
 if FJ r.pool≠0 then FJ r.pool else
 if 100 < (r.branches.length:Int)∨100 < (r.tags.length:Int)then 4 else
 if Aq (KH r) (List.range r.branches.length)≠0 then Aq (KH r) (List.range r.branches.length)else
 if Aq (KG r) (List.range r.tags.length)≠0 then Aq (KG r) (List.range r.tags.length)else
 if C3 Brn.name r.branches r.current < 0 then 7 else 0
structure lq (s:List Sto) (b:Brn):Prop where
 name:EK b.name=true
 asc:Ej b.ids
 sub: ∀ d∈b.ids,d∈ids s
 nd: ∀ d∈b.ids,∀ x∈ndS s d,x∈b.ids
structure rV (s:List Sto) (bs:List Brn) (t:Tgg):Prop where
 name:EK t.name=true
 new: ∀ b∈bs,b.name≠t.name
 note:t.note.length≤1000
 asc:Ej t.tops
 sub: ∀ d∈t.tops,d∈ids s
 apart: ∀ p∈t.tops,∀ q∈t.tops,p=q∨Fv s p q=false
structure H4 (r:Repo):Prop where
 pool:C7 r.pool
 lenB:r.branches.length≤100
 lenT:r.tags.length≤100
 ascB:Ju Brn.name r.branches
 okB: ∀ b∈r.branches,lq r.pool b
 ascT:Ju Tgg.name r.tags
 okT: ∀ t∈r.tags,rV r.pool r.branches t
 cur: ∃ b∈r.branches,b.name=r.current
theorem Jr {s:List Sto} {l:List Dig}:Fw s l=0↔Ej l∧ ∀ d∈l,d∈ids s:=by
 unfold Fw
 rw[←Qj,←GU]
 cases O3 l<;>cases Ca (ids s) l<;>simp
theorem Rz {s:List Sto} {l:List Dig}:Fj s l=true↔ ∀ d∈l,∀ x∈ndS s d,x∈l:=by
 unfold Fj
 rw[Ar]
 exact⟨fun h d hd=>GU.1 (h d hd),fun h d hd=>GU.2 (h d hd)⟩
theorem Kq {s:List Sto} {l:List Dig}:K1 s l=true↔ ∀ p∈l,∀ q∈l,p=q∨Fv s p q=false:=by
 unfold K1
 simp only[Ar,UM,AB,AG]
theorem Pe {α:Type} (nm:α→Str): ∀ {l:List α},(∀ i (h:i+1 < l.length),Hz (nm l[i]) (nm l[i+1])=true)→Ju nm l
 | [],_=> .nil
 | [x],_=>En _ _
 |x::y::l,h=>by
  have ih:Ju nm (y::l):=Pe nm fun i hi=>by have:=h (i+1) (by simpa using hi);simpa using this
  have h0:Hz (nm x) (nm y)=true:=by have:=h 0 (by simp);simpa using this
  refine Ba.2 ⟨fun z hz=>?_,ih⟩
  rcases AQ.1 hz with rfl|hz
  ·exact h0
  ·exact Lx h0 ((Ba.1 ih).1 z hz)
theorem GK {l:List Brn} {i:Nat} (h:i < l.length):l.getD i Brn.zero=l[i]:=by simp[List.getD,h]
theorem HF {l:List Tgg} {i:Nat} (h:i < l.length):l.getD i Tgg.zero=l[i]:=by simp[List.getD,h]
theorem W6 {r:Repo} {i:Nat} (hi:i < r.branches.length):KH r i=0↔lq r.pool r.branches[i]∧(∀ h:0 < i,Hz (r.branches[i - 1]'(by omega)).name r.branches[i].name=true):=by
 unfold KH
 rw[GK hi]
 have hp: ∀ h:0 < i,r.branches.getD (i - 1) Brn.zero=r.branches[i - 1]'(by omega):=fun h=>GK (by omega)
 generalize r.branches.getD (i - 1) Brn.zero=y at hp
 constructor
 ·intro h
  split at h
  ·cases h
  rename_i h1
  split at h
  ·cases h
  rename_i h2
  split at h
  ·rename_i h3;exact absurd h h3
  rename_i h3
  split at h
  ·cases h
  rename_i h4
  obtain⟨a,b⟩:=Jr.1 (Aj.1 h3)
  refine⟨⟨by simpa using h1,a,b,Rz.1 (by simpa using h4)⟩,fun h0=>?_⟩
  rw[←hp h0]
  cases hl:Hz y.name r.branches[i].name with
  |true=>rfl
  |false=>exact absurd ⟨h0,hl⟩ h2
 ·rintro⟨⟨a,b,c,d⟩,e⟩
  rw[if_neg (by simp[a]),if_neg (by rintro⟨h0,h1⟩;rw[hp h0,e h0]at h1;cases h1),if_neg (by rw[Jr.2 ⟨b,c⟩];simp),if_neg (by simp[Rz.2 d])]
theorem W5 {r:Repo} {i:Nat} (hi:i < r.tags.length):KG r i=0↔rV r.pool r.branches r.tags[i]∧(∀ h:0 < i,Hz (r.tags[i - 1]'(by omega)).name r.tags[i].name=true):=by
 unfold KG
 rw[HF hi]
 have hp: ∀ h:0 < i,r.tags.getD (i - 1) Tgg.zero=r.tags[i - 1]'(by omega):=fun h=>HF (by omega)
 generalize r.tags.getD (i - 1) Tgg.zero=y at hp
 constructor
 ·intro h
  split at h
  ·cases h
  rename_i h1
  split at h
  ·cases h
  rename_i h2
  split at h
  ·cases h
  rename_i h3
  split at h
  ·cases h
  rename_i h4
  split at h
  ·rename_i h5;exact absurd h h5
  rename_i h5
  split at h
  ·cases h
  rename_i h6
  obtain⟨a,b⟩:=Jr.1 (Aj.1 h5)
  refine⟨⟨by simpa using h1,(Df Brn.name).1 (by omega),by omega,a,b,Kq.1 (by simpa using h6)⟩,fun h0=>?_⟩
  rw[←hp h0]
  cases hl:Hz y.name r.tags[i].name with
  |true=>rfl
  |false=>exact absurd ⟨h0,hl⟩ h2
 ·rintro⟨⟨a,b,c,d,e,f⟩,g⟩
  have:=(Df Brn.name).2 b
  rw[if_neg (by simp[a]),if_neg (by rintro⟨h0,h1⟩;rw[hp h0,g h0]at h1;cases h1),if_neg (by omega),if_neg (by omega),if_neg (by rw[Jr.2 ⟨d,e⟩];simp),if_neg (by simp[Kq.2 f])]
theorem DH {r:Repo} (hg:Dc r.pool):EO r=0↔H4 r:=by
 unfold EO
 constructor
 ·intro h
  split at h
  ·rename_i h1;exact absurd h h1
  rename_i h1
  split at h
  ·cases h
  rename_i h2
  split at h
  ·rename_i h3;exact absurd h h3
  rename_i h3
  split at h
  ·rename_i h4;exact absurd h h4
  rename_i h4
  split at h
  ·cases h
  rename_i h5
  have hb:=fun i (hi:i < r.branches.length)=>(W6 hi).1 (E0 (Aj.1 h3) i (DQ.2 hi))
  have ht:=fun i (hi:i < r.tags.length)=>(W5 hi).1 (E0 (Aj.1 h4) i (DQ.2 hi))
  refine⟨KI hg (Aj.1 h1),by omega,by omega,Pe _ fun i hi=>by have:=(hb (i+1) hi).2 (by omega);simpa using this,fun b hm=>?_,Pe _ fun i hi=>by have:=(ht (i+1) hi).2 (by omega);simpa using this,fun t hm=>?_,?_⟩
  ·obtain⟨i,hi,rfl⟩:=AX.1 hm
   exact(hb i hi).1
  ·obtain⟨i,hi,rfl⟩:=AX.1 hm
   exact(ht i hi).1
  ·refine Dn fun h6=>h5 ((Df Brn.name).2 fun b hb e=>h6 ⟨b,hb,e⟩)
 ·intro v
  have e1:=Kp v.pool
  have e2:Aq (KH r) (List.range r.branches.length)=0:=CG fun i hi=>by
   rw[H7]at hi
   rw[DW]
   exact(W6 hi).2 ⟨v.okB _ (AK hi),fun h=>v.ascB.get _ (by omega) hi⟩
  have e3:Aq (KG r) (List.range r.tags.length)=0:=CG fun i hi=>by
   rw[H7]at hi
   rw[DW]
   exact(W5 hi).2 ⟨v.okT _ (AK hi),fun h=>v.ascT.get _ (by omega) hi⟩
  have h1:=v.lenB
  have h2:=v.lenT
  obtain⟨b,hb,e⟩:=v.cur
  rw[if_neg (by rw[e1];simp),if_neg (by omega),if_neg (by rw[e2];simp),if_neg (by rw[e3];simp),if_neg]
  intro h
  exact(Df Brn.name).1 h b hb e
def tagV (s:List Sto) (t:Tgg):List Sto:=Bt s (DC s t.tops).1
def C6 (r:Repo) (n:Str):Option (List Sto):=
 if 0≤C3 Brn.name r.branches n then some (Bt r.pool (r.branches.getD (C3 Brn.name r.branches n).toNat Brn.zero).ids)else
 if 0≤C3 Tgg.name r.tags n then some (tagV r.pool (r.tags.getD (C3 Tgg.name r.tags n).toNat Tgg.zero))else none
theorem Tu {α:Type} {nm:α→Str} {l:List α} (h:Ju nm l) {i:Nat} (hi:i < l.length):C3 nm l (nm l[i])=i:=by
 have h1:=ZU nm l (nm l[i])
 have h2: ¬C3 nm l (nm l[i]) < 0:=fun h2=>(Df nm).1 h2 _ (AK hi) rfl
 obtain⟨k,hk⟩: ∃ k:Nat,C3 nm l (nm l[i])=k:=⟨(C3 nm l (nm l[i])).toNat,by omega⟩
 obtain⟨hk1,hk2,_⟩:=Ew nm hk
 rw[hk,h.inj nm hk1 hi hk2]
theorem H4.viewT {r:Repo} (v:H4 r) {t:Tgg} (ht:t∈r.tags):C6 r t.name=some (tagV r.pool t):=by
 obtain⟨i,hi,rfl⟩:=AX.1 ht
 unfold C6
 have:=(Df Brn.name).2 (v.okT _ ht).new
 rw[if_neg (by omega),Tu v.ascT hi,if_pos (by omega),Br,HF hi]
theorem lq.valid {s:List Sto} (v:C7 s) {b:Brn} (h:lq s b):C7 (Bt s b.ids):=v.keep fun x hx hi d hd=>h.nd x.id hi d (by rw[v.ndS hx];exact hd)
theorem lq.ids {s:List Sto} (v:C7 s) {b:Brn} (h:lq s b):ids (Bt s b.ids)=b.ids:=by
 refine Ej.ext (v.asc.sublist (Gk s _)) h.asc fun d=>?_
 rw[HQ]
 exact⟨fun h=>h.2,fun hd=>⟨h.sub d hd,hd⟩⟩
theorem rV.valid {s:List Sto} (v:C7 s) {bs:List Brn} {t:Tgg} (h:rV s bs t):C7 (tagV s t):=by
 obtain⟨L,e,hL⟩:=v.closed h.sub
 unfold tagV
 rw[e]
 exact hL.keep v
theorem Ga {r:Repo} {n:Str} {s:List Sto} (h:C6 r n=some s):(∃ b∈r.branches,b.name=n∧s=Bt r.pool b.ids)∨((∀ b∈r.branches,b.name≠n)∧ ∃ t∈r.tags,t.name=n∧s=tagV r.pool t):=by
 unfold C6 at h
 split at h
 ·rename_i h1
  obtain⟨k,hk⟩: ∃ k:Nat,C3 Brn.name r.branches n=k:=⟨(C3 Brn.name r.branches n).toNat,by omega⟩
  obtain⟨hk1,hk2,_⟩:=Ew _ hk
  rw[hk,Br,GK hk1]at h
  exact .inl ⟨_,AK hk1,hk2,(BX h).symm⟩
 ·rename_i h1
  split at h
  ·rename_i h2
   obtain⟨k,hk⟩: ∃ k:Nat,C3 Tgg.name r.tags n=k:=⟨(C3 Tgg.name r.tags n).toNat,by omega⟩
   obtain⟨hk1,hk2,_⟩:=Ew _ hk
   rw[hk,Br,HF hk1]at h
   exact .inr ⟨(Df _).1 (by omega),_,AK hk1,hk2,(BX h).symm⟩
  ·cases h
theorem FP {r:Repo} {n:Str}:C6 r n=none↔(∀ b∈r.branches,b.name≠n)∧ ∀ t∈r.tags,t.name≠n:=by
 unfold C6
 rw[←Df Brn.name,←Df Tgg.name]
 split
 ·simp;omega
 ·split
  ·simp;omega
  ·simp;omega
theorem H4.viewV {r:Repo} (v:H4 r) {n:Str} {s:List Sto} (h:C6 r n=some s):C7 s:=by
 rcases Ga h with ⟨b,hb,_,rfl⟩|⟨_,t,ht,_,rfl⟩
 ·exact(v.okB b hb).valid v.pool
 ·exact(v.okT t ht).valid v.pool
theorem eE {r:Repo} {n:Str} {s:List Sto} (h:C6 r n=some s): ∀ x∈s,x∈r.pool:=by
 rcases Ga h with ⟨b,hb,_,rfl⟩|⟨_,t,ht,_,rfl⟩
 ·exact fun x hx=>(Dz.1 hx).1
 ·exact fun x hx=>(Dz.1 hx).1
structure Ey (p q:List Sto):Prop where
 vp:C7 p
 vq:C7 q
 sub: ∀ x∈p,x∈q
theorem Ey.idsS {p q:List Sto} (h:Ey p q): ∀ d∈ids p,d∈ids q:=fun d hd=>by
 obtain⟨x,hx,rfl⟩:=AU.1 hd
 exact AU.2 ⟨x,h.sub x hx,rfl⟩
theorem Ey.mem {p q:List Sto} (h:Ey p q) {x:Sto} (hx:x∈q) (hd:x.id∈ids p):x∈p:=by
 obtain⟨y,hy,e⟩:=AU.1 hd
 exact KX h.vq.asc (h.sub y hy) hx e ▸ hy
theorem Ey.keep {p q:List Sto} (h:Ey p q) {l:List Dig} (hl: ∀ d∈l,d∈ids p):Bt q l=Bt p l:=
 SS (h.vq.asc.sublist (Gk _ _)) (h.vp.asc.sublist (Gk _ _)) fun x=>by
  rw[Dz,Dz]
  exact⟨fun⟨a,b⟩=>⟨h.mem a (hl _ b),b⟩,fun⟨a,b⟩=>⟨h.sub _ a,b⟩⟩
theorem Ey.nd {p q:List Sto} (h:Ey p q) {d:Dig} (hd:d∈ids p):ndS q d=ndS p d:=by
 obtain⟨x,hx,rfl⟩:=AU.1 hd
 rw[h.vp.ndS hx,h.vq.ndS (h.sub x hx)]
theorem Ey.reach {p q:List Sto} (h:Ey p q) {l:List Dig} (hl: ∀ d∈l,d∈ids p) (d:Dig):Q.Reach (ndS q) l d↔Q.Reach (ndS p) l d:=by
 have hcl: ∀ x∈ids p,∀ d∈Go.Proofs.ndS p x,d∈ids p:=fun x _ d hd=>h.vp.close.nd x d hd
 constructor
 ·intro hr
  induction hr with
  |base hd=>exact .base hd
  |step _ hn ih=>
   rw[h.nd (ih.in_ hcl hl)]at hn
   exact .step ih hn
 ·intro hr
  induction hr with
  |base hd=>exact .base hd
  |step hr hn ih=>
   rw[←h.nd (hr.in_ hcl hl)]at hn
   exact .step ih hn
theorem Ey.clo {p q:List Sto} (h:Ey p q) {l:List Dig} (hl: ∀ d∈l,d∈ids p):DC q l=DC p l:=by
 obtain⟨L,e,hL,hm⟩:=h.vp.closedM hl
 obtain⟨M,e2,hM,hm2⟩:=h.vq.closedM (l:=l) fun d hd=>h.idsS d (hl d hd)
 have:M=L:=Ej.ext hM.asc hL.asc fun d=>by rw[hm,hm2,h.reach hl]
 rw[e,e2,this]
theorem Ey.knows {p q:List Sto} (h:Ey p q) {a b:Dig} (ha:a∈ids p):Fv q a b=Fv p a b:=by
 rw[h.vq.knows,h.vp.knows,h.clo (l:= [a]) fun d hd=>by rw[B1.1 hd];exact ha]
theorem Ey.tagV {p q:List Sto} (h:Ey p q) {t:Tgg} (ht: ∀ d∈t.tops,d∈ids p):Go.Proofs.tagV q t=Go.Proofs.tagV p t:=by
 obtain⟨L,e,hL⟩:=h.vp.closed ht
 unfold Go.Proofs.tagV
 rw[h.clo ht,e]
 exact h.keep hL.sub
theorem Ey.okB {p q:List Sto} (h:Ey p q) {b:Brn} (hb: ∀ d∈b.ids,d∈ids p):lq q b↔lq p b:=
 ⟨fun k=>⟨k.name,k.asc,hb,fun d hd x hx=>k.nd d hd x (by rw[h.nd (hb d hd)];exact hx)⟩,fun k=>⟨k.name,k.asc,fun d hd=>h.idsS d (hb d hd),fun d hd x hx=>k.nd d hd x (by rw[←h.nd (hb d hd)];exact hx)⟩⟩
theorem Ey.okT {p q:List Sto} (h:Ey p q) {bs:List Brn} {t:Tgg} (ht: ∀ d∈t.tops,d∈ids p):rV q bs t↔rV p bs t:=
 ⟨fun k=>⟨k.name,k.new,k.note,k.asc,ht,fun a ha b hb=>by rw[←h.knows (ht a ha)];exact k.apart a ha b hb⟩,fun k=>⟨k.name,k.new,k.note,k.asc,fun d hd=>h.idsS d (ht d hd),fun a ha b hb=>by rw[h.knows (ht a ha)];exact k.apart a ha b hb⟩⟩
def SE (n:Str):Repo × Int:=if EK n=false then(Repo.zero,5)else(⟨[],[⟨n,[]⟩],[],n⟩,0)
def NJ (r:Repo) (n:Str):Int:=if 0≤C3 Brn.name r.branches n∨0≤C3 Tgg.name r.tags n then 6 else 0
def IA (r:Repo) (n frm:Str):Repo × Int:=
 if EO r≠0 then(Repo.zero,EO r)else if EK n=false then(Repo.zero,5)else if NJ r n≠0 then(Repo.zero,NJ r n)else
 match C6 r frm with
 |none=>(Repo.zero,7)
 |some s=>if 100≤(r.branches.length:Int)then(Repo.zero,4)else({ r with branches:=Dw Brn.name r.branches ⟨n,ids s⟩ },0)
def PA (r:Repo) (n:Str):Repo × Int:=
 if EO r≠0 then(Repo.zero,EO r)else if C3 Brn.name r.branches n < 0∧C3 Tgg.name r.tags n < 0 then(Repo.zero,7)else if n=r.current then(Repo.zero,16)else
 if 0≤C3 Brn.name r.branches n then({ r with branches:=r.branches.eraseIdx (C3 Brn.name r.branches n).toNat },0)else({ r with tags:=r.tags.eraseIdx (C3 Tgg.name r.tags n).toNat },0)
def JW (r:Repo) (n:Str):Repo × Int:=
 if EO r≠0 then(Repo.zero,EO r)else if C3 Brn.name r.branches n < 0 then(Repo.zero,7)else({ r with current:=n },0)
def N4 (r:Repo) (n:Str):List Sto × Int:=
 if EO r≠0 then([],EO r)else match C6 r n with
 |none=>([],7)
 |some s=>(s,0)
def Kx (r:Repo) (n:Str):List Sto:=Bt r.pool (r.branches.getD (C3 Brn.name r.branches n).toNat Brn.zero).ids
def Js (r:Repo) (n:Str) (p:Pat):Repo × Dig × Int:=
 if EO r≠0 then(Repo.zero,Dig.zero,EO r)else if C3 Brn.name r.branches n < 0 then(Repo.zero,Dig.zero,7)else
 if(LU (Kx r n) p).2.2≠0 then(Repo.zero,Dig.zero,(LU (Kx r n) p).2.2)else
 if(EP r.pool (LU (Kx r n) p).1).2≠0 then(Repo.zero,Dig.zero,(EP r.pool (LU (Kx r n) p).1).2)else
 ({ r with pool:=(EP r.pool (LU (Kx r n) p).1).1,branches:=Dw Brn.name r.branches ⟨n,ids (LU (Kx r n) p).1⟩ },(LU (Kx r n) p).2.1,0)
def MU (s:List Sto) (d:Dig):List Sto × Int:=
 if d∉ids s then([],7)else if s.any (fun x=>decide (d∈Bf x.patch))=true then([],19)else(s.filter fun x=>!decide (x.id=d),0)
def Fg (r:Repo) (n:Str) (d:Dig):Repo × Int:=
 if EO r≠0 then(Repo.zero,EO r)else if C3 Brn.name r.branches n < 0 then(Repo.zero,7)else
 if(MU (Kx r n) d).2≠0 then(Repo.zero,(MU (Kx r n) d).2)else
 ({ r with branches:=Dw Brn.name r.branches ⟨n,ids (MU (Kx r n) d).1⟩ },0)
def dQ (r:Repo) (n:Str) (s:List Sto):List Dig:=(ids s).filter fun d=>decide (d∉(r.branches.getD (C3 Brn.name r.branches n).toNat Brn.zero).ids)
def CT (r:Repo) (n:Str) (s:List Sto):Repo × List Dig × Int:=
 if EO r≠0 then(Repo.zero,[],EO r)else if C3 Brn.name r.branches n < 0 then(Repo.zero,[],7)else
 if FJ s≠0 then(Repo.zero,[],FJ s)else if(EP r.pool s).2≠0 then(Repo.zero,[],(EP r.pool s).2)else
 ({ r with pool:=(EP r.pool s).1,branches:=Dw Brn.name r.branches ⟨n,CU (r.branches.getD (C3 Brn.name r.branches n).toNat Brn.zero).ids (dQ r n s)⟩ },dQ r n s,0)
def NM (r:Repo) (n note:Str):Repo × Int:=
 if EO r≠0 then(Repo.zero,EO r)else if EK n=false then(Repo.zero,5)else if 1000 < (note.length:Int)then(Repo.zero,4)else if NJ r n≠0 then(Repo.zero,NJ r n)else
 if 100≤(r.tags.length:Int)then(Repo.zero,4)else({ r with tags:=Dw Tgg.name r.tags ⟨n,note,K4 ((C6 r r.current).getD [])⟩ },0)
def Ha (r:Repo):List Str:=r.branches.map (·.name)++r.tags.map (·.name)
def EY (r:Repo):List Dig:=(Ha r).foldl (fun l n=>CU l (ids ((C6 r n).getD []))) []
def DS (r:Repo):Repo × Int:=
 if EO r≠0 then(Repo.zero,0)else({ r with pool:=Bt r.pool (EY r) },(r.pool.length:Int) - (Bt r.pool (EY r)).length)
def SR (r:Repo) (a:Deed):Repo × Int:=
 if a.kind=1 then IA r a.name a.other else if a.kind=2 then PA r a.name else if a.kind=3 then JW r a.name else
 if a.kind=4 then((Js r a.name a.patch).1,(Js r a.name a.patch).2.2)else if a.kind=5 then Fg r a.name a.id else
 if a.kind=6 then((CT r a.name a.set).1,(CT r a.name a.set).2.2)else if a.kind=7 then NM r a.name a.other else((DS r).1,EO r)
theorem EN {α:Type} {nm:α→Str} {l:List α} (ha:Ju nm l) (x:α) {y:α}:y∈Dw nm l x↔y=x∨(y∈l∧nm y≠nm x):=by
 by_cases h: ∀ y∈l,nm y≠nm x
 ·rw[O9 nm h,Ai,AQ]
  have hs:y∈l↔y∈l.take (Ik nm l (nm x))∨y∈l.drop (Ik nm l (nm x)):=by rw[←Ai,C4]
  constructor
  ·rintro(h1|rfl|h1)
   ·exact .inr ⟨hs.2 (.inl h1),h _ (hs.2 (.inl h1))⟩
   ·exact .inl rfl
   ·exact .inr ⟨hs.2 (.inr h1),h _ (hs.2 (.inr h1))⟩
  ·rintro(rfl|⟨h1,_⟩)
   ·exact .inr (.inl rfl)
   ·rcases hs.1 h1 with h2|h2
    ·exact .inl h2
    ·exact .inr (.inr h2)
 ·have: ∃ y∈l,nm y=nm x:=Dn fun h2=>h fun y hy e=>h2 ⟨y,hy,e⟩
  obtain⟨z,hz,e⟩:=this
  obtain⟨i,hi,rfl⟩:=AX.1 hz
  rw[GY nm ha hi e]
  constructor
  ·intro hy
   obtain⟨j,hj,rfl⟩:=AX.1 hy
   rw[Bm]at hj
   rw[Jv]
   by_cases hij:i=j
   ·rw[if_pos hij];exact .inl rfl
   ·rw[if_neg hij]
    exact .inr ⟨AK hj,fun e2=>hij (ha.inj nm hi hj (e.trans e2.symm))⟩
  ·rintro(rfl|⟨h1,h2⟩)
   ·exact List.mem_set hi _
   ·obtain⟨j,hj,rfl⟩:=AX.1 h1
    refine AX.2 ⟨j,by rw[Bm];exact hj,?_⟩
    rw[Jv,if_neg]
    intro hij;subst hij;exact h2 e
theorem VB {α:Type} {nm:α→Str} (l:List α) (x:α):(Dw nm l x).length≤l.length+1:=by
 unfold Dw
 have:=Mg nm l (nm x)
 dsimp only
 split<;>simp<;>omega
theorem TX {α:Type} {nm:α→Str} {l:List α} (ha:Ju nm l) {i:Nat} (hi:i < l.length) {y:α}:y∈l.eraseIdx i↔y∈l∧nm y≠nm l[i]:=by
 rw[List.mem_eraseIdx_iff_getElem]
 constructor
 ·rintro⟨j,hj,hne,rfl⟩
  exact⟨AK hj,fun e=>hne (ha.inj nm hj hi e)⟩
 ·rintro⟨hy,hne⟩
  obtain⟨j,hj,rfl⟩:=AX.1 hy
  exact⟨j,hj,fun e=>hne (by subst e;rfl),rfl⟩
theorem HI {r:Repo} (ha:Ju Brn.name r.branches) {b:Brn} (hb:b∈r.branches):C6 r b.name=some (Bt r.pool b.ids):=by
 obtain⟨i,hi,rfl⟩:=AX.1 hb
 unfold C6
 rw[Tu ha hi,if_pos (by omega),Br,GK hi]
theorem OA {r:Repo} (ha:Ju Tgg.name r.tags) {t:Tgg} (ht:t∈r.tags) (hn: ∀ b∈r.branches,b.name≠t.name):C6 r t.name=some (tagV r.pool t):=by
 obtain⟨i,hi,rfl⟩:=AX.1 ht
 unfold C6
 have:=(Df Brn.name).2 hn
 rw[if_neg (by omega),Tu ha hi,if_pos (by omega),Br,HF hi]
structure yP (r:Repo) (p:List Sto):Prop where
 b: ∀ b∈r.branches,∀ d∈b.ids,d∈ids p
 t: ∀ t∈r.tags,∀ d∈t.tops,d∈ids p
theorem H4.inP {r:Repo} (v:H4 r):yP r r.pool:=⟨fun b hb=>(v.okB b hb).sub,fun t ht=>(v.okT t ht).sub⟩
theorem Vf {p q:List Sto} (h:Ey p q) {r:Repo} (hi:yP r p) (m:Str):C6 { r with pool:=q } m=C6 { r with pool:=p } m:=by
 unfold C6
 dsimp only
 split
 ·rename_i h1
  obtain⟨k,hk⟩: ∃ k:Nat,C3 Brn.name r.branches m=k:=⟨(C3 Brn.name r.branches m).toNat,by omega⟩
  obtain⟨hk1,_,_⟩:=Ew _ hk
  rw[hk,Br,GK hk1,h.keep (hi.b _ (AK hk1))]
 ·split
  ·rename_i h2
   obtain⟨k,hk⟩: ∃ k:Nat,C3 Tgg.name r.tags m=k:=⟨(C3 Tgg.name r.tags m).toNat,by omega⟩
   obtain⟨hk1,_,_⟩:=Ew _ hk
   rw[hk,Br,HF hk1,h.tagV (hi.t _ (AK hk1))]
  ·rfl
theorem dF {p q:List Sto} (h:Ey p q) {r:Repo} (hi:yP r p):H4 { r with pool:=p }↔H4 { r with pool:=q }:=
 ⟨fun v=>⟨h.vq,v.lenB,v.lenT,v.ascB,fun b hb=>(h.okB (hi.b b hb)).2 (v.okB b hb),v.ascT,fun t ht=>(h.okT (hi.t t ht)).2 (v.okT t ht),v.cur⟩,
  fun v=>⟨h.vp,v.lenB,v.lenT,v.ascB,fun b hb=>(h.okB (hi.b b hb)).1 (v.okB b hb),v.ascT,fun t ht=>(h.okT (hi.t t ht)).1 (v.okT t ht),v.cur⟩⟩
theorem H4.grow {r:Repo} (v:H4 r) {q:List Sto} (h:Ey r.pool q):H4 { r with pool:=q }∧ ∀ m,C6 { r with pool:=q } m=C6 r m:=⟨(dF h v.inP).1 v,fun m=>Vf h v.inP m⟩
theorem H4.putB {r:Repo} (v:H4 r) {b:Brn} (hb:lq r.pool b) (hn: ∀ t∈r.tags,b.name≠t.name) (hl:(Dw Brn.name r.branches b).length≤100):H4 { r with branches:=Dw Brn.name r.branches b } where
 pool:=v.pool
 lenB:=hl
 lenT:=v.lenT
 ascB:=Ll _ v.ascB b
 okB:=fun c hc=>by
  rcases(EN v.ascB b).1 hc with rfl|⟨hc,_⟩
  ·exact hb
  ·exact v.okB c hc
 ascT:=v.ascT
 okT:=fun t ht=>by
  have:=v.okT t ht
  refine⟨this.name,fun c hc=>?_,this.note,this.asc,this.sub,this.apart⟩
  rcases(EN v.ascB b).1 hc with rfl|⟨hc,_⟩
  ·exact hn t ht
  ·exact this.new c hc
 cur:=by
  obtain⟨c,hc,e⟩:=v.cur
  by_cases h:c.name=b.name
  ·exact⟨b,(EN v.ascB b).2 (.inl rfl),h ▸ e⟩
  ·exact⟨c,(EN v.ascB b).2 (.inr ⟨hc,h⟩),e⟩
theorem H4.view_setB {r:Repo} (v:H4 r) {b:Brn} (m:Str):C6 { r with branches:=Dw Brn.name r.branches b } m=if m=b.name then some (Bt r.pool b.ids)else C6 r m:=by
 have ha':Ju Brn.name (Dw Brn.name r.branches b):=Ll _ v.ascB b
 split
 ·rename_i e;subst e
  exact HI (r:={ r with branches:=Dw Brn.name r.branches b }) ha' ((EN v.ascB b).2 (.inl rfl))
 ·rename_i hne
  cases hv:C6 r m with
  |none=>
   rw[FP]at hv ⊢
   refine⟨fun c hc=>?_,hv.2⟩
   rcases(EN v.ascB b).1 hc with rfl|⟨hc,_⟩
   ·exact fun e=>hne e.symm
   ·exact hv.1 c hc
  |some s=>
   rcases Ga hv with ⟨c,hc,rfl,rfl⟩|⟨hno,t,ht,rfl,rfl⟩
   ·exact HI (r:={ r with branches:=Dw Brn.name r.branches b }) ha' ((EN v.ascB b).2 (.inr ⟨hc,hne⟩))
   ·refine OA (r:={ r with branches:=Dw Brn.name r.branches b }) v.ascT ht fun c hc=>?_
    rcases(EN v.ascB b).1 hc with rfl|⟨hc,_⟩
    ·exact fun e=>hne e.symm
    ·exact hno c hc
theorem H4.putT {r:Repo} (v:H4 r) {t:Tgg} (ht:rV r.pool r.branches t) (hl:(Dw Tgg.name r.tags t).length≤100):H4 { r with tags:=Dw Tgg.name r.tags t } where
 pool:=v.pool
 lenB:=v.lenB
 lenT:=hl
 ascB:=v.ascB
 okB:=v.okB
 ascT:=Ll _ v.ascT t
 okT:=fun c hc=>by
  rcases(EN v.ascT t).1 hc with rfl|⟨hc,_⟩
  ·exact ht
  ·exact v.okT c hc
 cur:=v.cur
theorem H4.view_setT {r:Repo} (v:H4 r) {t:Tgg} (hn: ∀ b∈r.branches,b.name≠t.name) (m:Str):C6 { r with tags:=Dw Tgg.name r.tags t } m=if m=t.name then some (tagV r.pool t)else C6 r m:=by
 have ha':Ju Tgg.name (Dw Tgg.name r.tags t):=Ll _ v.ascT t
 split
 ·rename_i e;subst e
  exact OA (r:={ r with tags:=Dw Tgg.name r.tags t }) ha' ((EN v.ascT t).2 (.inl rfl)) hn
 ·rename_i hne
  cases hv:C6 r m with
  |none=>
   rw[FP]at hv ⊢
   refine⟨hv.1,fun c hc=>?_⟩
   rcases(EN v.ascT t).1 hc with rfl|⟨hc,_⟩
   ·exact fun e=>hne e.symm
   ·exact hv.2 c hc
  |some s=>
   rcases Ga hv with ⟨c,hc,rfl,rfl⟩|⟨hno,c,hc,rfl,rfl⟩
   ·exact HI (r:={ r with tags:=Dw Tgg.name r.tags t }) v.ascB hc
   ·exact OA (r:={ r with tags:=Dw Tgg.name r.tags t }) ha' ((EN v.ascT t).2 (.inr ⟨hc,hne⟩)) hno
theorem X9 {p q:List Sto} (h:Ey p q) {n:Str} (hn:EK n=true):lq q ⟨n,ids p⟩:=⟨hn,h.vp.asc,h.idsS,fun d hd x hx=>by rw[h.nd hd]at hx;exact h.vp.close.nd d x hx⟩
theorem Ey.keep_ids {p q:List Sto} (h:Ey p q):Bt q (ids p)=p:=by rw[h.keep fun d hd=>hd,kU]
theorem H4.viewS {r:Repo} (v:H4 r) {n:Str} {s:List Sto} (h:C6 r n=some s):Ey s r.pool:=⟨v.viewV h,v.pool,eE h⟩
theorem Mr {r:Repo} {n:Str} (h: ¬NJ r n≠0):(∀ b∈r.branches,b.name≠n)∧ ∀ t∈r.tags,t.name≠n:=by
 unfold NJ at h
 split at h
 ·simp at h
 ·rename_i h2
  exact⟨(Df Brn.name).1 (by omega),(Df Tgg.name).1 (by omega)⟩
theorem Fi {r:Repo} {n:Str} (h: ¬C3 Brn.name r.branches n < 0): ∃ b∈r.branches,b.name=n∧r.branches.getD (C3 Brn.name r.branches n).toNat Brn.zero=b:=by
 obtain⟨k,hk⟩: ∃ k:Nat,C3 Brn.name r.branches n=k:=⟨(C3 Brn.name r.branches n).toNat,by omega⟩
 obtain⟨hk1,e,_⟩:=Ew _ hk
 exact⟨_,AK hk1,e,by rw[hk,Br,GK hk1]⟩
theorem Qp {r:Repo} (v:H4 r) {b c:Brn} (hc:c∈r.branches) (e:c.name=b.name):(Dw Brn.name r.branches b).length=r.branches.length:=by
 obtain⟨i,hi,rfl⟩:=AX.1 hc
 rw[GY _ v.ascB hi e,Bm]
theorem UC {r:Repo} (v:H4 r) {n frm:Str} (h:(IA r n frm).2=0): ∃ s,C6 r frm=some s∧C6 r n=none∧H4 (IA r n frm).1∧(IA r n frm).1.pool=r.pool∧ ∀ m,C6 (IA r n frm).1 m=if m=n then some s else C6 r m:=by
 have hz:EO r=0:=(DH v.pool.close.1).2 v
 unfold IA at h ⊢
 rw[if_neg (by rw[hz];simp)]at h ⊢
 split at h
 ·cases h
 rename_i h1
 rw[if_neg h1]
 split at h
 ·rename_i h2;exact absurd h h2
 rename_i h2
 rw[if_neg h2]
 cases hv:C6 r frm with
 |none=>rw[hv]at h;cases h
 |some s=>
  rw[hv]at h
  dsimp only at h ⊢
  split at h
  ·cases h
  rename_i h3
  rw[if_neg h3]
  obtain⟨f1,f2⟩:=Mr h2
  have hs:=v.viewS hv
  have hb:=X9 hs (n:=n) (by simpa using h1)
  refine⟨s,rfl,FP.2 ⟨f1,f2⟩,v.putB hb (fun t ht e=>f2 t ht e.symm) (by have:=VB (nm:=Brn.name) r.branches ⟨n,ids s⟩;omega),rfl,fun m=>?_⟩
  rw[v.view_setB]
  dsimp only
  rw[hs.keep_ids]
theorem Sf {r:Repo} (v:H4 r) {n:Str} (h:(JW r n).2=0):H4 (JW r n).1∧(JW r n).1.pool=r.pool∧ ∀ m,C6 (JW r n).1 m=C6 r m:=by
 have hz:EO r=0:=(DH v.pool.close.1).2 v
 unfold JW at h ⊢
 rw[if_neg (by rw[hz];simp)]at h ⊢
 split at h
 ·cases h
 rename_i h1
 rw[if_neg h1]
 obtain⟨b,hb,e,_⟩:=Fi h1
 exact⟨⟨v.pool,v.lenB,v.lenT,v.ascB,v.okB,v.ascT,v.okT,⟨b,hb,e⟩⟩,rfl,fun m=>rfl⟩
theorem U1 {r:Repo} (v:H4 r) {n:Str} (h:(PA r n).2=0):H4 (PA r n).1∧(PA r n).1.pool=r.pool∧ ∀ m,C6 (PA r n).1 m=if m=n then none else C6 r m:=by
 have hz:EO r=0:=(DH v.pool.close.1).2 v
 unfold PA at h ⊢
 rw[if_neg (by rw[hz];simp)]at h ⊢
 split at h
 ·cases h
 rename_i h1
 rw[if_neg h1]
 split at h
 ·cases h
 rename_i h2
 rw[if_neg h2]
 split at h
 ·rename_i h3
  rw[if_pos h3]
  dsimp only
  obtain⟨k,hk⟩: ∃ k:Nat,C3 Brn.name r.branches n=k:=⟨(C3 Brn.name r.branches n).toNat,by omega⟩
  obtain⟨hk1,e,_⟩:=Ew _ hk
  rw[hk,Br]
  have hm:=fun y=>TX v.ascB hk1 (y:=y)
  rw[e]at hm
  have hsub:=VA (l:=r.branches) (k:=k)
  have hasc:Ju Brn.name (r.branches.eraseIdx k):=v.ascB.sublist hsub
  refine⟨⟨v.pool,CX hsub.length_le v.lenB,v.lenT,hasc,fun b hb=>v.okB b (hsub.subset hb),v.ascT,fun t ht=>?_,?_⟩,rfl,fun m=>?_⟩
  ·have:=v.okT t ht
   exact⟨this.name,fun b hb=>this.new b (hsub.subset hb),this.note,this.asc,this.sub,this.apart⟩
  ·obtain⟨c,hc,ec⟩:=v.cur
   exact⟨c,(hm c).2 ⟨hc,fun e2=>h2 (e2.symm.trans ec)⟩,ec⟩
  ·split
   ·rename_i em;subst em
    rw[FP]
    refine⟨fun b hb=>((hm b).1 hb).2,fun t ht e2=>?_⟩
    exact(v.okT t ht).new _ (AK hk1) (e.trans e2.symm)
   ·rename_i hne
    cases hv:C6 r m with
    |none=>
     rw[FP]at hv ⊢
     exact⟨fun b hb=>hv.1 b (hsub.subset hb),hv.2⟩
    |some s=>
     rcases Ga hv with ⟨c,hc,rfl,rfl⟩|⟨hno,t,ht,rfl,rfl⟩
     ·exact HI (r:={ r with branches:=r.branches.eraseIdx k }) hasc ((hm c).2 ⟨hc,hne⟩)
     ·exact OA (r:={ r with branches:=r.branches.eraseIdx k }) v.ascT ht fun c hc=>hno c (hsub.subset hc)
 ·rename_i h3
  rw[if_neg h3]
  dsimp only
  obtain⟨k,hk⟩: ∃ k:Nat,C3 Tgg.name r.tags n=k:=⟨(C3 Tgg.name r.tags n).toNat,by omega⟩
  obtain⟨hk1,e,_⟩:=Ew _ hk
  rw[hk,Br]
  have hnb:=(Df Brn.name).1 (show C3 Brn.name r.branches n < 0 by omega)
  have hm:=fun y=>TX v.ascT hk1 (y:=y)
  rw[e]at hm
  have hsub:=VA (l:=r.tags) (k:=k)
  have hasc:Ju Tgg.name (r.tags.eraseIdx k):=v.ascT.sublist hsub
  refine⟨⟨v.pool,v.lenB,CX hsub.length_le v.lenT,v.ascB,v.okB,hasc,fun t ht=>v.okT t (hsub.subset ht),v.cur⟩,rfl,fun m=>?_⟩
  split
  ·rename_i em;subst em
   rw[FP]
   exact⟨hnb,fun t ht=>((hm t).1 ht).2⟩
  ·rename_i hne
   cases hv:C6 r m with
   |none=>
    rw[FP]at hv ⊢
    exact⟨hv.1,fun b hb=>hv.2 b (hsub.subset hb)⟩
   |some s=>
    rcases Ga hv with ⟨c,hc,rfl,rfl⟩|⟨hno,t,ht,rfl,rfl⟩
    ·exact HI (r:={ r with tags:=r.tags.eraseIdx k }) v.ascB hc
    ·exact OA (r:={ r with tags:=r.tags.eraseIdx k }) hasc ((hm t).2 ⟨ht,hne⟩) hno
def kK (x y:Sto):Bool:=if x.patch.time≠y.patch.time then decide (x.patch.time < y.patch.time)else decide (Dh x.id y.id < 0)
def rS (q:List Sto) (i:Nat):Sto:=q.getD i Sto.zero
def Y0 (q:List Sto) (i j:Nat):List Sto:=(q.set i (rS q j)).set j (rS q i)
@[simp] theorem VI (q:List Sto) (i j:Nat):(Y0 q i j).length=q.length:=by simp[Y0]
def xl:Nat→List Sto→Nat→List Sto
 |0,q,_=>q
 |n+1,q,j=>if j=0 then q else if kK (rS q j) (rS q ((j - 1) / 2))=true then xl n (Y0 q ((j - 1) / 2) j) ((j - 1) / 2)else q
def yn (q:List Sto) (i n:Nat):Nat:=if 2*i+2 < n∧kK (rS q (2*i+2)) (rS q (2*i+1))=true then 2*i+2 else 2*i+1
def yG:Nat→List Sto→Nat→Nat→List Sto
 |0,q,_,_=>q
 |f+1,q,i,n=>if n≤2*i+1 then q else if kK (rS q (yn q i n)) (rS q i)=true then yG f (Y0 q i (yn q i n)) (yn q i n) n else q
def qh (q:List Sto) (x:Sto):List Sto:=xl q.length (q++ [x]) q.length
def qc (q:List Sto):List Sto:=yG (q.length - 1) (Y0 q 0 (q.length - 1)) 0 (q.length - 1)
theorem cG: ∀ (n:Nat) (q:List Sto) (j:Nat),(xl n q j).length=q.length
 |0,_,_=>rfl
 |n+1,q,j=>by
  rw[xl]
  split
  ·rfl
  ·split
   ·rw[cG,VI]
   ·rfl
theorem dm: ∀ (f:Nat) (q:List Sto) (i n:Nat),(yG f q i n).length=q.length
 |0,_,_,_=>rfl
 |f+1,q,i,n=>by
  rw[yG]
  split
  ·rfl
  ·split
   ·rw[dm,VI]
   ·rfl
@[simp] theorem uW (q:List Sto) (x:Sto):(qh q x).length=q.length+1:=by simp[qh,cG]
@[simp] theorem uU (q:List Sto):(qc q).length=q.length:=by simp[qc,dm]
section
variable {β:Type} [DecidableEq β] (K:Sto→β)
end
attribute [local irreducible] EG AY B2 FZ
instance uJ (k:Int):Bl Tryz.prog 194 [.raw (.int .i64 k)] (.raw (.int .i64 (gY k))):=⟨by
 refine Ak Tryz.func194 Tryz.ntmps194 rfl (rs:= [.tmp 2]) rfl rfl fun hb LF=>?_
 refine wf ?_
 repeat' (first|(refine A1 (fun h=>?_) (fun h=>?_)<;>refine wf ?_)|(refine AL (fun h=>?_) (fun h=>?_)<;>refine wf ?_)|(refine AO (fun h=>?_) (fun h=>?_)<;>refine wf ?_)|(refine An (fun h=>?_) (fun h=>?_)<;>(have h2:=h;(try simp only[AB,A7,AG,AF]at h2);refine wf ?_)))
 all_goals (refine Ah (.of_eq ?_);simp only[gY];first|(simp_all;done)|grind)⟩
def uk (k:Int) (a:Atm):Bool:=if a.kind≠1 then false else if k=5∨k=6 then decide (a.type=1)else if k=4 then decide (a.type=2∨a.type=3)else true
instance qw (k:Int) (a:Atm):Bl Tryz.prog 191 [.raw (.int .i64 k),.agg (eAtm a)] (.raw (.bool (uk k a))):=⟨by
 refine Ak Tryz.func191 Tryz.ntmps191 rfl (rs:= [.tmp 4]) rfl rfl fun hb LF=>?_
 refine wf ?_
 repeat' (first|(refine A1 (fun h=>?_) (fun h=>?_)<;>refine wf ?_)|(refine AL (fun h=>?_) (fun h=>?_)<;>refine wf ?_)|(refine AO (fun h=>?_) (fun h=>?_)<;>refine wf ?_)|(refine An (fun h=>?_) (fun h=>?_)<;>(have h2:=h;(try simp only[AB,A7,AG,AF]at h2);refine wf ?_)))
 all_goals (refine Ah (.of_eq ?_);simp only[uk];first|(simp_all;done)|grind)⟩
def uK (x f g:Ident) (a:Atm):Bool:=decide (x=f)||(decide (a.kind=5)&&decide (a.file=g))
def vV (k:Int) (g:Ident) (a:Atm):Bool:=decide (k=0)||(decide (a.kind=k)&&decide (a.file=g))
instance s6 (c:Chg) (a:Atm):Bl Tryz.prog 190 [.agg (eAtm a),.pt (BC c) 0] (.raw (.bool (uk c.kind a))):=⟨by
 refine Ak Tryz.func190 Tryz.ntmps190 rfl (rs:= [.tmp 3]) rfl rfl fun hb LF=>?_
 refine wf ?_
 exact Ah (.refl _)⟩
instance rz (a:Atm):Bl Tryz.prog 192 [.agg (eAtm a)] (.raw (.bool (oC a))):=⟨by
 refine Ak Tryz.func192 Tryz.ntmps192 rfl (rs:= [.tmp 2]) rfl rfl fun hb LF=>?_
 refine wf ?_
 repeat' (first|(refine A1 (fun h=>?_) (fun h=>?_)<;>refine wf ?_)|(refine AL (fun h=>?_) (fun h=>?_)<;>refine wf ?_)|(refine AO (fun h=>?_) (fun h=>?_)<;>refine wf ?_)|(refine An (fun h=>?_) (fun h=>?_)<;>(have h2:=h;(try simp only[AB,A7,AG,AF]at h2);refine wf ?_)))
 all_goals (refine Ah (.of_eq ?_);simp only[oC];first|(simp_all;done)|grind)⟩
instance ry (x g:Ident) (c:Chg) (a:Atm):Bl Tryz.prog 193 [.agg (eAtm a),.pt (eIdent x) 0,.pt (BC c) 0,.pt (eIdent g) 0] (.raw (.bool (uK x c.file g a))):=⟨by
 refine Ak Tryz.func193 Tryz.ntmps193 rfl (rs:= [.tmp 5]) rfl rfl fun hb LF=>?_
 refine wf ?_
 repeat' (first|(refine A1 (fun h=>?_) (fun h=>?_)<;>refine wf ?_)|(refine AL (fun h=>?_) (fun h=>?_)<;>refine wf ?_)|(refine AO (fun h=>?_) (fun h=>?_)<;>refine wf ?_)|(refine An (fun h=>?_) (fun h=>?_)<;>(have h2:=h;(try simp only[AB,A7,AG,AF]at h2);refine wf ?_)))
 all_goals (refine Ah (.of_eq ?_);simp only[uK];first|(simp_all;done)|grind)⟩
instance ru (k:Int) (g:Ident) (a:Atm):Bl Tryz.prog 195 [.agg (eAtm a),.pt [.raw (.int .i64 k)] 0,.pt (eIdent g) 0] (.raw (.bool (vV k g a))):=⟨by
 refine Ak Tryz.func195 Tryz.ntmps195 rfl (rs:= [.tmp 4]) rfl rfl fun hb LF=>?_
 refine wf ?_
 repeat' (first|(refine A1 (fun h=>?_) (fun h=>?_)<;>refine wf ?_)|(refine AL (fun h=>?_) (fun h=>?_)<;>refine wf ?_)|(refine AO (fun h=>?_) (fun h=>?_)<;>refine wf ?_)|(refine An (fun h=>?_) (fun h=>?_)<;>(have h2:=h;(try simp only[AB,A7,AG,AF]at h2);refine wf ?_)))
 all_goals (refine Ah (.of_eq ?_);simp only[vV];first|(simp_all;done)|grind)⟩
def Jj (l:List Rfc) (r:Rfc):List Rfc:=if r.id.patch=Dig.zero then l else l++ [r]
def bw (b:Nat) (l:List Rfc) (t:CW):List Res:= [.box b 174 [.slice (l.map eRfc) t],.tok t l.length 34]
theorem pk (x:Ident) (f:Nat) (cs:List PV) (b:Nat) (l:List Rfc) (t:CW) (hl:l.length≤1000000):
  B2 Tryz.prog 189 [.agg (eIdent x),.clo f cs,.raw (.pointer (some ⟨b,0,none⟩))] (bw b l t) (fun _ L'=> ∃ t',L'=bw b (Jj l ⟨x,f,cs⟩) t'):=by
 refine Bw Tryz.func189 rfl Tryz.ntmps189 (rs:= []) rfl rfl fun hb LF=>?_
 rw[show bw b l t++LF= .box b 174 [.slice (l.map eRfc) t]:: .tok t l.length 34::LF from rfl]
 refine wf ?_
 refine AL (fun h=>?_) (fun h=>?_)
 ·refine Xw fun t'=>?_
  exact⟨trivial,[],bw b (l++ [⟨x,f,cs⟩]) t',.nil,.refl _,t',by rw[Jj,if_neg h]⟩
 ·refine wf ?_
  have h0:x.patch=Dig.zero:=by simpa using h
  exact⟨trivial,[],bw b l t,.nil,.refl _,t,by rw[Jj,if_pos h0]⟩
section
variable {N:Nat} {all:Array Oper} {K:Env→List Res→Prop} {fl:List Bool} {os:List Oper} {ρ:Env} {L:List Res} {Q:PPost} {c:Code} {d:Nat} {ty:TypeId} {pos:String} {af:Array Edge}
theorem XF {x x0 x1:Operand} {ats:Array TypeId} {b f:Nat} {l:List Rfc} {t:CW} {id:Ident} {cs:List PV} {a1:PV} {LF:List Res}
  (qx:ρ.ev x= .clo 189 [.raw (.pointer (some ⟨b,0,none⟩))]) (q0:ρ.ev x0= .agg (eIdent id)) (q1:ρ.ev x1=a1) [h1:WM a1 f cs] (hl:l.length≤1000000)
  (k: ∀ t' u,AY Tryz.prog N all K fl.tail os (CN ρ d u) (.box b 174 [.slice ((Jj l (Rfc.mk id f cs)).map eRfc) t']:: .tok t' (Jj l (Rfc.mk id f cs)).length 34::LF)) (hd:Nat.blt d N=true:=by rfl) (hfl:fl.headD true=true:=by rfl):
  AY Tryz.prog N all K fl (⟨some d,.call { callee:= .value x,args:= #[x0,x1],argTypes:=ats },ty,pos,af,none⟩::os) ρ (.box b 174 [.slice (l.map eRfc) t]:: .tok t l.length 34::LF):=
 Bo (xs:= [x0,x1]) (bw b l t) LF (.of_eq qx) rfl rfl (.refl _) (fun _ L'=> ∃ t',L'=bw b (Jj l ⟨id,f,cs⟩) t')
  (B2.args (bs:= [.agg (eIdent id),.clo f cs,.raw (.pointer (some ⟨b,0,none⟩))]) rfl (fun i g1 g2=>by
   match i,g1,g2 with
   |0,_,_=>exact .of_eq q0
   |1,_,_=>show Le (ρ.ev x1) _;rw[q1];exact h1.out
   |2,_,_=>exact .refl _
   |m+3,g1,_=>exact absurd g1 (by simp)) (pk id f cs b l t hl)) (fun r L' ⟨t',e⟩=>by subst e;exact k t' r) hd hfl
end
theorem TN (l:List Rfc) (r:Rfc):(Jj l r).length≤l.length+1:=by unfold Jj;split<;>simp
def DF (id:Dig) (c:Chg):Ident:=if c.file.patch=Dig.zero then { c.file with patch:=id }else c.file
def Xv (c:Chg):List Rfc:=if c.kind≠1∧c.kind≠7 then Jj [] ⟨c.file,190,[.pt (BC c) 0]⟩else []
def aV (c:Chg) (l:List Rfc):List Rfc:=if c.kind=2 then Jj l ⟨c.parent,192,[]⟩else l
def Nv (g:Ident) (c:Chg) (x:Ident):Rfc:=⟨x,193,[.pt (eIdent x) 0,.pt (BC c) 0,.pt (eIdent g) 0]⟩
def gU (g:Ident) (c:Chg) (l:List Rfc):List Rfc:=if c.kind=5∨c.kind=6 then [c.after,c.before].foldl (fun l x=>Jj l (Nv g c x)) l else l
def Mh (g:Ident) (c:Chg) (x:Ident):Rfc:=⟨x,195,[.pt [.raw (.int .i64 (gY c.kind))] 0,.pt (eIdent g) 0]⟩
def sK (g:Ident) (c:Chg) (l:List Rfc) (o:List Ident):List Rfc:=o.foldl (fun l x=>Jj l (Mh g c x)) l
def Je (id:Dig) (c:Chg):List Rfc:=sK (DF id c) c (gU (DF id c) c (aV c (Xv c))) c.over
theorem Kn {α:Type} (f:α→Rfc): ∀ (o:List α) (l:List Rfc),(o.foldl (fun l x=>Jj l (f x)) l).length≤l.length+o.length
 | [],l=>by simp
 |x::o,l=>by
  have:=Kn f o (Jj l (f x))
  have:=TN l (f x)
  simp only[EJ,AH]
  omega
theorem dA (c:Chg):(Xv c).length≤1:=by
 unfold Xv;split
 ·exact TN _ _
 ·simp
theorem cz (c:Chg) (l:List Rfc):(aV c l).length≤l.length+1:=by
 unfold aV;split
 ·exact TN _ _
 ·omega
theorem cy (g:Ident) (c:Chg) (l:List Rfc):(gU g c l).length≤l.length+2:=by
 unfold gU;split
 ·exact Kn _ _ _
 ·omega
instance jZ (id:Dig) (c:Chg) [hs:B3 (c.over.length≤400)]:Bl Tryz.prog 155 [.agg (eDig id),.agg (BC c)] (.slice ((Je id c).map eRfc) .ro):=⟨by
 have hover:=hs.out
 have r1:=dA c
 have r2:=cz c (Xv c)
 have r3:=cy (DF id c) c (aV c (Xv c))
 refine Ak Tryz.func155 Tryz.ntmps155 rfl (rs:= [.tmp 4]) rfl rfl fun hb LF=>?_
 refine wf ?_
 refine BR fun b5=>?_
 refine wf ?_
 refine Kf True [(2,.pt (eDig id) 0),(3,.pt (BC c) 0),(5,.raw (.pointer (some ⟨b5,0,none⟩)))] (.box b5 98 (eIdent (DF id c))::LF) ?_ fun _=>?_
 ·refine A1 (fun h=>?_) (fun h=>?_)
  ·refine wf ?_
   rw[DF,if_pos h]
   exact⟨trivial,⟨rfl,rfl,rfl⟩,.refl _⟩
  ·refine wf ?_
   rw[DF,if_neg h]
   exact⟨trivial,⟨rfl,rfl,rfl⟩,.refl _⟩
 generalize hg:DF id c=g at r3 ⊢
 refine Ag 5 ?_
 refine wf ?_
 refine BR fun b6=>?_
 refine wo ?_
 refine AN ?_
 refine Ee 34 ?_
 refine GI (.swap _ _ _) ?_
 refine ws ?_
 refine B0 [(29,.raw (.bool (decide (c.kind≠1∧c.kind≠7)))),(3,.pt (BC c) 0),(5,.pt (eIdent g) 0),(6,.raw (.pointer (some ⟨b6,0,none⟩))),(7,.clo 189 [.raw (.pointer (some ⟨b6,0,none⟩))])] (.box b6 174 [.slice [] .nil]:: .tok .nil 0 34::LF) ?_ ?_
 ·repeat' (first|(refine A1 (fun h=>?_) (fun h=>?_)<;>refine wf ?_)|(refine AL (fun h=>?_) (fun h=>?_)<;>refine wf ?_)|(refine AO (fun h=>?_) (fun h=>?_)<;>refine wf ?_)|(refine An (fun h=>?_) (fun h=>?_)<;>(have h2:=h;(try simp only[AB,A7,AG,AF]at h2);refine wf ?_)))
  all_goals (refine⟨⟨BO (by rfl) ?_,rfl,rfl,rfl,rfl⟩,.refl _⟩;first|(simp_all;done)|grind)
 refine Cz (σ:=List Rfc × CW) (fun s=>s.1=Xv c) (fun s=> [(3,.pt (BC c) 0),(5,.pt (eIdent g) 0),(6,.raw (.pointer (some ⟨b6,0,none⟩))),(7,.clo 189 [.raw (.pointer (some ⟨b6,0,none⟩))])]) (fun s=> .box b6 174 [.slice (s.1.map eRfc) s.2]:: .tok s.2 s.1.length 34::LF) ?_ ?_
 ·refine A1 (fun h=>?_) (fun h=>?_)
  ·refine wf ?_
   refine XF (l:= []) rfl rfl (by(conv=>lhs;whnf);done) (h1:=(by first|infer_instance|fail)) (by simp) fun t' u=>?_
   refine wf ?_
   exact⟨(Jj [] ⟨c.file,190,[.pt (BC c) 0]⟩,t'),by rw[Xv,if_pos h],⟨rfl,rfl,rfl,rfl⟩,.refl _⟩
  ·refine wf ?_
   exact⟨([],.nil),by rw[Xv,if_neg h],⟨rfl,rfl,rfl,rfl⟩,.refl _⟩
 rintro⟨l1,t1⟩ hl1
 dsimp only at hl1 ⊢
 have k1:l1.length≤1:=by rw[hl1];exact r1
 rw[←hl1]at r2 r3
 refine wf ?_
 refine Cz (σ:=List Rfc × CW) (fun s=>s.1=aV c l1) (fun s=> [(3,.pt (BC c) 0),(5,.pt (eIdent g) 0),(6,.raw (.pointer (some ⟨b6,0,none⟩))),(7,.clo 189 [.raw (.pointer (some ⟨b6,0,none⟩))])]) (fun s=> .box b6 174 [.slice (s.1.map eRfc) s.2]:: .tok s.2 s.1.length 34::LF) ?_ ?_
 ·refine A1 (fun h=>?_) (fun h=>?_)
  ·refine wf ?_
   refine XF rfl rfl (by(conv=>lhs;whnf);done) (h1:=(by first|infer_instance|fail)) (by omega) fun t' u=>?_
   refine wf ?_
   exact⟨(Jj l1 ⟨c.parent,192,[]⟩,t'),by rw[aV,if_pos h],⟨rfl,rfl,rfl,rfl⟩,.refl _⟩
  ·refine wf ?_
   exact⟨(l1,t1),by rw[aV,if_neg h],⟨rfl,rfl,rfl,rfl⟩,.refl _⟩
 rintro⟨l2,t2⟩ hl2
 dsimp only at hl2 ⊢
 rw[←hl2]at r2 r3
 refine ws ?_
 refine B0 [(49,.raw (.bool (decide (c.kind=5∨c.kind=6)))),(3,.pt (BC c) 0),(5,.pt (eIdent g) 0),(6,.raw (.pointer (some ⟨b6,0,none⟩))),(7,.clo 189 [.raw (.pointer (some ⟨b6,0,none⟩))])] (.box b6 174 [.slice (l2.map eRfc) t2]:: .tok t2 l2.length 34::LF) ?_ ?_
 ·repeat' (first|(refine A1 (fun h=>?_) (fun h=>?_)<;>refine wf ?_)|(refine AL (fun h=>?_) (fun h=>?_)<;>refine wf ?_)|(refine AO (fun h=>?_) (fun h=>?_)<;>refine wf ?_)|(refine An (fun h=>?_) (fun h=>?_)<;>(have h2:=h;(try simp only[AB,A7,AG,AF]at h2);refine wf ?_)))
  all_goals (refine⟨⟨BO (by rfl) ?_,rfl,rfl,rfl,rfl⟩,.refl _⟩;first|(simp_all;done)|grind)
 refine Cz (σ:=List Rfc × CW) (fun s=>s.1=gU g c l2) (fun s=> [(3,.pt (BC c) 0),(5,.pt (eIdent g) 0),(6,.raw (.pointer (some ⟨b6,0,none⟩))),(7,.clo 189 [.raw (.pointer (some ⟨b6,0,none⟩))])]) (fun s=> .box b6 174 [.slice (s.1.map eRfc) s.2]:: .tok s.2 s.1.length 34::LF) ?_ ?_
 ·refine A1 (fun h=>?_) (fun h=>?_)
  ·refine wf ?_
   refine AW (σ:=Nat × List Rfc × CW) (fun k=>k.1≤2∧k.2.1=([c.after,c.before].take k.1).foldl (fun l x=>Jj l (Nv g c x)) l2) (fun k=>2 - k.1) (fun k=> [(3,.pt (BC c) 0),(5,.pt (eIdent g) 0),(6,.raw (.pointer (some ⟨b6,0,none⟩))),(7,.clo 189 [.raw (.pointer (some ⟨b6,0,none⟩))]),(54,.slice ([c.after,c.before].map eIdent) .ro),(55,.raw (.int .i64 2)),(56,.raw (.int .i64 k.1))]) (fun k=> .box b6 174 [.slice (k.2.1.map eRfc) k.2.2]:: .tok k.2.2 k.2.1.length 34::LF) (0,l2,t2) ⟨by simp,rfl⟩ ⟨rfl,rfl,rfl,rfl,rfl,rfl,rfl⟩ (.refl _) ?_
   rintro⟨k,m,t3⟩ ⟨hk,hm⟩
   dsimp only at hk hm ⊢
   have hml:m.length≤10:=by
    have:=Kn (Nv g c) ([c.after,c.before].take k) l2
    rw[←hm,AV]at this
    simp only[AH,Aa]at this
    omega
   refine wf ?_
   refine A1 (fun hc=>?_) (fun hc=>?_)
   ·have hlt:k < [c.after,c.before].length:=by simp only[AH,Aa];omega
    refine wz fun b9=>?_
    refine Ag 9 ?_
    refine wf ?_
    refine XF rfl rfl (by(conv=>lhs;whnf);done) (h1:=(by first|infer_instance|fail)) (by omega) fun t' u=>?_
    refine wf ?_
    refine⟨(k+1,Jj m (Nv g c [c.after,c.before][k]),t'),⟨by dsimp only;omega,?_⟩,by dsimp only;omega,⟨rfl,rfl,rfl,rfl,rfl,rfl,rfl⟩,.refl _⟩
    dsimp only
    rw[A6 hlt,DR,←hm];rfl
   ·rw[AA (by simp only[AH,Aa];omega)]at hm
    refine wf ?_
    exact⟨(m,t3),by rw[gU,if_pos h];exact hm,⟨rfl,rfl,rfl,rfl⟩,.refl _⟩
  ·refine wf ?_
   exact⟨(l2,t2),by rw[gU,if_neg h],⟨rfl,rfl,rfl,rfl⟩,.refl _⟩
 rintro⟨l3,t3⟩ hl3
 dsimp only at hl3 ⊢
 rw[←hl3]at r3
 refine wf ?_
 refine BR fun b10=>?_
 refine wo ?_
 refine AN ?_
 refine Ag 10 ?_
 refine wf ?_
 refine AW (σ:=Nat × List Rfc × CW) (fun k=>k.1≤c.over.length∧k.2.1=sK g c l3 (c.over.take k.1)) (fun k=>c.over.length - k.1) (fun k=> [(5,.pt (eIdent g) 0),(6,.raw (.pointer (some ⟨b6,0,none⟩))),(7,.clo 189 [.raw (.pointer (some ⟨b6,0,none⟩))]),(10,.pt [.raw (.int .i64 (gY c.kind))] 0),(69,.slice (c.over.map eIdent) .ro),(70,.raw (.int .i64 c.over.length)),(71,.raw (.int .i64 k.1))]) (fun k=> .box b6 174 [.slice (k.2.1.map eRfc) k.2.2]:: .tok k.2.2 k.2.1.length 34::LF) (0,l3,t3) ⟨by simp,rfl⟩ ⟨rfl,rfl,rfl,rfl,rfl,rfl,rfl⟩ (.refl _) ?_
 rintro⟨k,m,t4⟩ ⟨hk,hm⟩
 dsimp only at hk hm ⊢
 have hml:m.length≤1000:=by
  have:=Kn (Mh g c) (c.over.take k) l3
  rw[AV]at this
  have e:m.length=((c.over.take k).foldl (fun l x=>Jj l (Mh g c x)) l3).length:=by rw[hm];rfl
  omega
 refine wf ?_
 refine A1 (fun hc=>?_) (fun hc=>?_)
 ·have hlt:k < c.over.length:=by omega
  refine wz fun b12=>?_
  refine Ag 12 ?_
  refine wf ?_
  refine XF rfl rfl (by(conv=>lhs;whnf);done) (h1:=(by first|infer_instance|fail)) (by omega) fun t' u=>?_
  refine wf ?_
  refine⟨(k+1,Jj m (Mh g c c.over[k]),t'),⟨by dsimp only;omega,?_⟩,by dsimp only;omega,⟨rfl,rfl,rfl,rfl,rfl,rfl,rfl⟩,.refl _⟩
  dsimp only
  rw[A6 hlt,sK,DR,hm];rfl
 ·rw[AA (by omega)]at hm
  refine wf ?_
  refine Ah (.ros ?_)
  rw[hm,Je,hg,←hl1,←hl2,←hl3]⟩
instance xp:WE Tryz.prog 199 180 172 296:=⟨by
 have h2:(Tryz.prog.info? 180).map (fun i=>(i.size,i.bytes,i.zero.isSome,(i.zero.getD undef).cells.size))=some (172,296,true,172):=by kernel_rfl
 obtain⟨i,hi,e⟩:=Bj.1 h2
 simp only[Prod.mk.injEq]at e
 obtain⟨e1,e2,e3,e4⟩:=e
 obtain⟨z,hz⟩:=E5.1 e3
 rw[hz]at e4
 exact⟨i,z,by kernel_rfl,hi,e1,e2,hz,e4,by decide,by decide⟩⟩
def xE (b:Nat) (v:Value) (R LF:List Res):List Res:= .box b 199 [.raw v]::(R++LF)
theorem ZY (p:Pat) (hs:EE p=false):B2 Tryz.prog 181 [.agg (CP p)] [] (fun r L'=> ∃ x y,r= .tuple [x,y,.raw (.int .i64 (L9 p).2.2)]∧(((L9 p).2.2≠0∧L'= [])∨((L9 p).2.2=0∧ ∃ v,x= .raw v∧E9 180 172 v ((L9 p).1.map eAtm) L'∧(L9 p).1.length≤100000))):=by
 obtain⟨hg1,hg2,hg3,hg4,hg5⟩:=IW hs
 refine Bw Tryz.func181 rfl Tryz.ntmps181 (rs:= [.tmp 2,.tmp 3,.tmp 4]) rfl rfl fun hb LF=>?_
 have zr:Ch Tryz.prog 199 [.raw (.slice none 0 0)]:=NS (v:= .slice none 0 0) (by kernel_rfl) rfl fun _=> .raw _
 refine wf ?_
 refine AL (fun h1=>?_) (fun h1=>?_)
 ·refine wf ?_
  have e:Cq p=([],J9 p):=by rw[IV,if_pos h1]
  have e2:L9 p=([],[],J9 p):=by rw[L9,e,if_pos h1]
  rw[e2]
  exact⟨trivial,_,[],.cons (.tmp 2) (.cons (.tmp 3) (.cons (.tmp 4) .nil)),.refl _,_,_,rfl,.inl ⟨h1,rfl⟩⟩
 have hH:=Mc h1
 refine wf ?_
 refine BR (hZ:=zr) fun b6=>?_
 refine wf ?_
 refine AW (σ:=Nat × Value × List Res × List Atm) (fun k=>k.1≤p.changes.length∧E9 180 172 k.2.1 (k.2.2.2.map eAtm) k.2.2.1∧k.2.2.2.length≤k.1*81∧NI k.2.2.2∧(∀ c∈p.changes.take k.1,1≤c.kind∧c.kind≤7)∧Cq p=DK (p.changes.drop k.1) k.2.2.2) (fun k=>p.changes.length - k.1) (fun k=> [(1,.pt (CP p) 0),(6,.raw (.pointer (some ⟨b6,0,none⟩))),(20,.slice (p.changes.map BC) .ro),(21,.raw (.int .i64 p.changes.length)),(22,.raw (.int .i64 k.1))]) (fun k=>xE b6 k.2.1 k.2.2.1 LF) (0,.slice none 0 0,[],[]) ⟨by simp,.nil none (by simp),by simp,fun i h=>absurd h (by simp),by simp,hH⟩ ⟨rfl,rfl,rfl,rfl,rfl⟩ (.refl _) ?_
 rintro⟨k,v,R,own⟩ ⟨hk,hrow,hlen,hid,hkd,he⟩
 dsimp only at hk hrow hlen hid hkd he
 rw[show xE b6 (k,v,R,own).2.1 (k,v,R,own).2.2.1 LF= .box b6 199 [.raw v]::(R++LF) from rfl]
 refine wf ?_
 refine A1 (fun hc=>?_) (fun hc=>?_)
 ·have hlt:k < p.changes.length:=by omega
  rw[LQ hlt]at he
  refine wz fun b8=>?_
  refine Ag 8 ?_
  refine wf ?_
  refine AL (fun h2=>?_) (fun h2=>?_)
  ·refine wf ?_
   rw[if_pos h2]at he
   have e2:L9 p=([],[],C0 p.changes[k]):=by rw[L9,he,if_pos h2]
   rw[e2]
   exact⟨trivial,_,[],.cons (.tmp 2) (.cons (.tmp 3) (.cons (.tmp 4) .nil)),.cons _ (Dk R LF),_,_,rfl,.inl ⟨h2,rfl⟩⟩
  rw[if_neg (by simp[h2])]at he
  have hll:p.changes[k].lines.length≤2000:=JZ h2
  have hkk:1≤p.changes[k].kind∧p.changes[k].kind≤7:=Ma h2
  have hmm:=Lq p.changes[k] own.length
  have hl40:=(hg5 _ (AK hlt)).lines
  have i1:B3 (C0 p.changes[k]=0∧own.length≤100000∧NI own):=⟨h2,by omega,hid⟩
  have hmx:(own.map eAtm).length≤maxN∧(own.map eAtm).length*172≤maxN:=by
   have:maxN=140737488355328:=rfl
   rw[AR];omega
  refine wf ?_
  refine Bo (xs:= [.tmp 31,.tmp 32]) R (.box b6 199 [.raw v]::LF) (f:=223) (cs:= []) (Bx _) rfl rfl B8.symm _ (hrow.lend [.agg (BC p.changes[k])] [] hmx (inferInstance:Bl Tryz.prog 223 [.agg (BC p.changes[k]),.slice (own.map eAtm) .ro] (.raw (.int .i64 (FY p.changes[k] own)))).out) fun r L' ⟨e1,e2⟩=>?_
  subst e1
  rw[e2]
  refine wf ?_
  refine wf ?_
  refine GI B8 ?_
  refine AL (fun h3=>?_) (fun h3=>?_)
  ·refine wf ?_
   rw[if_pos h3]at he
   have e2:L9 p=([],[],FY p.changes[k] own):=by rw[L9,he,if_pos h3]
   rw[e2]
   exact⟨trivial,_,[],.cons (.tmp 2) (.cons (.tmp 3) (.cons (.tmp 4) .nil)),.cons _ (Dk R LF),_,_,rfl,.inl ⟨h3,rfl⟩⟩
  rw[if_neg (by simp[h3])]at he
  have hrow':=hrow
  obtain⟨⟨o,cc,ev⟩,_⟩:=hrow.slice
  rw[AR]at ev
  subst ev
  refine wf ?_
  refine FS rfl ?_
  refine wf ?_
  refine Hp (Vj p.changes[k] own.length hkk ⟨hll,by omega,by omega⟩) [41] (σ:=Value × List Res × List Atm) (fun pre s=>E9 180 172 s.1 (s.2.2.map eAtm) s.2.1∧s.2.2=own++pre) (fun _ _=>False) (fun s LF'=>xE b6 s.1 s.2.1 LF') (.slice o own.length cc,R,own) LF ?_ rfl (fun _=>rfl) (by simp) (fun _ _=>by simp[xE]) (.refl _) ⟨hrow',by simp⟩ ?_ ?_ (fun _ _ h=>h.elim)
  ·exact .refl _
  ·rintro pre x ⟨v1,R1,own1⟩ LF' hpre ⟨hr1,hI⟩
   dsimp only at hr1 hI
   have hpl:=hpre.length_le
   have hol:own1.length≤90000:=by
    rw[hI,A8]
    rw[A8,CJ]at hpl
    omega
   rw[show xE b6 (v1,R1,own1).1 (v1,R1,own1).2.1 LF'= .box b6 199 [.raw v1]::(R1++LF') from rfl]
   refine wz fun b11=>?_
   refine Ag 11 ?_
   refine wf ?_
   refine R4 (f:=eAtm) (m:= [x]) (R:=R1) (LF:= .box b6 199 [.raw v1]::LF') (fun R'=> .box b6 199 [.raw v1]::(R'++LF')) rfl rfl hr1 B8.symm (fun R'=>B8) (by simp only[AR,AH,Aa];omega) (by simp only[AR,AH,Aa];omega) fun v2 R2 hr2=>?_
   have h1c:v2.oneCell'=true:=by
    obtain⟨⟨o2,c2,e2⟩,_⟩:=hr2.slice
    rw[e2];rfl
   refine KY [.raw v2] rfl rfl h1c rfl (by simp) ?_
   refine wf ?_
   exact⟨(v2,R2,own1++ [x]),⟨by dsimp only;rw[Az];exact hr2,by dsimp only;rw[hI,AJ]⟩,.refl _⟩
  ·rintro⟨v1,R1,own1⟩ ⟨hr1,hI⟩
   dsimp only at hr1 hI
   refine wf ?_
   refine⟨(k+1,v1,R1,own1),⟨by dsimp only;omega,hr1,?_,?_,?_,?_⟩,by dsimp only;omega,⟨rfl,rfl,rfl,rfl,rfl⟩,.refl _⟩
   ·dsimp only
    rw[hI,A8];omega
   ·dsimp only
    rw[hI];exact Pb _ hid
   ·dsimp only
    intro c hcm
    rw[A6 hlt]at hcm
    rcases Ai.1 hcm with h|h
    ·exact hkd c h
    ·rw[B1.1 h];exact hkk
   ·dsimp only
    rw[hI];exact he
 have hkk:k=p.changes.length:=by omega
 rw[Cp (by omega)]at he
 rw[AA (by omega)]at hkd
 have he':Cq p=(own,0):=he
 have i1:B3 (bZ p):=⟨⟨Nw hs,YZ (TG h1),hkd⟩⟩
 refine wf ?_
 have h0: ¬(Cq p).2≠0:=by rw[he'];simp
 refine A1 (fun h=>?_) (fun h=>?_)
 ·refine wf ?_
  have e2:L9 p=([],[],4):=by rw[L9,if_neg h0,if_pos h]
  rw[e2]
  exact⟨trivial,_,[],.cons (.tmp 2) (.cons (.tmp 3) (.cons (.tmp 4) .nil)),.cons _ (Dk R LF),_,_,rfl,.inl ⟨by decide,rfl⟩⟩
 ·refine wf ?_
  have e2:L9 p=(own,NN p,0):=by rw[L9,if_neg h0,if_neg h,he']
  rw[e2]
  exact⟨trivial,_,R,.cons (.tmp 2) (.cons (.tmp 3) (.cons (.tmp 4) .nil)),.cons _ (.refl _),_,_,rfl,.inr ⟨rfl,_,rfl,hrow,by dsimp only;omega⟩⟩
end Go.Proofs
namespace Go.Proofs
open Go.Shelf
def Tryz.sortI_ren:Go.Shelf.Ren:=⟨fun|6=>276|15=>208|14=>311|28=>242|29=>243|20=>331|21=>332|22=>333|23=>334|24=>335|25=>336|26=>337|27=>338|46=>345|47=>278|48=>279|49=>346|50=>347|57=>351|n=>n,fun|22=>99|24=>98|25=>267|3=>3|39=>224|0=>0|53=>206|55=>235|4=>4|46=>243|45=>242|50=>148|5=>5|9=>9|66=>277|70=>281|76=>304|77=>305|n=>n,fun|n=>n⟩
theorem Tryz.sortI:Go.Proofs.SlLaysF0.n6 Tryz.prog Tryz.sortI_ren:={
 mixed:=by kernel_rfl
 f6:=⟨Tryz.f276.name,by decide,Tryz.func276.trans (congrArg some (by kernel_rfl))⟩
 f14:=⟨Tryz.f311.name,by decide,Tryz.func311.trans (congrArg some (by kernel_rfl))⟩
 f15:=Tryz.func208.trans (congrArg some (by kernel_rfl))
 f20:=⟨Tryz.f331.name,by decide,Tryz.func331.trans (congrArg some (by kernel_rfl))⟩
 f21:=⟨Tryz.f332.name,by decide,Tryz.func332.trans (congrArg some (by kernel_rfl))⟩
 f22:=⟨Tryz.f333.name,by decide,Tryz.func333.trans (congrArg some (by kernel_rfl))⟩
 f23:=⟨Tryz.f334.name,by decide,Tryz.func334.trans (congrArg some (by kernel_rfl))⟩
 f24:=⟨Tryz.f335.name,by decide,Tryz.func335.trans (congrArg some (by kernel_rfl))⟩
 f25:=⟨Tryz.f336.name,by decide,Tryz.func336.trans (congrArg some (by kernel_rfl))⟩
 f26:=⟨Tryz.f337.name,by decide,Tryz.func337.trans (congrArg some (by kernel_rfl))⟩
 f27:=⟨Tryz.f338.name,by decide,Tryz.func338.trans (congrArg some (by kernel_rfl))⟩
 f28:=Tryz.func242.trans (congrArg some (by kernel_rfl))
 f29:=Tryz.func243.trans (congrArg some (by kernel_rfl))
 f46:=⟨Tryz.f345.name,by decide,Tryz.func345.trans (congrArg some (by kernel_rfl))⟩
 f47:=Tryz.func278.trans (congrArg some (by kernel_rfl))
 f48:=Tryz.func279.trans (congrArg some (by kernel_rfl))
 f49:=⟨Tryz.f346.name,by decide,Tryz.func346.trans (congrArg some (by kernel_rfl))⟩
 f50:=⟨Tryz.f347.name,by decide,Tryz.func347.trans (congrArg some (by kernel_rfl))⟩
 f57:=⟨Tryz.f351.name,by decide,Tryz.func351.trans (congrArg some (by kernel_rfl))⟩
 t0:=Tryz.underlying0
 a0:=Tryz.isAgg0
 z0:=Tryz.sizeOf0
 v0:=Tryz.zeroValue0
 t3:=Tryz.underlying3
 a3:=Tryz.isAgg3
 z3:=Tryz.sizeOf3
 v3:=Tryz.zeroValue3
 t4:=Tryz.underlying4
 a4:=Tryz.isAgg4
 z4:=Tryz.sizeOf4
 v4:=Tryz.zeroValue4
 t5:=Tryz.underlying5
 a5:=Tryz.isAgg5
 z5:=Tryz.sizeOf5
 v5:=Tryz.zeroValue5
 t9:=Tryz.underlying9
 a9:=Tryz.isAgg9
 z9:=Tryz.sizeOf9
 v9:=Tryz.zeroValue9
 t22:=Tryz.underlying99
 a22:=Tryz.isAgg99
 z22:=Tryz.sizeOf99
 v22:=Tryz.zeroValue99
 t25:=Tryz.underlying267
 a25:=Tryz.isAgg267
 z25:=Tryz.sizeOf267
 v25:=Tryz.zeroValue267
 t39:=Tryz.underlying224
 a39:=Tryz.isAgg224
 z39:=Tryz.sizeOf224
 v39:=Tryz.zeroValue224
 t45:=Tryz.underlying242
 a45:=Tryz.isAgg242
 z45:=Tryz.sizeOf242
 v45:=Tryz.zeroValue242
 t46:=Tryz.underlying243
 a46:=Tryz.isAgg243
 z46:=Tryz.sizeOf243
 v46:=Tryz.zeroValue243
 t50:=Tryz.underlying148
 a50:=Tryz.isAgg148
 z50:=Tryz.sizeOf148
 v50:=Tryz.zeroValue148
 t53:=Tryz.underlying206
 a53:=Tryz.isAgg206
 z53:=Tryz.sizeOf206
 v53:=Tryz.zeroValue206
 t55:=Tryz.underlying235
 a55:=Tryz.isAgg235
 z55:=Tryz.sizeOf235
 v55:=Tryz.zeroValue235
 t66:=Tryz.underlying277
 a66:=Tryz.isAgg277
 z66:=Tryz.sizeOf277
 v66:=Tryz.zeroValue277
 t70:=Tryz.underlying281
 a70:=Tryz.isAgg281
 z70:=Tryz.sizeOf281
 v70:=Tryz.zeroValue281
 t76:=Tryz.underlying304
 a76:=Tryz.isAgg304
 z76:=Tryz.sizeOf304
 v76:=Tryz.zeroValue304
 t77:=Tryz.underlying305
 a77:=Tryz.isAgg305
 z77:=Tryz.sizeOf305
 v77:=Tryz.zeroValue305 }
end Go.Proofs
namespace Go.Proofs
open Go Go.Q Go.Shelf Go.Sort
attribute [local irreducible] EG AY FZ
instance yo:Inhabited Ident:=⟨Ident.zero⟩
def vIdn (x:Ident):List Value:=NR x.patch.bs++ [.int .i64 x.n]
theorem Px (x:Ident):(vIdn x).length=33:=by
 have:=FQ x.patch
 unfold vDig at this
 simp[vIdn,this]
instance xy:Oj eIdent vIdn:=⟨fun x=>by
 have:=(inferInstance:Oj eDig vDig).out x.patch
 unfold vDig at this
 rw[eIdent,this,vIdn,Az];rfl,fun x v hv=>by
 rcases Ai.1 hv with h|h
 ·exact(inferInstance:Oj eDig vDig).one x.patch v h
 ·rw[B1.1 h];rfl⟩
instance ye:WE Tryz.prog 99 98 33 40:=⟨by
 have h2:(Tryz.prog.info? 98).map (fun i=>(i.size,i.bytes,i.zero.isSome,(i.zero.getD undef).cells.size))=some (33,40,true,33):=by kernel_rfl
 obtain⟨i,hi,e⟩:=Bj.1 h2
 simp only[Prod.mk.injEq]at e
 obtain⟨e1,e2,e3,e4⟩:=e
 obtain⟨z,hz⟩:=E5.1 e3
 rw[hz]at e4
 exact⟨i,z,by kernel_rfl,hi,e1,e2,hz,e4,by decide,by decide⟩⟩
theorem Jq {a b:Ident}:JO a b < 0↔Dig.lt a.patch b.patch∨(a.patch=b.patch∧a.n < b.n):=by
 unfold JO
 by_cases h:Dh a.patch b.patch=0
 ·have e:=MB.1 h
  rw[if_neg (by simp[h])]
  constructor
  ·intro h2
   refine .inr ⟨e,?_⟩
   split at h2
   ·assumption
   ·split at h2<;>omega
  ·rintro(h2|⟨_,h2⟩)
   ·rw[e]at h2;exact absurd h2 (Dig.lt_irrefl _)
   ·rw[if_pos h2];omega
 ·rw[if_pos h]
  constructor
  ·exact fun h2=> .inl h2
  ·rintro(h2|⟨e,_⟩)
   ·exact h2
   ·exact absurd (MB.2 e) h
theorem Ident.lt_irrefl (a:Ident): ¬JO a a < 0:=fun h=>by
 rcases Jq.1 h with h|⟨_,h⟩
 ·exact Dig.lt_irrefl _ h
 ·omega
theorem Ident.lt_trans {a b c:Ident} (h:JO a b < 0) (k:JO b c < 0):JO a c < 0:=by
 refine Jq.2 ?_
 rcases Jq.1 h with h|⟨e,h⟩<;>rcases Jq.1 k with k|⟨e2,k⟩
 ·exact .inl (Dig.lt_trans h k)
 ·exact .inl (e2 ▸ h)
 ·exact .inl (e ▸ k)
 ·exact .inr ⟨e.trans e2,by omega⟩
theorem Ident.tri (a b:Ident):JO a b < 0∨a=b∨JO b a < 0:=by
 rcases Dig.tri a.patch b.patch with h|h|h
 ·exact .inl (Jq.2 (.inl h))
 ·rcases Int.lt_trichotomy a.n b.n with h2|h2|h2
  ·exact .inl (Jq.2 (.inr ⟨h,h2⟩))
  ·refine .inr (.inl ?_)
   cases a;cases b
   simp only at h h2
   rw[h,h2]
  ·exact .inr (.inr (Jq.2 (.inr ⟨h.symm,h2⟩)))
 ·exact .inr (.inr (Jq.2 (.inl h)))
abbrev tz (v:Value) (l:List Ident) (R:List Res):Prop:=K2 vIdn 98 33 v l R
theorem yf:SWO (ltOf JO) where
 irrefl x:=by
  unfold ltOf
  exact Ck (fun h=>Ident.lt_irrefl x h)
 trans x y z h1 h2:=by
  unfold ltOf at*
  exact BL (Ident.lt_trans (Ab h1) (Ab h2))
 ntrans x y z h1 h2:=by
  unfold ltOf at*
  refine Ck fun h=>?_
  have h1:=BJ h1
  have h2:=BJ h2
  rcases Ident.tri x y with h'|h'|h'
  ·exact h1 h'
  ·subst h';exact h2 h
  ·rcases Ident.tri y z with h3|h3|h3
   ·exact h2 h3
   ·subst h3;exact h1 h
   ·exact Ident.lt_irrefl x (Ident.lt_trans h (Ident.lt_trans h3 h'))
def sortI (l:List Ident):List Ident:=l.mergeSort fun x y=>!(ltOf JO) y x
theorem fw {w:World} {g:Gh} {r n E:Nat} {cur:Array Value} (hi:DJ w g []) (h1:w.heap[r]? =some (.cells cur E (0,0))) (h2: ∀ o,g.H r o=none) (h3:g.M r=none):CmpLays Tryz.prog 264 #[] vIdn 33 JO r 0 n w:=by
 intro m os dk hdk x y
 have hI:DJ (sortWorldK vIdn 33 w r 0 m dk os) g []:=hi.laterBut h2 h3 (by simp[Al]) (fun k hk hn=>Ff m dk os k hk hn)
 have hv:E8 g [.agg (vIdn x).toArray,.agg (vIdn y).toArray] [.agg (eIdent x),.agg (eIdent y)]:=by
  have e: ∀ d:Ident,VR g (.agg (vIdn d).toArray) (.agg (eIdent d)):=fun d=>by
   rw[(inferInstance:Oj eIdent vIdn).out]
   have:E8 g (vIdn d) ((vIdn d).map PV.raw):=⟨by simp,fun i h1 h2=>by simp;exact .raw _⟩
   exact this.agg
  exact .cons (e x) (.cons (e y) (.nil g))
 have:=(X7 x y).out _ (sortWorldK vIdn 33 w r 0 m dk os) g [] hv hI
 refine Calls.mono this ?_
 rintro e w' ⟨v,x',g',L',rfl,k1,k2,k3,k4,rfl,rfl⟩
 refine⟨by rw[k1.raw_inv],?_⟩
 exact ZH k3.os k3.tape k3.output.1 k3.output.2 k3.size (fun k hk=>k3.keep k hk (by simp[Al]))
theorem iX (l:List Ident) (v:Value) (R:List Res) (hv:tz v l R) (hl:l.length≤1000000):B2 Tryz.prog 276 [.raw v,.raw (.func (.func 264) #[] #[])] R (fun _ L'=> ∃ v',v'=v∧tz v' (sortI l) L'):=fun vs w g LF hvs hi=>by
 obtain⟨v1,v2,rfl⟩: ∃ a b,vs= [a,b]:=by
  have:=hvs.len
  match vs,this with
  | [a,b],_=>exact⟨a,b,rfl⟩
 rw[hvs.uncons.1.raw_inv,hvs.uncons.2.uncons.1.raw_inv]
 obtain⟨o,c,rfl⟩:=hv.slice
 by_cases hne:l= []
 ·subst hne
  refine(AnyF.slices_SortFunc_none Tryz.sortI o c _ w).mono ?_
  rintro e w' ⟨rfl,rfl⟩
  exact⟨_,.raw (.tuple #[]),g,R,rfl,.raw _,hi,.refl _ _ _,.refl _ _,_,rfl,by simpa [sortI]using hv⟩
 obtain⟨_,r,cur,rest,rfl,rfl,hcur,hsz,hlc⟩:=hv.inv hne
 obtain⟨k1,k2,k3,k4,k5⟩:=hi.rawHead
 have hlt:r < w.heap.size:=(BP.1 k1).1
 have hF:(flatK vIdn 33 l.toArray).toList=l.flatMap vIdn:=Qa (by decide) Px l
 have hH:HoldsK vIdn 33 w r 0 l.toArray:=fun j hj=>by
  have hj2:j < l.length*33:=by simpa using hj
  refine⟨?_,by simp[World.frozen?,k1]⟩
  have hj3:j < cur.size:=by omega
  simp only[World.cell?,k1,Option.isSome_none,BQ,if_false,B4]
  rw[getElem!_pos _ j hj]
  have e1:cur.toList[j]? =(flatK vIdn 33 l.toArray).toList[j]?:=by
   rw[hcur,hF,Cy (by rw[Ns (f:=eIdent) (sz:=33)];exact hj2)]
  rw[MG,MG,CZ hj]at e1
  exact e1
 refine(AnyQ.slices_SortFunc_total Tryz.sortI 33 (fun w=>?_) (fun w=>ER.run (inferInstance:ER Tryz.prog 98 33 40) w) vIdn Px (fun x v h=>(inferInstance:Oj eIdent vIdn).one x v h) JO yf 264 #[] r 0 c l.toArray w (fun args w=>(inferInstance:Ax Tryz.prog 264).out args w) (fw (hi.sub (List.nil_sublist _)) k1 k2 k3) hH hlt (by simp;omega) ?_).mono ?_
 ·exact(RS (inferInstance:FL Tryz.prog 98 33).out w).1
 ·intro x y h1 h2
  unfold ltOf at h1 h2
  have h1:=BJ h1
  have h2:=BJ h2
  rcases Ident.tri x y with h'|h'|h'
  ·exact absurd h' h1
  ·exact h'
  ·exact absurd h' h2
 ·rintro e w' ⟨rfl,n,os,rfl⟩
  have hlen:(sortI l).length=l.length:=J3 _
  have hFs:(flatK vIdn 33 (sortI l).toArray).toList=(sortI l).flatMap vIdn:=Qa (by decide) Px (sortI l)
  have hFz:(flatK vIdn 33 (sortI l).toArray).size=l.length*33:=by simp[hlen]
  have htk:=P4 (cur:=cur) (flatK vIdn 33 (sortI l).toArray) (by omega)
  have hrow:K2 vIdn 98 33 (.slice (some ⟨r,0,none⟩) (sortI l).length c) (sortI l) [.raw r (.cells (putCells id 0 (flatK vIdn 33 (sortI l).toArray) cur) 98 (0,0))]:=by
   refine K2.mk (rest:=(putCells id 0 (flatK vIdn 33 (sortI l).toArray) cur).toList.drop (l.length*33)) Px ?_ (by simp[putCells,hsz]) (by omega)
   rw[←hFs,←htk,hFz,C4]
  rw[hlen]at hrow
  refine⟨_,.raw (.tuple #[]),g,[.raw r (.cells (putCells id 0 (flatK vIdn 33 (sortI l).toArray) cur) 98 (0,0))],rfl,.raw _,?_,⟨rfl,rfl,⟨rfl,mE _ _⟩,NY n _ os,fun b hb hn=>Ff n _ os b hb (fun e=>hn (by rw[e];simp[Al,Res.block])),.refl g,fun _ _ _=>⟨fun _=>rfl,rfl⟩⟩,fun b hb _=>by simpa [Al,Res.block]using hb,_,rfl,hrow⟩
  exact(k5.laterBut k2 k3 k4 (fun k hk hn=>Ff n _ os k hk hn)).addRaw (Oy k1 n _ os) k2 k3 k4
end Go.Proofs
