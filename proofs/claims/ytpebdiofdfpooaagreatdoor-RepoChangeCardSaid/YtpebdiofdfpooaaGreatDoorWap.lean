/- Plain laws: repositories that are valid; their views. -/
import Derived.Test.YtpebdiofdfpooaaGreatDoorWan
import Derived.Test.YtpebdiofdfpooaaGreatDoorWao
import Derived.Test.YtpebdiofdfpooaaGreatDoorWam
import Derived.Test.YtpebdiofdfpooaaGreatDoorWak
import Derived.Test.YtpebdiofdfpooaaGreatDoorWag
import Derived.Shelf.SlSortCmp.NoneTotal
import Derived.Shelf.SlGeneric
import Derived.Ground.SlsfProg
import Derived.Test.YtpebdiofdfpooaaGreatDoorProg
set_option linter.unusedSimpArgs false
set_option linter.unusedVariables false
set_option maxHeartbeats 8000000
namespace Go.Proofs
open Go Go.Q
def NX (l:List Dig):Bool:=(List.range l.length).all fun i=>decide (i=0∨DY (l.getD (i - 1) Dig.zero) (l.getD i Dig.zero) < 0)
theorem QB {l:List Dig}:NX l=true↔Eo l:=by
 unfold NX
 rw[B5]
 constructor
 ·intro h
  refine IW fun i hi=>?_
  have:=An (h (i+1) (DS.2 hi))
  rcases this with h0|h0
  ·omega
  ·rw[Nat.add_sub_cancel]at h0
   simp only[List.getD,AZ hi,AZ (show i < l.length by omega),BO]at h0
   exact h0
 ·intro h i hi
  have hi:=DS.1 hi
  refine Bh ?_
  rcases P8 i with e|e
  ·exact .inl e
  ·refine .inr ?_
   simp only[List.getD,AZ hi,AZ (show i - 1 < l.length by omega),BO]
   exact(BQ.1 h) (i - 1) i (by omega) hi (by omega)
def Fq (s:List Sto) (l:List Dig):Int:=if NX l=false then 9 else if Ck (ids s) l=false then 7 else 0
def Fb (s:List Sto) (l:List Dig):Bool:=l.all fun d=>Ck l (ndS s d)
def Je (s:List Sto) (l:List Dig):Bool:=l.all fun p=>l.all fun q=>decide (p=q)||!Gl s p q
def Jv (r:Repo) (i:Nat):Int:=
 if EN (r.branches.getD i Brn.zero).name=false then 5 else
 if 0 < i∧Gq (r.branches.getD (i - 1) Brn.zero).name (r.branches.getD i Brn.zero).name=false then 9 else
 if Fq r.pool (r.branches.getD i Brn.zero).ids≠0 then Fq r.pool (r.branches.getD i Brn.zero).ids else
 if Fb r.pool (r.branches.getD i Brn.zero).ids=false then 19 else 0
def Ju (r:Repo) (i:Nat):Int:=
 if EN (r.tags.getD i Tgg.zero).name=false then 5 else
 if 0 < i∧Gq (r.tags.getD (i - 1) Tgg.zero).name (r.tags.getD i Tgg.zero).name=false then 9 else
 if 0≤Bw Brn.name r.branches (r.tags.getD i Tgg.zero).name then 6 else
 if 1000 < ((r.tags.getD i Tgg.zero).note.length:Int)then 4 else
 if Fq r.pool (r.tags.getD i Tgg.zero).tops≠0 then Fq r.pool (r.tags.getD i Tgg.zero).tops else
 if Je r.pool (r.tags.getD i Tgg.zero).tops=false then 1 else 0
def EF (r:Repo):Int:=
 if En r.pool≠0 then En r.pool else
 if 100 < (r.branches.length:Int)∨100 < (r.tags.length:Int)then 4 else
 if Aq (Jv r) (List.range r.branches.length)≠0 then Aq (Jv r) (List.range r.branches.length)else
 if Aq (Ju r) (List.range r.tags.length)≠0 then Aq (Ju r) (List.range r.tags.length)else
 if Bw Brn.name r.branches r.current < 0 then 7 else 0
structure wj (s:List Sto) (b:Brn):Prop where
 name:EN b.name=true
 asc:Eo b.ids
 sub: ∀ d∈b.ids,d∈ids s
 nd: ∀ d∈b.ids,∀ x∈ndS s d,x∈b.ids
structure wi (s:List Sto) (bs:List Brn) (t:Tgg):Prop where
 name:EN t.name=true
 new: ∀ b∈bs,b.name≠t.name
 note:t.note.length≤1000
 asc:Eo t.tops
 sub: ∀ d∈t.tops,d∈ids s
 apart: ∀ p∈t.tops,∀ q∈t.tops,p=q∨Gl s p q=false
structure ZI (r:Repo):Prop where
 pool:Cg r.pool
 lenB:r.branches.length≤100
 lenT:r.tags.length≤100
 ascB:O8 Brn.name r.branches
 okB: ∀ b∈r.branches,wj r.pool b
 ascT:O8 Tgg.name r.tags
 okT: ∀ t∈r.tags,wi r.pool r.branches t
 cur: ∃ b∈r.branches,b.name=r.current
theorem JZ {s:List Sto} {l:List Dig}:Fq s l=0↔Eo l∧ ∀ d∈l,d∈ids s:=by
 unfold Fq
 rw[←QB,←GG]
 cases NX l<;>cases Ck (ids s) l<;>simp
theorem RL {s:List Sto} {l:List Dig}:Fb s l=true↔ ∀ d∈l,∀ x∈ndS s d,x∈l:=by
 unfold Fb
 rw[B5]
 exact⟨fun h d hd=>GG.1 (h d hd),fun h d hd=>GG.2 (h d hd)⟩
theorem KO {s:List Sto} {l:List Dig}:Je s l=true↔ ∀ p∈l,∀ q∈l,p=q∨Gl s p q=false:=by
 unfold Je
 simp only[B5,Th,AJ,AQ]
theorem P3 {α:Type} (nm:α→Str): ∀ {l:List α},(∀ i (h:i+1 < l.length),Gq (nm l[i]) (nm l[i+1])=true)→O8 nm l
 | [],_=> .nil
 | [x],_=>Fj _ _
 |x::y::l,h=>by
  have ih:O8 nm (y::l):=P3 nm fun i hi=>by have:=h (i+1) (by simpa using hi);simpa using this
  have h0:Gq (nm x) (nm y)=true:=by have:=h 0 (by simp);simpa using this
  refine Bc.2 ⟨fun z hz=>?_,ih⟩
  rcases AI.1 hz with rfl|hz
  ·exact h0
  ·exact Nv h0 ((Bc.1 ih).1 z hz)
theorem ER {l:List Brn} {i:Nat} (h:i < l.length):l.getD i Brn.zero=l[i]:=by simp[List.getD,h]
theorem GA {l:List Tgg} {i:Nat} (h:i < l.length):l.getD i Tgg.zero=l[i]:=by simp[List.getD,h]
theorem VD {r:Repo} {i:Nat} (hi:i < r.branches.length):Jv r i=0↔wj r.pool r.branches[i]∧(∀ h:0 < i,Gq (r.branches[i - 1]'(by omega)).name r.branches[i].name=true):=by
 unfold Jv
 rw[ER hi]
 have hp: ∀ h:0 < i,r.branches.getD (i - 1) Brn.zero=r.branches[i - 1]'(by omega):=fun h=>ER (by omega)
 generalize r.branches.getD (i - 1) Brn.zero=y at hp
 constructor
 ·intro h
  split at h
  ·cases h
  rename_i h1
  split at h
  ·cases h
  rename_i h2
  split at h
  ·rename_i h3;exact absurd h h3
  rename_i h3
  split at h
  ·cases h
  rename_i h4
  obtain⟨a,b⟩:=JZ.1 (Ae.1 h3)
  refine⟨⟨by simpa using h1,a,b,RL.1 (by simpa using h4)⟩,fun h0=>?_⟩
  rw[←hp h0]
  cases hl:Gq y.name r.branches[i].name with
  |true=>rfl
  |false=>exact absurd ⟨h0,hl⟩ h2
 ·rintro⟨⟨a,b,c,d⟩,e⟩
  rw[if_neg (by simp[a]),if_neg (by rintro⟨h0,h1⟩;rw[hp h0,e h0]at h1;cases h1),if_neg (by rw[JZ.2 ⟨b,c⟩];simp),if_neg (by simp[RL.2 d])]
theorem VC {r:Repo} {i:Nat} (hi:i < r.tags.length):Ju r i=0↔wi r.pool r.branches r.tags[i]∧(∀ h:0 < i,Gq (r.tags[i - 1]'(by omega)).name r.tags[i].name=true):=by
 unfold Ju
 rw[GA hi]
 have hp: ∀ h:0 < i,r.tags.getD (i - 1) Tgg.zero=r.tags[i - 1]'(by omega):=fun h=>GA (by omega)
 generalize r.tags.getD (i - 1) Tgg.zero=y at hp
 constructor
 ·intro h
  split at h
  ·cases h
  rename_i h1
  split at h
  ·cases h
  rename_i h2
  split at h
  ·cases h
  rename_i h3
  split at h
  ·cases h
  rename_i h4
  split at h
  ·rename_i h5;exact absurd h h5
  rename_i h5
  split at h
  ·cases h
  rename_i h6
  obtain⟨a,b⟩:=JZ.1 (Ae.1 h5)
  refine⟨⟨by simpa using h1,(EZ Brn.name).1 (by omega),by omega,a,b,KO.1 (by simpa using h6)⟩,fun h0=>?_⟩
  rw[←hp h0]
  cases hl:Gq y.name r.tags[i].name with
  |true=>rfl
  |false=>exact absurd ⟨h0,hl⟩ h2
 ·rintro⟨⟨a,b,c,d,e,f⟩,g⟩
  have:=(EZ Brn.name).2 b
  rw[if_neg (by simp[a]),if_neg (by rintro⟨h0,h1⟩;rw[hp h0,g h0]at h1;cases h1),if_neg (by omega),if_neg (by omega),if_neg (by rw[JZ.2 ⟨d,e⟩];simp),if_neg (by simp[KO.2 f])]
theorem FA {r:Repo} (hg:DX r.pool):EF r=0↔ZI r:=by
 unfold EF
 constructor
 ·intro h
  split at h
  ·rename_i h1;exact absurd h h1
  rename_i h1
  split at h
  ·cases h
  rename_i h2
  split at h
  ·rename_i h3;exact absurd h h3
  rename_i h3
  split at h
  ·rename_i h4;exact absurd h h4
  rename_i h4
  split at h
  ·cases h
  rename_i h5
  have hb:=fun i (hi:i < r.branches.length)=>(VD hi).1 (Dx (Ae.1 h3) i (DS.2 hi))
  have ht:=fun i (hi:i < r.tags.length)=>(VC hi).1 (Dx (Ae.1 h4) i (DS.2 hi))
  refine⟨LB hg (Ae.1 h1),by omega,by omega,P3 _ fun i hi=>by have:=(hb (i+1) hi).2 (by omega);simpa using this,fun b hm=>?_,P3 _ fun i hi=>by have:=(ht (i+1) hi).2 (by omega);simpa using this,fun t hm=>?_,?_⟩
  ·obtain⟨i,hi,rfl⟩:=Ak.1 hm
   exact(hb i hi).1
  ·obtain⟨i,hi,rfl⟩:=Ak.1 hm
   exact(ht i hi).1
  ·refine FH fun h6=>h5 ((EZ Brn.name).2 fun b hb e=>h6 ⟨b,hb,e⟩)
 ·intro v
  have e1:=TR v.pool
  have e2:Aq (Jv r) (List.range r.branches.length)=0:=CN fun i hi=>by
   rw[Gu]at hi
   rw[DW]
   exact(VD hi).2 ⟨v.okB _ (AO hi),fun h=>v.ascB.get _ (by omega) hi⟩
  have e3:Aq (Ju r) (List.range r.tags.length)=0:=CN fun i hi=>by
   rw[Gu]at hi
   rw[DW]
   exact(VC hi).2 ⟨v.okT _ (AO hi),fun h=>v.ascT.get _ (by omega) hi⟩
  have h1:=v.lenB
  have h2:=v.lenT
  obtain⟨b,hb,e⟩:=v.cur
  rw[if_neg (by rw[e1];simp),if_neg (by omega),if_neg (by rw[e2];simp),if_neg (by rw[e3];simp),if_neg]
  intro h
  exact(EZ Brn.name).1 h b hb e
def XH (s:List Sto) (t:Tgg):List Sto:=CU s (Df s t.tops).1
def EC (r:Repo) (n:Str):Option (List Sto):=
 if 0≤Bw Brn.name r.branches n then some (CU r.pool (r.branches.getD (Bw Brn.name r.branches n).toNat Brn.zero).ids)else
 if 0≤Bw Tgg.name r.tags n then some (XH r.pool (r.tags.getD (Bw Tgg.name r.tags n).toNat Tgg.zero))else none
theorem Yj {α:Type} {nm:α→Str} {l:List α} (h:O8 nm l) {i:Nat} (hi:i < l.length):Bw nm l (nm l[i])=i:=by
 have h1:=Q4 nm l (nm l[i])
 have h2: ¬Bw nm l (nm l[i]) < 0:=fun h2=>(EZ nm).1 h2 _ (AO hi) rfl
 obtain⟨k,hk⟩: ∃ k:Nat,Bw nm l (nm l[i])=k:=⟨(Bw nm l (nm l[i])).toNat,by omega⟩
 obtain⟨hk1,hk2,_⟩:=Fp nm hk
 rw[hk,h.inj nm hk1 hi hk2]
theorem ZI.viewT {r:Repo} (v:ZI r) {t:Tgg} (ht:t∈r.tags):EC r t.name=some (XH r.pool t):=by
 obtain⟨i,hi,rfl⟩:=Ak.1 ht
 unfold EC
 have:=(EZ Brn.name).2 (v.okT _ ht).new
 rw[if_neg (by omega),Yj v.ascT hi,if_pos (by omega),Br,GA hi]
theorem wj.valid {s:List Sto} (v:Cg s) {b:Brn} (h:wj s b):Cg (CU s b.ids):=v.keep fun x hx hi d hd=>h.nd x.id hi d (by rw[v.ndS hx];exact hd)
theorem wi.valid {s:List Sto} (v:Cg s) {bs:List Brn} {t:Tgg} (h:wi s bs t):Cg (XH s t):=by
 obtain⟨L,e,hL⟩:=v.closed h.sub
 unfold XH
 rw[e]
 exact hL.keep v
theorem Lf {r:Repo} {n:Str} {s:List Sto} (h:EC r n=some s):(∃ b∈r.branches,b.name=n∧s=CU r.pool b.ids)∨((∀ b∈r.branches,b.name≠n)∧ ∃ t∈r.tags,t.name=n∧s=XH r.pool t):=by
 unfold EC at h
 split at h
 ·rename_i h1
  obtain⟨k,hk⟩: ∃ k:Nat,Bw Brn.name r.branches n=k:=⟨(Bw Brn.name r.branches n).toNat,by omega⟩
  obtain⟨hk1,hk2,_⟩:=Fp _ hk
  rw[hk,Br,ER hk1]at h
  exact .inl ⟨_,AO hk1,hk2,(CF h).symm⟩
 ·rename_i h1
  split at h
  ·rename_i h2
   obtain⟨k,hk⟩: ∃ k:Nat,Bw Tgg.name r.tags n=k:=⟨(Bw Tgg.name r.tags n).toNat,by omega⟩
   obtain⟨hk1,hk2,_⟩:=Fp _ hk
   rw[hk,Br,GA hk1]at h
   exact .inr ⟨(EZ _).1 (by omega),_,AO hk1,hk2,(CF h).symm⟩
  ·cases h
theorem Rq {r:Repo} {n:Str}:EC r n=none↔(∀ b∈r.branches,b.name≠n)∧ ∀ t∈r.tags,t.name≠n:=by
 unfold EC
 rw[←EZ Brn.name,←EZ Tgg.name]
 split
 ·simp;omega
 ·split
  ·simp;omega
  ·simp;omega
theorem ZI.viewV {r:Repo} (v:ZI r) {n:Str} {s:List Sto} (h:EC r n=some s):Cg s:=by
 rcases Lf h with ⟨b,hb,_,rfl⟩|⟨_,t,ht,_,rfl⟩
 ·exact(v.okB b hb).valid v.pool
 ·exact(v.okT t ht).valid v.pool
theorem UC {r:Repo} {n:Str} {s:List Sto} (h:EC r n=some s): ∀ x∈s,x∈r.pool:=by
 rcases Lf h with ⟨b,hb,_,rfl⟩|⟨_,t,ht,_,rfl⟩
 ·exact fun x hx=>(HB.1 hx).1
 ·exact fun x hx=>(HB.1 hx).1
structure U5 (p q:List Sto):Prop where
 vp:Cg p
 vq:Cg q
 sub: ∀ x∈p,x∈q
theorem U5.idsS {p q:List Sto} (h:U5 p q): ∀ d∈ids p,d∈ids q:=fun d hd=>by
 obtain⟨x,hx,rfl⟩:=AX.1 hd
 exact AX.2 ⟨x,h.sub x hx,rfl⟩
def YI (n:Str):Repo × Int:=if EN n=false then(Repo.zero,5)else(⟨[],[⟨n,[]⟩],[],n⟩,0)
def Iq (r:Repo) (n:Str):Int:=if 0≤Bw Brn.name r.branches n∨0≤Bw Tgg.name r.tags n then 6 else 0
def Kl (r:Repo) (n frm:Str):Repo × Int:=
 if EF r≠0 then(Repo.zero,EF r)else if EN n=false then(Repo.zero,5)else if Iq r n≠0 then(Repo.zero,Iq r n)else
 match EC r frm with
 |none=>(Repo.zero,7)
 |some s=>if 100≤(r.branches.length:Int)then(Repo.zero,4)else({ r with branches:=Jg Brn.name r.branches ⟨n,ids s⟩ },0)
def TL (r:Repo) (n:Str):Repo × Int:=
 if EF r≠0 then(Repo.zero,EF r)else if Bw Brn.name r.branches n < 0∧Bw Tgg.name r.tags n < 0 then(Repo.zero,7)else if n=r.current then(Repo.zero,16)else
 if 0≤Bw Brn.name r.branches n then({ r with branches:=r.branches.eraseIdx (Bw Brn.name r.branches n).toNat },0)else({ r with tags:=r.tags.eraseIdx (Bw Tgg.name r.tags n).toNat },0)
def Lj (r:Repo) (n:Str):Repo × Int:=
 if EF r≠0 then(Repo.zero,EF r)else if Bw Brn.name r.branches n < 0 then(Repo.zero,7)else({ r with current:=n },0)
def PH (r:Repo) (n:Str):List Sto × Int:=
 if EF r≠0 then([],EF r)else match EC r n with
 |none=>([],7)
 |some s=>(s,0)
def KV (r:Repo) (n:Str):List Sto:=CU r.pool (r.branches.getD (Bw Brn.name r.branches n).toNat Brn.zero).ids
def Tb (r:Repo) (n:Str) (p:Pat):Repo × Dig × Int:=
 if EF r≠0 then(Repo.zero,Dig.zero,EF r)else if Bw Brn.name r.branches n < 0 then(Repo.zero,Dig.zero,7)else
 if(Ic (KV r n) p).2.2≠0 then(Repo.zero,Dig.zero,(Ic (KV r n) p).2.2)else
 if(DN r.pool (Ic (KV r n) p).1).2≠0 then(Repo.zero,Dig.zero,(DN r.pool (Ic (KV r n) p).1).2)else
 ({ r with pool:=(DN r.pool (Ic (KV r n) p).1).1,branches:=Jg Brn.name r.branches ⟨n,ids (Ic (KV r n) p).1⟩ },(Ic (KV r n) p).2.1,0)
def Om (s:List Sto) (d:Dig):List Sto × Int:=
 if d∉ids s then([],7)else if s.any (fun x=>decide (d∈BX x.patch))=true then([],19)else(s.filter fun x=>!decide (x.id=d),0)
def Kc (r:Repo) (n:Str) (d:Dig):Repo × Int:=
 if EF r≠0 then(Repo.zero,EF r)else if Bw Brn.name r.branches n < 0 then(Repo.zero,7)else
 if(Om (KV r n) d).2≠0 then(Repo.zero,(Om (KV r n) d).2)else
 ({ r with branches:=Jg Brn.name r.branches ⟨n,ids (Om (KV r n) d).1⟩ },0)
def bz (r:Repo) (n:Str) (s:List Sto):List Dig:=(ids s).filter fun d=>decide (d∉(r.branches.getD (Bw Brn.name r.branches n).toNat Brn.zero).ids)
def ME (r:Repo) (n:Str) (s:List Sto):Repo × List Dig × Int:=
 if EF r≠0 then(Repo.zero,[],EF r)else if Bw Brn.name r.branches n < 0 then(Repo.zero,[],7)else
 if En s≠0 then(Repo.zero,[],En s)else if(DN r.pool s).2≠0 then(Repo.zero,[],(DN r.pool s).2)else
 ({ r with pool:=(DN r.pool s).1,branches:=Jg Brn.name r.branches ⟨n,C9 (r.branches.getD (Bw Brn.name r.branches n).toNat Brn.zero).ids (bz r n s)⟩ },bz r n s,0)
def ZW (r:Repo) (n note:Str):Repo × Int:=
 if EF r≠0 then(Repo.zero,EF r)else if EN n=false then(Repo.zero,5)else if 1000 < (note.length:Int)then(Repo.zero,4)else if Iq r n≠0 then(Repo.zero,Iq r n)else
 if 100≤(r.tags.length:Int)then(Repo.zero,4)else({ r with tags:=Jg Tgg.name r.tags ⟨n,note,OM ((EC r r.current).getD [])⟩ },0)
def MC (r:Repo):List Str:=r.branches.map (·.name)++r.tags.map (·.name)
def Jl (r:Repo):List Dig:=(MC r).foldl (fun l n=>C9 l (ids ((EC r n).getD []))) []
def JX (r:Repo):Repo × Int:=
 if EF r≠0 then(Repo.zero,0)else({ r with pool:=CU r.pool (Jl r) },(r.pool.length:Int) - (CU r.pool (Jl r)).length)
theorem VX {r:Repo} (ha:O8 Brn.name r.branches) {b:Brn} (hb:b∈r.branches):EC r b.name=some (CU r.pool b.ids):=by
 obtain⟨i,hi,rfl⟩:=Ak.1 hb
 unfold EC
 rw[Yj ha hi,if_pos (by omega),Br,ER hi]
theorem ZI.viewS {r:Repo} (v:ZI r) {n:Str} {s:List Sto} (h:EC r n=some s):U5 s r.pool:=⟨v.viewV h,v.pool,UC h⟩
theorem Oz {r:Repo} {n:Str} (h: ¬Iq r n≠0):(∀ b∈r.branches,b.name≠n)∧ ∀ t∈r.tags,t.name≠n:=by
 unfold Iq at h
 split at h
 ·simp at h
 ·rename_i h2
  exact⟨(EZ Brn.name).1 (by omega),(EZ Tgg.name).1 (by omega)⟩
theorem Yi {r:Repo} {n:Str} (h: ¬Bw Brn.name r.branches n < 0): ∃ b∈r.branches,b.name=n∧r.branches.getD (Bw Brn.name r.branches n).toNat Brn.zero=b:=by
 obtain⟨k,hk⟩: ∃ k:Nat,Bw Brn.name r.branches n=k:=⟨(Bw Brn.name r.branches n).toNat,by omega⟩
 obtain⟨hk1,e,_⟩:=Fp _ hk
 exact⟨_,AO hk1,e,by rw[hk,Br,ER hk1]⟩
def j9 (x y:Sto):Bool:=if x.patch.time≠y.patch.time then decide (x.patch.time < y.patch.time)else decide (DY x.id y.id < 0)
def pn (q:List Sto) (i:Nat):Sto:=q.getD i Sto.zero
def XJ (q:List Sto) (i j:Nat):List Sto:=(q.set i (pn q j)).set j (pn q i)
@[simp] theorem UH (q:List Sto) (i j:Nat):(XJ q i j).length=q.length:=by simp[XJ]
def vk:Nat→List Sto→Nat→List Sto
 |0,q,_=>q
 |n+1,q,j=>if j=0 then q else if j9 (pn q j) (pn q ((j - 1) / 2))=true then vk n (XJ q ((j - 1) / 2) j) ((j - 1) / 2)else q
def xW (q:List Sto) (i n:Nat):Nat:=if 2*i+2 < n∧j9 (pn q (2*i+2)) (pn q (2*i+1))=true then 2*i+2 else 2*i+1
def wb:Nat→List Sto→Nat→Nat→List Sto
 |0,q,_,_=>q
 |f+1,q,i,n=>if n≤2*i+1 then q else if j9 (pn q (xW q i n)) (pn q i)=true then wb f (XJ q i (xW q i n)) (xW q i n) n else q
def oo (q:List Sto) (x:Sto):List Sto:=vk q.length (q++ [x]) q.length
def od (q:List Sto):List Sto:=wb (q.length - 1) (XJ q 0 (q.length - 1)) 0 (q.length - 1)
theorem bF: ∀ (n:Nat) (q:List Sto) (j:Nat),(vk n q j).length=q.length
 |0,_,_=>rfl
 |n+1,q,j=>by
  rw[vk]
  split
  ·rfl
  ·split
   ·rw[bF,UH]
   ·rfl
theorem cX: ∀ (f:Nat) (q:List Sto) (i n:Nat),(wb f q i n).length=q.length
 |0,_,_,_=>rfl
 |f+1,q,i,n=>by
  rw[wb]
  split
  ·rfl
  ·split
   ·rw[cX,UH]
   ·rfl
@[simp] theorem sj (q:List Sto) (x:Sto):(oo q x).length=q.length+1:=by simp[oo,bF]
@[simp] theorem sh (q:List Sto):(od q).length=q.length:=by simp[od,cX]
section
variable {β:Type} [DecidableEq β] (K:Sto→β)
end
attribute [local irreducible] EB AW B2 FW
instance sa (k:Int):Bj Tryz.prog 194 [.raw (.int .i64 k)] (.raw (.int .i64 (fJ k))):=⟨by
 refine Aj Tryz.func194 Tryz.ntmps194 rfl (rs:= [.tmp 2]) rfl rfl fun hb LF=>?_
 refine wf ?_
 repeat' (first|(refine A1 (fun h=>?_) (fun h=>?_)<;>refine wf ?_)|(refine AN (fun h=>?_) (fun h=>?_)<;>refine wf ?_)|(refine AU (fun h=>?_) (fun h=>?_)<;>refine wf ?_)|(refine Aw (fun h=>?_) (fun h=>?_)<;>(have h2:=h;(try simp only[AJ,A8,AQ,AR]at h2);refine wf ?_)))
 all_goals (refine Al (.of_eq ?_);simp only[fJ];first|(simp_all;done)|grind)⟩
def tE (k:Int) (a:Atm):Bool:=if a.kind≠1 then false else if k=5∨k=6 then decide (a.type=1)else if k=4 then decide (a.type=2∨a.type=3)else true
instance pJ (k:Int) (a:Atm):Bj Tryz.prog 191 [.raw (.int .i64 k),.agg (eAtm a)] (.raw (.bool (tE k a))):=⟨by
 refine Aj Tryz.func191 Tryz.ntmps191 rfl (rs:= [.tmp 4]) rfl rfl fun hb LF=>?_
 refine wf ?_
 repeat' (first|(refine A1 (fun h=>?_) (fun h=>?_)<;>refine wf ?_)|(refine AN (fun h=>?_) (fun h=>?_)<;>refine wf ?_)|(refine AU (fun h=>?_) (fun h=>?_)<;>refine wf ?_)|(refine Aw (fun h=>?_) (fun h=>?_)<;>(have h2:=h;(try simp only[AJ,A8,AQ,AR]at h2);refine wf ?_)))
 all_goals (refine Al (.of_eq ?_);simp only[tE];first|(simp_all;done)|grind)⟩
def sb (x f g:Ident) (a:Atm):Bool:=decide (x=f)||(decide (a.kind=5)&&decide (a.file=g))
def tn (k:Int) (g:Ident) (a:Atm):Bool:=decide (k=0)||(decide (a.kind=k)&&decide (a.file=g))
instance qO (c:Chg) (a:Atm):Bj Tryz.prog 190 [.agg (eAtm a),.pt (BG c) 0] (.raw (.bool (tE c.kind a))):=⟨by
 refine Aj Tryz.func190 Tryz.ntmps190 rfl (rs:= [.tmp 3]) rfl rfl fun hb LF=>?_
 refine wf ?_
 exact Al (.refl _)⟩
instance qN (a:Atm):Bj Tryz.prog 192 [.agg (eAtm a)] (.raw (.bool (mX a))):=⟨by
 refine Aj Tryz.func192 Tryz.ntmps192 rfl (rs:= [.tmp 2]) rfl rfl fun hb LF=>?_
 refine wf ?_
 repeat' (first|(refine A1 (fun h=>?_) (fun h=>?_)<;>refine wf ?_)|(refine AN (fun h=>?_) (fun h=>?_)<;>refine wf ?_)|(refine AU (fun h=>?_) (fun h=>?_)<;>refine wf ?_)|(refine Aw (fun h=>?_) (fun h=>?_)<;>(have h2:=h;(try simp only[AJ,A8,AQ,AR]at h2);refine wf ?_)))
 all_goals (refine Al (.of_eq ?_);simp only[mX];first|(simp_all;done)|grind)⟩
instance qM (x g:Ident) (c:Chg) (a:Atm):Bj Tryz.prog 193 [.agg (eAtm a),.pt (eIdent x) 0,.pt (BG c) 0,.pt (eIdent g) 0] (.raw (.bool (sb x c.file g a))):=⟨by
 refine Aj Tryz.func193 Tryz.ntmps193 rfl (rs:= [.tmp 5]) rfl rfl fun hb LF=>?_
 refine wf ?_
 repeat' (first|(refine A1 (fun h=>?_) (fun h=>?_)<;>refine wf ?_)|(refine AN (fun h=>?_) (fun h=>?_)<;>refine wf ?_)|(refine AU (fun h=>?_) (fun h=>?_)<;>refine wf ?_)|(refine Aw (fun h=>?_) (fun h=>?_)<;>(have h2:=h;(try simp only[AJ,A8,AQ,AR]at h2);refine wf ?_)))
 all_goals (refine Al (.of_eq ?_);simp only[sb];first|(simp_all;done)|grind)⟩
instance qL (k:Int) (g:Ident) (a:Atm):Bj Tryz.prog 195 [.agg (eAtm a),.pt [.raw (.int .i64 k)] 0,.pt (eIdent g) 0] (.raw (.bool (tn k g a))):=⟨by
 refine Aj Tryz.func195 Tryz.ntmps195 rfl (rs:= [.tmp 4]) rfl rfl fun hb LF=>?_
 refine wf ?_
 repeat' (first|(refine A1 (fun h=>?_) (fun h=>?_)<;>refine wf ?_)|(refine AN (fun h=>?_) (fun h=>?_)<;>refine wf ?_)|(refine AU (fun h=>?_) (fun h=>?_)<;>refine wf ?_)|(refine Aw (fun h=>?_) (fun h=>?_)<;>(have h2:=h;(try simp only[AJ,A8,AQ,AR]at h2);refine wf ?_)))
 all_goals (refine Al (.of_eq ?_);simp only[tn];first|(simp_all;done)|grind)⟩
def JQ (l:List Rfc) (r:Rfc):List Rfc:=if r.id.patch=Dig.zero then l else l++ [r]
def au (b:Nat) (l:List Rfc) (t:CZ):List Res:= [.box b 174 [.slice (l.map eRfc) t],.tok t l.length 34]
theorem nn (x:Ident) (f:Nat) (cs:List PV) (b:Nat) (l:List Rfc) (t:CZ) (hl:l.length≤1000000):
  B2 Tryz.prog 189 [.agg (eIdent x),.clo f cs,.raw (.pointer (some ⟨b,0,none⟩))] (au b l t) (fun _ L'=> ∃ t',L'=au b (JQ l ⟨x,f,cs⟩) t'):=by
 refine Bt Tryz.func189 rfl Tryz.ntmps189 (rs:= []) rfl rfl fun hb LF=>?_
 rw[show au b l t++LF= .box b 174 [.slice (l.map eRfc) t]:: .tok t l.length 34::LF from rfl]
 refine wf ?_
 refine AN (fun h=>?_) (fun h=>?_)
 ·refine QL fun t'=>?_
  exact⟨trivial,[],au b (l++ [⟨x,f,cs⟩]) t',.nil,.refl _,t',by rw[JQ,if_neg h]⟩
 ·refine wf ?_
  have h0:x.patch=Dig.zero:=by simpa using h
  exact⟨trivial,[],au b l t,.nil,.refl _,t,by rw[JQ,if_pos h0]⟩
section
variable {N:Nat} {all:Array Oper} {K:Env→List Res→Prop} {fl:List Bool} {os:List Oper} {ρ:Env} {L:List Res} {Q:PPost} {c:Code} {d:Nat} {ty:TypeId} {pos:String} {af:Array Edge}
theorem W8 {x x0 x1:Operand} {ats:Array TypeId} {b f:Nat} {l:List Rfc} {t:CZ} {id:Ident} {cs:List PV} {a1:PV} {LF:List Res}
  (qx:ρ.ev x= .clo 189 [.raw (.pointer (some ⟨b,0,none⟩))]) (q0:ρ.ev x0= .agg (eIdent id)) (q1:ρ.ev x1=a1) [h1:VT a1 f cs] (hl:l.length≤1000000)
  (k: ∀ t' u,AW Tryz.prog N all K fl.tail os (CT ρ d u) (.box b 174 [.slice ((JQ l (Rfc.mk id f cs)).map eRfc) t']:: .tok t' (JQ l (Rfc.mk id f cs)).length 34::LF)) (hd:Nat.blt d N=true:=by rfl) (hfl:fl.headD true=true:=by rfl):
  AW Tryz.prog N all K fl (⟨some d,.call { callee:= .value x,args:= #[x0,x1],argTypes:=ats },ty,pos,af,none⟩::os) ρ (.box b 174 [.slice (l.map eRfc) t]:: .tok t l.length 34::LF):=
 Bn (xs:= [x0,x1]) (au b l t) LF (.of_eq qx) rfl rfl (.refl _) (fun _ L'=> ∃ t',L'=au b (JQ l ⟨id,f,cs⟩) t')
  (B2.args (bs:= [.agg (eIdent id),.clo f cs,.raw (.pointer (some ⟨b,0,none⟩))]) rfl (fun i g1 g2=>by
   match i,g1,g2 with
   |0,_,_=>exact .of_eq q0
   |1,_,_=>show Le (ρ.ev x1) _;rw[q1];exact h1.out
   |2,_,_=>exact .refl _
   |m+3,g1,_=>exact absurd g1 (by simp)) (nn id f cs b l t hl)) (fun r L' ⟨t',e⟩=>by subst e;exact k t' r) hd hfl
end
theorem SZ (l:List Rfc) (r:Rfc):(JQ l r).length≤l.length+1:=by unfold JQ;split<;>simp
def DJ (id:Dig) (c:Chg):Ident:=if c.file.patch=Dig.zero then { c.file with patch:=id }else c.file
def X9 (c:Chg):List Rfc:=if c.kind≠1∧c.kind≠7 then JQ [] ⟨c.file,190,[.pt (BG c) 0]⟩else []
def Zg (c:Chg) (l:List Rfc):List Rfc:=if c.kind=2 then JQ l ⟨c.parent,192,[]⟩else l
def NN (g:Ident) (c:Chg) (x:Ident):Rfc:=⟨x,193,[.pt (eIdent x) 0,.pt (BG c) 0,.pt (eIdent g) 0]⟩
def fG (g:Ident) (c:Chg) (l:List Rfc):List Rfc:=if c.kind=5∨c.kind=6 then [c.after,c.before].foldl (fun l x=>JQ l (NN g c x)) l else l
def MB (g:Ident) (c:Chg) (x:Ident):Rfc:=⟨x,195,[.pt [.raw (.int .i64 (fJ c.kind))] 0,.pt (eIdent g) 0]⟩
def qc (g:Ident) (c:Chg) (l:List Rfc) (o:List Ident):List Rfc:=o.foldl (fun l x=>JQ l (MB g c x)) l
def JK (id:Dig) (c:Chg):List Rfc:=qc (DJ id c) c (fG (DJ id c) c (Zg c (X9 c))) c.over
theorem KM {α:Type} (f:α→Rfc): ∀ (o:List α) (l:List Rfc),(o.foldl (fun l x=>JQ l (f x)) l).length≤l.length+o.length
 | [],l=>by simp
 |x::o,l=>by
  have:=KM f o (JQ l (f x))
  have:=SZ l (f x)
  simp only[ED,AH]
  omega
theorem bj (c:Chg):(X9 c).length≤1:=by
 unfold X9;split
 ·exact SZ _ _
 ·simp
theorem bh (c:Chg) (l:List Rfc):(Zg c l).length≤l.length+1:=by
 unfold Zg;split
 ·exact SZ _ _
 ·omega
theorem bg (g:Ident) (c:Chg) (l:List Rfc):(fG g c l).length≤l.length+2:=by
 unfold fG;split
 ·exact KM _ _ _
 ·omega
instance gz (id:Dig) (c:Chg) [hs:B0 (c.over.length≤400)]:Bj Tryz.prog 155 [.agg (eDig id),.agg (BG c)] (.slice ((JK id c).map eRfc) .ro):=⟨by
 have hover:=hs.out
 have r1:=bj c
 have r2:=bh c (X9 c)
 have r3:=bg (DJ id c) c (Zg c (X9 c))
 refine Aj Tryz.func155 Tryz.ntmps155 rfl (rs:= [.tmp 4]) rfl rfl fun hb LF=>?_
 refine wf ?_
 refine BN fun b5=>?_
 refine wf ?_
 refine KE True [(2,.pt (eDig id) 0),(3,.pt (BG c) 0),(5,.raw (.pointer (some ⟨b5,0,none⟩)))] (.box b5 98 (eIdent (DJ id c))::LF) ?_ fun _=>?_
 ·refine A1 (fun h=>?_) (fun h=>?_)
  ·refine wf ?_
   rw[DJ,if_pos h]
   exact⟨trivial,⟨rfl,rfl,rfl⟩,.refl _⟩
  ·refine wf ?_
   rw[DJ,if_neg h]
   exact⟨trivial,⟨rfl,rfl,rfl⟩,.refl _⟩
 generalize hg:DJ id c=g at r3 ⊢
 refine Ag 5 ?_
 refine wf ?_
 refine BN fun b6=>?_
 refine wo ?_
 refine AE ?_
 refine Dw 34 ?_
 refine Fy (.swap _ _ _) ?_
 refine ws ?_
 refine BB [(29,.raw (.bool (decide (c.kind≠1∧c.kind≠7)))),(3,.pt (BG c) 0),(5,.pt (eIdent g) 0),(6,.raw (.pointer (some ⟨b6,0,none⟩))),(7,.clo 189 [.raw (.pointer (some ⟨b6,0,none⟩))])] (.box b6 174 [.slice [] .nil]:: .tok .nil 0 34::LF) ?_ ?_
 ·repeat' (first|(refine A1 (fun h=>?_) (fun h=>?_)<;>refine wf ?_)|(refine AN (fun h=>?_) (fun h=>?_)<;>refine wf ?_)|(refine AU (fun h=>?_) (fun h=>?_)<;>refine wf ?_)|(refine Aw (fun h=>?_) (fun h=>?_)<;>(have h2:=h;(try simp only[AJ,A8,AQ,AR]at h2);refine wf ?_)))
  all_goals (refine⟨⟨BW (by rfl) ?_,rfl,rfl,rfl,rfl⟩,.refl _⟩;first|(simp_all;done)|grind)
 refine DD (σ:=List Rfc × CZ) (fun s=>s.1=X9 c) (fun s=> [(3,.pt (BG c) 0),(5,.pt (eIdent g) 0),(6,.raw (.pointer (some ⟨b6,0,none⟩))),(7,.clo 189 [.raw (.pointer (some ⟨b6,0,none⟩))])]) (fun s=> .box b6 174 [.slice (s.1.map eRfc) s.2]:: .tok s.2 s.1.length 34::LF) ?_ ?_
 ·refine A1 (fun h=>?_) (fun h=>?_)
  ·refine wf ?_
   refine W8 (l:= []) rfl rfl (by(conv=>lhs;whnf);done) (h1:=(by first|infer_instance|fail)) (by simp) fun t' u=>?_
   refine wf ?_
   exact⟨(JQ [] ⟨c.file,190,[.pt (BG c) 0]⟩,t'),by rw[X9,if_pos h],⟨rfl,rfl,rfl,rfl⟩,.refl _⟩
  ·refine wf ?_
   exact⟨([],.nil),by rw[X9,if_neg h],⟨rfl,rfl,rfl,rfl⟩,.refl _⟩
 rintro⟨l1,t1⟩ hl1
 dsimp only at hl1 ⊢
 have k1:l1.length≤1:=by rw[hl1];exact r1
 rw[←hl1]at r2 r3
 refine wf ?_
 refine DD (σ:=List Rfc × CZ) (fun s=>s.1=Zg c l1) (fun s=> [(3,.pt (BG c) 0),(5,.pt (eIdent g) 0),(6,.raw (.pointer (some ⟨b6,0,none⟩))),(7,.clo 189 [.raw (.pointer (some ⟨b6,0,none⟩))])]) (fun s=> .box b6 174 [.slice (s.1.map eRfc) s.2]:: .tok s.2 s.1.length 34::LF) ?_ ?_
 ·refine A1 (fun h=>?_) (fun h=>?_)
  ·refine wf ?_
   refine W8 rfl rfl (by(conv=>lhs;whnf);done) (h1:=(by first|infer_instance|fail)) (by omega) fun t' u=>?_
   refine wf ?_
   exact⟨(JQ l1 ⟨c.parent,192,[]⟩,t'),by rw[Zg,if_pos h],⟨rfl,rfl,rfl,rfl⟩,.refl _⟩
  ·refine wf ?_
   exact⟨(l1,t1),by rw[Zg,if_neg h],⟨rfl,rfl,rfl,rfl⟩,.refl _⟩
 rintro⟨l2,t2⟩ hl2
 dsimp only at hl2 ⊢
 rw[←hl2]at r2 r3
 refine ws ?_
 refine BB [(49,.raw (.bool (decide (c.kind=5∨c.kind=6)))),(3,.pt (BG c) 0),(5,.pt (eIdent g) 0),(6,.raw (.pointer (some ⟨b6,0,none⟩))),(7,.clo 189 [.raw (.pointer (some ⟨b6,0,none⟩))])] (.box b6 174 [.slice (l2.map eRfc) t2]:: .tok t2 l2.length 34::LF) ?_ ?_
 ·repeat' (first|(refine A1 (fun h=>?_) (fun h=>?_)<;>refine wf ?_)|(refine AN (fun h=>?_) (fun h=>?_)<;>refine wf ?_)|(refine AU (fun h=>?_) (fun h=>?_)<;>refine wf ?_)|(refine Aw (fun h=>?_) (fun h=>?_)<;>(have h2:=h;(try simp only[AJ,A8,AQ,AR]at h2);refine wf ?_)))
  all_goals (refine⟨⟨BW (by rfl) ?_,rfl,rfl,rfl,rfl⟩,.refl _⟩;first|(simp_all;done)|grind)
 refine DD (σ:=List Rfc × CZ) (fun s=>s.1=fG g c l2) (fun s=> [(3,.pt (BG c) 0),(5,.pt (eIdent g) 0),(6,.raw (.pointer (some ⟨b6,0,none⟩))),(7,.clo 189 [.raw (.pointer (some ⟨b6,0,none⟩))])]) (fun s=> .box b6 174 [.slice (s.1.map eRfc) s.2]:: .tok s.2 s.1.length 34::LF) ?_ ?_
 ·refine A1 (fun h=>?_) (fun h=>?_)
  ·refine wf ?_
   refine AV (σ:=Nat × List Rfc × CZ) (fun k=>k.1≤2∧k.2.1=([c.after,c.before].take k.1).foldl (fun l x=>JQ l (NN g c x)) l2) (fun k=>2 - k.1) (fun k=> [(3,.pt (BG c) 0),(5,.pt (eIdent g) 0),(6,.raw (.pointer (some ⟨b6,0,none⟩))),(7,.clo 189 [.raw (.pointer (some ⟨b6,0,none⟩))]),(54,.slice ([c.after,c.before].map eIdent) .ro),(55,.raw (.int .i64 2)),(56,.raw (.int .i64 k.1))]) (fun k=> .box b6 174 [.slice (k.2.1.map eRfc) k.2.2]:: .tok k.2.2 k.2.1.length 34::LF) (0,l2,t2) ⟨by simp,rfl⟩ ⟨rfl,rfl,rfl,rfl,rfl,rfl,rfl⟩ (.refl _) ?_
   rintro⟨k,m,t3⟩ ⟨hk,hm⟩
   dsimp only at hk hm ⊢
   have hml:m.length≤10:=by
    have:=KM (NN g c) ([c.after,c.before].take k) l2
    rw[←hm,AG]at this
    simp only[AH,Aa]at this
    omega
   refine wf ?_
   refine A1 (fun hc=>?_) (fun hc=>?_)
   ·have hlt:k < [c.after,c.before].length:=by simp only[AH,Aa];omega
    refine wz fun b9=>?_
    refine Ag 9 ?_
    refine wf ?_
    refine W8 rfl rfl (by(conv=>lhs;whnf);done) (h1:=(by first|infer_instance|fail)) (by omega) fun t' u=>?_
    refine wf ?_
    refine⟨(k+1,JQ m (NN g c [c.after,c.before][k]),t'),⟨by dsimp only;omega,?_⟩,by dsimp only;omega,⟨rfl,rfl,rfl,rfl,rfl,rfl,rfl⟩,.refl _⟩
    dsimp only
    rw[A6 hlt,DF,←hm];rfl
   ·rw[AA (by simp only[AH,Aa];omega)]at hm
    refine wf ?_
    exact⟨(m,t3),by rw[fG,if_pos h];exact hm,⟨rfl,rfl,rfl,rfl⟩,.refl _⟩
  ·refine wf ?_
   exact⟨(l2,t2),by rw[fG,if_neg h],⟨rfl,rfl,rfl,rfl⟩,.refl _⟩
 rintro⟨l3,t3⟩ hl3
 dsimp only at hl3 ⊢
 rw[←hl3]at r3
 refine wf ?_
 refine BN fun b10=>?_
 refine wo ?_
 refine AE ?_
 refine Ag 10 ?_
 refine wf ?_
 refine AV (σ:=Nat × List Rfc × CZ) (fun k=>k.1≤c.over.length∧k.2.1=qc g c l3 (c.over.take k.1)) (fun k=>c.over.length - k.1) (fun k=> [(5,.pt (eIdent g) 0),(6,.raw (.pointer (some ⟨b6,0,none⟩))),(7,.clo 189 [.raw (.pointer (some ⟨b6,0,none⟩))]),(10,.pt [.raw (.int .i64 (fJ c.kind))] 0),(69,.slice (c.over.map eIdent) .ro),(70,.raw (.int .i64 c.over.length)),(71,.raw (.int .i64 k.1))]) (fun k=> .box b6 174 [.slice (k.2.1.map eRfc) k.2.2]:: .tok k.2.2 k.2.1.length 34::LF) (0,l3,t3) ⟨by simp,rfl⟩ ⟨rfl,rfl,rfl,rfl,rfl,rfl,rfl⟩ (.refl _) ?_
 rintro⟨k,m,t4⟩ ⟨hk,hm⟩
 dsimp only at hk hm ⊢
 have hml:m.length≤1000:=by
  have:=KM (MB g c) (c.over.take k) l3
  rw[AG]at this
  have e:m.length=((c.over.take k).foldl (fun l x=>JQ l (MB g c x)) l3).length:=by rw[hm];rfl
  omega
 refine wf ?_
 refine A1 (fun hc=>?_) (fun hc=>?_)
 ·have hlt:k < c.over.length:=by omega
  refine wz fun b12=>?_
  refine Ag 12 ?_
  refine wf ?_
  refine W8 rfl rfl (by(conv=>lhs;whnf);done) (h1:=(by first|infer_instance|fail)) (by omega) fun t' u=>?_
  refine wf ?_
  refine⟨(k+1,JQ m (MB g c c.over[k]),t'),⟨by dsimp only;omega,?_⟩,by dsimp only;omega,⟨rfl,rfl,rfl,rfl,rfl,rfl,rfl⟩,.refl _⟩
  dsimp only
  rw[A6 hlt,qc,DF,hm];rfl
 ·rw[AA (by omega)]at hm
  refine wf ?_
  refine Al (.ros ?_)
  rw[hm,JK,hg,←hl1,←hl2,←hl3]⟩
instance vo:VK Tryz.prog 199 180 172 296:=⟨by
 have h2:(Tryz.prog.info? 180).map (fun i=>(i.size,i.bytes,i.zero.isSome,(i.zero.getD undef).cells.size))=some (172,296,true,172):=by kernel_rfl
 obtain⟨i,hi,e⟩:=Bk.1 h2
 simp only[Prod.mk.injEq]at e
 obtain⟨e1,e2,e3,e4⟩:=e
 obtain⟨z,hz⟩:=E0.1 e3
 rw[hz]at e4
 exact⟨i,z,by kernel_rfl,hi,e1,e2,hz,e4,by decide,by decide⟩⟩
def vA (b:Nat) (v:Value) (R LF:List Res):List Res:= .box b 199 [.raw v]::(R++LF)
theorem Yn (p:Pat) (hs:EA p=false):B2 Tryz.prog 181 [.agg (Cc p)] [] (fun r L'=> ∃ x y,r= .tuple [x,y,.raw (.int .i64 (Kh p).2.2)]∧(((Kh p).2.2≠0∧L'= [])∨((Kh p).2.2=0∧ ∃ v,x= .raw v∧E7 180 172 v ((Kh p).1.map eAtm) L'∧(Kh p).1.length≤100000))):=by
 obtain⟨hg1,hg2,hg3,hg4,hg5⟩:=Hv hs
 refine Bt Tryz.func181 rfl Tryz.ntmps181 (rs:= [.tmp 2,.tmp 3,.tmp 4]) rfl rfl fun hb LF=>?_
 have zr:Cu Tryz.prog 199 [.raw (.slice none 0 0)]:=Mv (v:= .slice none 0 0) (by kernel_rfl) rfl fun _=> .raw _
 refine wf ?_
 refine AN (fun h1=>?_) (fun h1=>?_)
 ·refine wf ?_
  have e:Cv p=([],Ij p):=by rw[Ht,if_pos h1]
  have e2:Kh p=([],[],Ij p):=by rw[Kh,e,if_pos h1]
  rw[e2]
  exact⟨trivial,_,[],.cons (.tmp 2) (.cons (.tmp 3) (.cons (.tmp 4) .nil)),.refl _,_,_,rfl,.inl ⟨h1,rfl⟩⟩
 have hH:=Ly h1
 refine wf ?_
 refine BN (hZ:=zr) fun b6=>?_
 refine wf ?_
 refine AV (σ:=Nat × Value × List Res × List Atm) (fun k=>k.1≤p.changes.length∧E7 180 172 k.2.1 (k.2.2.2.map eAtm) k.2.2.1∧k.2.2.2.length≤k.1*81∧Mj k.2.2.2∧(∀ c∈p.changes.take k.1,1≤c.kind∧c.kind≤7)∧Cv p=DP (p.changes.drop k.1) k.2.2.2) (fun k=>p.changes.length - k.1) (fun k=> [(1,.pt (Cc p) 0),(6,.raw (.pointer (some ⟨b6,0,none⟩))),(20,.slice (p.changes.map BG) .ro),(21,.raw (.int .i64 p.changes.length)),(22,.raw (.int .i64 k.1))]) (fun k=>vA b6 k.2.1 k.2.2.1 LF) (0,.slice none 0 0,[],[]) ⟨by simp,.nil none (by simp),by simp,fun i h=>absurd h (by simp),by simp,hH⟩ ⟨rfl,rfl,rfl,rfl,rfl⟩ (.refl _) ?_
 rintro⟨k,v,R,own⟩ ⟨hk,hrow,hlen,hid,hkd,he⟩
 dsimp only at hk hrow hlen hid hkd he
 rw[show vA b6 (k,v,R,own).2.1 (k,v,R,own).2.2.1 LF= .box b6 199 [.raw v]::(R++LF) from rfl]
 refine wf ?_
 refine A1 (fun hc=>?_) (fun hc=>?_)
 ·have hlt:k < p.changes.length:=by omega
  rw[Kq hlt]at he
  refine wz fun b8=>?_
  refine Ag 8 ?_
  refine wf ?_
  refine AN (fun h2=>?_) (fun h2=>?_)
  ·refine wf ?_
   rw[if_pos h2]at he
   have e2:Kh p=([],[],C0 p.changes[k]):=by rw[Kh,he,if_pos h2]
   rw[e2]
   exact⟨trivial,_,[],.cons (.tmp 2) (.cons (.tmp 3) (.cons (.tmp 4) .nil)),.cons _ (Dj R LF),_,_,rfl,.inl ⟨h2,rfl⟩⟩
  rw[if_neg (by simp[h2])]at he
  have hll:p.changes[k].lines.length≤2000:=JF h2
  have hkk:1≤p.changes[k].kind∧p.changes[k].kind≤7:=Lv h2
  have hmm:=LK p.changes[k] own.length
  have hl40:=(hg5 _ (AO hlt)).lines
  have i1:B0 (C0 p.changes[k]=0∧own.length≤100000∧Mj own):=⟨h2,by omega,hid⟩
  have hmx:(own.map eAtm).length≤maxN∧(own.map eAtm).length*172≤maxN:=by
   have:maxN=140737488355328:=rfl
   rw[AF];omega
  refine wf ?_
  refine Bn (xs:= [.tmp 31,.tmp 32]) R (.box b6 199 [.raw v]::LF) (f:=223) (cs:= []) (Bu _) rfl rfl BA.symm _ (hrow.lend [.agg (BG p.changes[k])] [] hmx (inferInstance:Bj Tryz.prog 223 [.agg (BG p.changes[k]),.slice (own.map eAtm) .ro] (.raw (.int .i64 (FT p.changes[k] own)))).out) fun r L' ⟨e1,e2⟩=>?_
  subst e1
  rw[e2]
  refine wf ?_
  refine wf ?_
  refine Fy BA ?_
  refine AN (fun h3=>?_) (fun h3=>?_)
  ·refine wf ?_
   rw[if_pos h3]at he
   have e2:Kh p=([],[],FT p.changes[k] own):=by rw[Kh,he,if_pos h3]
   rw[e2]
   exact⟨trivial,_,[],.cons (.tmp 2) (.cons (.tmp 3) (.cons (.tmp 4) .nil)),.cons _ (Dj R LF),_,_,rfl,.inl ⟨h3,rfl⟩⟩
  rw[if_neg (by simp[h3])]at he
  have hrow':=hrow
  obtain⟨⟨o,cc,ev⟩,_⟩:=hrow.slice
  rw[AF]at ev
  subst ev
  refine wf ?_
  refine FO rfl ?_
  refine wf ?_
  refine HX (Ug p.changes[k] own.length hkk ⟨hll,by omega,by omega⟩) [41] (σ:=Value × List Res × List Atm) (fun pre s=>E7 180 172 s.1 (s.2.2.map eAtm) s.2.1∧s.2.2=own++pre) (fun _ _=>False) (fun s LF'=>vA b6 s.1 s.2.1 LF') (.slice o own.length cc,R,own) LF ?_ rfl (fun _=>rfl) (by simp) (fun _ _=>by simp[vA]) (.refl _) ⟨hrow',by simp⟩ ?_ ?_ (fun _ _ h=>h.elim)
  ·exact .refl _
  ·rintro pre x ⟨v1,R1,own1⟩ LF' hpre ⟨hr1,hI⟩
   dsimp only at hr1 hI
   have hpl:=hpre.length_le
   have hol:own1.length≤90000:=by
    rw[hI,A7]
    rw[A7,CQ]at hpl
    omega
   rw[show vA b6 (v1,R1,own1).1 (v1,R1,own1).2.1 LF'= .box b6 199 [.raw v1]::(R1++LF') from rfl]
   refine wz fun b11=>?_
   refine Ag 11 ?_
   refine wf ?_
   refine QU (f:=eAtm) (m:= [x]) (R:=R1) (LF:= .box b6 199 [.raw v1]::LF') (fun R'=> .box b6 199 [.raw v1]::(R'++LF')) rfl rfl hr1 BA.symm (fun R'=>BA) (by simp only[AF,AH,Aa];omega) (by simp only[AF,AH,Aa];omega) fun v2 R2 hr2=>?_
   have h1c:v2.oneCell'=true:=by
    obtain⟨⟨o2,c2,e2⟩,_⟩:=hr2.slice
    rw[e2];rfl
   refine K7 [.raw v2] rfl rfl h1c rfl (by simp) ?_
   refine wf ?_
   exact⟨(v2,R2,own1++ [x]),⟨by dsimp only;rw[Az];exact hr2,by dsimp only;rw[hI,AL]⟩,.refl _⟩
  ·rintro⟨v1,R1,own1⟩ ⟨hr1,hI⟩
   dsimp only at hr1 hI
   refine wf ?_
   refine⟨(k+1,v1,R1,own1),⟨by dsimp only;omega,hr1,?_,?_,?_,?_⟩,by dsimp only;omega,⟨rfl,rfl,rfl,rfl,rfl⟩,.refl _⟩
   ·dsimp only
    rw[hI,A7];omega
   ·dsimp only
    rw[hI];exact Oy _ hid
   ·dsimp only
    intro c hcm
    rw[A6 hlt]at hcm
    rcases Ay.1 hcm with h|h
    ·exact hkd c h
    ·rw[B9.1 h];exact hkk
   ·dsimp only
    rw[hI];exact he
 have hkk:k=p.changes.length:=by omega
 rw[CY (by omega)]at he
 rw[AA (by omega)]at hkd
 have he':Cv p=(own,0):=he
 have i1:B0 (ae p):=⟨⟨NP hs,Xu (SQ h1),hkd⟩⟩
 refine wf ?_
 have h0: ¬(Cv p).2≠0:=by rw[he'];simp
 refine A1 (fun h=>?_) (fun h=>?_)
 ·refine wf ?_
  have e2:Kh p=([],[],4):=by rw[Kh,if_neg h0,if_pos h]
  rw[e2]
  exact⟨trivial,_,[],.cons (.tmp 2) (.cons (.tmp 3) (.cons (.tmp 4) .nil)),.cons _ (Dj R LF),_,_,rfl,.inl ⟨by decide,rfl⟩⟩
 ·refine wf ?_
  have e2:Kh p=(own,Mn p,0):=by rw[Kh,if_neg h0,if_neg h,he']
  rw[e2]
  exact⟨trivial,_,R,.cons (.tmp 2) (.cons (.tmp 3) (.cons (.tmp 4) .nil)),.cons _ (.refl _),_,_,rfl,.inr ⟨rfl,_,rfl,hrow,by dsimp only;omega⟩⟩
end Go.Proofs
namespace Go.Proofs
open Go.Shelf
def Tryz.sortI_ren:Go.Shelf.Ren:=⟨fun|6=>276|15=>208|14=>311|28=>242|29=>243|20=>331|21=>332|22=>333|23=>334|24=>335|25=>336|26=>337|27=>338|46=>345|47=>278|48=>279|49=>346|50=>347|57=>351|n=>n,fun|22=>99|24=>98|25=>267|3=>3|39=>224|0=>0|53=>206|55=>235|4=>4|46=>243|45=>242|50=>148|5=>5|9=>9|66=>277|70=>281|76=>304|77=>305|n=>n,fun|n=>n⟩
theorem Tryz.sortI:Go.Proofs.SlLaysF0.n6 Tryz.prog Tryz.sortI_ren:={
 mixed:=by kernel_rfl
 f6:=⟨Tryz.f276.name,by decide,Tryz.func276.trans (congrArg some (by kernel_rfl))⟩
 f14:=⟨Tryz.f311.name,by decide,Tryz.func311.trans (congrArg some (by kernel_rfl))⟩
 f15:=Tryz.func208.trans (congrArg some (by kernel_rfl))
 f20:=⟨Tryz.f331.name,by decide,Tryz.func331.trans (congrArg some (by kernel_rfl))⟩
 f21:=⟨Tryz.f332.name,by decide,Tryz.func332.trans (congrArg some (by kernel_rfl))⟩
 f22:=⟨Tryz.f333.name,by decide,Tryz.func333.trans (congrArg some (by kernel_rfl))⟩
 f23:=⟨Tryz.f334.name,by decide,Tryz.func334.trans (congrArg some (by kernel_rfl))⟩
 f24:=⟨Tryz.f335.name,by decide,Tryz.func335.trans (congrArg some (by kernel_rfl))⟩
 f25:=⟨Tryz.f336.name,by decide,Tryz.func336.trans (congrArg some (by kernel_rfl))⟩
 f26:=⟨Tryz.f337.name,by decide,Tryz.func337.trans (congrArg some (by kernel_rfl))⟩
 f27:=⟨Tryz.f338.name,by decide,Tryz.func338.trans (congrArg some (by kernel_rfl))⟩
 f28:=Tryz.func242.trans (congrArg some (by kernel_rfl))
 f29:=Tryz.func243.trans (congrArg some (by kernel_rfl))
 f46:=⟨Tryz.f345.name,by decide,Tryz.func345.trans (congrArg some (by kernel_rfl))⟩
 f47:=Tryz.func278.trans (congrArg some (by kernel_rfl))
 f48:=Tryz.func279.trans (congrArg some (by kernel_rfl))
 f49:=⟨Tryz.f346.name,by decide,Tryz.func346.trans (congrArg some (by kernel_rfl))⟩
 f50:=⟨Tryz.f347.name,by decide,Tryz.func347.trans (congrArg some (by kernel_rfl))⟩
 f57:=⟨Tryz.f351.name,by decide,Tryz.func351.trans (congrArg some (by kernel_rfl))⟩
 t0:=Tryz.underlying0
 a0:=Tryz.isAgg0
 z0:=Tryz.sizeOf0
 v0:=Tryz.zeroValue0
 t3:=Tryz.underlying3
 a3:=Tryz.isAgg3
 z3:=Tryz.sizeOf3
 v3:=Tryz.zeroValue3
 t4:=Tryz.underlying4
 a4:=Tryz.isAgg4
 z4:=Tryz.sizeOf4
 v4:=Tryz.zeroValue4
 t5:=Tryz.underlying5
 a5:=Tryz.isAgg5
 z5:=Tryz.sizeOf5
 v5:=Tryz.zeroValue5
 t9:=Tryz.underlying9
 a9:=Tryz.isAgg9
 z9:=Tryz.sizeOf9
 v9:=Tryz.zeroValue9
 t22:=Tryz.underlying99
 a22:=Tryz.isAgg99
 z22:=Tryz.sizeOf99
 v22:=Tryz.zeroValue99
 t25:=Tryz.underlying267
 a25:=Tryz.isAgg267
 z25:=Tryz.sizeOf267
 v25:=Tryz.zeroValue267
 t39:=Tryz.underlying224
 a39:=Tryz.isAgg224
 z39:=Tryz.sizeOf224
 v39:=Tryz.zeroValue224
 t45:=Tryz.underlying242
 a45:=Tryz.isAgg242
 z45:=Tryz.sizeOf242
 v45:=Tryz.zeroValue242
 t46:=Tryz.underlying243
 a46:=Tryz.isAgg243
 z46:=Tryz.sizeOf243
 v46:=Tryz.zeroValue243
 t50:=Tryz.underlying148
 a50:=Tryz.isAgg148
 z50:=Tryz.sizeOf148
 v50:=Tryz.zeroValue148
 t53:=Tryz.underlying206
 a53:=Tryz.isAgg206
 z53:=Tryz.sizeOf206
 v53:=Tryz.zeroValue206
 t55:=Tryz.underlying235
 a55:=Tryz.isAgg235
 z55:=Tryz.sizeOf235
 v55:=Tryz.zeroValue235
 t66:=Tryz.underlying277
 a66:=Tryz.isAgg277
 z66:=Tryz.sizeOf277
 v66:=Tryz.zeroValue277
 t70:=Tryz.underlying281
 a70:=Tryz.isAgg281
 z70:=Tryz.sizeOf281
 v70:=Tryz.zeroValue281
 t76:=Tryz.underlying304
 a76:=Tryz.isAgg304
 z76:=Tryz.sizeOf304
 v76:=Tryz.zeroValue304
 t77:=Tryz.underlying305
 a77:=Tryz.isAgg305
 z77:=Tryz.sizeOf305
 v77:=Tryz.zeroValue305 }
end Go.Proofs
namespace Go.Proofs
open Go Go.Q Go.Shelf Go.Sort
attribute [local irreducible] EB AW FW
instance xX:Inhabited Ident:=⟨Ident.zero⟩
def vIdn (x:Ident):List Value:=Mu x.patch.bs++ [.int .i64 x.n]
theorem PE (x:Ident):(vIdn x).length=33:=by
 have:=FL x.patch
 unfold vDig at this
 simp[vIdn,this]
instance w7:O7 eIdent vIdn:=⟨fun x=>by
 have:=(inferInstance:O7 eDig vDig).out x.patch
 unfold vDig at this
 rw[eIdent,this,vIdn,Az];rfl,fun x v hv=>by
 rcases Ay.1 hv with h|h
 ·exact(inferInstance:O7 eDig vDig).one x.patch v h
 ·rw[B9.1 h];rfl⟩
instance xK:VK Tryz.prog 99 98 33 40:=⟨by
 have h2:(Tryz.prog.info? 98).map (fun i=>(i.size,i.bytes,i.zero.isSome,(i.zero.getD undef).cells.size))=some (33,40,true,33):=by kernel_rfl
 obtain⟨i,hi,e⟩:=Bk.1 h2
 simp only[Prod.mk.injEq]at e
 obtain⟨e1,e2,e3,e4⟩:=e
 obtain⟨z,hz⟩:=E0.1 e3
 rw[hz]at e4
 exact⟨i,z,by kernel_rfl,hi,e1,e2,hz,e4,by decide,by decide⟩⟩
theorem JY {a b:Ident}:J6 a b < 0↔Dig.lt a.patch b.patch∨(a.patch=b.patch∧a.n < b.n):=by
 unfold J6
 by_cases h:DY a.patch b.patch=0
 ·have e:=LS.1 h
  rw[if_neg (by simp[h])]
  constructor
  ·intro h2
   refine .inr ⟨e,?_⟩
   split at h2
   ·assumption
   ·split at h2<;>omega
  ·rintro(h2|⟨_,h2⟩)
   ·rw[e]at h2;exact absurd h2 (Dig.lt_irrefl _)
   ·rw[if_pos h2];omega
 ·rw[if_pos h]
  constructor
  ·exact fun h2=> .inl h2
  ·rintro(h2|⟨e,_⟩)
   ·exact h2
   ·exact absurd (LS.2 e) h
theorem Ident.lt_irrefl (a:Ident): ¬J6 a a < 0:=fun h=>by
 rcases JY.1 h with h|⟨_,h⟩
 ·exact Dig.lt_irrefl _ h
 ·omega
theorem Ident.lt_trans {a b c:Ident} (h:J6 a b < 0) (k:J6 b c < 0):J6 a c < 0:=by
 refine JY.2 ?_
 rcases JY.1 h with h|⟨e,h⟩<;>rcases JY.1 k with k|⟨e2,k⟩
 ·exact .inl (Dig.lt_trans h k)
 ·exact .inl (e2 ▸ h)
 ·exact .inl (e ▸ k)
 ·exact .inr ⟨e.trans e2,by omega⟩
theorem Ident.tri (a b:Ident):J6 a b < 0∨a=b∨J6 b a < 0:=by
 rcases Dig.tri a.patch b.patch with h|h|h
 ·exact .inl (JY.2 (.inl h))
 ·rcases Int.lt_trichotomy a.n b.n with h2|h2|h2
  ·exact .inl (JY.2 (.inr ⟨h,h2⟩))
  ·refine .inr (.inl ?_)
   cases a;cases b
   simp only at h h2
   rw[h,h2]
  ·exact .inr (.inr (JY.2 (.inr ⟨h.symm,h2⟩)))
 ·exact .inr (.inr (JY.2 (.inl h)))
abbrev sI (v:Value) (l:List Ident) (R:List Res):Prop:=Jf vIdn 98 33 v l R
theorem xL:SWO (ltOf J6) where
 irrefl x:=by
  unfold ltOf
  exact Ca (fun h=>Ident.lt_irrefl x h)
 trans x y z h1 h2:=by
  unfold ltOf at*
  exact Bh (Ident.lt_trans (An h1) (An h2))
 ntrans x y z h1 h2:=by
  unfold ltOf at*
  refine Ca fun h=>?_
  have h1:=B6 h1
  have h2:=B6 h2
  rcases Ident.tri x y with h'|h'|h'
  ·exact h1 h'
  ·subst h';exact h2 h
  ·rcases Ident.tri y z with h3|h3|h3
   ·exact h2 h3
   ·subst h3;exact h1 h
   ·exact Ident.lt_irrefl x (Ident.lt_trans h (Ident.lt_trans h3 h'))
def sortI (l:List Ident):List Ident:=l.mergeSort fun x y=>!(ltOf J6) y x
theorem ef {w:World} {g:Gh} {r n E:Nat} {cur:Array Value} (hi:DM w g []) (h1:w.heap[r]? =some (.cells cur E (0,0))) (h2: ∀ o,g.H r o=none) (h3:g.M r=none):CmpLays Tryz.prog 264 #[] vIdn 33 J6 r 0 n w:=by
 intro m os dk hdk x y
 have hI:DM (sortWorldK vIdn 33 w r 0 m dk os) g []:=hi.laterBut h2 h3 (by simp[Ao]) (fun k hk hn=>FY m dk os k hk hn)
 have hv:E5 g [.agg (vIdn x).toArray,.agg (vIdn y).toArray] [.agg (eIdent x),.agg (eIdent y)]:=by
  have e: ∀ d:Ident,VR g (.agg (vIdn d).toArray) (.agg (eIdent d)):=fun d=>by
   rw[(inferInstance:O7 eIdent vIdn).out]
   have:E5 g (vIdn d) ((vIdn d).map PV.raw):=⟨by simp,fun i h1 h2=>by simp;exact .raw _⟩
   exact this.agg
  exact .cons (e x) (.cons (e y) (.nil g))
 have:=(Vz x y).out _ (sortWorldK vIdn 33 w r 0 m dk os) g [] hv hI
 refine Calls.mono this ?_
 rintro e w' ⟨v,x',g',L',rfl,k1,k2,k3,k4,rfl,rfl⟩
 refine⟨by rw[k1.raw_inv],?_⟩
 exact YW k3.os k3.tape k3.output.1 k3.output.2 k3.size (fun k hk=>k3.keep k hk (by simp[Ao]))
theorem fq (l:List Ident) (v:Value) (R:List Res) (hv:sI v l R) (hl:l.length≤1000000):B2 Tryz.prog 276 [.raw v,.raw (.func (.func 264) #[] #[])] R (fun _ L'=> ∃ v',v'=v∧sI v' (sortI l) L'):=fun vs w g LF hvs hi=>by
 obtain⟨v1,v2,rfl⟩: ∃ a b,vs= [a,b]:=by
  have:=hvs.len
  match vs,this with
  | [a,b],_=>exact⟨a,b,rfl⟩
 rw[hvs.uncons.1.raw_inv,hvs.uncons.2.uncons.1.raw_inv]
 obtain⟨o,c,rfl⟩:=hv.slice
 by_cases hne:l= []
 ·subst hne
  refine(AnyF.slices_SortFunc_none Tryz.sortI o c _ w).mono ?_
  rintro e w' ⟨rfl,rfl⟩
  exact⟨_,.raw (.tuple #[]),g,R,rfl,.raw _,hi,.refl _ _ _,.refl _ _,_,rfl,by simpa [sortI]using hv⟩
 obtain⟨_,r,cur,rest,rfl,rfl,hcur,hsz,hlc⟩:=hv.inv hne
 obtain⟨k1,k2,k3,k4,k5⟩:=hi.rawHead
 have hlt:r < w.heap.size:=(BK.1 k1).1
 have hF:(flatK vIdn 33 l.toArray).toList=l.flatMap vIdn:=Q2 (by decide) PE l
 have hH:HoldsK vIdn 33 w r 0 l.toArray:=fun j hj=>by
  have hj2:j < l.length*33:=by simpa using hj
  refine⟨?_,by simp[World.frozen?,k1]⟩
  have hj3:j < cur.size:=by omega
  simp only[World.cell?,k1,BZ,BP,if_false,B3]
  rw[getElem!_pos _ j hj]
  have e1:cur.toList[j]? =(flatK vIdn 33 l.toArray).toList[j]?:=by
   rw[hcur,hF,DB (by rw[NI (f:=eIdent) (sz:=33)];exact hj2)]
  rw[LY,LY,Cf hj]at e1
  exact e1
 refine(AnyQ.slices_SortFunc_total Tryz.sortI 33 (fun w=>?_) (fun w=>EG.run (inferInstance:EG Tryz.prog 98 33 40) w) vIdn PE (fun x v h=>(inferInstance:O7 eIdent vIdn).one x v h) J6 xL 264 #[] r 0 c l.toArray w (fun args w=>(inferInstance:Av Tryz.prog 264).out args w) (ef (hi.sub (List.nil_sublist _)) k1 k2 k3) hH hlt (by simp;omega) ?_).mono ?_
 ·exact(Qt (inferInstance:FG Tryz.prog 98 33).out w).1
 ·intro x y h1 h2
  unfold ltOf at h1 h2
  have h1:=B6 h1
  have h2:=B6 h2
  rcases Ident.tri x y with h'|h'|h'
  ·exact absurd h' h1
  ·exact h'
  ·exact absurd h' h2
 ·rintro e w' ⟨rfl,n,os,rfl⟩
  have hlen:(sortI l).length=l.length:=IZ _
  have hFs:(flatK vIdn 33 (sortI l).toArray).toList=(sortI l).flatMap vIdn:=Q2 (by decide) PE (sortI l)
  have hFz:(flatK vIdn 33 (sortI l).toArray).size=l.length*33:=by simp[hlen]
  have htk:=OU (cur:=cur) (flatK vIdn 33 (sortI l).toArray) (by omega)
  have hrow:Jf vIdn 98 33 (.slice (some ⟨r,0,none⟩) (sortI l).length c) (sortI l) [.raw r (.cells (putCells id 0 (flatK vIdn 33 (sortI l).toArray) cur) 98 (0,0))]:=by
   refine Jf.mk (rest:=(putCells id 0 (flatK vIdn 33 (sortI l).toArray) cur).toList.drop (l.length*33)) PE ?_ (by simp[putCells,hsz]) (by omega)
   rw[←hFs,←htk,hFz,CB]
  rw[hlen]at hrow
  refine⟨_,.raw (.tuple #[]),g,[.raw r (.cells (putCells id 0 (flatK vIdn 33 (sortI l).toArray) cur) 98 (0,0))],rfl,.raw _,?_,⟨rfl,rfl,⟨rfl,kZ _ _⟩,Mz n _ os,fun b hb hn=>FY n _ os b hb (fun e=>hn (by rw[e];simp[Ao,Res.block])),.refl g,fun _ _ _=>⟨fun _=>rfl,rfl⟩⟩,fun b hb _=>by simpa [Ao,Res.block]using hb,_,rfl,hrow⟩
  exact(k5.laterBut k2 k3 k4 (fun k hk hn=>FY n _ os k hk hn)).addRaw (OH k1 n _ os) k2 k3 k4
end Go.Proofs
