/- Plain laws: what the statements on repositories ask. -/
import Derived.Test.YtpebdiofdfpooaaGreatDoorWar
import Derived.Test.YtpebdiofdfpooaaGreatDoorWan
import Derived.Test.YtpebdiofdfpooaaGreatDoorWag
set_option linter.unusedSimpArgs false
set_option linter.unusedVariables false
set_option maxHeartbeats 8000000
namespace Go.Proofs
open Go Go.Q
theorem Uw {α:Type} (nm:α→Str) (l:List α) (n:Str):Bw nm l n=EK (fun y=>decide (nm y=n)) l:=by
 unfold Bw EK
 cases h:l.findIdx? fun y=>decide (nm y=n)with
 |none=>
  rw[Jb]at h
  rw[if_neg]
  intro h2
  obtain⟨x,hx,e⟩:=Bg.1 h2
  rw[h x hx]at e;cases e
 |some i=>
  obtain⟨h1,h2⟩:=ZG.1 h
  have:(l.any fun y=>decide (nm y=n))=true:=by
   obtain⟨hi,e,_⟩:=Dz.1 h
   exact Bg.2 ⟨_,AO hi,e⟩
  rw[if_pos this,h2]
theorem Y2 {α:Type} {nm:α→Str} {l:List α} (ha:O8 nm l) {n:Str} (h: ∀ y∈l,nm y≠n):
  EK (fun y=>Gq n (nm y)) l=if IK nm l n=l.length then -1 else(IK nm l n:Int):=by
 have hp:=Zu nm ha h
 unfold EK
 cases hf:l.findIdx? fun y=>Gq n (nm y)with
 |none=>
  rw[hf]at hp
  rw[Jb]at hf
  rw[if_neg,if_pos hp.symm]
  intro h2
  obtain⟨x,hx,e⟩:=Bg.1 h2
  rw[hf x hx]at e;cases e
 |some i=>
  rw[hf]at hp
  obtain⟨h1,h2⟩:=ZG.1 hf
  have:(l.any fun y=>Gq n (nm y))=true:=by
   obtain⟨hi,e,_⟩:=Dz.1 hf
   exact Bg.2 ⟨_,AO hi,e⟩
  have hp':i=IK nm l n:=hp
  rw[if_pos this,h2,if_neg (by omega),hp']
theorem cf {r:Repo} {i:Nat} (hi:i < r.branches.length) (hz: ∀ j,j < i→Jv r j=0) (hn:Jv r i≠0):Aq (Jv r) (List.range r.branches.length)=Jv r i:=by
 have e:=CV (f:=Jv r) (l:=List.range r.branches.length) (k:=i) (by simpa using hi) (fun j hj hji=>by rw[DW];exact hz j hji) (by rw[DW];exact hn)
 rw[DW]at e
 exact e
theorem Yw {r:Repo} (hz: ∀ j,j < r.branches.length→Jv r j=0):Aq (Jv r) (List.range r.branches.length)=0:=CN fun i hi=>by
 rw[Gu]at hi
 rw[DW];exact hz i hi
theorem cd {r:Repo} {i:Nat} (hi:i < r.tags.length) (hz: ∀ j,j < i→Ju r j=0) (hn:Ju r i≠0):Aq (Ju r) (List.range r.tags.length)=Ju r i:=by
 have e:=CV (f:=Ju r) (l:=List.range r.tags.length) (k:=i) (by simpa using hi) (fun j hj hji=>by rw[DW];exact hz j hji) (by rw[DW];exact hn)
 rw[DW]at e
 exact e
theorem Yv {r:Repo} (hz: ∀ j,j < r.tags.length→Ju r j=0):Aq (Ju r) (List.range r.tags.length)=0:=CN fun i hi=>by
 rw[Gu]at hi
 rw[DW];exact hz i hi
theorem Ta {l:List Dig} {i:Nat} (h0:0 < i) (hi:i < l.length) (h: ¬DY (l[i - 1]'(by omega)) l[i] < 0):NX l=false:=by
 cases ha:NX l with
 |false=>rfl
 |true=>exact absurd ((BQ.1 (QB.1 ha)) (i - 1) i (by omega) hi (by omega)) h
theorem VH {l:List Dig} (h: ∀ i (h0:0 < i) (hi:i < l.length),DY (l[i - 1]'(by omega)) l[i] < 0):NX l=true:=QB.2 (IW fun i hi=>by
 have h1:=h (i+1) (by omega) hi
 simp only[Nat.add_sub_cancel]at h1
 exact h1)
theorem jK {u:List Sto} (hu:Eo (ids u)) {a b:List Dig} (ha:Eo a) (hs: ∀ d,d∈a∨d∈b→d∈ids u):ids (CU u (a++b))=C9 a b:=by
 refine Eo.ext (hu.sublist (Px _ _)) (EL ha) fun d=>?_
 rw[Pk,EO,Ay]
 exact⟨fun h=>h.2,fun h=>⟨hs d h,h⟩⟩
attribute [local irreducible] EB AW GJ B2 FW
end Go.Proofs
namespace Go.Q
open Go
section
variable {P:Program} {N:Nat} {all:Array Oper} {K:Env→List Res→Prop} {fl:List Bool} {os:List Oper} {ρ:Env} {L:List Res} {d:Nat} {ty:TypeId} {pos:String} {af:Array Edge}
theorem jv (t:TypeId) (a b:ByteArray):binOp .gtr t (.string a) (.string b)=pure (.bool !(Op.bytesLess a.toList b.toList||a.toList==b.toList)):=by simp[binOp,Op.stringOp]
theorem jw (t:TypeId) (a b:ByteArray):binOp .geq t (.string a) (.string b)=pure (.bool !(Op.bytesLess a.toList b.toList)):=by simp[binOp,Op.stringOp]
theorem ju (t:TypeId) (a b:ByteArray):binOp .lss t (.string a) (.string b)=pure (.bool (Op.bytesLess a.toList b.toList)):=by simp[binOp,Op.stringOp]
theorem rN (s t:Str):(!(Gq s t||s==t))=Gq t s:=by
 by_cases e:s=t
 ·subst e;simp[KJ]
 ·cases h:Gq s t with
  |true=>rw[Uh h];rfl
  |false=>rw[Qp e h];simp[e]
theorem oV {T T':TypeId} [hT:O6 P T] {x y:Operand} {s t:Str} {ax ay:PV} (hx:ρ.ev x=ax) [jx:HF ax s] (hy:ρ.ev y=ay) [jy:HF ay t] (k:AW P N all K fl.tail os (CT ρ d (.raw (.bool (Gq t s)))) L) (hd:Nat.blt d N=true:=by rfl):
  AW P N all K fl (⟨some d,.binOp .gtr T x y T',ty,pos,af,none⟩::os) ρ L:=
 SV (hx ▸ jx.out) (hy ▸ jy.out) (fun w=>by unfold eqGuard;rfl) (fun w=>by rw[jv,Gf,Gf,Sem.run_pure];exact congrArg (fun b=>Result.ok (Value.bool b) w) (rN s t)) (fun g=> .raw _) k hd
theorem bT {T T':TypeId} [hT:O6 P T] {x y:Operand} {s t:Str} {ax ay:PV} (hx:ρ.ev x=ax) [jx:HF ax s] (hy:ρ.ev y=ay) [jy:HF ay t] (k:AW P N all K fl.tail os (CT ρ d (.raw (.bool (!Gq s t)))) L) (hd:Nat.blt d N=true:=by rfl):
  AW P N all K fl (⟨some d,.binOp .geq T x y T',ty,pos,af,none⟩::os) ρ L:=
 SV (hx ▸ jx.out) (hy ▸ jy.out) (fun w=>by unfold eqGuard;rfl) (fun w=>by rw[jw,Gf,Gf,Sem.run_pure];rfl) (fun g=> .raw _) k hd
theorem oQ {T T':TypeId} [hT:O6 P T] {x y:Operand} {s t:Str} {ax ay:PV} (hx:ρ.ev x=ax) [jx:HF ax s] (hy:ρ.ev y=ay) [jy:HF ay t] (k:AW P N all K fl.tail os (CT ρ d (.raw (.bool (Gq s t)))) L) (hd:Nat.blt d N=true:=by rfl):
  AW P N all K fl (⟨some d,.binOp .lss T x y T',ty,pos,af,none⟩::os) ρ L:=
 SV (hx ▸ jx.out) (hy ▸ jy.out) (fun w=>by unfold eqGuard;rfl) (fun w=>by rw[ju,Gf,Gf,Sem.run_pure];rfl) (fun g=> .raw _) k hd
instance rz (f:Nat):Dq (.raw (.func (.func f) #[] #[])) [.raw (.func (.func f) #[] #[])]:=⟨.one fun x hx=>by
 rw[B9.1 hx]
 exact⟨by simp,by simp,fun u e=>by cases e;rfl,by simp⟩⟩
end
end Go.Q
namespace Go.Proofs
open Go Go.Q
attribute [local irreducible] EB AW GJ B2 FW
instance rM (s:Str):Bj Tryz.prog 86 [.str s] (.raw (.bool (EN s))):=⟨by
 refine Aj Tryz.func86 Tryz.ntmps86 rfl (rs:= [.tmp 2]) rfl rfl fun hb LF=>?_
 have hlen:s.length≤140737488355328:=(hb (.str s) (by simp)).str_len
 refine wf ?_
 refine AV (σ:=Nat) (fun k=>k≤s.length∧ ∀ i (h:i < s.length),i < k→HI s[i]=true) (fun k=>s.length - k) (fun k=> [(0,.str s),(6,.raw (.int .i64 s.length)),(7,.raw (.int .i64 k))]) (fun _=>LF) 0 ⟨by simp,by simp⟩ ⟨rfl,rfl,rfl⟩ (.refl _) ?_
 rintro k ⟨hk,he⟩
 refine wf ?_
 refine A1 (fun hc=>?_) (fun hc=>?_)
 ·have hlt:k < s.length:=by omega
  refine wf ?_
  refine BB [(46,.raw (.bool (!HI s[k]))),(0,.str s),(6,.raw (.int .i64 s.length)),(7,.raw (.int .i64 k))] (LF) ?_ ?_
  ·repeat' (first|(refine A1 (fun h=>?_) (fun h=>?_)<;>refine wf ?_)|(refine AN (fun h=>?_) (fun h=>?_)<;>refine wf ?_)|(refine AU (fun h=>?_) (fun h=>?_)<;>refine wf ?_)|(refine Aw (fun h=>?_) (fun h=>?_)<;>(have h2:=h;(try simp only[AJ,A8,AQ,AR]at h2);refine wf ?_)))
   all_goals (refine⟨⟨BW (by rfl) ?_,rfl,rfl,rfl⟩,.refl _⟩;(clear he hc;grind [HI]))
  refine wf ?_
  refine AU (fun h=>?_) (fun h=>?_)
  ·refine wf ?_
   refine Al (.of_eq ?_)
   have:HI s[k]=false:=by simpa using h
   rw[EN,Fe hlt this];rfl
  ·refine wf ?_
   exact⟨k+1,⟨by omega,Iu he hlt (by simpa using h)⟩,by dsimp only;omega,⟨rfl,rfl,rfl⟩,.refl _⟩
 ·have hall:s.all HI=true:=GL fun i h=>he i h (by omega)
  have e1:decide (1≤(s.length:Int))=!decide (s= []):=by cases s<;>simp;omega
  refine wf ?_
  repeat' (first|(refine A1 (fun h=>?_) (fun h=>?_)<;>refine wf ?_)|(refine AN (fun h=>?_) (fun h=>?_)<;>refine wf ?_)|(refine AU (fun h=>?_) (fun h=>?_)<;>refine wf ?_)|(refine Aw (fun h=>?_) (fun h=>?_)<;>(have h2:=h;(try simp only[AJ,A8,AQ,AR]at h2);refine wf ?_)))
  all_goals (refine Al (.of_eq ?_);rw[EN,hall,e1];clear he hall hb;first|(simp_all;done)|grind)⟩
instance ky (b:Brn):Bj Tryz.prog 62 [.agg (eBrn b)] (.str b.name):=⟨by
 refine Aj Tryz.func62 Tryz.ntmps62 rfl (rs:= [.tmp 2]) rfl rfl fun hb LF=>?_
 refine wf ?_
 exact Al (.refl _)⟩
instance qH (b:Tgg):Bj Tryz.prog 90 [.agg (eTgg b)] (.str b.name):=⟨by
 refine Aj Tryz.func90 Tryz.ntmps90 rfl (rs:= [.tmp 2]) rfl rfl fun hb LF=>?_
 refine wf ?_
 exact Al (.refl _)⟩
abbrev rB:PV:= .raw (.func (.func 62) #[] #[])
abbrev rA:PV:= .raw (.func (.func 90) #[] #[])
instance tC (x:Brn) (n:Str):Bj Tryz.prog 119 [.agg (eBrn x),.pt [rB] 0,.pt [.str n] 0] (.raw (.bool (decide (x.name=n)))):=⟨by
 refine Aj Tryz.func119 Tryz.ntmps119 rfl (rs:= [.tmp 4]) rfl rfl fun hb LF=>?_
 refine wf ?_
 exact Al (.refl _)⟩
instance jZ (l:List Brn) (t:CZ) (n:Str):Bj Tryz.prog 61 [.slice (l.map eBrn) t,rB,.str n] (.raw (.int .i64 (Bw Brn.name l n))):=⟨by
 have c1:=fun t=>RF 119 [.pt [rB] 0,.pt [.str n] 0] (fun y:Brn=>decide (y.name=n)) l t
 rw[←Uw]at c1
 refine Aj Tryz.func61 Tryz.ntmps61 rfl (rs:= [.tmp 6]) rfl rfl fun hb LF=>?_
 refine wf ?_
 exact Al (.refl _)⟩
end Go.Proofs
namespace Go.Proofs
open Go Go.Q
theorem aF {s:List Sto} (v:Cg s) (d:Dig):(ndS s d).length≤200:=by
 unfold ndS
 cases hg:getS s d with
 |none=>rw[De,Ox];simp
 |some p=>rw[BO];exact Uf v (Ur hg)
attribute [local irreducible] EB AW GJ B2 FW
instance xC:Cu Tryz.prog 78 (eBrn Brn.zero):=Cu.of (us:=(eBrn Brn.zero).map zv) (by kernel_rfl) (by kernel_rfl)
instance xA:Cu Tryz.prog 80 (eTgg Tgg.zero):=Cu.of (us:=(eTgg Tgg.zero).map zv) (by kernel_rfl) (by kernel_rfl)
instance vc:Cu Tryz.prog 27 (Ax Repo.zero):=Cu.of (us:=(Ax Repo.zero).map zv) (by kernel_rfl) (by kernel_rfl)
theorem mq (f:Nat):Le (.clo f []) (.raw (.func (.func f) #[] #[])):=fun g v h=>by
 obtain⟨vs,rfl,h2⟩:=h.clo_inv
 have:vs= []:=BU h2.len
 subst this
 exact .raw _
theorem Nx {P:Program} {f F:Nat} {a c X:PV} (h:Bj P f [a,.raw (.func (.func F) #[] #[]),c] X):Bj P f [a,.clo F [],c] X:=⟨B2.args (bs:= [a,.raw (.func (.func F) #[] #[]),c]) rfl (fun i g1 g2=>by
 match i,g1,g2 with
 |0,_,_=>exact .refl _
 |1,_,_=>exact mq F
 |2,_,_=>exact .refl _
 |m+3,g1,_=>exact absurd g1 (by simp)) h.out⟩
instance Ny (l:List Brn) (t:CZ) (n:Str):Bj Tryz.prog 61 [.slice (l.map eBrn) t,.clo 62 [],.str n] (.raw (.int .i64 (Bw Brn.name l n))):=Nx (jZ l t n)
def Zy (l:List Brn) (i:Nat):Int:=if EN (l.getD i Brn.zero).name=false then 5 else if 0 < i∧Gq (l.getD (i - 1) Brn.zero).name (l.getD i Brn.zero).name=false then 9 else 0
def Zx (l:List Tgg) (i:Nat):Int:=if EN (l.getD i Tgg.zero).name=false then 5 else if 0 < i∧Gq (l.getD (i - 1) Tgg.zero).name (l.getD i Tgg.zero).name=false then 9 else 0
theorem OZ (s:List Sto) (t:CZ) (l:List Dig) (u:CZ) (ha:Eo (ids s)):Bj Tryz.prog 113 [.slice (s.map eSto) t,.slice (l.map eDig) u] (.raw (.int .i64 (Fq s l))):=⟨by
 refine Aj Tryz.func113 Tryz.ntmps113 rfl (rs:= [.tmp 4]) rfl rfl fun hb LF=>?_
 have hll:l.length≤140737488355328:=(hb (.slice (l.map eDig) u) (by simp)).slice_map
 have hsome:=fun d=>JT ha d
 refine wf ?_
 refine AV (σ:=Nat) (fun i=>1≤i∧ ∀ j (h0:0 < j) (hj:j < l.length),j < i→DY (l[j - 1]'(by omega)) l[j] < 0) (fun i=>l.length - i) (fun i=> [(0,.slice (s.map eSto) t),(1,.slice (l.map eDig) u),(5,.raw (.int .i64 i))]) (fun _=>LF) 1 ⟨by omega,fun j h0 hj h=>by omega⟩ ⟨rfl,rfl,rfl⟩ (.refl _) ?_
 rintro i ⟨h1,hz⟩
 refine wf ?_
 refine A1 (fun hc=>?_) (fun hc=>?_)
 ·have hlt:i < l.length:=by omega
  have e1:((i:Int) - 1).toNat=i - 1:=by omega
  have hf:=fun(h: ¬DY (l[i - 1]'(by omega)) l[i] < 0)=>Ta (l:=l) (i:=i) (by omega) hlt h
  refine wf ?_
  refine A1 (fun h=>?_) (fun h=>?_)
  ·simp only[e1]at h
   refine wf ?_
   refine Al (.of_eq ?_)
   unfold Fq
   rw[hf (by omega),if_pos rfl]
  ·refine wf ?_
   refine⟨i+1,⟨by omega,fun j h0 hj hji=>?_⟩,by dsimp only;omega,⟨rfl,rfl,rfl⟩,.refl _⟩
   simp only[e1]at h
   by_cases e:j=i
   ·subst e;omega
   ·exact hz j h0 hj (by omega)
 have hasc:NX l=true:=VH fun i h0 hi=>hz i h0 hi (by omega)
 have hck:Fq s l=if Ck (ids s) l=false then 7 else 0:=by unfold Fq;rw[if_neg (by simp[hasc])]
 rw[hck]
 clear hck hz
 refine wf ?_
 refine AV (σ:=Nat) (fun k=>k≤l.length∧ ∀ d∈l.take k,d∈ids s) (fun k=>l.length - k) (fun k=> [(0,.slice (s.map eSto) t),(27,.slice (l.map eDig) u),(28,.raw (.int .i64 l.length)),(29,.raw (.int .i64 k))]) (fun _=>LF) 0 ⟨by simp,by simp⟩ ⟨rfl,rfl,rfl,rfl⟩ (.refl _) ?_
 rintro k ⟨hk,hin⟩
 refine wf ?_
 refine A1 (fun hc=>?_) (fun hc=>?_)
 ·have hlt:k < l.length:=by omega
  have hs:=hsome l[k]
  refine wz fun b7=>?_
  refine Ag 7 ?_
  refine wz fun b8=>?_
  refine Ag 8 ?_
  refine wf ?_
  rw[hs]
  refine AN (fun h=>?_) (fun h=>?_)
  ·have hn:Ck (ids s) l=false:=by
    cases hA:Ck (ids s) l with
    |false=>rfl
    |true=>exact absurd (GG.1 hA _ (AO hlt)) h
   refine wf ?_
   refine Al (.of_eq ?_)
   rw[if_pos hn]
  ·refine wf ?_
   refine⟨k+1,⟨by omega,fun d hd=>?_⟩,by dsimp only;omega,⟨rfl,rfl,rfl,rfl⟩,.refl _⟩
   rw[A6 hlt]at hd
   rcases Ay.1 hd with hd|hd
   ·exact hin d hd
   ·rw[B9.1 hd];exact h
 ·rw[AA (by omega)]at hin
  refine wf ?_
  refine Al (.of_eq ?_)
  rw[if_neg (by simp[GG.2 hin])]⟩
theorem YF (l:List Brn) (t:CZ) (i:Nat) (hi:i < l.length):Bj Tryz.prog 112 [.slice (l.map eBrn) t,rB,.raw (.int .i64 (i:Int))] (.raw (.int .i64 (Zy l i))):=⟨by
 refine Aj Tryz.func112 Tryz.ntmps112 rfl (rs:= [.tmp 6]) rfl rfl fun hb LF=>?_
 have hll:l.length≤140737488355328:=(hb (.slice (l.map eBrn) t) (by simp)).slice_map
 unfold Zy
 rw[ER hi]
 have hp: ∀ h:0 < i,l.getD (i - 1) Brn.zero=l[i - 1]'(by omega):=fun h=>ER (by omega)
 generalize l.getD (i - 1) Brn.zero=y at hp ⊢
 refine wf ?_
 refine AU (fun h=>?_) (fun h=>?_)
 ·have h':EN l[i].name=false:=by simpa using h
  refine wf ?_
  refine Al (.of_eq ?_)
  rw[if_pos h']
 have h':EN l[i].name=true:=by simpa using h
 rw[if_neg (by simp[h'])]
 by_cases h0:0 < i
 ·have e1:(i:Int) - 1=((i - 1:Nat):Int):=by omega
  have g:decide (0 < (i:Int))=true:=Bh (by omega)
  rw[hp h0]
  refine wf ?_
  refine bT (ax:= .str (l[((i:Int) - 1).toNat]'(by omega)).name) (ay:= .str l[i].name) rfl rfl ?_
  have e2:l[((i:Int) - 1).toNat]'(by omega)=l[i - 1]'(by omega):=by congr 1;omega
  rw[e2]
  refine wf ?_
  refine AU (fun h=>?_) (fun h=>?_)
  ·have h2:Gq (l[i - 1]'(by omega)).name l[i].name=false:=by simpa using h
   refine wf ?_
   refine Al (.of_eq ?_)
   rw[if_pos ⟨h0,h2⟩]
  ·have h2:Gq (l[i - 1]'(by omega)).name l[i].name=true:=by simpa using h
   refine wf ?_
   refine Al (.of_eq ?_)
   rw[if_neg (by simp[h2])]
 ·have g:decide (0 < (i:Int))=false:=Ca (by omega)
  rw[if_neg (by omega)]
  refine wf ?_
  exact Al (.refl _)⟩
theorem YE (l:List Tgg) (t:CZ) (i:Nat) (hi:i < l.length):Bj Tryz.prog 116 [.slice (l.map eTgg) t,rA,.raw (.int .i64 (i:Int))] (.raw (.int .i64 (Zx l i))):=⟨by
 refine Aj Tryz.func116 Tryz.ntmps116 rfl (rs:= [.tmp 6]) rfl rfl fun hb LF=>?_
 have hll:l.length≤140737488355328:=(hb (.slice (l.map eTgg) t) (by simp)).slice_map
 unfold Zx
 rw[GA hi]
 have hp: ∀ h:0 < i,l.getD (i - 1) Tgg.zero=l[i - 1]'(by omega):=fun h=>GA (by omega)
 generalize l.getD (i - 1) Tgg.zero=y at hp ⊢
 refine wf ?_
 refine AU (fun h=>?_) (fun h=>?_)
 ·have h':EN l[i].name=false:=by simpa using h
  refine wf ?_
  refine Al (.of_eq ?_)
  rw[if_pos h']
 have h':EN l[i].name=true:=by simpa using h
 rw[if_neg (by simp[h'])]
 by_cases h0:0 < i
 ·have e1:(i:Int) - 1=((i - 1:Nat):Int):=by omega
  have g:decide (0 < (i:Int))=true:=Bh (by omega)
  rw[hp h0]
  refine wf ?_
  refine bT (ax:= .str (l[((i:Int) - 1).toNat]'(by omega)).name) (ay:= .str l[i].name) rfl rfl ?_
  have e2:l[((i:Int) - 1).toNat]'(by omega)=l[i - 1]'(by omega):=by congr 1;omega
  rw[e2]
  refine wf ?_
  refine AU (fun h=>?_) (fun h=>?_)
  ·have h2:Gq (l[i - 1]'(by omega)).name l[i].name=false:=by simpa using h
   refine wf ?_
   refine Al (.of_eq ?_)
   rw[if_pos ⟨h0,h2⟩]
  ·have h2:Gq (l[i - 1]'(by omega)).name l[i].name=true:=by simpa using h
   refine wf ?_
   refine Al (.of_eq ?_)
   rw[if_neg (by simp[h2])]
 ·have g:decide (0 < (i:Int))=false:=Ca (by omega)
  rw[if_neg (by omega)]
  refine wf ?_
  exact Al (.refl _)⟩
theorem jo (r:Repo) (i:Nat):Jv r i=if Zy r.branches i≠0 then Zy r.branches i else if Fq r.pool (r.branches.getD i Brn.zero).ids≠0 then Fq r.pool (r.branches.getD i Brn.zero).ids else
  if Fb r.pool (r.branches.getD i Brn.zero).ids=false then 19 else 0:=by
 unfold Jv Zy
 split
 ·simp
 ·split<;>simp
theorem jm (r:Repo) (i:Nat):Ju r i=if Zx r.tags i≠0 then Zx r.tags i else if 0≤Bw Brn.name r.branches (r.tags.getD i Tgg.zero).name then 6 else if 1000 < ((r.tags.getD i Tgg.zero).note.length:Int)then 4 else
  if Fq r.pool (r.tags.getD i Tgg.zero).tops≠0 then Fq r.pool (r.tags.getD i Tgg.zero).tops else if Je r.pool (r.tags.getD i Tgg.zero).tops=false then 1 else 0:=by
 unfold Ju Zx
 split
 ·simp
 ·split<;>simp
theorem Um {s:List Sto} (v:Cg s) {l:List Dig} (h:Fq s l=0):l.length≤200:=by
 obtain⟨a,b⟩:=JZ.1 h
 have:=FJ a.nodup b
 rw[E6]at this
 have:=v.close.1.1
 omega
theorem TU (r:Repo) (i:Nat) (v:Cg r.pool) (hi:i < r.branches.length):Bj Tryz.prog 59 [.agg (Ax r),.raw (.int .i64 (i:Int))] (.raw (.int .i64 (Jv r i))):=⟨by
 refine Aj Tryz.func59 Tryz.ntmps59 rfl (rs:= [.tmp 4]) rfl rfl fun hb LF=>?_
 have c1:=fun t=>Nx (YF r.branches t i hi)
 have c2:=fun t u=>OZ r.pool t r.branches[i].ids u v.asc
 have hch:=jo r i
 rw[ER hi]at hch
 rw[hch]
 clear hch
 by_cases h1:Zy r.branches i≠0
 ·rw[if_pos h1]
  generalize Zy r.branches i=e at c1 h1 ⊢
  refine wf ?_
  refine AN (fun _=>?_) (fun h=>absurd h h1)
  refine wf ?_
  exact Al (.refl _)
 rw[if_neg h1]
 rw[Ae.1 h1]at c1
 by_cases h2:Fq r.pool r.branches[i].ids≠0
 ·rw[if_pos h2]
  generalize Fq r.pool r.branches[i].ids=e at c2 h2 ⊢
  refine wf ?_
  refine AN (fun _=>?_) (fun h=>absurd h h2)
  refine wf ?_
  exact Al (.refl _)
 rw[if_neg h2]
 have h2:=Ae.1 h2
 rw[h2]at c2
 have hsh:=Um v h2
 refine tj fun m=>?_
 generalize r.branches[i].ids=l at c2 h2 hsh ⊢
 refine AV (σ:=Nat × List (Dig × Bool)) (fun z=>z.1≤l.length∧KR z.2 (l.take z.1)) (fun z=>l.length - z.1) (fun z=> [(2,.pt (Ax r) 0),(6,.slice (l.map eDig) .ro),(8,.raw (.map (some m))),(38,.slice (l.map eDig) .ro),(39,.raw (.int .i64 l.length)),(40,.raw (.int .i64 z.1))]) (fun z=> .map m (Cq kDig vBool z.2)::LF) (0,[]) ⟨by simp,fun d=>by simp[Dr]⟩ ⟨rfl,rfl,rfl,rfl,rfl,rfl⟩ (.refl _) ?_
 rintro⟨k,T⟩ ⟨hk,hT⟩
 dsimp only at hk hT ⊢
 refine wf ?_
 refine A1 (fun hc=>?_) (fun hc=>?_)
 ·have hlt:k < l.length:=by omega
  have hTa:=hT.add l[k]
  rw[←A6 hlt]at hTa
  refine wz fun b10=>?_
  refine Ag 10 ?_
  refine wf ?_
  exact⟨(k+1,HJ l[k] true T),⟨by dsimp only;omega,hTa⟩,by dsimp only;omega,⟨rfl,rfl,rfl,rfl,rfl,rfl⟩,.refl _⟩
 rw[AA (by omega)]at hT
 refine wf ?_
 refine AV (σ:=Nat) (fun k=>k≤l.length∧ ∀ d∈l.take k,Ck l (ndS r.pool d)=true) (fun k=>l.length - k) (fun k=> [(2,.pt (Ax r) 0),(8,.raw (.map (some m))),(47,.slice (l.map eDig) .ro),(48,.raw (.int .i64 l.length)),(49,.raw (.int .i64 k))]) (fun _=> .map m (Cq kDig vBool T)::LF) 0 ⟨by simp,by simp⟩ ⟨rfl,rfl,rfl,rfl,rfl⟩ (.refl _) ?_
 clear hk hc
 rintro k ⟨hk,hin⟩
 refine wf ?_
 refine A1 (fun hc=>?_) (fun hc=>?_)
 ·have hlt:k < l.length:=by omega
  have i1:B0 (EA ((getS r.pool l[k]).getD Pat.zero)=false):=⟨v.close.great _⟩
  have hnl:=aF v l[k]
  have hbad:=fun(h:Ck l (ndS r.pool l[k])=false)=>show Fb r.pool l=false from by
   cases hA:Fb r.pool l with
   |false=>rfl
   |true=>rw[B5.1 hA _ (AO hlt)]at h;cases h
  refine wz fun b12=>?_
  refine Ag 12 ?_
  refine wz fun b13=>?_
  refine Ag 13 ?_
  refine wf ?_
  rw[show BX ((getS r.pool l[k]).getD Pat.zero)=ndS r.pool l[k] from rfl]
  have hdo:=fun(h:Ck l (ndS r.pool l[k])=true)=>show ∀ d∈l.take (k+1),Ck l (ndS r.pool d)=true from fun d hd=>by
   rw[A6 hlt]at hd
   rcases Ay.1 hd with hd|hd
   ·exact hin d hd
   ·rw[B9.1 hd];exact h
  generalize ndS r.pool l[k]=nd at hnl hbad hdo ⊢
  refine AV (σ:=Nat) (fun j=>j≤nd.length∧ ∀ d∈nd.take j,d∈l) (fun j=>nd.length - j) (fun j=> [(2,.pt (Ax r) 0),(8,.raw (.map (some m))),(47,.slice (l.map eDig) .ro),(48,.raw (.int .i64 l.length)),(49,.raw (.int .i64 k)),(61,.slice (nd.map eDig) .ro),(62,.raw (.int .i64 nd.length)),(63,.raw (.int .i64 j))]) (fun _=> .map m (Cq kDig vBool T)::LF) 0 ⟨by simp,by simp⟩ ⟨rfl,rfl,rfl,rfl,rfl,rfl,rfl,rfl⟩ (.refl _) ?_
  rintro j ⟨hj,hjn⟩
  refine wf ?_
  refine A1 (fun hc=>?_) (fun hc=>?_)
  ·have hjl:j < nd.length:=by omega
   have hTj:=hT nd[j]
   refine wz fun b16=>?_
   refine Ag 16 ?_
   refine wf ?_
   rw[hTj]
   refine AU (fun h=>?_) (fun h=>?_)
   ·have hnm:nd[j]∉l:=B6 (by simpa using h)
    have:=hbad (by
     cases hA:Ck l nd with
     |false=>rfl
     |true=>exact absurd (GG.1 hA _ (AO hjl)) hnm)
    refine wf ?_
    refine Al (.of_eq ?_)
    rw[if_pos this]
   ·have hm:nd[j]∈l:=An (by simpa using h)
    refine wf ?_
    refine⟨j+1,⟨by omega,fun d hd=>?_⟩,by dsimp only;omega,⟨rfl,rfl,rfl,rfl,rfl,rfl,rfl,rfl⟩,.refl _⟩
    rw[A6 hjl]at hd
    rcases Ay.1 hd with hd|hd
    ·exact hjn d hd
    ·rw[B9.1 hd];exact hm
  ·rw[AA (by omega)]at hjn
   refine wf ?_
   exact⟨k+1,⟨by omega,hdo (GG.2 hjn)⟩,by dsimp only;omega,⟨rfl,rfl,rfl,rfl,rfl⟩,.refl _⟩
 ·rw[AA (by omega)]at hin
  have:Fb r.pool l=true:=B5.2 fun d hd=>hin d hd
  refine wf ?_
  refine Al (.of_eq ?_)
  rw[if_neg (by simp[this])]⟩
theorem Yy (r:Repo) (i:Nat) (v:Cg r.pool) (hi:i < r.tags.length):Bj Tryz.prog 60 [.agg (Ax r),.raw (.int .i64 (i:Int))] (.raw (.int .i64 (Ju r i))):=⟨by
 have iv:B0 (Cg r.pool):=⟨v⟩
 refine Aj Tryz.func60 Tryz.ntmps60 rfl (rs:= [.tmp 4]) rfl rfl fun hb LF=>?_
 have c1:=fun t=>Nx (YE r.tags t i hi)
 have c2:=fun t u=>OZ r.pool t r.tags[i].tops u v.asc
 have hch:=jm r i
 rw[GA hi]at hch
 rw[hch]
 clear hch
 by_cases h1:Zx r.tags i≠0
 ·rw[if_pos h1]
  generalize Zx r.tags i=e at c1 h1 ⊢
  refine wf ?_
  refine AN (fun _=>?_) (fun h=>absurd h h1)
  refine wf ?_
  exact Al (.refl _)
 rw[if_neg h1]
 rw[Ae.1 h1]at c1
 refine wf ?_
 refine BN fun b6=>?_
 refine wo ?_
 refine AE ?_
 refine Ag 6 ?_
 generalize r.tags[i]=tg at c2 ⊢
 refine wf ?_
 refine A1 (fun h=>?_) (fun h=>?_)
 ·rw[if_pos h]
  refine wf ?_
  exact Al (.refl _)
 rw[if_neg h]
 clear h
 refine wf ?_
 refine A1 (fun h=>?_) (fun h=>?_)
 ·rw[if_pos h]
  refine wf ?_
  exact Al (.refl _)
 rw[if_neg h]
 clear h
 by_cases h2:Fq r.pool tg.tops≠0
 ·rw[if_pos h2]
  generalize Fq r.pool tg.tops=e at c2 h2 ⊢
  refine wf ?_
  refine AN (fun _=>?_) (fun h=>absurd h h2)
  refine wf ?_
  exact Al (.refl _)
 rw[if_neg h2]
 have h2:=Ae.1 h2
 rw[h2]at c2
 have hsh:=Um v h2
 refine wf ?_
 refine AV (σ:=Nat) (fun k=>k≤tg.tops.length∧ ∀ p∈tg.tops.take k,∀ q∈tg.tops,p=q∨Gl r.pool p q=false) (fun k=>tg.tops.length - k) (fun k=> [(2,.pt (Ax r) 0),(6,.pt (eTgg tg) 0),(43,.slice (tg.tops.map eDig) .ro),(44,.raw (.int .i64 tg.tops.length)),(45,.raw (.int .i64 k))]) (fun _=>LF) 0 ⟨by simp,by simp⟩ ⟨rfl,rfl,rfl,rfl,rfl⟩ (.refl _) ?_
 rintro k ⟨hk,hin⟩
 refine wf ?_
 refine A1 (fun hc=>?_) (fun hc=>?_)
 ·have hlt:k < tg.tops.length:=by omega
  refine wz fun b9=>?_
  refine Ag 9 ?_
  refine wf ?_
  refine AV (σ:=Nat) (fun j=>j≤tg.tops.length∧ ∀ q∈tg.tops.take j,tg.tops[k]=q∨Gl r.pool tg.tops[k] q=false) (fun j=>tg.tops.length - j) (fun j=> [(2,.pt (Ax r) 0),(6,.pt (eTgg tg) 0),(9,.pt (eDig tg.tops[k]) 0),(43,.slice (tg.tops.map eDig) .ro),(44,.raw (.int .i64 tg.tops.length)),(45,.raw (.int .i64 k)),(50,.slice (tg.tops.map eDig) .ro),(51,.raw (.int .i64 tg.tops.length)),(52,.raw (.int .i64 j))]) (fun _=>LF) 0 ⟨by simp,by simp⟩ ⟨rfl,rfl,rfl,rfl,rfl,rfl,rfl,rfl,rfl⟩ (.refl _) ?_
  rintro j ⟨hj,hjn⟩
  refine wf ?_
  refine A1 (fun hc=>?_) (fun hc=>?_)
  ·have hjl:j < tg.tops.length:=by omega
   refine wz fun b11=>?_
   refine Ag 11 ?_
   have hbad: ¬(tg.tops[k]=tg.tops[j]∨Gl r.pool tg.tops[k] tg.tops[j]=false)→Je r.pool tg.tops=false:=fun h=>by
    cases hA:Je r.pool tg.tops with
    |false=>rfl
    |true=>exact absurd (KO.1 hA _ (AO hlt) _ (AO hjl)) h
   have hdo:(tg.tops[k]=tg.tops[j]∨Gl r.pool tg.tops[k] tg.tops[j]=false)→ ∀ q∈tg.tops.take (j+1),tg.tops[k]=q∨Gl r.pool tg.tops[k] q=false:=fun h q hq=>by
    rw[A6 hjl]at hq
    rcases Ay.1 hq with hq|hq
    ·exact hjn q hq
    ·rw[B9.1 hq];exact h
   generalize tg.tops[j]=q at hbad hdo ⊢
   generalize tg.tops[k]=p at hbad hdo ⊢
   refine wf ?_
   refine Aw (fun hp=>?_) (fun hp=>?_)
   ·have hne:p≠q:=by simpa using hp
    refine wf ?_
    refine AU (fun h=>?_) (fun h=>?_)
    ·refine wf ?_
     refine Al (.of_eq ?_)
     rw[if_pos (hbad (by simp[hne,h]))]
    ·refine wf ?_
     exact⟨j+1,⟨by omega,hdo (.inr h)⟩,by dsimp only;omega,⟨rfl,rfl,rfl,rfl,rfl,rfl,rfl,rfl,rfl⟩,.refl _⟩
   ·have he:p=q:=by simpa using hp
    refine wf ?_
    exact⟨j+1,⟨by omega,hdo (.inl he)⟩,by dsimp only;omega,⟨rfl,rfl,rfl,rfl,rfl,rfl,rfl,rfl,rfl⟩,.refl _⟩
  ·rw[AA (by omega)]at hjn
   refine wf ?_
   refine⟨k+1,⟨by omega,fun p hp q hq=>?_⟩,by dsimp only;omega,⟨rfl,rfl,rfl,rfl,rfl⟩,.refl _⟩
   rw[A6 hlt]at hp
   rcases Ay.1 hp with hp|hp
   ·exact hin p hp q hq
   ·rw[B9.1 hp];exact hjn q hq
 ·rw[AA (by omega)]at hin
  refine wf ?_
  refine Al (.of_eq ?_)
  rw[if_neg (by simp[KO.2 hin])]⟩
theorem Gj (r:Repo) (hg:DX r.pool):Bj Tryz.prog 18 [.agg (Ax r)] (.raw (.int .i64 (EF r))):=⟨by
 have ig:B0 (DX r.pool):=⟨hg⟩
 refine Aj Tryz.func18 Tryz.ntmps18 rfl (rs:= [.tmp 2]) rfl rfl fun hb LF=>?_
 have hbl:r.branches.length≤140737488355328:=((hb (.agg (Ax r)) (by simp)).agg_at (c:= .slice (r.branches.map eBrn) .ro) (by simp[Ax])).slice_map
 have htl:r.tags.length≤140737488355328:=((hb (.agg (Ax r)) (by simp)).agg_at (c:= .slice (r.tags.map eTgg) .ro) (by simp[Ax])).slice_map
 have c1:=fun t=>Td r.pool t
 unfold EF
 by_cases h1:En r.pool≠0
 ·rw[if_pos h1]
  generalize En r.pool=e at c1 h1 ⊢
  refine wf ?_
  refine AN (fun _=>?_) (fun h=>absurd h h1)
  refine wf ?_
  exact Al (.refl _)
 rw[if_neg h1]
 have v:=LB hg (Ae.1 h1)
 rw[Ae.1 h1]at c1
 refine wf ?_
 refine Aw (fun hp=>?_) (fun hp=>?_)
 ·rw[if_pos (.inl (An hp))]
  refine wf ?_
  exact Al (.refl _)
 have hb1:=B6 hp
 refine wf ?_
 refine A1 (fun h=>?_) (fun h=>?_)
 ·rw[if_pos (.inr h)]
  refine wf ?_
  exact Al (.refl _)
 rw[if_neg (by omega)]
 refine wf ?_
 refine AV (σ:=Nat) (fun i=>i≤r.branches.length∧ ∀ j,j < i→Jv r j=0) (fun i=>r.branches.length - i) (fun i=> [(1,.pt (Ax r) 0),(25,.slice (r.branches.map eBrn) .ro),(26,.raw (.int .i64 r.branches.length)),(27,.raw (.int .i64 i))]) (fun _=>LF) 0 ⟨by simp,fun j h=>absurd h (FC _)⟩ ⟨rfl,rfl,rfl,rfl⟩ (.refl _) ?_
 rintro i ⟨hi,hz⟩
 refine wf ?_
 refine A1 (fun hc=>?_) (fun hc=>?_)
 ·have hlt:i < r.branches.length:=by omega
  have cb:=TU r i v hlt
  have hat:=cf hlt hz
  by_cases h2:Jv r i≠0
  ·have hat:=hat h2
   generalize Jv r i=e at cb hat h2
   refine wf ?_
   refine AN (fun _=>?_) (fun h=>absurd h h2)
   refine wf ?_
   refine Al (.of_eq ?_)
   rw[hat,if_pos h2]
  ·have h2:=Ae.1 h2
   rw[h2]at cb
   refine wf ?_
   refine⟨i+1,⟨by omega,fun j hj=>?_⟩,by dsimp only;omega,⟨rfl,rfl,rfl,rfl⟩,.refl _⟩
   by_cases e:j=i
   ·rw[e];exact h2
   ·exact hz j (by omega)
 have hzb:=Yw (r:=r) fun j hj=>hz j (by omega)
 rw[hzb,if_neg (by simp)]
 clear hz hc hi hzb
 refine wf ?_
 refine AV (σ:=Nat) (fun i=>i≤r.tags.length∧ ∀ j,j < i→Ju r j=0) (fun i=>r.tags.length - i) (fun i=> [(1,.pt (Ax r) 0),(38,.slice (r.tags.map eTgg) .ro),(39,.raw (.int .i64 r.tags.length)),(40,.raw (.int .i64 i))]) (fun _=>LF) 0 ⟨by simp,fun j h=>absurd h (FC _)⟩ ⟨rfl,rfl,rfl,rfl⟩ (.refl _) ?_
 rintro i ⟨hi,hz⟩
 refine wf ?_
 refine A1 (fun hc=>?_) (fun hc=>?_)
 ·have hlt:i < r.tags.length:=by omega
  have cb:=Yy r i v hlt
  have hat:=cd hlt hz
  by_cases h2:Ju r i≠0
  ·have hat:=hat h2
   generalize Ju r i=e at cb hat h2
   refine wf ?_
   refine AN (fun _=>?_) (fun h=>absurd h h2)
   refine wf ?_
   refine Al (.of_eq ?_)
   rw[hat,if_pos h2]
  ·have h2:=Ae.1 h2
   rw[h2]at cb
   refine wf ?_
   refine⟨i+1,⟨by omega,fun j hj=>?_⟩,by dsimp only;omega,⟨rfl,rfl,rfl,rfl⟩,.refl _⟩
   by_cases e:j=i
   ·rw[e];exact h2
   ·exact hz j (by omega)
 have hzt:=Yv (r:=r) fun j hj=>hz j (by omega)
 rw[hzt,if_neg (by simp)]
 refine wf ?_
 refine A1 (fun h=>?_) (fun h=>?_)
 ·rw[if_pos h]
  refine wf ?_
  exact Al (.refl _)
 ·rw[if_neg h]
  refine wf ?_
  exact Al (.refl _)⟩
instance bw (n:Str):Bj Tryz.prog 36 [.str n] (.tuple [.agg (Ax (YI n).1),.raw (.int .i64 (YI n).2)]):=⟨by
 refine Aj Tryz.func36 Tryz.ntmps36 rfl (rs:= [.cell 2 27,.tmp 3]) rfl rfl fun hb LF=>?_
 unfold YI
 refine wf ?_
 refine BN fun b2=>?_
 refine wf ?_
 refine AU (fun h=>?_) (fun h=>?_)
 ·rw[if_pos (by simpa using h)]
  refine wf ?_
  exact CJ rfl (.of_eq rfl)
 ·rw[if_neg (by simpa using h)]
  refine wf ?_
  exact CJ rfl (.of_eq rfl)⟩
instance wG (s:List Sto) (t:CZ):Bj Tryz.prog 73 [.slice (s.map eSto) t] (.slice ((ids s).map eDig) .ro):=⟨by
 refine Aj Tryz.func73 Tryz.ntmps73 rfl (rs:= [.tmp 2]) rfl rfl fun hb LF=>?_
 have hll:s.length*37≤140737488355328:=(hb (.slice (s.map eSto) t) (by simp)).slice_cells (sz:=37)
 have hsu:=fun k (hk:k < s.length)=>show ids (s.take (k+1))=ids (s.take k)++ [s[k].id] from by
  unfold ids;rw[A6 hk,Az];rfl
 have hsl:=fun k=>show(ids (s.take k)).length≤s.length from by rw[E6,AG];omega
 refine wf ?_
 refine Dw 32 ?_
 refine AV (σ:=Nat × CZ) (fun z=>z.1≤s.length) (fun z=>s.length - z.1) (fun z=> [(3,.slice ((ids (s.take z.1)).map eDig) z.2),(6,.slice (s.map eSto) t),(7,.raw (.int .i64 s.length)),(8,.raw (.int .i64 z.1))]) (fun z=> .tok z.2 (ids (s.take z.1)).length 32::LF) (0,.nil) (by simp) ⟨rfl,rfl,rfl,rfl⟩ (.refl _) ?_
 rintro⟨k,u⟩ hk
 dsimp only at hk ⊢
 refine wf ?_
 refine A1 (fun hc=>?_) (fun hc=>?_)
 ·have hlt:k < s.length:=by omega
  have e1:=hsu k hlt
  have e2:=hsl k
  refine wz fun b5=>?_
  refine Ag 5 ?_
  generalize s[k]=x at e1 ⊢
  generalize ids (s.take k)=A at e1 e2 ⊢
  refine QL fun u'=>?_
  refine⟨(k+1,u'),by dsimp only;omega,by dsimp only;omega,⟨?_,rfl,rfl,rfl⟩,?_⟩
  ·dsimp only;rw[e1];rfl
  ·dsimp only;rw[e1];exact .refl _
 ·have hkk:k=s.length:=by omega
  rw[hkk,Cy]
  refine wf ?_
  exact Al (.ro _ _)⟩
instance tB (x:Tgg) (n:Str):Bj Tryz.prog 146 [.agg (eTgg x),.pt [rA] 0,.pt [.str n] 0] (.raw (.bool (decide (x.name=n)))):=⟨by
 refine Aj Tryz.func146 Tryz.ntmps146 rfl (rs:= [.tmp 4]) rfl rfl fun hb LF=>?_
 refine wf ?_
 exact Al (.refl _)⟩
instance jY (l:List Tgg) (t:CZ) (n:Str):Bj Tryz.prog 89 [.slice (l.map eTgg) t,rA,.str n] (.raw (.int .i64 (Bw Tgg.name l n))):=⟨by
 have c1:=fun t=>RE 146 [.pt [rA] 0,.pt [.str n] 0] (fun y:Tgg=>decide (y.name=n)) l t
 rw[←Uw]at c1
 refine Aj Tryz.func89 Tryz.ntmps89 rfl (rs:= [.tmp 6]) rfl rfl fun hb LF=>?_
 refine wf ?_
 exact Al (.refl _)⟩
instance eZ (l:List Tgg) (t:CZ) (n:Str):Bj Tryz.prog 89 [.slice (l.map eTgg) t,.clo 90 [],.str n] (.raw (.int .i64 (Bw Tgg.name l n))):=Nx (jY l t n)
instance YY (r:Repo) (n:Str):Bj Tryz.prog 87 [.agg (Ax r),.str n] (.raw (.int .i64 (Iq r n))):=⟨by
 refine Aj Tryz.func87 Tryz.ntmps87 rfl (rs:= [.tmp 4]) rfl rfl fun hb LF=>?_
 unfold Iq
 refine wf ?_
 refine Aw (fun hp=>?_) (fun hp=>?_)
 ·rw[if_pos (.inl (An hp))]
  refine wf ?_
  exact Al (.refl _)
 have h1:=B6 hp
 refine wf ?_
 refine A1 (fun h=>?_) (fun h=>?_)
 ·rw[if_pos (.inr h)]
  refine wf ?_
  exact Al (.refl _)
 ·rw[if_neg (fun h2=>h2.elim h1 h)]
  refine wf ?_
  exact Al (.refl _)⟩
theorem ZU (r:Repo) (t:Tgg) (v:Cg r.pool) (hl:t.tops.length≤400):Bj Tryz.prog 110 [.agg (Ax r),.agg (eTgg t)] (.slice ((XH r.pool t).map eSto) .ro):=⟨by
 have iv:B0 (Cg r.pool):=⟨v⟩
 have il:B0 (t.tops.length≤400):=⟨hl⟩
 have h40:=v.close.1.1
 have kl:B0 (r.pool.length≤1000000):=⟨by omega⟩
 refine Aj Tryz.func110 Tryz.ntmps110 rfl (rs:= [.tmp 4]) rfl rfl fun hb LF=>?_
 unfold XH
 refine wf ?_
 exact Al (.refl _)⟩
instance sX (r:Repo):Bj Tryz.prog 53 [.agg (Ax r)] (.clo 109 [.pt (Ax r) 0]):=⟨by
 refine Aj Tryz.func53 Tryz.ntmps53 rfl (rs:= [.tmp 2]) rfl rfl fun hb LF=>?_
 refine wf ?_
 exact Al (.refl _)⟩
def rn (x:Str × List Sto):List PV:= [.str x.1,.slice (x.2.map eSto) .ro]
def cg (r:Repo) (b:Brn):Str × List Sto:=(b.name,CU r.pool b.ids)
def fj (r:Repo) (t:Tgg):Str × List Sto:=(t.name,XH r.pool t)
def My (r:Repo):List (Str × List Sto):=r.branches.map (cg r)++r.tags.map (fj r)
theorem Rn (r:Repo) (v:ZI r):ZA Tryz.prog 109 [.pt (Ax r) 0] rn (My r):=by
 intro l J Jx hY L hJ
 have h200:=v.pool.close.1.1
 have kl:B0 (r.pool.length≤1000000):=⟨by omega⟩
 have hbl:=v.lenB
 have htl:=v.lenT
 refine Bt Tryz.func109 rfl Tryz.ntmps109 (rs:= []) rfl rfl fun hb LF=>?_
 refine wf ?_
 refine AV (σ:=Nat × List Res) (fun k=>k.1≤r.branches.length∧J ((r.branches.take k.1).map (cg r)) k.2) (fun k=>r.branches.length - k.1) (fun k=> [(0,.raw (.func (.yield l) #[] #[])),(1,.pt (Ax r) 0),(8,.slice (r.branches.map eBrn) .ro),(9,.raw (.int .i64 r.branches.length)),(10,.raw (.int .i64 k.1))]) (fun k=>k.2++LF) (0,L) ⟨by simp,by simpa using hJ⟩ ⟨rfl,rfl,rfl,rfl,rfl⟩ (.refl _) ?_
 rintro⟨k,L1⟩ ⟨hk,hJ1⟩
 dsimp only at hk hJ1 ⊢
 refine wf ?_
 refine A1 (fun hc=>?_) (fun hc=>?_)
 ·have hlt:k < r.branches.length:=by omega
  have ht:(r.branches.take (k+1)).map (cg r)=(r.branches.take k).map (cg r)++ [cg r r.branches[k]]:=by
   rw[A6 hlt,Az];rfl
  have hpre:(r.branches.take k).map (cg r)++ [cg r r.branches[k]] <+:My r:=by
   rw[←ht]
   unfold My
   refine⟨(r.branches.drop (k+1)).map (cg r)++r.tags.map (fj r),?_⟩
   rw[←AL,←Az,CB]
  have hy:=hY _ _ L1 hpre hJ1
  rw[←ht]at hy
  refine wz fun b4=>?_
  refine Ag 4 ?_
  refine wn ?_
  refine BR 8 ?_ ?_
  ·decide+kernel
  refine wf ?_
  refine Hc L1 LF rfl rfl rfl (.refl _) _ hy fun bo L' hR=>?_
  refine wf ?_
  rcases hR with ⟨rfl,hJ2⟩|⟨rfl,hJx⟩
  ·refine wf ?_
   exact⟨(k+1,L'),⟨by dsimp only;omega,hJ2⟩,by dsimp only;omega,⟨rfl,rfl,rfl,rfl,rfl⟩,.refl _⟩
  ·refine wf ?_
   exact⟨trivial,_,L',.nil,.refl _,.inr ⟨_,hJx⟩⟩
 rw[AA (by omega)]at hJ1
 clear hk hc
 refine wf ?_
 refine AV (σ:=Nat × List Res) (fun k=>k.1≤r.tags.length∧J (r.branches.map (cg r)++(r.tags.take k.1).map (fj r)) k.2) (fun k=>r.tags.length - k.1) (fun k=> [(0,.raw (.func (.yield l) #[] #[])),(1,.pt (Ax r) 0),(26,.slice (r.tags.map eTgg) .ro),(27,.raw (.int .i64 r.tags.length)),(28,.raw (.int .i64 k.1))]) (fun k=>k.2++LF) (0,L1) ⟨by simp,by simpa using hJ1⟩ ⟨rfl,rfl,rfl,rfl,rfl⟩ (.refl _) ?_
 clear hJ1 L1
 rintro⟨k,L1⟩ ⟨hk,hJ1⟩
 dsimp only at hk hJ1 ⊢
 refine wf ?_
 refine A1 (fun hc=>?_) (fun hc=>?_)
 ·have hlt:k < r.tags.length:=by omega
  have ht:r.branches.map (cg r)++(r.tags.take (k+1)).map (fj r)=r.branches.map (cg r)++(r.tags.take k).map (fj r)++ [fj r r.tags[k]]:=by
   rw[A6 hlt,Az,AL];rfl
  have hpre:r.branches.map (cg r)++(r.tags.take k).map (fj r)++ [fj r r.tags[k]] <+:My r:=by
   rw[←ht]
   unfold My
   refine⟨(r.tags.drop (k+1)).map (fj r),?_⟩
   rw[AL,←Az,CB]
  have hy:=hY _ _ L1 hpre hJ1
  rw[←ht]at hy
  have hot:=v.okT _ (AO hlt)
  have htl2:=FJ hot.asc.nodup hot.sub
  rw[E6]at htl2
  have ct:=ZU r r.tags[k] v.pool (by omega)
  refine wz fun b6=>?_
  refine Ag 6 ?_
  refine wn ?_
  refine BR 6 ?_ ?_
  ·decide+kernel
  refine wf ?_
  refine Hc L1 LF rfl rfl rfl (.refl _) _ hy fun bo L' hR=>?_
  refine wf ?_
  rcases hR with ⟨rfl,hJ2⟩|⟨rfl,hJx⟩
  ·refine wf ?_
   exact⟨(k+1,L'),⟨by dsimp only;omega,hJ2⟩,by dsimp only;omega,⟨rfl,rfl,rfl,rfl,rfl⟩,.refl _⟩
  ·refine wf ?_
   exact⟨trivial,_,L',.nil,.refl _,.inr ⟨_,hJx⟩⟩
 ·rw[AA (by omega)]at hJ1
  refine wf ?_
  exact⟨trivial,_,L1,.nil,.refl _,.inl hJ1⟩
end Go.Proofs
namespace Go.Q
open Go
section
variable {P:Program} {ρ:Env} {L LF:List Res} {X:PV}
theorem pK {t u T T' b c B B':Nat} {x y:PV} (hT:Ob P T) (hT':Ob P T') (h1:ρ t= .raw (.pointer (some ⟨b,0,none⟩))) (h2:ρ u= .raw (.pointer (some ⟨c,0,none⟩))) (hX:Le (.tuple [x,y]) X) (m1:Res.box b B [x]∈L) (m2:Res.box c B' [y]∈L) (hs:LF.Sublist L):
  fR P [.cell t T,.cell u T'] (fun r L'=>Le r X∧L'= []) LF .ret ρ L:=⟨trivial,_,[],.cons (.cell1 t T h1 m1 hT) (.cons (.cell1 u T' h2 m2 hT') .nil),hs,hX,rfl⟩
end
end Go.Q
namespace Go.Proofs
open Go Go.Q
attribute [local irreducible] EB AW GJ B2 FW
theorem XN:Ob Tryz.prog 23:=⟨.slice 47,by kernel_rfl,(fun _ e=>(by cases e)),(fun _ _ e=>(by cases e))⟩
theorem UJ:Ob Tryz.prog 4:=⟨.bool,by kernel_rfl,(fun _ e=>(by cases e)),(fun _ _ e=>(by cases e))⟩
theorem Rp {r:Repo} (v:ZI r) {x:Str × List Sto} (h:x∈My r):EC r x.1=some x.2:=by
 unfold My at h
 rcases Ay.1 h with h|h
 ·obtain⟨b,hb,rfl⟩:=AX.1 h
  exact VX v.ascB hb
 ·obtain⟨t,ht,rfl⟩:=AX.1 h
  exact v.viewT ht
theorem fe {r:Repo} {n:Str} (h: ∀ x∈My r,x.1≠n):EC r n=none:=Rq.2
 ⟨fun b hb=>h (cg r b) (JA _ (AX.2 ⟨b,hb,rfl⟩)),fun t ht=>h (fj r t) (EP _ (AX.2 ⟨t,ht,rfl⟩))⟩
def xe (b4 b5:Nat):Option (List Sto)→List Res→List Res
 |none,L=> .box b4 23 [.slice [] .nil]:: .box b5 4 [.raw (.bool false)]::L
 |some w,L=> .box b4 23 [.slice (w.map eSto) .ro]:: .box b5 4 [.raw (.bool true)]::L
theorem Rr (r:Repo) (n:Str) (v:ZI r):Bj Tryz.prog 51 [.agg (Ax r),.str n] (.tuple [.slice (((EC r n).getD []).map eSto) .ro,.raw (.bool (EC r n).isSome)]):=⟨by
 refine Aj Tryz.func51 Tryz.ntmps51 rfl (rs:= [.cell 4 23,.cell 5 4]) rfl rfl fun hb LF=>?_
 refine wf ?_
 refine BN fun b4=>?_
 refine wf ?_
 refine BN fun b5=>?_
 refine wf ?_
 refine Fy (.swap _ _ _) ?_
 refine HX (Rn r v) [10,11] (σ:=Option (List Sto)) (fun pre s=>s=none∧ ∀ x∈pre,x.1≠n) (fun _ s=> ∃ w,s=some w∧EC r n=some w) (xe b4 b5) none LF (.refl _) rfl (fun _=>rfl) (by simp) (fun s LF'=>by cases s<;>rfl) (.refl _) ⟨rfl,by simp⟩ ?_ ?_ ?_
 ·rintro pre x s LF' hpx ⟨rfl,hne⟩
  have hx:=Rp v (hpx.subset (EP _ (B9.2 rfl)))
  obtain⟨m,w⟩:=x
  dsimp only[rn,xe]at hx ⊢
  refine wf ?_
  refine A1 (fun h=>?_) (fun h=>?_)
  ·refine wf ?_
   exact⟨some w,⟨w,rfl,by rw[←h];exact hx⟩,.refl _⟩
  ·refine wf ?_
   refine⟨none,⟨rfl,fun y hy=>?_⟩,.refl _⟩
   rcases Ay.1 hy with hy|hy
   ·exact hne y hy
   ·rw[B9.1 hy];exact h
 ·rintro s ⟨rfl,hne⟩
  rw[fe hne]
  dsimp only[xe]
  refine wf ?_
  exact pK XN UJ rfl rfl (.tuple2 .nilr (.refl _)) AK (AD _ AK) (.cons _ (.cons _ (.refl _)))
 ·rintro pre s ⟨w,rfl,hw⟩
  rw[hw]
  exact pK XN UJ rfl rfl (.refl _) AK (AD _ AK) (.cons _ (.cons _ (.refl _)))⟩
end Go.Proofs
namespace Go.Q
open Go
theorem fc {g:Gh} {us:List Value} {A B:List PV} {v:Value} {y:PV} (h:VR g v y) (hl:E5 g us (A++ .raw v::B)):E5 g us (A++y::B):=by
 refine⟨by rw[hl.len];simp,fun i k1 k2=>?_⟩
 have:=hl.at_ i k1 (by simpa using k2)
 rcases Fi i A.length with h1|h1|h1
 ·rw[Bf h1]at this ⊢
  exact this
 ·subst h1
  rw[C6 (B4 _)]at this ⊢
  simp only[xn,B8]at this ⊢
  rw[this.raw_inv];exact h
 ·rw[C6 (by omega)]at this ⊢
  obtain⟨m,hm⟩: ∃ m,i - A.length=m+1:=⟨i - A.length - 1,by omega⟩
  simp only[hm,Ct]at this ⊢
  exact this
theorem TP {cur us zs:List Value} {a b n:Nat} (hc:cur.take us.length=us) (ha:a≤b) (hb:b≤us.length) (hn:n=a+(us.length - b)) (hle:n≤us.length):
  (CA cur a (us.drop b)).take n++zs=us.take a++us.drop b++zs:=by
 congr 1
 unfold CA
 have h1:cur.take a=us.take a:=by rw[←hc,List.take_take];congr 1;omega
 have hul:us.length≤cur.length:=by
  have:=congrArg List.length hc
  rw[AG]at this;omega
 rw[h1]
 refine Dy ?_
 rw[A7,AG,Ab];omega
section
variable {P:Program} {N:Nat} {all:Array Oper} {K:Env→List Res→Prop} {fl:List Bool} {os:List Oper} {ρ:Env} {L:List Res} {d:Nat} {ty:TypeId} {pos:String} {af:Array Edge}
theorem bX {T E sz by_:Nat} [hT:L0 P T E] [hE:EG P E sz by_] {x y:Operand} {r o:Nat} {kk:IntKind} {n c i:Nat} (hx:ρ.ev x= .raw (.slice (some ⟨r,o,none⟩) n c)) (hy:ρ.ev y= .raw (.int kk (i:Int))) (hi:i≤n) (hn:n≤c)
  (k: ∀ o2,(i < n→o2=o+i*sz)→AW P N all K fl.tail os (CT ρ d (.raw (.slice (some ⟨r,o2,none⟩) (n - i) (c - i)))) L) (hd:Nat.blt d N=true:=by rfl):AW P N all K fl (⟨some d,.slice T x (some y) none none,ty,pos,af,none⟩::os) ρ L:=by
 obtain⟨o2,ho2⟩: ∃ o2,o2=if c=i then o else o+i*sz:=⟨_,rfl⟩
 refine Bb (x:= .raw (.slice (some ⟨r,o2,none⟩) (n - i) (c - i))) hd (B7 fun a w g ha hI=>?_) (k o2 fun h=>by rw[ho2,if_neg (by omega)])
 have e1:=CW ha (x:=x) (by simp[Op.operands]) hx
 have e2:=CW ha (x:=y) (by simp[Op.operands]) hy
 refine⟨.slice (some ⟨r,o2,none⟩) (n - i) (c - i),?_,.raw _⟩
 have hbounds:(Instr.sliceBounds true n c (some (a.eval y)) none none).run P w= .ok (i,n,c) w:=by
  unfold Instr.sliceBounds
  simp[e2,Instr.sliceBound,asIntOf]
  omega
 show(do pure (Next.value (←Instr.sliceAt T (a.eval x) (some (a.eval y)) none none)):Sem Next).run P w=_
 simp only[Instr.sliceAt,Sem.run_bind,run_underlying hT.out,Result.andThen_ok,Instr.slice,e1,hbounds,EG.run hE,Sem.run_pure]
 by_cases h:c=i
 ·rw[ho2,if_pos h,if_pos h]
 ·rw[ho2,if_neg h,if_neg h];simp[DQ]
theorem gZ {T E sz by_:Nat} [hT:L0 P T E] [hE:EG P E sz by_] {x y z u:Operand} {b:Option Addr} {k1 k2 k3:IntKind} {n c i j m:Nat} (hx:ρ.ev x= .raw (.slice b n c)) (hy:ρ.ev y= .raw (.int k1 (i:Int))) (hz:ρ.ev z= .raw (.int k2 (j:Int))) (hu:ρ.ev u= .raw (.int k3 (m:Int))) (hij:i≤j) (hjm:j≤m) (hmc:m≤c)
  (k: ∀ v,AW P N all K fl.tail os (CT ρ d (.raw v)) L) (hd:Nat.blt d N=true:=by rfl):AW P N all K fl (⟨some d,.slice T x (some y) (some z) (some u),ty,pos,af,none⟩::os) ρ L:=by
 obtain⟨v,hv⟩: ∃ v:Value,v= .slice (if m=i then b else b.map (·.add (i*sz))) (j - i) (m - i):=⟨_,rfl⟩
 refine Bb (x:= .raw v) hd (B7 fun a w g ha hI=>?_) (k v)
 have e1:=CW ha (x:=x) (by simp[Op.operands]) hx
 have e2:=CW ha (x:=y) (by simp[Op.operands]) hy
 have e3:=CW ha (x:=z) (by simp[Op.operands]) hz
 have e4:=CW ha (x:=u) (by simp[Op.operands]) hu
 refine⟨v,?_,.raw _⟩
 have hbounds:(Instr.sliceBounds true n c (some (a.eval y)) (some (a.eval z)) (some (a.eval u))).run P w= .ok (i,j,m) w:=by
  unfold Instr.sliceBounds
  simp[e2,e3,e4,Instr.sliceBound,asIntOf,hij,hjm,hmc]
 show(do pure (Next.value (←Instr.sliceAt T (a.eval x) (some (a.eval y)) (some (a.eval z)) (some (a.eval u)))):Sem Next).run P w=_
 simp only[Instr.sliceAt,Sem.run_bind,run_underlying hT.out,Result.andThen_ok,Instr.slice,e1,hbounds,EG.run hE,Sem.run_pure,hv]
theorem gX {T E sz by_:Nat} [hT:L0 P T E] [hE:EG P E sz by_] {x y:Operand} {kk:IntKind} (hx:ρ.ev x= .raw (.slice none 0 0)) (hy:ρ.ev y= .raw (.int kk 0))
  (k:AW P N all K fl.tail os (CT ρ d (.raw (.slice none 0 0))) L) (hd:Nat.blt d N=true:=by rfl):AW P N all K fl (⟨some d,.slice T x none (some y) none,ty,pos,af,none⟩::os) ρ L:=
 Bb hd (B7 fun a w g ha hI=>by
  have e1:=CW ha (x:=x) (by simp[Op.operands]) hx
  have e2:=CW ha (x:=y) (by simp[Op.operands]) hy
  refine⟨.slice none 0 0,?_,.raw _⟩
  have hbounds:(Instr.sliceBounds true 0 0 none (some (a.eval y)) none).run P w= .ok (0,0,0) w:=by
   unfold Instr.sliceBounds
   simp[e2,Instr.sliceBound,asIntOf]
  show(do pure (Next.value (←Instr.sliceAt T (a.eval x) none (some (a.eval y)) none)):Sem Next).run P w=_
  simp only[Instr.sliceAt,Sem.run_bind,run_underlying hT.out,Result.andThen_ok,Instr.slice,e1,hbounds,EG.run hE,Sem.run_pure]
  rfl) k
theorem bf {T T₂ E E₂ sz by_:Nat} [hT:VK P T E sz by_] [h2:L0 P T₂ E₂] {x y:Operand} {r n m c o2 sc:Nat} {cur:Array Value} (cs:List Value) {L':List Res} (F:Res→List Res)
  (hx:ρ.ev x= .raw (.slice (some ⟨r,0,none⟩) n c)) (hy:ρ.ev y= .raw (.slice (some ⟨r,o2,none⟩) m sc)) (hp:L.Perm (.raw r (.cells cur E (0,0))::L')) (hq: ∀ c,(c::L').Perm (F c))
  (hl:cs.length=m*sz) (hone: ∀ x∈cs,x.oneCell'=true) (hroom:n+m≤c) (hsz:cur.size=c*sz) (hc:IY cur o2 cs)
  (k:AW P N all K fl.tail os (CT ρ d (.raw (.slice (some ⟨r,0,none⟩) (n+m) c))) (F (.raw r (.cells (CA cur.toList (n*sz) cs).toArray E (0,0))))) (hd:Nat.blt d N=true:=by rfl) (hfl:fl.headD true=true:=by rfl):
  AW P N all K fl (⟨some d,.call { callee:= .builtin .append,args:= #[x,y],argTypes:= #[T,T₂] },ty,pos,af,none⟩::os) ρ L:=
 Dp rfl (QF hd) hfl (FW.perm hp fun a w g ha hi=>by
  have h1:=CW ha (x:=x) (by simp[Op.operands,Call.operands]) hx
  have h3:=CW ha (x:=y) (by simp[Op.operands,Call.operands]) hy
  obtain⟨i,z,t1,t2,t3,t4,t5,t6,t7,t8⟩:=hT.out
  obtain⟨k1,k2,k3,k4,k5⟩:=hi.rawHead
  have hload:(loadCells ⟨r,o2,none⟩ (m*sz)).run P w= .ok cs.toArray w:=by
   rw[←hl];exact Ec (hc.cell k1)
  have hfit:n*sz+m*sz≤c*sz:=by rw[←Bq];exact Au _ hroom
  obtain⟨w',hrun,hb',hos,htp,hout,hsz',hk⟩:=Eg (P:=P) cs w cur.toList (n*sz) 0 (by simpa using k1) (by simp only[C8,hsz,hl,DR];exact hfit) hone
  have hr:(execOp a.eval ⟨some d,.call { callee:= .builtin .append,args:= #[x,y],argTypes:= #[T,T₂] },ty,pos,af,none⟩).run P w= .ok (.value (.slice (some ⟨r,0,none⟩) (n+m) c)) w':=by
   show(do pure (.value (←Builtin.append_ #[T,T₂] ty (#[x,y].map a.eval))):Sem Next).run P w=_
   simp[Builtin.append_,h1,h3,run_underlying t1,run_underlying h2.out,sizeOf,typeInfo,t2,t3,Builtin.lenOf,Builtin.firstCells,hroom,hload,DQ,hrun]
  rw[DR]at hb'
  refine Oper.wq_of_run hr ?_
  exact⟨_,.raw _,g,_,rfl,.raw _,(hi.turnRaw hb' hk).perm (hq _),⟨hos,htp,hout,Dd hsz'.symm,fun b _ hn=>hk b (fun e=>hn (by simp[Ao,Res.block,e])),.refl g,fun _ _ _=>⟨fun _=>rfl,rfl⟩⟩,
   fun b hb _=>by
    have:=(DC (hq _)).symm.subset hb
    simpa [Ao,Res.block]using this,k⟩)
theorem ln {T T₂ E sz by_:Nat} [hT:VK P T E sz by_] {kk:IntKind} (h2:P.underlying T₂=some (.int .i64)) {x y:Operand} {m:Nat}
  (hx:ρ.ev x= .raw (.slice none 0 0)) (hy:ρ.ev y= .raw (.int kk (m:Int))) (h0:0 < m) (hb:m*by_≤140737488355328) (hbm:m≤140737488355328)
  (k: ∀ r' nc (zs:List Value),m≤nc→zs.length=nc*sz→AW P N all K fl.tail os (CT ρ d (.raw (.slice (some ⟨r',0,none⟩) m nc))) (.raw r' (.cells zs.toArray E (0,0))::L)) (hd:Nat.blt d N=true:=by rfl) (hfl:fl.headD true=true:=by rfl):
  AW P N all K fl (⟨some d,.call { callee:= .builtin .append,args:= #[x,y],argTypes:= #[T,T₂] },ty,pos,af,none⟩::os) ρ L:=
 Dp rfl (QF hd) hfl (fun a w g ha hi=>by
  have h1:=CW ha (x:=x) (by simp[Op.operands,Call.operands]) hx
  have h3:=CW ha (x:=y) (by simp[Op.operands,Call.operands]) hy
  obtain⟨i,z,t1,t2,t3,t4,t5,t6,t7,t8⟩:=hT.out
  have hw:IntKind.i64.wrap (m:Int)=m:=by rw[IntKind.wrap_i64];omega
  have h63': ¬(9223372036854775807 < (m:Int)):=by omega
  have h48': ¬(281474976710656 < Builtin.nextslicecap m 0*i.bytes):=by
   rw[t4]
   have:Builtin.nextslicecap m 0*by_≤2*140737488355328:=by
    calc Builtin.nextslicecap m 0*by_≤(2*m)*by_:=Au _ (GZ h0)
     _=2*(m*by_):=by rw[ZK]
     _≤2*140737488355328:=HG _ hb
   omega
  have h48i: ¬(281474976710656 < (m:Int)*(i.bytes:Int)):=by
   rw[←Int.natCast_mul,t4]
   omega
  have hneg: ¬((m:Int) < 0):=by omega
  have hns: ¬(m*sz=0):=Nat.mul_ne_zero (by omega) t7
  have hm0: ¬(m=0):=by omega
  obtain⟨zs,hzs⟩: ∃ zs:List Value,zs=(Builtin.zeroCells z.cells m).toList++(Builtin.zeroCells z.cells (grownCap w m 0 E - m)).toList:=⟨_,rfl⟩
  have hr:(execOp a.eval ⟨some d,.call { callee:= .builtin .append,args:= #[x,y],argTypes:= #[T,T₂] },ty,pos,af,none⟩).run P w= .ok (.value (.slice (some ⟨w.heap.size,0,none⟩) m (grownCap w m 0 E))) (w.drew.alloc (.cells zs.toArray E (0,0))):=by
   show(do pure (.value (←Builtin.append_ #[T,T₂] ty (#[x,y].map a.eval))):Sem Next).run P w=_
   simp[Builtin.append_,h1,h3,run_underlying t1,run_underlying h2,sizeOf,typeInfo,zeroValue,t2,t3,t5,asInt,asIntOf,hw,hneg,h48i,hns,hm0,h63',h48',Question.forced,Builtin.firstCells,newRow,grownCap,hzs]
   try(congr 2;apply MY;simp[grownCap])
  have hge:=grownCap_ge w m 0 E
  have hlen:zs.length=grownCap w m 0 E*sz:=by
   have e1: ∀ m,(Builtin.zeroCells z.cells m).toList.length=m*sz:=fun m=>by rw[C8,size_zeroCells,t6]
   rw[hzs,A7,e1,e1,←Bq]
   congr 1;omega
  obtain⟨j1,j2,j3⟩:=Nw (R:= []) (LF:=L) hi (.cells zs.toArray E (0,0))
  refine Oper.wq_of_run hr ?_
  exact⟨_,.raw _,g,_,rfl,.raw _,j1,j2,j3,k _ _ zs hge hlen⟩)
theorem Xy {E sz b B:Nat} {R L':List Res} {v:Value} {ys:List (List PV)} {xs zs:List PV} {c:Code} {Q:PPost} (hv:E7 E sz v ys R) (hm:ys.length≤maxN∧ys.length*sz≤maxN) (hp:L.Perm (R++ .box b B xs::L'))
  (hx: ∀ g us,VR g v (.slice ys .ro)→E5 g us xs→E5 g us zs) (k:EB P N c Q ρ (.box b B zs::L')):EB P N c Q ρ L:=
 HA (fun base a w g ha hI=>by
  obtain⟨g',h1,h2,h3,h4⟩:=E7.freeze (hI.perm hp) hv hm
  obtain⟨us,u1,u2⟩:=DM.boxRaw h1
  have h5:DM w g' (.box b B zs::L'):=DM.rawBox u2 (by simpa using hx g' us h4 u1)
  refine⟨g',⟨ha.size,ha.defers.mono h2.le,fun j=>(ha.slot j).mono h2.le⟩,h5,h2.grow (fun b hb=>(DC hp).symm.subset hb),fun b hb hlt=>(DC hp).symm.subset (h3 b (by simpa [Ao,Res.block]using hb) hlt)⟩) k
theorem Zr {r E:Nat} {cur:Array Value} {L':List Res} {c:Code} {Q:PPost} (k:EB P N c Q ρ (.box r E (cur.toList.map .raw)::L')):EB P N c Q ρ (.raw r (.cells cur E (0,0))::L'):=
 HA (fun base a w g ha hI=>⟨g,ha,DM.rawBox hI (E5.raws g _),.refl _ _ _,fun b hb _=>by simpa [Ao,Res.block]using hb⟩) k
end
theorem R6 {P:Program} {f E sz n':Nat} {v:Value} {q0Z:List PV} {xs ys:List (List PV)} {R:List Res} {T:List Value→List Value} (hv:E7 E sz v xs R) (hys:ys.length=n') (hsz: ∀ e∈ys,e.length=sz) (hfl:JU xs.flatten)
  (hT: ∀ g us,E5 g us xs.flatten→E5 g (T us) ys.flatten)
  (key: ∀ us R₁,Hy E sz v xs.length us R₁→(∀ x∈us,x.oneCell'=true)→B2 P f q0Z R₁ (fun x L'=> ∃ v',x= .raw v'∧Hy E sz v' n' (T us) L')):
  B2 P f q0Z R (fun x L'=> ∃ v',x= .raw v'∧E7 E sz v' ys L'):=by
 unfold B2
 intro vs w g LF hvv hI
 obtain⟨us,R₁,q1,q2,q3,q4⟩:=hv.open hI
 have hbl: ∀ (A B:List Res),Ao A=Ao B→Ao (A++LF)=Ao (B++LF):=fun A B h=>by
  simp only[Ao,CC]at h ⊢;rw[h]
 have k0:=key us R₁ q2 (q1.one hfl)
 unfold B2 at k0
 refine(k0 vs w g LF hvv q3).mono ?_
 rintro e w' ⟨v',x',g',L',rfl,k2,k3,k4,k5,v2,rfl,k6⟩
 obtain⟨R2,z1,z2,z3⟩:=E7.close (xs:=ys) hys hsz k6 (hT _ _ (q1.mono k4.le)) k3
 refine⟨v',.raw v2,g',R2,rfl,k2,z2,hbl _ _ q4 ▸ k4,fun b hb hlt=>?_,v2,rfl,z1⟩
 rw[hbl _ _ z3]at hb
 rw[←hbl _ _ q4]
 exact k5 b hb hlt
theorem B2.frozenR {P:Program} {f:FuncId} {args:List PV} {E sz:Nat} {xs:List (List PV)} {R:List Res} (hm:xs.length≤maxN∧xs.length*sz≤maxN) (h:B2 P f args R (fun r L'=> ∃ v,r= .raw v∧E7 E sz v xs L')):B2 P f args R (fun r L'=>r= .slice xs .ro∧L'= []):=by
 unfold B2 at h ⊢
 intro vs w g LF hv hi
 refine(h vs w g LF hv hi).mono ?_
 rintro e w' ⟨v,x,g',L',h1,h2,h3,h4,h5,v0,rfl,hrow⟩
 obtain⟨g2,k1,k2,k3,k4⟩:=E7.freeze h3 hrow hm
 refine⟨v,_,g2,[],h1,?_,k1,h4.trans h5 k2,h5.trans h4.size k3,rfl,rfl⟩
 rw[h2.raw_inv];exact k4
theorem Uo {α:Type} (f:α→List PV) (sz:Nat) (hsz:sz≤1000) (m:List α) (h:m.length≤1000000):(m.map f).length≤maxN∧(m.map f).length*sz≤maxN:=by
 have h1:maxN=140737488355328:=rfl
 rw[AF]
 have:=Nat.mul_le_mul h hsz
 omega
end Go.Q
namespace Go.Proofs
open Go Go.Q
attribute [local irreducible] EB AW B2 FW
theorem lA: ∀ i z,Tryz.prog.info? 78=some i→i.zero=some z→ ∀ x∈z.cells,x.oneCell'=true:=by
 have h:(Tryz.prog.info? 78).map (fun i=>(i.zero.getD undef).cells.all (·.oneCell'))=some true:=by kernel_rfl
 intro i z hi hz x hx
 rw[hi]at h
 simp only[FB,hz,BO,Fh,E8]at h
 exact h x hx
theorem Tw (v:Value) (n:Nat) (us:List Value) (R:List Res) (hv:Hy 78 2 v n us R) (i:Nat) (hi:i < n) (hn:n≤1000) (h1u: ∀ x∈us,x.oneCell'=true):
  B2 Tryz.prog 93 [.raw v,.raw (.int .i64 (i:Int)),.raw (.int .i64 ((i:Int)+1))] R (fun x L'=> ∃ v',x= .raw v'∧Hy 78 2 v' (n - 1) (us.take (i*2)++us.drop ((i+1)*2)) L'):=by
 refine Bt Tryz.func93 rfl Tryz.ntmps93 (rs:= [.tmp 6]) rfl rfl fun hb LF=>?_
 have hul:=hv.len
 have e1:(i:Int)+1=((i+1:Nat):Int):=by omega
 rw[e1]
 cases hv with
 |nil o ho=>omega
 |row hlc hs hu hc=>
 rename_i r c cur
 have hc':cur.toList.take us.length=us:=by rw[hul];exact hc
 have hcs:cur.toList.length=c*2:=by simpa using hs
 have hdl:(us.drop ((i+1)*2)).length=(n - (i+1))*2:=by rw[Ab];omega
 have hncz:n*2≤c*2:=Au _ hlc
 refine wf ?_
 refine FO rfl ?_
 refine wf ?_
 refine gZ (b:=some ⟨r,0,none⟩) (i:=i) (j:=i+1) (m:=n) rfl rfl rfl rfl (by omega) (by omega) hlc fun u=>?_
 refine wf ?_
 refine A1 (fun h=>?_) (fun h=>?_)
 ·omega
 refine wf ?_
 refine FO rfl ?_
 refine wn ?_
 refine BR 6 ?_ ?_
 ·decide+kernel
 refine wf ?_
 refine E9 0 i rfl (by omega) (by omega) (by omega) hlc (fun _ e=>by cases e) (fun _=>rfl) (fun o e=>by cases e;exact⟨_,rfl⟩) (fun e=>by cases e) ?_
 refine wf ?_
 refine bX (i:=i+1) rfl rfl (by omega) hlc fun o2 ho2=>?_
 refine wf ?_
 refine bf (r:=r) (cur:=cur) (us.drop ((i+1)*2)) (fun c=>c::LF) rfl rfl (.refl _) (fun c=> .refl _) hdl (fun x hx=>h1u x (Di hx)) (by omega) hs (fun j hj=>by
  have hj':=hj
  rw[hdl]at hj'
  rw[ho2 (by rcases BC (i+1) n with h|h;exact h;rw[show n - (i+1)=0 by omega]at hj';omega)]
  have:=Fc hc' ((i+1)*2) j hj
  simpa using this) ?_
 refine wf ?_
 refine FO rfl ?_
 refine wf ?_
 have hsp:(CA cur.toList (i*2) (us.drop ((i+1)*2))).length=c*2:=by
  rw[E4 (by rw[hcs,hdl];omega),hcs]
 have en:(i - 0)+(n - (i+1))=n - 1:=by omega
 rw[en]
 refine E9 (n - 1) n rfl (by omega) hlc (by omega) (by omega) (fun o e=>by cases e;exact⟨_,rfl⟩) (fun e=>by cases e) (fun o e=>by cases e;exact⟨_,rfl⟩) (fun e=>by cases e) ?_
 refine Og lA (r:=r) (cur:=(CA cur.toList (i*2) (us.drop ((i+1)*2))).toArray) (fun c=>c::LF) rfl (by omega) (by rw[BJ,hsp];omega) (.refl _) (fun c=> .refl _) fun zs hzs=>?_
 refine AE ?_
 refine wf ?_
 have hul2:us.length=n*2:=hul
 refine⟨trivial,_,[.raw r (.cells _ 78 (0,0))],.cons (.tmp 6) .nil,.refl _,_,rfl,.row (by omega) ?_ ?_ ?_⟩
 ·rw[BJ,A7,A7,AG,Ab,hzs,show(CA cur.toList (i*2) (us.drop ((i+1)*2))).toArray.toList=CA cur.toList (i*2) (us.drop ((i+1)*2)) from rfl,hsp]
  omega
 ·rw[A7,AG,Ab];omega
 ·have e3:=TP (cur:=cur.toList) (us:=us) (zs:= []) (a:=i*2) (b:=(i+1)*2) (n:=(n - 1)*2) hc' (by omega) (by omega) (by omega) (by omega)
  rw[B1,B1]at e3
  rw[show(CA cur.toList (i*2) (us.drop ((i+1)*2))).toArray.toList=CA cur.toList (i*2) (us.drop ((i+1)*2)) from rfl,AL,show 0+(n - 1)*2=(n - 1)*2 by omega]
  rw[Dy (by rw[AG,hsp];omega)]
  exact e3
theorem Wj (v:Value) (l:List Brn) (R:List Res) (hv:E7 78 2 v (l.map eBrn) R) (i:Nat) (hi:i < l.length) (hn:l.length≤1000):
  B2 Tryz.prog 93 [.raw v,.raw (.int .i64 (i:Int)),.raw (.int .i64 ((i:Int)+1))] R (fun x L'=> ∃ v',x= .raw v'∧E7 78 2 v' ((l.eraseIdx i).map eBrn) L'):=by
 have hls: ∀ (m:List Brn),∀ e∈m.map eBrn,e.length=2:=fun m e he=>by obtain⟨a,_,rfl⟩:=AX.1 he;simp
 obtain⟨f1,_⟩:=J4 (f:=eBrn) (sz:=2) l i (by omega)
 obtain⟨_,f2⟩:=J4 (f:=eBrn) (sz:=2) l (i+1) (by omega)
 refine R6 (T:=fun us=>us.take (i*2)++us.drop ((i+1)*2)) (n':=l.length - 1) hv (by rw[AF,JB hi]) (hls _) (fun c hc=>by
  obtain⟨e,he,hce⟩:=HN.1 hc
  obtain⟨a,_,rfl⟩:=AX.1 he
  exact(inferInstance:Gd eBrn).out a c hce) (fun g us h=>?_) fun us R₁ h1 h2=>?_
 ·rw[H4,Az,C7,←f1,←f2]
  exact(h.take _).append (h.drop _)
 ·rw[AF]at h1
  exact Tw v l.length us R₁ h1 i hi hn h2
theorem ai (v:Value) (l:List Brn) (R:List Res) (hv:E7 78 2 v (l.map eBrn) R) (i:Nat) (hi:i < l.length) (hn:l.length≤1000):
  B2 Tryz.prog 93 [.raw v,.raw (.int .i64 (i:Int)),.raw (.int .i64 ((i:Int)+1))] R (fun x L'=>x= .slice ((l.eraseIdx i).map eBrn) .ro∧L'= []):=B2.frozenR (Uo eBrn 2 (by decide) _ (by rw[JB hi];omega)) (Wj v l R hv i hi hn)
theorem l7: ∀ i z,Tryz.prog.info? 80=some i→i.zero=some z→ ∀ x∈z.cells,x.oneCell'=true:=by
 have h:(Tryz.prog.info? 80).map (fun i=>(i.zero.getD undef).cells.all (·.oneCell'))=some true:=by kernel_rfl
 intro i z hi hz x hx
 rw[hi]at h
 simp only[FB,hz,BO,Fh,E8]at h
 exact h x hx
theorem Tv (v:Value) (n:Nat) (us:List Value) (R:List Res) (hv:Hy 80 3 v n us R) (i:Nat) (hi:i < n) (hn:n≤1000) (h1u: ∀ x∈us,x.oneCell'=true):
  B2 Tryz.prog 91 [.raw v,.raw (.int .i64 (i:Int)),.raw (.int .i64 ((i:Int)+1))] R (fun x L'=> ∃ v',x= .raw v'∧Hy 80 3 v' (n - 1) (us.take (i*3)++us.drop ((i+1)*3)) L'):=by
 refine Bt Tryz.func91 rfl Tryz.ntmps91 (rs:= [.tmp 6]) rfl rfl fun hb LF=>?_
 have hul:=hv.len
 have e1:(i:Int)+1=((i+1:Nat):Int):=by omega
 rw[e1]
 cases hv with
 |nil o ho=>omega
 |row hlc hs hu hc=>
 rename_i r c cur
 have hc':cur.toList.take us.length=us:=by rw[hul];exact hc
 have hcs:cur.toList.length=c*3:=by simpa using hs
 have hdl:(us.drop ((i+1)*3)).length=(n - (i+1))*3:=by rw[Ab];omega
 have hncz:n*3≤c*3:=Au _ hlc
 refine wf ?_
 refine FO rfl ?_
 refine wf ?_
 refine gZ (b:=some ⟨r,0,none⟩) (i:=i) (j:=i+1) (m:=n) rfl rfl rfl rfl (by omega) (by omega) hlc fun u=>?_
 refine wf ?_
 refine A1 (fun h=>?_) (fun h=>?_)
 ·omega
 refine wf ?_
 refine FO rfl ?_
 refine wn ?_
 refine BR 6 ?_ ?_
 ·decide+kernel
 refine wf ?_
 refine E9 0 i rfl (by omega) (by omega) (by omega) hlc (fun _ e=>by cases e) (fun _=>rfl) (fun o e=>by cases e;exact⟨_,rfl⟩) (fun e=>by cases e) ?_
 refine wf ?_
 refine bX (i:=i+1) rfl rfl (by omega) hlc fun o2 ho2=>?_
 refine wf ?_
 refine bf (r:=r) (cur:=cur) (us.drop ((i+1)*3)) (fun c=>c::LF) rfl rfl (.refl _) (fun c=> .refl _) hdl (fun x hx=>h1u x (Di hx)) (by omega) hs (fun j hj=>by
  have hj':=hj
  rw[hdl]at hj'
  rw[ho2 (by rcases BC (i+1) n with h|h;exact h;rw[show n - (i+1)=0 by omega]at hj';omega)]
  have:=Fc hc' ((i+1)*3) j hj
  simpa using this) ?_
 refine wf ?_
 refine FO rfl ?_
 refine wf ?_
 have hsp:(CA cur.toList (i*3) (us.drop ((i+1)*3))).length=c*3:=by
  rw[E4 (by rw[hcs,hdl];omega),hcs]
 have en:(i - 0)+(n - (i+1))=n - 1:=by omega
 rw[en]
 refine E9 (n - 1) n rfl (by omega) hlc (by omega) (by omega) (fun o e=>by cases e;exact⟨_,rfl⟩) (fun e=>by cases e) (fun o e=>by cases e;exact⟨_,rfl⟩) (fun e=>by cases e) ?_
 refine Og l7 (r:=r) (cur:=(CA cur.toList (i*3) (us.drop ((i+1)*3))).toArray) (fun c=>c::LF) rfl (by omega) (by rw[BJ,hsp];omega) (.refl _) (fun c=> .refl _) fun zs hzs=>?_
 refine AE ?_
 refine wf ?_
 have hul2:us.length=n*3:=hul
 refine⟨trivial,_,[.raw r (.cells _ 80 (0,0))],.cons (.tmp 6) .nil,.refl _,_,rfl,.row (by omega) ?_ ?_ ?_⟩
 ·rw[BJ,A7,A7,AG,Ab,hzs,show(CA cur.toList (i*3) (us.drop ((i+1)*3))).toArray.toList=CA cur.toList (i*3) (us.drop ((i+1)*3)) from rfl,hsp]
  omega
 ·rw[A7,AG,Ab];omega
 ·have e3:=TP (cur:=cur.toList) (us:=us) (zs:= []) (a:=i*3) (b:=(i+1)*3) (n:=(n - 1)*3) hc' (by omega) (by omega) (by omega) (by omega)
  rw[B1,B1]at e3
  rw[show(CA cur.toList (i*3) (us.drop ((i+1)*3))).toArray.toList=CA cur.toList (i*3) (us.drop ((i+1)*3)) from rfl,AL,show 0+(n - 1)*3=(n - 1)*3 by omega]
  rw[Dy (by rw[AG,hsp];omega)]
  exact e3
theorem Wi (v:Value) (l:List Tgg) (R:List Res) (hv:E7 80 3 v (l.map eTgg) R) (i:Nat) (hi:i < l.length) (hn:l.length≤1000):
  B2 Tryz.prog 91 [.raw v,.raw (.int .i64 (i:Int)),.raw (.int .i64 ((i:Int)+1))] R (fun x L'=> ∃ v',x= .raw v'∧E7 80 3 v' ((l.eraseIdx i).map eTgg) L'):=by
 have hls: ∀ (m:List Tgg),∀ e∈m.map eTgg,e.length=3:=fun m e he=>by obtain⟨a,_,rfl⟩:=AX.1 he;simp
 obtain⟨f1,_⟩:=J4 (f:=eTgg) (sz:=3) l i (by omega)
 obtain⟨_,f2⟩:=J4 (f:=eTgg) (sz:=3) l (i+1) (by omega)
 refine R6 (T:=fun us=>us.take (i*3)++us.drop ((i+1)*3)) (n':=l.length - 1) hv (by rw[AF,JB hi]) (hls _) (fun c hc=>by
  obtain⟨e,he,hce⟩:=HN.1 hc
  obtain⟨a,_,rfl⟩:=AX.1 he
  exact(inferInstance:Gd eTgg).out a c hce) (fun g us h=>?_) fun us R₁ h1 h2=>?_
 ·rw[H4,Az,C7,←f1,←f2]
  exact(h.take _).append (h.drop _)
 ·rw[AF]at h1
  exact Tv v l.length us R₁ h1 i hi hn h2
theorem ag (v:Value) (l:List Tgg) (R:List Res) (hv:E7 80 3 v (l.map eTgg) R) (i:Nat) (hi:i < l.length) (hn:l.length≤1000):
  B2 Tryz.prog 91 [.raw v,.raw (.int .i64 (i:Int)),.raw (.int .i64 ((i:Int)+1))] R (fun x L'=>x= .slice ((l.eraseIdx i).map eTgg) .ro∧L'= []):=B2.frozenR (Uo eTgg 3 (by decide) _ (by rw[JB hi];omega)) (Wi v l R hv i hi hn)
def rp (l:List Dig):List PV:= [.slice (l.map eDig) .ro]
instance :KY rp 1:=⟨fun _=>rfl⟩
instance (l:List Dig) (t:CZ):Fg (.slice (l.map eDig) t) rp l:=⟨.ro _ _⟩
theorem jL (n:Nat) (hn:n≤1000000) (v:Value) (hv:v= .slice none 0 0):B2 Tryz.prog 137 [.raw v,.raw (.int .i64 (n:Int))] [] (fun r L'=> ∃ v,r= .raw v∧E7 45 32 v [] L'):=by
 refine Bt Tryz.func137 rfl Tryz.ntmps137 (rs:= [.tmp 4]) rfl rfl fun hb LF=>?_
 rw[BL]
 refine wf ?_
 refine S7 (a:=none) (n:=0) (c:=0) (by show PV.raw v=_;rw[hv]) ?_
 refine wf ?_
 refine FO (by show PV.raw v=PV.raw (.slice none 0 0);rw[hv]) ?_
 refine wf ?_
 refine A1 (fun h=>?_) (fun h=>?_)
 ·refine wf ?_
  refine S7 (a:=none) (n:=0) (c:=0) (by show PV.raw v=_;rw[hv]) ?_
  refine wf ?_
  refine gX (by show PV.raw v=_;rw[hv]) rfl ?_
  refine wf ?_
  refine ln (m:=n) (by kernel_rfl) rfl (by show PV.raw _=PV.raw _;congr 2) (by omega) (by omega) (by omega) fun r nc zs hnc hzl=>?_
  refine wf ?_
  refine FO (by show PV.raw v=PV.raw (.slice none 0 0);rw[hv]) ?_
  refine wf ?_
  refine E9 0 0 rfl (by omega) (by omega) (by omega) hnc (fun _ e=>by cases e) (fun _=>rfl) (fun o e=>by cases e;exact⟨_,rfl⟩) (fun e=>by cases e) ?_
  refine wo ?_
  refine AE ?_
  refine Zr (r:=r) (cur:=zs.toArray) ?_
  refine wf ?_
  exact⟨trivial,_,_,.cons (.tmp 4) .nil,.refl _,_,rfl,.row rfl (by omega) (by simp) (by simpa using hzl)⟩
 ·refine wf ?_
  exact⟨trivial,_,[],.cons (.tmp 4) .nil,.refl _,_,rfl,by rw[hv];exact .nil none (by simp)⟩
theorem QP {L:List (List Dig)} {k:Nat} (hk:k < L.length):(L.take (k+1)).flatten=(L.take k).flatten++L[k]:=by
 rw[A6 hk,C7,CH,MX,B1]
theorem Va (L:List (List Dig)) (k:Nat):(L.take k).flatten.length≤L.flatten.length:=by
 have:L.flatten=(L.take k).flatten++(L.drop k).flatten:=by rw[←C7,CB]
 rw[this,A7];omega
theorem aj (L:List (List Dig)) (t:CZ) (hl:L.flatten.length≤1000000):Bj Tryz.prog 76 [.slice (L.map rp) t] (.slice (L.flatten.map eDig) .ro):=⟨B2.frozenR (Uo eDig 32 (by decide) _ hl) (by
 refine Bt Tryz.func76 rfl Tryz.ntmps76 (rs:= [.tmp 2]) rfl rfl fun hb LF=>?_
 rw[BL]
 have hll:L.length≤140737488355328:=(hb (.slice (L.map rp) t) (by simp)).slice_map
 have hle:=Va L
 refine wf ?_
 refine AV (σ:=Nat × Nat) (fun k=>k.1≤L.length∧k.2=(L.take k.1).flatten.length) (fun k=>L.length - k.1) (fun k=> [(0,.slice (L.map rp) t),(3,.raw (.int .i64 (k.2:Int))),(9,.slice (L.map rp) t),(10,.raw (.int .i64 L.length)),(11,.raw (.int .i64 k.1))]) (fun _=>LF) (0,0) ⟨by simp,by simp⟩ ⟨rfl,rfl,rfl,rfl,rfl⟩ (.refl _) ?_
 rintro⟨k,n⟩ ⟨hk,hn⟩
 dsimp only at hk hn ⊢
 refine wf ?_
 refine A1 (fun hc=>?_) (fun hc=>?_)
 ·have hlt:k < L.length:=by omega
  have e2:=congrArg List.length (QP hlt)
  rw[A7,←hn]at e2
  have e3:=hle (k+1)
  refine wf ?_
  refine⟨(k+1,n+L[k].length),⟨by dsimp only;omega,by dsimp only;omega⟩,by dsimp only;omega,⟨rfl,?_,rfl,rfl,rfl⟩,.refl _⟩
  dsimp only
  show PV.raw _=PV.raw _
  congr 2
 have hn1:n=L.flatten.length:=by rw[hn,AA (by omega)]
 clear hk hc hn
 subst hn1
 refine wf ?_
 refine Bn (xs:= [.const (Value.slice none 0 0),.tmp 23]) [] LF (f:=137) (cs:= []) (Bu _) rfl rfl (.refl _) _ (jL L.flatten.length hl _ rfl) fun r L' ⟨v,e1,hv⟩=>?_
 subst e1
 refine wf ?_
 refine wf ?_
 refine AV (σ:=Nat × Value × List Res) (fun k=>k.1≤L.length∧E7 45 32 k.2.1 ((L.take k.1).flatten.map eDig) k.2.2) (fun k=>L.length - k.1) (fun k=> [(6,.raw k.2.1),(25,.slice (L.map rp) t),(26,.raw (.int .i64 L.length)),(27,.raw (.int .i64 k.1))]) (fun k=>k.2.2++LF) (0,v,L') ⟨by simp,by simpa using hv⟩ ⟨rfl,rfl,rfl,rfl⟩ (.refl _) ?_
 clear hv
 rintro⟨k,v,R⟩ ⟨hk,hv⟩
 dsimp only at hk hv ⊢
 refine wf ?_
 refine A1 (fun hc=>?_) (fun hc=>?_)
 ·have hlt:k < L.length:=by omega
  have e2:=congrArg List.length (QP hlt)
  rw[A7]at e2
  have e3:=hle (k+1)
  refine wf ?_
  refine QU (f:=eDig) (m:=L[k]) (R:=R) (LF:=LF) (fun R'=>R'++LF) rfl rfl hv (.refl _) (fun R'=> .refl _) (by simp only[AF];omega) (by simp only[AF];omega) fun v2 R2 hv2=>?_
  rw[←Az,←QP hlt]at hv2
  refine wf ?_
  refine wf ?_
  exact⟨(k+1,v2,R2),⟨by dsimp only;omega,hv2⟩,by dsimp only;omega,⟨rfl,rfl,rfl,rfl⟩,.refl _⟩
 ·rw[AA (by omega)]at hv
  refine wf ?_
  exact⟨trivial,_,R,.cons (.tmp 2) .nil,.refl _,v,rfl,hv⟩)⟩
end Go.Proofs
