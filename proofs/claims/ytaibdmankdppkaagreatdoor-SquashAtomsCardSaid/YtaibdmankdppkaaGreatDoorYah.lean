/- Contracts: lists of digests and sets of patches (the reference's layers 16 and 17). -/
import Derived.Test.YtaibdmankdppkaaGreatDoorYag
import Derived.Test.YtaibdmankdppkaaGreatDoorYaf
import Derived.Test.YtaibdmankdppkaaGreatDoorYae
set_option linter.unusedSimpArgs false
set_option linter.unusedVariables false
set_option maxHeartbeats 8000000
namespace Go.Proofs
open Go Go.Q
attribute [local irreducible] ER AV BA Fc
instance A02 (l:List Dig) (d:Dig) (t:CF):CB Tryz.prog 49 [.slice (l.map eDig) t,.agg (eDig d)] (.raw (.bool (decide (d∈l)))):=⟨by
 refine Au Tryz.func49 Tryz.ntmps49 rfl (rs:= [.tmp 4]) rfl rfl fun hb LF=>?_
 have hlen:l.length≤140737488355328:=(hb (.slice (l.map eDig) t) (by simp)).slice_map
 refine DQ fun b=>?_
 refine Ad (σ:=Nat) (fun k=>k≤l.length∧ ∀ i (h:i < l.length),i < k→d≠l[i]) (fun k=>l.length - k) (fun k=> [(0,.slice (l.map eDig) t),(3,.raw (.pointer (some ⟨b,0,none⟩))),(5,.raw (.int .i64 k))]) (fun _=> .box b 31 (eDig d)::LF) 0 ⟨by simp,by simp⟩ ⟨rfl,rfl,rfl⟩ (.refl _) ?_
 rintro k ⟨hk,hne⟩
 refine AX ?_
 refine A6 (fun hc=>?_) (fun hc=>?_)
 ·refine AX ?_
  refine A6 (fun he=>?_) (fun he=>?_)
  ·refine AX ?_;refine B2 (.of_eq ?_)
   have:d∈l:=he ▸ AF _
   simp[this]
  ·refine AX ?_
   refine⟨k+1,⟨by omega,fun i h hi=>?_⟩,by dsimp only;omega,⟨rfl,rfl,rfl⟩,.refl _⟩
   rcases B9 i k with h'|h'
   ·exact hne i h h'
   ·have:i=k:=by omega
    subst this;exact fun e=>he e.symm
 ·refine AX ?_;refine B2 (.of_eq ?_)
  have: ¬d∈l:=fun h=>by
   obtain⟨i,hi,e⟩:=AZ.1 h
   exact hne i hi (by omega) e.symm
  simp[this]⟩
def DW (l m:List Dig):Bool:=m.all (fun x=>decide (x∈l))
instance zw (l m:List Dig) (t u:CF):CB Tryz.prog 89 [.slice (l.map eDig) t,.slice (m.map eDig) u] (.raw (.bool (DW l m))):=⟨by
 refine Au Tryz.func89 Tryz.ntmps89 rfl (rs:= [.tmp 4]) rfl rfl fun hb LF=>?_
 have hlen:m.length≤140737488355328:=(hb (.slice (m.map eDig) u) (by simp)).slice_map
 refine AX ?_
 refine Ad (σ:=Nat) (fun k=>k≤m.length∧ ∀ i (h:i < m.length),i < k→m[i]∈l) (fun k=>m.length - k) (fun k=> [(0,.slice (l.map eDig) t),(1,.slice (m.map eDig) u),(5,.raw (.int .i64 k))]) (fun _=>LF) 0 ⟨by simp,by simp⟩ ⟨rfl,rfl,rfl⟩ (.refl _) ?_
 rintro k ⟨hk,hne⟩
 refine AX ?_
 refine A6 (fun hc=>?_) (fun hc=>?_)
 ·refine AX ?_
  refine AY (fun he=>?_) (fun he=>?_)
  ·refine AX ?_;refine B2 (.of_eq ?_)
   have:DW l m=false:=by
    unfold DW;rw[J6];exact⟨_,AF _,by simpa using he⟩
   rw[this]
  ·refine AX ?_
   refine⟨k+1,⟨by omega,fun i h hi=>?_⟩,by dsimp only;omega,⟨rfl,rfl,rfl⟩,.refl _⟩
   rcases B9 i k with h'|h'
   ·exact hne i h h'
   ·have:i=k:=by omega
    subst this;exact he
 ·refine AX ?_;refine B2 (.of_eq ?_)
  have:DW l m=true:=by
   unfold DW;rw[Bg];intro x hx
   obtain⟨i,hi,rfl⟩:=AZ.1 hx
   simpa using hne i hi (by omega)
  rw[this]⟩
def ids (s:List Sto):List Dig:=s.map (·.id)
instance A00 (s:List Sto) (t:CF):CB Tryz.prog 88 [.slice (s.map eSto) t] (.slice ((ids s).map eDig) .ro):=⟨by
 refine Au Tryz.func88 Tryz.ntmps88 rfl (rs:= [.tmp 2]) rfl rfl fun hb LF=>?_
 have hlen:s.length*37≤140737488355328:=(hb (.slice (s.map eSto) t) (by simp)).slice_cells
 refine AX ?_
 refine EO 32 ?_
 refine Ad (σ:=Nat × CF) (fun k=>k.1≤s.length) (fun k=>s.length - k.1) (fun k=> [(0,.slice (s.map eSto) t),(3,.slice ((ids (s.take k.1)).map eDig) k.2),(4,.raw (.int .i64 k.1))]) (fun k=> .tok k.2 (ids (s.take k.1)).length 32::LF) (0,.nil) (by simp) ⟨rfl,rfl,rfl⟩ (.refl _) ?_
 rintro⟨k,u⟩ hk
 dsimp only at hk
 refine AX ?_
 refine A6 (fun hc=>?_) (fun hc=>?_)
 ·have hl:(ids (s.take k)).length=k:=by simp[ids];omega
  refine Hq fun v=>?_
  have e:ids (s.take (k+1))=ids (s.take k)++ [s[k].id]:=by
   rw[A7 (by omega)];simp only[ids,Ak,Ar,CU]
  refine⟨(k+1,v),by dsimp only;omega,by dsimp only;omega,⟨rfl,by dsimp only;rw[e];rfl,rfl⟩,by dsimp only;rw[e];exact .refl _⟩
 ·refine AX ?_
  refine B2 (.ros ?_)
  rw[AE (by omega)]⟩
def getS:List Sto→Dig→Option Pat
 | [],_=>none
 |x::s,d=>if x.id=d then some x.patch else getS s d
theorem gP {s:List Sto} {d:Dig} (h: ∀ i (h:i < s.length),s[i].id≠d):getS s d=none:=by
 induction s with
 |nil=>rfl
 |cons x s ih=>
  have h0:=h 0 (by simp)
  simp only[BJ]at h0
  simp only[getS,h0,if_false]
  exact ih fun i hi=>by have:=h (i+1) (by simpa using hi);simpa using this
theorem gN {s:List Sto} {d:Dig} {k:Nat} (hk:k < s.length) (h: ∀ i (h:i < s.length),i < k→s[i].id≠d) (he:s[k].id=d):getS s d=some s[k].patch:=by
 induction s generalizing k with
 |nil=>simp at hk
 |cons x s ih=>
  cases k with
  |zero=>simp only[BJ]at he ⊢;simp[getS,he]
  |succ k=>
   have h0:=h 0 (by simp) (by omega)
   simp only[BJ]at h0
   simp only[getS,h0,if_false,DF]
   exact ih (by simpa using hk) (fun i hi hik=>by have:=h (i+1) (by simpa using hi) (by omega);simpa using this) (by simpa using he)
def zh (o:Option Pat):PV:= .tuple [.agg (Bz (o.getD Pat.zero)),.raw (.bool o.isSome)]
instance A03 (s:List Sto) (d:Dig) (t:CF):CB Tryz.prog 40 [.slice (s.map eSto) t,.agg (eDig d)] (zh (getS s d)):=⟨by
 refine Au Tryz.func40 Tryz.ntmps40 rfl (rs:= [.cell 4 40,.tmp 5]) rfl rfl fun hb LF=>?_
 have hlen:s.length≤140737488355328:=(hb (.slice (s.map eSto) t) (by simp)).slice_map
 refine DQ fun b=>?_
 refine Fh fun r=>?_
 refine Ad (σ:=Nat) (fun k=>k≤s.length∧ ∀ i (h:i < s.length),i < k→s[i].id≠d) (fun k=>s.length - k) (fun k=> [(0,.slice (s.map eSto) t),(3,.raw (.pointer (some ⟨b,0,none⟩))),(4,.raw (.pointer (some ⟨r,0,none⟩))),(6,.raw (.int .i64 k))]) (fun _=> .box r 40 (Bz Pat.zero):: .box b 31 (eDig d)::LF) 0 ⟨by simp,by simp⟩ ⟨rfl,rfl,rfl,rfl⟩ (.refl _) ?_
 rintro k ⟨hk,hne⟩
 refine AX ?_
 refine A6 (fun hc=>?_) (fun hc=>?_)
 ·refine AX ?_
  refine A6 (fun he=>?_) (fun he=>?_)
  ·refine AX ?_
   refine Jk rfl (.of_eq ?_)
   rw[gN (by omega) hne he];rfl
  ·refine AX ?_
   refine⟨k+1,⟨by omega,fun i h hi=>?_⟩,by dsimp only;omega,⟨rfl,rfl,rfl,rfl⟩,.refl _⟩
   rcases B9 i k with h'|h'
   ·exact hne i h h'
   ·have:i=k:=by omega
    subst this;exact he
 ·refine AX ?_
  refine Jk rfl (.of_eq ?_)
  rw[gP fun i h=>hne i h (by omega)];rfl⟩
instance zD (l:List Dig) (d:Dig) (t:CF) [hs:B1 (l.length≤1000000)]:CB Tryz.prog 72 [.slice (l.map eDig) t,.agg (eDig d)] (.slice ((FT l d).map eDig) .ro):=⟨by
 refine Au Tryz.func72 Tryz.ntmps72 rfl (rs:= [.tmp 4]) rfl rfl fun hb LF=>?_
 have hlen:l.length≤1000000:=hs.out
 refine DQ fun b=>?_
 refine Ad (σ:=Nat) (fun k=>k≤l.length∧ ∀ i (h:i < l.length),i < k→Dig.lt l[i] d) (fun k=>l.length - k) (fun k=> [(0,.slice (l.map eDig) t),(3,.raw (.pointer (some ⟨b,0,none⟩))),(5,.raw (.int .i64 k))]) (fun _=> .box b 31 (eDig d)::LF) 0 ⟨by simp,by simp⟩ ⟨rfl,rfl,rfl⟩ (.refl _) ?_
 rintro k ⟨hk,hne⟩
 refine AX ?_
 refine Av (fun hp=>?_) (fun hp=>?_)
 ·have hc:(k:Int) < l.length:=BB hp
  refine CK ?_
  refine A6 (fun h1=>?_) (fun h1=>?_)
  ·refine AX ?_
   refine⟨k+1,⟨by omega,fun i h hi=>?_⟩,by dsimp only;omega,⟨rfl,rfl,rfl⟩,.refl _⟩
   rcases B9 i k with h'|h'
   ·exact hne i h h'
   ·have:i=k:=by omega
    subst this;exact h1
  ·refine AX ?_
   refine A6 (fun h2=>?_) (fun h2=>?_)
   ·refine AX ?_
    refine B2 (.ros ?_)
    rw[Q6 hk hne (fun _=>h1),if_pos ⟨by omega,h2⟩]
   ·refine Hq fun t1=>?_
    refine IJ fun t2=>?_
    refine IJ fun t3=>?_
    refine B2 (.ros ?_)
    rw[Q6 hk hne (fun _=>h1),if_neg (fun⟨_,e⟩=>h2 e)]
    simp
 ·have hc: ¬(k:Int) < l.length:=Bp hp
  refine CK ?_
  refine IJ fun t1=>?_
  refine IJ fun t2=>?_
  refine IJ fun t3=>?_
  refine B2 (.ros ?_)
  rw[Q6 hk hne (fun h=>absurd (show(k:Int) < l.length by omega) hc),if_neg (fun⟨h,_⟩=>hc (by omega))]
  simp⟩
def TS (k:Int):Int:=if k=7 then 0 else k
def IV (k:Int):Bool:=decide (k=5)||decide (k=6)
def FM (x:Ident):Bool:=!decide (x.patch=Dig.zero)
def rDirectory (x:Atm):Bool:=decide (x.kind=1)&&decide (x.type=4)
def Di (x:Ident) (n:Int):Bool:=if x.patch=Dig.zero then decide (0≤x.n)&&decide (x.n < n)else decide (0≤x.n)&&decide (x.n < 100000)
def EL (k:Int) (x:Atm):Bool:=if x.kind≠1 then false else if IV k then decide (x.type=1)else !decide (k=4)||decide (x.type=2)||decide (x.type=3)
def Jb (f:Ident) (x:Atm):Bool:=decide (x.kind=5)&&decide (x.file=f)
instance yl:CB Tryz.prog 298 [] (.agg (eIdent Ident.zero)):=⟨by
 refine Au Tryz.func298 Tryz.ntmps298 rfl (rs:= [.cell 0 65]) rfl rfl fun hb LF=>?_
 refine DQ fun b=>?_
 exact Fo rfl (.refl _)⟩
instance zF:CB Tryz.prog 119 [] (.agg (eIdent ⟨Dig.zero,-1⟩)):=⟨by
 refine Au Tryz.func119 Tryz.ntmps119 rfl (rs:= [.cell 0 65]) rfl rfl fun hb LF=>?_
 refine DQ fun b=>?_
 exact Fo rfl (.refl _)⟩
instance yV (k:Int):CB Tryz.prog 263 [.raw (.int .i64 k)] (.raw (.int .i64 (TS k))):=⟨by
 refine Au Tryz.func263 Tryz.ntmps263 rfl (rs:= [.tmp 2]) rfl rfl fun hb LF=>?_
 refine AX ?_
 refine A6 (fun h=>?_) (fun h=>?_)
 ·refine AX ?_
  refine B2 (.of_eq ?_)
  simp[TS,h]
 ·refine AX ?_
  refine B2 (.of_eq ?_)
  simp[TS,h]⟩
instance yb (k:Int):CB Tryz.prog 261 [.raw (.int .i64 k)] (.raw (.bool (IV k))):=⟨by
 refine Au Tryz.func261 Tryz.ntmps261 rfl (rs:= [.tmp 2]) rfl rfl fun hb LF=>?_
 refine AX ?_
 refine Av (fun hp=>?_) (fun hp=>?_)
 ·refine CK ?_
  refine B2 (.of_eq ?_)
  simp_all[IV]
 ·refine CK ?_
  refine B2 (.of_eq ?_)
  simp_all[IV]⟩
instance xO (x:Ident):CB Tryz.prog 206 [.agg (eIdent x)] (.raw (.bool (FM x))):=⟨by
 refine Au Tryz.func206 Tryz.ntmps206 rfl (rs:= [.tmp 2]) rfl rfl fun hb LF=>?_
 refine DQ fun b=>?_
 refine B2 (.of_eq ?_)
 rfl⟩
instance px (x:Atm):CB Tryz.prog 209 [.agg (eAtm x)] (.raw (.bool (rDirectory x))):=⟨by
 refine Au Tryz.func209 Tryz.ntmps209 rfl (rs:= [.tmp 2]) rfl rfl fun hb LF=>?_
 refine DQ fun b=>?_
 refine Av (fun hp=>?_) (fun hp=>?_)
 ·refine CK ?_
  refine B2 (.of_eq ?_)
  simp_all[rDirectory]
 ·refine CK ?_
  refine B2 (.of_eq ?_)
  simp_all[rDirectory]⟩
instance uu (x:Ident) (n:Int):CB Tryz.prog 300 [.agg (eIdent x),.raw (.int .i64 n)] (.raw (.bool (Di x n))):=⟨by
 refine Au Tryz.func300 Tryz.ntmps300 rfl (rs:= [.tmp 4]) rfl rfl fun hb LF=>?_
 refine DQ fun b=>?_
 refine A6 (fun h=>?_) (fun h=>?_)
 ·refine AX ?_
  refine Av (fun hp=>?_) (fun hp=>?_)
  ·refine CK ?_
   refine B2 (.of_eq ?_)
   simp_all[Di]<;>omega
  ·refine CK ?_
   refine B2 (.of_eq ?_)
   simp_all[Di]<;>omega
 ·refine AX ?_
  refine Av (fun hp=>?_) (fun hp=>?_)
  ·refine CK ?_
   refine B2 (.of_eq ?_)
   simp_all[Di]<;>omega
  ·refine CK ?_
   refine B2 (.of_eq ?_)
   simp_all[Di]<;>omega⟩
instance sV (k:Int) (x:Atm):CB Tryz.prog 208 [.raw (.int .i64 k),.agg (eAtm x)] (.raw (.bool (EL k x))):=⟨by
 refine Au Tryz.func208 Tryz.ntmps208 rfl (rs:= [.tmp 4]) rfl rfl fun hb LF=>?_
 refine DQ fun b=>?_
 refine AY (fun h=>?_) (fun h=>?_)
 ·refine AX ?_
  refine B2 (.of_eq ?_)
  simp[EL,h]
 ·refine AX ?_
  refine AW (fun h2=>?_) (fun h2=>?_)
  ·refine AX ?_
   refine B2 (.of_eq ?_)
   simp[EL,h,h2]
  ·refine AX ?_
   refine Av (fun hp=>?_) (fun hp=>?_)
   ·refine CK ?_
    refine B2 (.of_eq ?_)
    simp_all[EL]
   ·refine CK ?_
    refine Av (fun hq=>?_) (fun hq=>?_)
    ·refine CK ?_
     refine B2 (.of_eq ?_)
     simp_all[EL]
    ·refine CK ?_
     refine B2 (.of_eq ?_)
     simp_all[EL]⟩
instance vB (f:Ident) (x:Atm):CB Tryz.prog 262 [.agg (eIdent f),.agg (eAtm x)] (.raw (.bool (Jb f x))):=⟨by
 refine Au Tryz.func262 Tryz.ntmps262 rfl (rs:= [.tmp 4]) rfl rfl fun hb LF=>?_
 refine DQ fun b=>?_
 refine Fh fun b2=>?_
 refine Av (fun hp=>?_) (fun hp=>?_)
 ·refine CK ?_
  refine B2 (.of_eq ?_)
  simp_all[Jb]
 ·refine CK ?_
  refine B2 (.of_eq ?_)
  simp_all[Jb]⟩
def HO (k:Int) (f:Ident) (x:Atm):Bool:=decide (TS k=0)||decide (x.kind=TS k)&&decide (x.file=f)
def J7 (x:Ident) (own:List Atm) (fits:Bool):Int:=if Di x own.length=false then 7 else if x.patch=Dig.zero∧fits=false then 8 else 0
def Lv (own:List Atm) (x:Ident):Atm:=if x.patch=Dig.zero∧0≤x.n then own.getD x.n.toNat Atm.zero else Atm.zero
def HP (x:Ident) (d:Dig):Ident:=if 0≤x.n∧x.patch=Dig.zero then { x with patch:=d }else x
def Cr (x:Ident) (d:Dig):Ident:=if x.patch=Dig.zero∧0≤x.n then { x with patch:=d }else x
instance sU (k:Int) (f:Ident) (x:Atm):CB Tryz.prog 211 [.raw (.int .i64 k),.agg (eIdent f),.agg (eAtm x)] (.raw (.bool (HO k f x))):=⟨by
 refine Au Tryz.func211 Tryz.ntmps211 rfl (rs:= [.tmp 6]) rfl rfl fun hb LF=>?_
 refine DQ fun b=>?_
 refine Fh fun b2=>?_
 refine Av (fun hp=>?_) (fun hp=>?_)
 ·refine CK ?_
  refine B2 (.of_eq ?_)
  simp_all[HO]
 ·refine CK ?_
  refine Av (fun hq=>?_) (fun hq=>?_)
  ·refine CK ?_
   refine B2 (.of_eq ?_)
   simp_all[HO]
  ·refine CK ?_
   refine B2 (.of_eq ?_)
   simp_all[HO]⟩
instance zi (x:Ident) (own:List Atm) (t:CF) (fits:Bool):CB Tryz.prog 278 [.agg (eIdent x),.slice (own.map eAtm) t,.raw (.bool fits)] (.raw (.int .i64 (J7 x own fits))):=⟨by
 refine Au Tryz.func278 Tryz.ntmps278 rfl (rs:= [.tmp 6]) rfl rfl fun hb LF=>?_
 refine DQ fun b=>?_
 refine AW (fun h=>?_) (fun h=>?_)
 ·refine AX ?_
  refine B2 (.of_eq ?_)
  simp_all[J7]
 ·refine AX ?_
  refine Av (fun hp=>?_) (fun hp=>?_)
  ·refine CK ?_
   refine AW (fun h2=>?_) (fun h2=>?_)
   ·refine AX ?_
    refine B2 (.of_eq ?_)
    simp_all[J7]
   ·refine AX ?_
    refine B2 (.of_eq ?_)
    simp_all[J7]
  ·refine CK ?_
   refine B2 (.of_eq ?_)
   simp_all[J7]⟩
instance zm (own:List Atm) (t:CF) (x:Ident):CB Tryz.prog 279 [.slice (own.map eAtm) t,.agg (eIdent x)] (.agg (eAtm (Lv own x))):=⟨by
 refine Au Tryz.func279 Tryz.ntmps279 rfl (rs:= [.cell 4 125]) rfl rfl fun hb LF=>?_
 refine DQ fun b=>?_
 refine Fh fun b2=>?_
 refine Av (fun hp=>?_) (fun hp=>?_)
 ·refine CK ?_
  refine Av (fun hq=>?_) (fun hq=>?_)
  ·refine CK ?_
   refine A6 (fun h=>?_) (fun h=>?_)
   ·have h0:0≤x.n:=BB hq
    refine AX ?_
    refine Fo rfl (.of_eq ?_)
    have:x.n.toNat < own.length:=by omega
    simp_all[Lv]
   ·refine AX ?_
    refine Fo rfl (.of_eq ?_)
    have h0:0≤x.n:=BB hq
    have: ¬x.n.toNat < own.length:=by omega
    simp_all[Lv]
  ·refine CK ?_
   refine Fo rfl (.of_eq ?_)
   have h0: ¬0≤x.n:=Bp hq
   simp[Lv,h0]
 ·refine CK ?_
  refine Fo rfl (.of_eq ?_)
  simp_all[Lv]⟩
instance s8 (x:Ident) (d:Dig):CB Tryz.prog 212 [.agg (eIdent x),.agg (eDig d)] (.agg (eIdent (HP x d))):=⟨by
 refine Au Tryz.func212 Tryz.ntmps212 rfl (rs:= [.cell 4 65]) rfl rfl fun hb LF=>?_
 refine DQ fun b=>?_
 refine Fh fun b2=>?_
 refine Fh fun b3=>?_
 refine Av (fun hp=>?_) (fun hp=>?_)
 ·refine CK ?_
  refine A6 (fun h=>?_) (fun h=>?_)
  ·refine AX ?_
   refine Fo rfl (.of_eq ?_)
   simp_all[HP]
  ·refine AX ?_
   refine Fo rfl (.of_eq ?_)
   simp_all[HP]
 ·refine CK ?_
  refine Fo rfl (.of_eq ?_)
  have h0: ¬0≤x.n:=Bp hp
  simp[HP,h0]⟩
instance wM (x:Ident) (d:Dig):CB Tryz.prog 294 [.agg (eIdent x),.agg (eDig d)] (.agg (eIdent (Cr x d))):=⟨by
 refine Au Tryz.func294 Tryz.ntmps294 rfl (rs:= [.cell 4 65]) rfl rfl fun hb LF=>?_
 refine DQ fun b=>?_
 refine Fh fun b2=>?_
 refine Fh fun b3=>?_
 refine Av (fun hp=>?_) (fun hp=>?_)
 ·refine CK ?_
  refine A6 (fun h=>?_) (fun h=>?_)
  ·refine AX ?_
   refine Fo rfl (.of_eq ?_)
   simp_all[Cr]
  ·refine AX ?_
   refine Fo rfl (.of_eq ?_)
   simp[Cr,h]
 ·refine CK ?_
  refine Fo rfl (.of_eq ?_)
  simp_all[Cr]⟩
def Hh (a b:Ident):Int:=if Ep a.patch b.patch≠0 then Ep a.patch b.patch else if a.n < b.n then -1 else if b.n < a.n then 1 else 0
instance sY (a b:Ident):CB Tryz.prog 182 [.agg (eIdent a),.agg (eIdent b)] (.raw (.int .i64 (Hh a b))):=⟨by
 refine Au Tryz.func182 Tryz.ntmps182 rfl (rs:= [.tmp 4]) rfl rfl fun hb LF=>?_
 refine DQ fun p=>?_
 refine Fh fun q=>?_
 refine AY (fun h=>?_) (fun h=>?_)
 ·refine AX ?_
  refine B2 (.of_eq ?_)
  simp[Hh,h]
 ·refine AX ?_
  refine A6 (fun h1=>?_) (fun h1=>?_)
  ·refine AX ?_
   refine B2 (.of_eq ?_)
   simp[Hh,h,h1]
  ·refine AX ?_
   refine A6 (fun h2=>?_) (fun h2=>?_)
   ·refine AX ?_
    refine B2 (.of_eq ?_)
    simp[Hh,h,h1,h2]
   ·refine AX ?_
    refine B2 (.of_eq ?_)
    simp[Hh,h,h1,h2]⟩
def Pf (l:List Ident):Bool:=(List.range (l.length - 1)).all fun i=>decide (Hh (l.getD i Ident.zero) (l.getD (i+1) Ident.zero) < 0)
instance qd (l:List Ident) (t:CF):CB Tryz.prog 277 [.slice (l.map eIdent) t] (.raw (.bool (Pf l))):=⟨by
 refine Au Tryz.func277 Tryz.ntmps277 rfl (rs:= [.tmp 2]) rfl rfl fun hb LF=>?_
 have hlen:l.length≤140737488355328:=(hb (.slice (l.map eIdent) t) (by simp)).slice_map
 refine AX ?_
 refine Ad (σ:=Nat) (fun k=>1≤k∧ ∀ i,i+1 < k→i+1 < l.length→Hh (l.getD i Ident.zero) (l.getD (i+1) Ident.zero) < 0) (fun k=>l.length - k) (fun k=> [(0,.slice (l.map eIdent) t),(3,.raw (.int .i64 k))]) (fun _=>LF) 1 ⟨by simp,fun i h=>by omega⟩ ⟨rfl,rfl⟩ (.refl _) ?_
 rintro k ⟨hk,he⟩
 refine AX ?_
 refine A6 (fun hc=>?_) (fun hc=>?_)
 ·obtain⟨j,rfl⟩: ∃ j,k=j+1:=⟨k - 1,by omega⟩
  refine AX ?_
  have e:((↑(j+1):Int) - 1).toNat=j:=by omega
  have hj:j+1 < l.length:=by omega
  refine A6 (fun h1=>?_) (fun h1=>?_)
  ·refine AX ?_
   refine B2 (.of_eq ?_)
   simp only[e]at h1
   have:Pf l=false:=by
    unfold Pf
    rw[J6]
    refine⟨j,Br.2 (by omega),?_⟩
    simp only[AB,C0,AO hj,AO (show j < l.length by omega),BU]
    omega
   rw[this]
  ·refine AX ?_
   simp only[e]at h1
   refine⟨j+1+1,⟨by omega,fun i h2 h3=>?_⟩,by dsimp only;omega,⟨rfl,rfl⟩,.refl _⟩
   rcases B9 (i+1) (j+1)with h'|h'
   ·exact he i h' h3
   ·have:i=j:=by omega
    subst this
    simp only[C0,AO hj,AO (show i < l.length by omega),BU]
    omega
 ·refine AX ?_
  refine B2 (.of_eq ?_)
  have:Pf l=true:=by
   unfold Pf
   rw[Bg]
   intro i hi
   rw[Br]at hi
   exact BR (he i (by omega) (by omega))
  rw[this]⟩
theorem Y8 {P:Program} {E:Nat} {α:Type} {ev:α→PV} {a0:α} {v:Value} (h:(P.info? E).bind (·.zero)=some v) (hv: ∀ g,VR g v (ev a0)):ZV P E ev a0:=⟨by
 obtain⟨i,h1,h2⟩:=Dw.1 h
 exact⟨i,v,h1,h2,hv⟩⟩
instance :NG Tryz.prog 121 31 4:=⟨by kernel_rfl⟩
instance :NG Tryz.prog 119 31 24:=⟨by kernel_rfl⟩
instance :NG Tryz.prog 168 31 68:=⟨by kernel_rfl⟩
instance :NG Tryz.prog 203 3 3:=⟨by kernel_rfl⟩
instance :NG Tryz.prog 226 3 228:=⟨by kernel_rfl⟩
instance :ZV Tryz.prog 4 vBool false:=Y8 (v:= .bool false) (by kernel_rfl) fun _=> .raw _
instance :ZV Tryz.prog 3 vInt 0:=Y8 (v:= .int .i64 0) (by kernel_rfl) fun _=> .raw _
instance :ZV Tryz.prog 24 (Jr eDig) []:=Y8 (v:= .slice none 0 0) (by kernel_rfl) fun _=> .nilR
instance :ZV Tryz.prog 68 (Jr eAtm) []:=Y8 (v:= .slice none 0 0) (by kernel_rfl) fun _=> .nilR
instance :ZV Tryz.prog 228 vId (.raw .nilFunc):=Y8 (v:= .nilFunc) (by kernel_rfl) fun _=> .raw _
instance :LH Tryz.prog 121 kDig vBool:=⟨trivial⟩
instance :LH Tryz.prog 119 kDig (Jr eDig):=⟨trivial⟩
instance :LH Tryz.prog 168 kDig (Jr eAtm):=⟨trivial⟩
instance :LH Tryz.prog 203 kInt vInt:=⟨trivial⟩
instance :LH Tryz.prog 226 kInt vId:=⟨trivial⟩
theorem LZ {P:Program} {T:Nat} {v:Value} {x:PV} (h:(P.info? T).bind (·.zero)=some v) (hc:v.cells= #[v]) (hv: ∀ g,VR g v x):Cp P T [x]:=⟨by
 obtain⟨i,h1,h2⟩:=Dw.1 h
 exact⟨i,v,[v],h1,h2,hc,fun g=> .cons (hv g) (.nil g)⟩⟩
instance :Cp Tryz.prog 3 [.raw (.int .i64 0)]:=LZ (v:= .int .i64 0) (by kernel_rfl) rfl fun _=> .raw _
instance :Cp Tryz.prog 4 [.raw (.bool false)]:=LZ (v:= .bool false) (by kernel_rfl) rfl fun _=> .raw _
instance :Cp Tryz.prog 24 [.slice [] .nil]:=LZ (v:= .slice none 0 0) (by kernel_rfl) rfl fun _=> .nilN none (by simp)
instance :Cp Tryz.prog 68 [.slice [] .nil]:=LZ (v:= .slice none 0 0) (by kernel_rfl) rfl fun _=> .nilN none (by simp)
instance :Cp Tryz.prog 90 [.slice [] .nil]:=LZ (v:= .slice none 0 0) (by kernel_rfl) rfl fun _=> .nilN none (by simp)
instance :Cp Tryz.prog 121 [.raw (.map none)]:=LZ (v:= .map none) (by kernel_rfl) rfl fun _=> .raw _
instance :Cp Tryz.prog 119 [.raw (.map none)]:=LZ (v:= .map none) (by kernel_rfl) rfl fun _=> .raw _
instance (a b:List UInt8) (t u:CF):aR Tryz.prog 180 [.slice (a.map eBy) t,.slice (b.map eBy) u] (.raw (.int .i64 (OB a b))):=Xk Tryz.func180 (by kernel_rfl) (by kernel_rfl) (by kernel_rfl) (by kernel_rfl) a b t u
instance (s:Str) (c:Int):aR Tryz.prog 301 [.str s,.raw (.int .u8 c)] (.raw (.int .i64 (Lib.indexByte s c.toNat.toUInt8))):=UM Tryz.func301 (by kernel_rfl) (by kernel_rfl) (by kernel_rfl) (by kernel_rfl) s c
instance sA (a b:List UInt8) (t u:CF):CB Tryz.prog 126 [.slice (a.map eBy) t,.slice (b.map eBy) u] (.raw (.int .i64 (OB a b))):=⟨by
 refine Au Tryz.func126 Tryz.ntmps126 rfl (rs:= [.tmp 4]) rfl rfl fun hb LF=>?_
 refine wf ?_
 exact B2 (.refl _)⟩
instance Z7 (a b:Dig):CB Tryz.prog 61 [.agg (eDig a),.agg (eDig b)] (.raw (.int .i64 (Ep a b))):=⟨by
 refine Au Tryz.func61 Tryz.ntmps61 rfl (rs:= [.tmp 4]) rfl rfl fun hb LF=>?_
 refine wf ?_
 refine B2 (.of_eq ?_)
 rfl⟩
instance xk (a:Int):CB Tryz.prog 273 [.raw (.int .i64 a)] (.raw (.bool false)):=⟨by
 refine Au Tryz.func273 Tryz.ntmps273 rfl (rs:= [.tmp 2]) rfl rfl fun hb LF=>?_
 refine wf ?_
 refine B2 (.of_eq ?_)
 simp⟩
def Xo (a b:Int):Int:=if a < b then -1 else if b < a then 1 else 0
instance vq (a b:Int):CB Tryz.prog 215 [.raw (.int .i64 a),.raw (.int .i64 b)] (.raw (.int .i64 (Xo a b))):=⟨by
 refine Au Tryz.func215 Tryz.ntmps215 rfl (rs:= [.tmp 4]) rfl rfl fun hb LF=>?_
 refine wf ?_
 refine A6 (fun h=>?_) (fun h=>?_)
 ·refine wf ?_
  refine B2 (.of_eq ?_)
  rw[Xo,if_pos h]
 refine wf ?_
 refine A6 (fun h2=>?_) (fun h2=>?_)
 ·refine wf ?_
  refine B2 (.of_eq ?_)
  rw[Xo,if_neg h,if_pos h2]
 ·refine wf ?_
  refine B2 (.of_eq ?_)
  rw[Xo,if_neg h,if_neg h2]⟩
instance XC (a b:Ident):CB Tryz.prog 159 [.agg (eIdent a),.agg (eIdent b)] (.raw (.int .i64 (Hh a b))):=⟨by
 refine Au Tryz.func159 Tryz.ntmps159 rfl (rs:= [.tmp 4]) rfl rfl fun hb LF=>?_
 refine wf ?_
 have e:OB a.patch.bs b.patch.bs=Ep a.patch b.patch:=rfl
 rw[e]
 refine AY (fun h=>?_) (fun h=>?_)
 ·refine wf ?_
  refine B2 (.of_eq ?_)
  rw[Hh,if_pos h]
 ·refine wf ?_
  refine B2 (.of_eq ?_)
  rw[Hh,if_neg (by simp[h])];rfl⟩
def Hc (s:List Sto) (l:List Dig):List Sto:=s.filter fun x=>decide (x.id∈l)
theorem Ig {α:Type} {l:List α} {q:α→Bool} (h: ∀ i (h:i < l.length),q l[i]=true):l.all q=true:=by
 rw[Bg];intro x hx
 obtain⟨i,hi,rfl⟩:=AZ.1 hx
 exact h i hi
theorem HY {α:Type} {l:List α} {q:α→Bool} {k:Nat} (hk:k < l.length) (h:q l[k]=false):l.all q=false:=by
 rw[J6];exact⟨_,AF hk,by simp[h]⟩
theorem Lh {α:Type} {l:List α} {q:α→Bool} {k:Nat} (he: ∀ i (h:i < l.length),i < k→q l[i]=true) (hk:k < l.length) (h:q l[k]=true): ∀ i (h:i < l.length),i < k+1→q l[i]=true:=fun i hi hik=>by
 rcases B9 i k with h'|h'
 ·exact he i hi h'
 ·have:i=k:=by omega
  subst this;exact h
def Oc (m n:Int) (c:UInt8):Bool:=!decide ((c.toNat:Int)=m)&&!decide ((c.toNat:Int)=n)
def Pe (s:Str) (m n:Int):Bool:=s.all (Oc m n)
instance y8 (s:Str) (m n:Int):CB Tryz.prog 305 [.str s,.raw (.int .u8 m),.raw (.int .u8 n)] (.raw (.bool (Pe s m n))):=⟨by
 refine Au Tryz.func305 Tryz.ntmps305 rfl (rs:= [.tmp 6]) rfl rfl fun hb LF=>?_
 have hlen:s.length≤140737488355328:=(hb (.str s) (by simp)).str_len
 refine AX ?_
 refine Ad (σ:=Nat) (fun k=>k≤s.length∧ ∀ i (h:i < s.length),i < k→Oc m n s[i]=true) (fun k=>s.length - k) (fun k=> [(0,.str s),(1,.raw (.int .u8 m)),(2,.raw (.int .u8 n)),(7,.raw (.int .i64 k))]) (fun _=>LF) 0 ⟨by simp,by simp⟩ ⟨rfl,rfl,rfl,rfl⟩ (.refl _) ?_
 rintro k ⟨hk,he⟩
 refine AX ?_
 refine A6 (fun hc=>?_) (fun hc=>?_)
 ·have hlt:k < s.length:=by omega
  refine AX ?_
  repeat' (first|(refine A6 (fun h=>?_) (fun h=>?_)<;>refine AX ?_)|(refine AY (fun h=>?_) (fun h=>?_)<;>refine AX ?_)|(refine AW (fun h=>?_) (fun h=>?_)<;>refine AX ?_)|(refine Av (fun h=>?_) (fun h=>?_)<;>(have h2:=h;(try simp only[AB,A8,AJ,AL]at h2);refine CK ?_)))
  all_goals first
   |(refine⟨k+1,⟨by omega,Lh he hlt ?_⟩,by dsimp only;omega,⟨rfl,rfl,rfl,rfl⟩,.refl _⟩;simp_all[Oc];done)
   |(refine B2 (.of_eq ?_);have:Oc m n s[k]=false:=by simp_all[Oc]
     rw[Pe,HY hlt this])
 ·refine AX ?_
  refine B2 (.of_eq ?_)
  rw[Pe,Ig fun i h=>he i h (by omega)]⟩
end Go.Proofs
