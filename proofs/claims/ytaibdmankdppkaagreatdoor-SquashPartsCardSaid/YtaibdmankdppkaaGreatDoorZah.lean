/- Contracts: lists of digests and sets of patches (the reference's layers 16 and 17). -/
import Derived.Test.YtaibdmankdppkaaGreatDoorZag
import Derived.Test.YtaibdmankdppkaaGreatDoorZaf
import Derived.Test.YtaibdmankdppkaaGreatDoorZae
set_option linter.unusedSimpArgs false
set_option linter.unusedVariables false
set_option maxHeartbeats 8000000
namespace Go.Proofs
open Go Go.Q
attribute [local irreducible] ER AU BA Fk
instance A0A (l:List Dig) (d:Dig) (t:CC):C8 Tryz.prog 49 [.slice (l.map eDig) t,.agg (eDig d)] (.raw (.bool (decide (d∈l)))):=⟨by
 refine Av Tryz.func49 Tryz.ntmps49 rfl (rs:= [.tmp 4]) rfl rfl fun hb LF=>?_
 have hlen:l.length≤140737488355328:=(hb (.slice (l.map eDig) t) (by simp)).slice_map
 refine DU fun b=>?_
 refine Ab (σ:=Nat) (fun k=>k≤l.length∧ ∀ i (h:i < l.length),i < k→d≠l[i]) (fun k=>l.length - k) (fun k=> [(0,.slice (l.map eDig) t),(3,.raw (.pointer (some ⟨b,0,none⟩))),(5,.raw (.int .i64 k))]) (fun _=> .box b 31 (eDig d)::LF) 0 ⟨by simp,by simp⟩ ⟨rfl,rfl,rfl⟩ (.refl _) ?_
 rintro k ⟨hk,hne⟩
 refine AZ ?_
 refine A6 (fun hc=>?_) (fun hc=>?_)
 ·refine AZ ?_
  refine A6 (fun he=>?_) (fun he=>?_)
  ·refine AZ ?_;refine B1 (.of_eq ?_)
   have:d∈l:=he ▸ AB _
   simp[this]
  ·refine AZ ?_
   refine⟨k+1,⟨by omega,fun i h hi=>?_⟩,by dsimp only;omega,⟨rfl,rfl,rfl⟩,.refl _⟩
   rcases B8 i k with h'|h'
   ·exact hne i h h'
   ·have:i=k:=by omega
    subst this;exact fun e=>he e.symm
 ·refine AZ ?_;refine B1 (.of_eq ?_)
  have: ¬d∈l:=fun h=>by
   obtain⟨i,hi,e⟩:=AY.1 h
   exact hne i hi (by omega) e.symm
  simp[this]⟩
def DI (l m:List Dig):Bool:=m.all (fun x=>decide (x∈l))
instance A05 (l m:List Dig) (t u:CC):C8 Tryz.prog 89 [.slice (l.map eDig) t,.slice (m.map eDig) u] (.raw (.bool (DI l m))):=⟨by
 refine Av Tryz.func89 Tryz.ntmps89 rfl (rs:= [.tmp 4]) rfl rfl fun hb LF=>?_
 have hlen:m.length≤140737488355328:=(hb (.slice (m.map eDig) u) (by simp)).slice_map
 refine AZ ?_
 refine Ab (σ:=Nat) (fun k=>k≤m.length∧ ∀ i (h:i < m.length),i < k→m[i]∈l) (fun k=>m.length - k) (fun k=> [(0,.slice (l.map eDig) t),(1,.slice (m.map eDig) u),(5,.raw (.int .i64 k))]) (fun _=>LF) 0 ⟨by simp,by simp⟩ ⟨rfl,rfl,rfl⟩ (.refl _) ?_
 rintro k ⟨hk,hne⟩
 refine AZ ?_
 refine A6 (fun hc=>?_) (fun hc=>?_)
 ·refine AZ ?_
  refine AX (fun he=>?_) (fun he=>?_)
  ·refine AZ ?_;refine B1 (.of_eq ?_)
   have:DI l m=false:=by
    unfold DI;rw[JC];exact⟨_,AB _,by simpa using he⟩
   rw[this]
  ·refine AZ ?_
   refine⟨k+1,⟨by omega,fun i h hi=>?_⟩,by dsimp only;omega,⟨rfl,rfl,rfl⟩,.refl _⟩
   rcases B8 i k with h'|h'
   ·exact hne i h h'
   ·have:i=k:=by omega
    subst this;exact he
 ·refine AZ ?_;refine B1 (.of_eq ?_)
  have:DI l m=true:=by
   unfold DI;rw[Bc];intro x hx
   obtain⟨i,hi,rfl⟩:=AY.1 hx
   simpa using hne i hi (by omega)
  rw[this]⟩
def ids (s:List Sto):List Dig:=s.map (·.id)
instance A08 (s:List Sto) (t:CC):C8 Tryz.prog 88 [.slice (s.map eSto) t] (.slice ((ids s).map eDig) .ro):=⟨by
 refine Av Tryz.func88 Tryz.ntmps88 rfl (rs:= [.tmp 2]) rfl rfl fun hb LF=>?_
 have hlen:s.length*37≤140737488355328:=(hb (.slice (s.map eSto) t) (by simp)).slice_cells
 refine AZ ?_
 refine EO 32 ?_
 refine Ab (σ:=Nat × CC) (fun k=>k.1≤s.length) (fun k=>s.length - k.1) (fun k=> [(0,.slice (s.map eSto) t),(3,.slice ((ids (s.take k.1)).map eDig) k.2),(4,.raw (.int .i64 k.1))]) (fun k=> .tok k.2 (ids (s.take k.1)).length 32::LF) (0,.nil) (by simp) ⟨rfl,rfl,rfl⟩ (.refl _) ?_
 rintro⟨k,u⟩ hk
 dsimp only at hk
 refine AZ ?_
 refine A6 (fun hc=>?_) (fun hc=>?_)
 ·have hl:(ids (s.take k)).length=k:=by simp[ids];omega
  refine Hz fun v=>?_
  have e:ids (s.take (k+1))=ids (s.take k)++ [s[k].id]:=by
   rw[A7 (by omega)];simp only[ids,Aq,Ar,CY]
  refine⟨(k+1,v),by dsimp only;omega,by dsimp only;omega,⟨rfl,by dsimp only;rw[e];rfl,rfl⟩,by dsimp only;rw[e];exact .refl _⟩
 ·refine AZ ?_
  refine B1 (.ros ?_)
  rw[AF (by omega)]⟩
def getS:List Sto→Dig→Option Pat
 | [],_=>none
 |x::s,d=>if x.id=d then some x.patch else getS s d
theorem gk {s:List Sto} {d:Dig} (h: ∀ i (h:i < s.length),s[i].id≠d):getS s d=none:=by
 induction s with
 |nil=>rfl
 |cons x s ih=>
  have h0:=h 0 (by simp)
  simp only[BL]at h0
  simp only[getS,h0,if_false]
  exact ih fun i hi=>by have:=h (i+1) (by simpa using hi);simpa using this
theorem gj {s:List Sto} {d:Dig} {k:Nat} (hk:k < s.length) (h: ∀ i (h:i < s.length),i < k→s[i].id≠d) (he:s[k].id=d):getS s d=some s[k].patch:=by
 induction s generalizing k with
 |nil=>simp at hk
 |cons x s ih=>
  cases k with
  |zero=>simp only[BL]at he ⊢;simp[getS,he]
  |succ k=>
   have h0:=h 0 (by simp) (by omega)
   simp only[BL]at h0
   simp only[getS,h0,if_false,DM]
   exact ih (by simpa using hk) (fun i hi hik=>by have:=h (i+1) (by simpa using hi) (by omega);simpa using this) (by simpa using he)
def zp (o:Option Pat):PV:= .tuple [.agg (Bn (o.getD Pat.zero)),.raw (.bool o.isSome)]
instance A0B (s:List Sto) (d:Dig) (t:CC):C8 Tryz.prog 40 [.slice (s.map eSto) t,.agg (eDig d)] (zp (getS s d)):=⟨by
 refine Av Tryz.func40 Tryz.ntmps40 rfl (rs:= [.cell 4 40,.tmp 5]) rfl rfl fun hb LF=>?_
 have hlen:s.length≤140737488355328:=(hb (.slice (s.map eSto) t) (by simp)).slice_map
 refine DU fun b=>?_
 refine Fq fun r=>?_
 refine Ab (σ:=Nat) (fun k=>k≤s.length∧ ∀ i (h:i < s.length),i < k→s[i].id≠d) (fun k=>s.length - k) (fun k=> [(0,.slice (s.map eSto) t),(3,.raw (.pointer (some ⟨b,0,none⟩))),(4,.raw (.pointer (some ⟨r,0,none⟩))),(6,.raw (.int .i64 k))]) (fun _=> .box r 40 (Bn Pat.zero):: .box b 31 (eDig d)::LF) 0 ⟨by simp,by simp⟩ ⟨rfl,rfl,rfl,rfl⟩ (.refl _) ?_
 rintro k ⟨hk,hne⟩
 refine AZ ?_
 refine A6 (fun hc=>?_) (fun hc=>?_)
 ·refine AZ ?_
  refine A6 (fun he=>?_) (fun he=>?_)
  ·refine AZ ?_
   refine Jq rfl (.of_eq ?_)
   rw[gj (by omega) hne he];rfl
  ·refine AZ ?_
   refine⟨k+1,⟨by omega,fun i h hi=>?_⟩,by dsimp only;omega,⟨rfl,rfl,rfl,rfl⟩,.refl _⟩
   rcases B8 i k with h'|h'
   ·exact hne i h h'
   ·have:i=k:=by omega
    subst this;exact he
 ·refine AZ ?_
  refine Jq rfl (.of_eq ?_)
  rw[gk fun i h=>hne i h (by omega)];rfl⟩
instance zM (l:List Dig) (d:Dig) (t:CC) [hs:B0 (l.length≤1000000)]:C8 Tryz.prog 72 [.slice (l.map eDig) t,.agg (eDig d)] (.slice ((FX l d).map eDig) .ro):=⟨by
 refine Av Tryz.func72 Tryz.ntmps72 rfl (rs:= [.tmp 4]) rfl rfl fun hb LF=>?_
 have hlen:l.length≤1000000:=hs.out
 refine DU fun b=>?_
 refine Ab (σ:=Nat) (fun k=>k≤l.length∧ ∀ i (h:i < l.length),i < k→Dig.lt l[i] d) (fun k=>l.length - k) (fun k=> [(0,.slice (l.map eDig) t),(3,.raw (.pointer (some ⟨b,0,none⟩))),(5,.raw (.int .i64 k))]) (fun _=> .box b 31 (eDig d)::LF) 0 ⟨by simp,by simp⟩ ⟨rfl,rfl,rfl⟩ (.refl _) ?_
 rintro k ⟨hk,hne⟩
 refine AZ ?_
 refine Ay (fun hp=>?_) (fun hp=>?_)
 ·have hc:(k:Int) < l.length:=BJ hp
  refine CH ?_
  refine A6 (fun h1=>?_) (fun h1=>?_)
  ·refine AZ ?_
   refine⟨k+1,⟨by omega,fun i h hi=>?_⟩,by dsimp only;omega,⟨rfl,rfl,rfl⟩,.refl _⟩
   rcases B8 i k with h'|h'
   ·exact hne i h h'
   ·have:i=k:=by omega
    subst this;exact h1
  ·refine AZ ?_
   refine A6 (fun h2=>?_) (fun h2=>?_)
   ·refine AZ ?_
    refine B1 (.ros ?_)
    rw[QN hk hne (fun _=>h1),if_pos ⟨by omega,h2⟩]
   ·refine Hz fun t1=>?_
    refine IW fun t2=>?_
    refine IW fun t3=>?_
    refine B1 (.ros ?_)
    rw[QN hk hne (fun _=>h1),if_neg (fun⟨_,e⟩=>h2 e)]
    simp
 ·have hc: ¬(k:Int) < l.length:=Bh hp
  refine CH ?_
  refine IW fun t1=>?_
  refine IW fun t2=>?_
  refine IW fun t3=>?_
  refine B1 (.ros ?_)
  rw[QN hk hne (fun h=>absurd (show(k:Int) < l.length by omega) hc),if_neg (fun⟨h,_⟩=>hc (by omega))]
  simp⟩
def Td (k:Int):Int:=if k=7 then 0 else k
def Ig (k:Int):Bool:=decide (k=5)||decide (k=6)
def FP (x:Ident):Bool:=!decide (x.patch=Dig.zero)
def rDirectory (x:Atm):Bool:=decide (x.kind=1)&&decide (x.type=4)
def Dm (x:Ident) (n:Int):Bool:=if x.patch=Dig.zero then decide (0≤x.n)&&decide (x.n < n)else decide (0≤x.n)&&decide (x.n < 100000)
def EL (k:Int) (x:Atm):Bool:=if x.kind≠1 then false else if Ig k then decide (x.type=1)else !decide (k=4)||decide (x.type=2)||decide (x.type=3)
def Jh (f:Ident) (x:Atm):Bool:=decide (x.kind=5)&&decide (x.file=f)
instance yv:C8 Tryz.prog 298 [] (.agg (eIdent Ident.zero)):=⟨by
 refine Av Tryz.func298 Tryz.ntmps298 rfl (rs:= [.cell 0 65]) rfl rfl fun hb LF=>?_
 refine DU fun b=>?_
 exact Fv rfl (.refl _)⟩
instance zO:C8 Tryz.prog 119 [] (.agg (eIdent ⟨Dig.zero,-1⟩)):=⟨by
 refine Av Tryz.func119 Tryz.ntmps119 rfl (rs:= [.cell 0 65]) rfl rfl fun hb LF=>?_
 refine DU fun b=>?_
 exact Fv rfl (.refl _)⟩
instance ye (k:Int):C8 Tryz.prog 263 [.raw (.int .i64 k)] (.raw (.int .i64 (Td k))):=⟨by
 refine Av Tryz.func263 Tryz.ntmps263 rfl (rs:= [.tmp 2]) rfl rfl fun hb LF=>?_
 refine AZ ?_
 refine A6 (fun h=>?_) (fun h=>?_)
 ·refine AZ ?_
  refine B1 (.of_eq ?_)
  simp[Td,h]
 ·refine AZ ?_
  refine B1 (.of_eq ?_)
  simp[Td,h]⟩
instance yk (k:Int):C8 Tryz.prog 261 [.raw (.int .i64 k)] (.raw (.bool (Ig k))):=⟨by
 refine Av Tryz.func261 Tryz.ntmps261 rfl (rs:= [.tmp 2]) rfl rfl fun hb LF=>?_
 refine AZ ?_
 refine Ay (fun hp=>?_) (fun hp=>?_)
 ·refine CH ?_
  refine B1 (.of_eq ?_)
  simp_all[Ig]
 ·refine CH ?_
  refine B1 (.of_eq ?_)
  simp_all[Ig]⟩
instance xX (x:Ident):C8 Tryz.prog 206 [.agg (eIdent x)] (.raw (.bool (FP x))):=⟨by
 refine Av Tryz.func206 Tryz.ntmps206 rfl (rs:= [.tmp 2]) rfl rfl fun hb LF=>?_
 refine DU fun b=>?_
 refine B1 (.of_eq ?_)
 rfl⟩
instance qH (x:Atm):C8 Tryz.prog 209 [.agg (eAtm x)] (.raw (.bool (rDirectory x))):=⟨by
 refine Av Tryz.func209 Tryz.ntmps209 rfl (rs:= [.tmp 2]) rfl rfl fun hb LF=>?_
 refine DU fun b=>?_
 refine Ay (fun hp=>?_) (fun hp=>?_)
 ·refine CH ?_
  refine B1 (.of_eq ?_)
  simp_all[rDirectory]
 ·refine CH ?_
  refine B1 (.of_eq ?_)
  simp_all[rDirectory]⟩
instance vB (x:Ident) (n:Int):C8 Tryz.prog 300 [.agg (eIdent x),.raw (.int .i64 n)] (.raw (.bool (Dm x n))):=⟨by
 refine Av Tryz.func300 Tryz.ntmps300 rfl (rs:= [.tmp 4]) rfl rfl fun hb LF=>?_
 refine DU fun b=>?_
 refine A6 (fun h=>?_) (fun h=>?_)
 ·refine AZ ?_
  refine Ay (fun hp=>?_) (fun hp=>?_)
  ·refine CH ?_
   refine B1 (.of_eq ?_)
   simp_all[Dm]<;>omega
  ·refine CH ?_
   refine B1 (.of_eq ?_)
   simp_all[Dm]<;>omega
 ·refine AZ ?_
  refine Ay (fun hp=>?_) (fun hp=>?_)
  ·refine CH ?_
   refine B1 (.of_eq ?_)
   simp_all[Dm]<;>omega
  ·refine CH ?_
   refine B1 (.of_eq ?_)
   simp_all[Dm]<;>omega⟩
instance sb (k:Int) (x:Atm):C8 Tryz.prog 208 [.raw (.int .i64 k),.agg (eAtm x)] (.raw (.bool (EL k x))):=⟨by
 refine Av Tryz.func208 Tryz.ntmps208 rfl (rs:= [.tmp 4]) rfl rfl fun hb LF=>?_
 refine DU fun b=>?_
 refine AX (fun h=>?_) (fun h=>?_)
 ·refine AZ ?_
  refine B1 (.of_eq ?_)
  simp[EL,h]
 ·refine AZ ?_
  refine AW (fun h2=>?_) (fun h2=>?_)
  ·refine AZ ?_
   refine B1 (.of_eq ?_)
   simp[EL,h,h2]
  ·refine AZ ?_
   refine Ay (fun hp=>?_) (fun hp=>?_)
   ·refine CH ?_
    refine B1 (.of_eq ?_)
    simp_all[EL]
   ·refine CH ?_
    refine Ay (fun hq=>?_) (fun hq=>?_)
    ·refine CH ?_
     refine B1 (.of_eq ?_)
     simp_all[EL]
    ·refine CH ?_
     refine B1 (.of_eq ?_)
     simp_all[EL]⟩
instance vJ (f:Ident) (x:Atm):C8 Tryz.prog 262 [.agg (eIdent f),.agg (eAtm x)] (.raw (.bool (Jh f x))):=⟨by
 refine Av Tryz.func262 Tryz.ntmps262 rfl (rs:= [.tmp 4]) rfl rfl fun hb LF=>?_
 refine DU fun b=>?_
 refine Fq fun b2=>?_
 refine Ay (fun hp=>?_) (fun hp=>?_)
 ·refine CH ?_
  refine B1 (.of_eq ?_)
  simp_all[Jh]
 ·refine CH ?_
  refine B1 (.of_eq ?_)
  simp_all[Jh]⟩
def Hd (k:Int) (f:Ident) (x:Atm):Bool:=decide (Td k=0)||decide (x.kind=Td k)&&decide (x.file=f)
def JD (x:Ident) (own:List Atm) (fits:Bool):Int:=if Dm x own.length=false then 7 else if x.patch=Dig.zero∧fits=false then 8 else 0
def Lz (own:List Atm) (x:Ident):Atm:=if x.patch=Dig.zero∧0≤x.n then own.getD x.n.toNat Atm.zero else Atm.zero
def Hf (x:Ident) (d:Dig):Ident:=if 0≤x.n∧x.patch=Dig.zero then { x with patch:=d }else x
def Cq (x:Ident) (d:Dig):Ident:=if x.patch=Dig.zero∧0≤x.n then { x with patch:=d }else x
instance sa (k:Int) (f:Ident) (x:Atm):C8 Tryz.prog 211 [.raw (.int .i64 k),.agg (eIdent f),.agg (eAtm x)] (.raw (.bool (Hd k f x))):=⟨by
 refine Av Tryz.func211 Tryz.ntmps211 rfl (rs:= [.tmp 6]) rfl rfl fun hb LF=>?_
 refine DU fun b=>?_
 refine Fq fun b2=>?_
 refine Ay (fun hp=>?_) (fun hp=>?_)
 ·refine CH ?_
  refine B1 (.of_eq ?_)
  simp_all[Hd]
 ·refine CH ?_
  refine Ay (fun hq=>?_) (fun hq=>?_)
  ·refine CH ?_
   refine B1 (.of_eq ?_)
   simp_all[Hd]
  ·refine CH ?_
   refine B1 (.of_eq ?_)
   simp_all[Hd]⟩
instance zq (x:Ident) (own:List Atm) (t:CC) (fits:Bool):C8 Tryz.prog 278 [.agg (eIdent x),.slice (own.map eAtm) t,.raw (.bool fits)] (.raw (.int .i64 (JD x own fits))):=⟨by
 refine Av Tryz.func278 Tryz.ntmps278 rfl (rs:= [.tmp 6]) rfl rfl fun hb LF=>?_
 refine DU fun b=>?_
 refine AW (fun h=>?_) (fun h=>?_)
 ·refine AZ ?_
  refine B1 (.of_eq ?_)
  simp_all[JD]
 ·refine AZ ?_
  refine Ay (fun hp=>?_) (fun hp=>?_)
  ·refine CH ?_
   refine AW (fun h2=>?_) (fun h2=>?_)
   ·refine AZ ?_
    refine B1 (.of_eq ?_)
    simp_all[JD]
   ·refine AZ ?_
    refine B1 (.of_eq ?_)
    simp_all[JD]
  ·refine CH ?_
   refine B1 (.of_eq ?_)
   simp_all[JD]⟩
instance zx (own:List Atm) (t:CC) (x:Ident):C8 Tryz.prog 279 [.slice (own.map eAtm) t,.agg (eIdent x)] (.agg (eAtm (Lz own x))):=⟨by
 refine Av Tryz.func279 Tryz.ntmps279 rfl (rs:= [.cell 4 125]) rfl rfl fun hb LF=>?_
 refine DU fun b=>?_
 refine Fq fun b2=>?_
 refine Ay (fun hp=>?_) (fun hp=>?_)
 ·refine CH ?_
  refine Ay (fun hq=>?_) (fun hq=>?_)
  ·refine CH ?_
   refine A6 (fun h=>?_) (fun h=>?_)
   ·have h0:0≤x.n:=BJ hq
    refine AZ ?_
    refine Fv rfl (.of_eq ?_)
    have:x.n.toNat < own.length:=by omega
    simp_all[Lz]
   ·refine AZ ?_
    refine Fv rfl (.of_eq ?_)
    have h0:0≤x.n:=BJ hq
    have: ¬x.n.toNat < own.length:=by omega
    simp_all[Lz]
  ·refine CH ?_
   refine Fv rfl (.of_eq ?_)
   have h0: ¬0≤x.n:=Bh hq
   simp[Lz,h0]
 ·refine CH ?_
  refine Fv rfl (.of_eq ?_)
  simp_all[Lz]⟩
instance sF (x:Ident) (d:Dig):C8 Tryz.prog 212 [.agg (eIdent x),.agg (eDig d)] (.agg (eIdent (Hf x d))):=⟨by
 refine Av Tryz.func212 Tryz.ntmps212 rfl (rs:= [.cell 4 65]) rfl rfl fun hb LF=>?_
 refine DU fun b=>?_
 refine Fq fun b2=>?_
 refine Fq fun b3=>?_
 refine Ay (fun hp=>?_) (fun hp=>?_)
 ·refine CH ?_
  refine A6 (fun h=>?_) (fun h=>?_)
  ·refine AZ ?_
   refine Fv rfl (.of_eq ?_)
   simp_all[Hf]
  ·refine AZ ?_
   refine Fv rfl (.of_eq ?_)
   simp_all[Hf]
 ·refine CH ?_
  refine Fv rfl (.of_eq ?_)
  have h0: ¬0≤x.n:=Bh hp
  simp[Hf,h0]⟩
instance wb (x:Ident) (d:Dig):C8 Tryz.prog 294 [.agg (eIdent x),.agg (eDig d)] (.agg (eIdent (Cq x d))):=⟨by
 refine Av Tryz.func294 Tryz.ntmps294 rfl (rs:= [.cell 4 65]) rfl rfl fun hb LF=>?_
 refine DU fun b=>?_
 refine Fq fun b2=>?_
 refine Fq fun b3=>?_
 refine Ay (fun hp=>?_) (fun hp=>?_)
 ·refine CH ?_
  refine A6 (fun h=>?_) (fun h=>?_)
  ·refine AZ ?_
   refine Fv rfl (.of_eq ?_)
   simp_all[Cq]
  ·refine AZ ?_
   refine Fv rfl (.of_eq ?_)
   simp[Cq,h]
 ·refine CH ?_
  refine Fv rfl (.of_eq ?_)
  simp_all[Cq]⟩
def Hr (a b:Ident):Int:=if Ec a.patch b.patch≠0 then Ec a.patch b.patch else if a.n < b.n then -1 else if b.n < a.n then 1 else 0
instance sf (a b:Ident):C8 Tryz.prog 182 [.agg (eIdent a),.agg (eIdent b)] (.raw (.int .i64 (Hr a b))):=⟨by
 refine Av Tryz.func182 Tryz.ntmps182 rfl (rs:= [.tmp 4]) rfl rfl fun hb LF=>?_
 refine DU fun p=>?_
 refine Fq fun q=>?_
 refine AX (fun h=>?_) (fun h=>?_)
 ·refine AZ ?_
  refine B1 (.of_eq ?_)
  simp[Hr,h]
 ·refine AZ ?_
  refine A6 (fun h1=>?_) (fun h1=>?_)
  ·refine AZ ?_
   refine B1 (.of_eq ?_)
   simp[Hr,h,h1]
  ·refine AZ ?_
   refine A6 (fun h2=>?_) (fun h2=>?_)
   ·refine AZ ?_
    refine B1 (.of_eq ?_)
    simp[Hr,h,h1,h2]
   ·refine AZ ?_
    refine B1 (.of_eq ?_)
    simp[Hr,h,h1,h2]⟩
def Q2 (l:List Ident):Bool:=(List.range (l.length - 1)).all fun i=>decide (Hr (l.getD i Ident.zero) (l.getD (i+1) Ident.zero) < 0)
instance qm (l:List Ident) (t:CC):C8 Tryz.prog 277 [.slice (l.map eIdent) t] (.raw (.bool (Q2 l))):=⟨by
 refine Av Tryz.func277 Tryz.ntmps277 rfl (rs:= [.tmp 2]) rfl rfl fun hb LF=>?_
 have hlen:l.length≤140737488355328:=(hb (.slice (l.map eIdent) t) (by simp)).slice_map
 refine AZ ?_
 refine Ab (σ:=Nat) (fun k=>1≤k∧ ∀ i,i+1 < k→i+1 < l.length→Hr (l.getD i Ident.zero) (l.getD (i+1) Ident.zero) < 0) (fun k=>l.length - k) (fun k=> [(0,.slice (l.map eIdent) t),(3,.raw (.int .i64 k))]) (fun _=>LF) 1 ⟨by simp,fun i h=>by omega⟩ ⟨rfl,rfl⟩ (.refl _) ?_
 rintro k ⟨hk,he⟩
 refine AZ ?_
 refine A6 (fun hc=>?_) (fun hc=>?_)
 ·obtain⟨j,rfl⟩: ∃ j,k=j+1:=⟨k - 1,by omega⟩
  refine AZ ?_
  have e:((↑(j+1):Int) - 1).toNat=j:=by omega
  have hj:j+1 < l.length:=by omega
  refine A6 (fun h1=>?_) (fun h1=>?_)
  ·refine AZ ?_
   refine B1 (.of_eq ?_)
   simp only[e]at h1
   have:Q2 l=false:=by
    unfold Q2
    rw[JC]
    refine⟨j,Bg.2 (by omega),?_⟩
    simp only[AD,BG,AO hj,AO (show j < l.length by omega),Bj]
    omega
   rw[this]
  ·refine AZ ?_
   simp only[e]at h1
   refine⟨j+1+1,⟨by omega,fun i h2 h3=>?_⟩,by dsimp only;omega,⟨rfl,rfl⟩,.refl _⟩
   rcases B8 (i+1) (j+1)with h'|h'
   ·exact he i h' h3
   ·have:i=j:=by omega
    subst this
    simp only[BG,AO hj,AO (show i < l.length by omega),Bj]
    omega
 ·refine AZ ?_
  refine B1 (.of_eq ?_)
  have:Q2 l=true:=by
   unfold Q2
   rw[Bc]
   intro i hi
   rw[Bg]at hi
   exact BF (he i (by omega) (by omega))
  rw[this]⟩
theorem YC {P:Program} {E:Nat} {α:Type} {ev:α→PV} {a0:α} {v:Value} (h:(P.info? E).bind (·.zero)=some v) (hv: ∀ g,VR g v (ev a0)):ZV P E ev a0:=⟨by
 obtain⟨i,h1,h2⟩:=Dy.1 h
 exact⟨i,v,h1,h2,hv⟩⟩
instance :NP Tryz.prog 121 31 4:=⟨by kernel_rfl⟩
instance :NP Tryz.prog 119 31 24:=⟨by kernel_rfl⟩
instance :NP Tryz.prog 168 31 68:=⟨by kernel_rfl⟩
instance :NP Tryz.prog 203 3 3:=⟨by kernel_rfl⟩
instance :NP Tryz.prog 226 3 228:=⟨by kernel_rfl⟩
instance :ZV Tryz.prog 4 vBool false:=YC (v:= .bool false) (by kernel_rfl) fun _=> .raw _
instance :ZV Tryz.prog 3 vInt 0:=YC (v:= .int .i64 0) (by kernel_rfl) fun _=> .raw _
instance :ZV Tryz.prog 24 (JJ eDig) []:=YC (v:= .slice none 0 0) (by kernel_rfl) fun _=> .nilR
instance :ZV Tryz.prog 68 (JJ eAtm) []:=YC (v:= .slice none 0 0) (by kernel_rfl) fun _=> .nilR
instance :ZV Tryz.prog 228 vId (.raw .nilFunc):=YC (v:= .nilFunc) (by kernel_rfl) fun _=> .raw _
instance :LH Tryz.prog 121 kDig vBool:=⟨trivial⟩
instance :LH Tryz.prog 119 kDig (JJ eDig):=⟨trivial⟩
instance :LH Tryz.prog 168 kDig (JJ eAtm):=⟨trivial⟩
instance :LH Tryz.prog 203 kInt vInt:=⟨trivial⟩
instance :LH Tryz.prog 226 kInt vId:=⟨trivial⟩
theorem Lh {P:Program} {T:Nat} {v:Value} {x:PV} (h:(P.info? T).bind (·.zero)=some v) (hc:v.cells= #[v]) (hv: ∀ g,VR g v x):Ck P T [x]:=⟨by
 obtain⟨i,h1,h2⟩:=Dy.1 h
 exact⟨i,v,[v],h1,h2,hc,fun g=> .cons (hv g) (.nil g)⟩⟩
instance :Ck Tryz.prog 3 [.raw (.int .i64 0)]:=Lh (v:= .int .i64 0) (by kernel_rfl) rfl fun _=> .raw _
instance :Ck Tryz.prog 4 [.raw (.bool false)]:=Lh (v:= .bool false) (by kernel_rfl) rfl fun _=> .raw _
instance :Ck Tryz.prog 24 [.slice [] .nil]:=Lh (v:= .slice none 0 0) (by kernel_rfl) rfl fun _=> .nilN none (by simp)
instance :Ck Tryz.prog 68 [.slice [] .nil]:=Lh (v:= .slice none 0 0) (by kernel_rfl) rfl fun _=> .nilN none (by simp)
instance :Ck Tryz.prog 90 [.slice [] .nil]:=Lh (v:= .slice none 0 0) (by kernel_rfl) rfl fun _=> .nilN none (by simp)
instance :Ck Tryz.prog 121 [.raw (.map none)]:=Lh (v:= .map none) (by kernel_rfl) rfl fun _=> .raw _
instance :Ck Tryz.prog 119 [.raw (.map none)]:=Lh (v:= .map none) (by kernel_rfl) rfl fun _=> .raw _
instance (a b:List UInt8) (t u:CC):ah Tryz.prog 180 [.slice (a.map eBy) t,.slice (b.map eBy) u] (.raw (.int .i64 (OQ a b))):=Xq Tryz.func180 (by kernel_rfl) (by kernel_rfl) (by kernel_rfl) (by kernel_rfl) a b t u
instance (s:Str) (c:Int):ah Tryz.prog 301 [.str s,.raw (.int .u8 c)] (.raw (.int .i64 (Lib.indexByte s c.toNat.toUInt8))):=Uc Tryz.func301 (by kernel_rfl) (by kernel_rfl) (by kernel_rfl) (by kernel_rfl) s c
instance sH (a b:List UInt8) (t u:CC):C8 Tryz.prog 126 [.slice (a.map eBy) t,.slice (b.map eBy) u] (.raw (.int .i64 (OQ a b))):=⟨by
 refine Av Tryz.func126 Tryz.ntmps126 rfl (rs:= [.tmp 4]) rfl rfl fun hb LF=>?_
 refine wf ?_
 exact B1 (.refl _)⟩
instance ZH (a b:Dig):C8 Tryz.prog 61 [.agg (eDig a),.agg (eDig b)] (.raw (.int .i64 (Ec a b))):=⟨by
 refine Av Tryz.func61 Tryz.ntmps61 rfl (rs:= [.tmp 4]) rfl rfl fun hb LF=>?_
 refine wf ?_
 refine B1 (.of_eq ?_)
 rfl⟩
instance xt (a:Int):C8 Tryz.prog 273 [.raw (.int .i64 a)] (.raw (.bool false)):=⟨by
 refine Av Tryz.func273 Tryz.ntmps273 rfl (rs:= [.tmp 2]) rfl rfl fun hb LF=>?_
 refine wf ?_
 refine B1 (.of_eq ?_)
 simp⟩
def Xu (a b:Int):Int:=if a < b then -1 else if b < a then 1 else 0
instance w0 (a b:Int):C8 Tryz.prog 215 [.raw (.int .i64 a),.raw (.int .i64 b)] (.raw (.int .i64 (Xu a b))):=⟨by
 refine Av Tryz.func215 Tryz.ntmps215 rfl (rs:= [.tmp 4]) rfl rfl fun hb LF=>?_
 refine wf ?_
 refine A6 (fun h=>?_) (fun h=>?_)
 ·refine wf ?_
  refine B1 (.of_eq ?_)
  rw[Xu,if_pos h]
 refine wf ?_
 refine A6 (fun h2=>?_) (fun h2=>?_)
 ·refine wf ?_
  refine B1 (.of_eq ?_)
  rw[Xu,if_neg h,if_pos h2]
 ·refine wf ?_
  refine B1 (.of_eq ?_)
  rw[Xu,if_neg h,if_neg h2]⟩
instance XJ (a b:Ident):C8 Tryz.prog 159 [.agg (eIdent a),.agg (eIdent b)] (.raw (.int .i64 (Hr a b))):=⟨by
 refine Av Tryz.func159 Tryz.ntmps159 rfl (rs:= [.tmp 4]) rfl rfl fun hb LF=>?_
 refine wf ?_
 have e:OQ a.patch.bs b.patch.bs=Ec a.patch b.patch:=rfl
 rw[e]
 refine AX (fun h=>?_) (fun h=>?_)
 ·refine wf ?_
  refine B1 (.of_eq ?_)
  rw[Hr,if_pos h]
 ·refine wf ?_
  refine B1 (.of_eq ?_)
  rw[Hr,if_neg (by simp[h])];rfl⟩
def Hp (s:List Sto) (l:List Dig):List Sto:=s.filter fun x=>decide (x.id∈l)
theorem HY {α:Type} {l:List α} {q:α→Bool} (h: ∀ i (h:i < l.length),q l[i]=true):l.all q=true:=by
 rw[Bc];intro x hx
 obtain⟨i,hi,rfl⟩:=AY.1 hx
 exact h i hi
theorem Gn {α:Type} {l:List α} {q:α→Bool} {k:Nat} (hk:k < l.length) (h:q l[k]=false):l.all q=false:=by
 rw[JC];exact⟨_,AB hk,by simp[h]⟩
theorem Ln {α:Type} {l:List α} {q:α→Bool} {k:Nat} (he: ∀ i (h:i < l.length),i < k→q l[i]=true) (hk:k < l.length) (h:q l[k]=true): ∀ i (h:i < l.length),i < k+1→q l[i]=true:=fun i hi hik=>by
 rcases B8 i k with h'|h'
 ·exact he i hi h'
 ·have:i=k:=by omega
  subst this;exact h
def Ov (m n:Int) (c:UInt8):Bool:=!decide ((c.toNat:Int)=m)&&!decide ((c.toNat:Int)=n)
def Q1 (s:Str) (m n:Int):Bool:=s.all (Ov m n)
instance yG (s:Str) (m n:Int):C8 Tryz.prog 305 [.str s,.raw (.int .u8 m),.raw (.int .u8 n)] (.raw (.bool (Q1 s m n))):=⟨by
 refine Av Tryz.func305 Tryz.ntmps305 rfl (rs:= [.tmp 6]) rfl rfl fun hb LF=>?_
 have hlen:s.length≤140737488355328:=(hb (.str s) (by simp)).str_len
 refine AZ ?_
 refine Ab (σ:=Nat) (fun k=>k≤s.length∧ ∀ i (h:i < s.length),i < k→Ov m n s[i]=true) (fun k=>s.length - k) (fun k=> [(0,.str s),(1,.raw (.int .u8 m)),(2,.raw (.int .u8 n)),(7,.raw (.int .i64 k))]) (fun _=>LF) 0 ⟨by simp,by simp⟩ ⟨rfl,rfl,rfl,rfl⟩ (.refl _) ?_
 rintro k ⟨hk,he⟩
 refine AZ ?_
 refine A6 (fun hc=>?_) (fun hc=>?_)
 ·have hlt:k < s.length:=by omega
  refine AZ ?_
  repeat' (first|(refine A6 (fun h=>?_) (fun h=>?_)<;>refine AZ ?_)|(refine AX (fun h=>?_) (fun h=>?_)<;>refine AZ ?_)|(refine AW (fun h=>?_) (fun h=>?_)<;>refine AZ ?_)|(refine Ay (fun h=>?_) (fun h=>?_)<;>(have h2:=h;(try simp only[AD,A8,AI,AN]at h2);refine CH ?_)))
  all_goals first
   |(refine⟨k+1,⟨by omega,Ln he hlt ?_⟩,by dsimp only;omega,⟨rfl,rfl,rfl,rfl⟩,.refl _⟩;simp_all[Ov];done)
   |(refine B1 (.of_eq ?_);have:Ov m n s[k]=false:=by simp_all[Ov]
     rw[Q1,Gn hlt this])
 ·refine AZ ?_
  refine B1 (.of_eq ?_)
  rw[Q1,HY fun i h=>he i h (by omega)]⟩
end Go.Proofs
