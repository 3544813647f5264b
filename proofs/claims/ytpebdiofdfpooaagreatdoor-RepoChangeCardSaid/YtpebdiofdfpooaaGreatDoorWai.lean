/- Contracts: equality of patches and sets; sets that are kept and put into (the reference's layers 16 and 17). -/
import Derived.Test.YtpebdiofdfpooaaGreatDoorWah
import Derived.Test.YtpebdiofdfpooaaGreatDoorWae
set_option linter.unusedSimpArgs false
set_option linter.unusedVariables false
set_option maxHeartbeats 8000000
namespace Go.Proofs
open Go Go.Q
attribute [local irreducible] EB AW B2 FW
theorem mY {a b:Pat} (h1:a.author=b.author) (h2:a.message=b.message) (h3:a.time=b.time) (h4:a.deps=b.deps) (h5:a.changes=b.changes):a=b:=by
 cases a;cases b;simp_all
instance vK (a b:Pat):Bj Tryz.prog 48 [.agg (Cc a),.agg (Cc b)] (.raw (.bool (decide (a=b)))):=⟨by
 refine Aj Tryz.func48 Tryz.ntmps48 rfl (rs:= [.tmp 4]) rfl rfl fun hb LF=>?_
 have hlen:a.changes.length≤140737488355328:=((hb (.agg (Cc a)) (by simp)).agg_at (c:= .slice (a.changes.map BG) .ro) (by simp[Cc])).slice_map
 have no: ∀ {q:Prop},(a=b→ ¬q)→q→Le (.raw (.bool false)) (.raw (.bool (decide (a=b)))):=fun h hq=> .of_eq (by rw[Ca (fun e=>h e hq)])
 refine Cx fun p=>?_
 refine Ef fun q=>?_
 iterate 4
  refine Aw (fun hp=>by
   refine Bp ?_
   refine Al (no (fun e=>?_) hp)
   simp[e]) (fun hp=>?_)
  refine Bp ?_
 refine AN (fun h=>?_) (fun h=>?_)
 ·refine AY ?_
  refine Al (no (fun e=>?_) h)
  simp[e]
 ·refine AY ?_
  have hl:a.changes.length=b.changes.length:=by omega
  refine AV (σ:=Nat) (fun k=>k≤a.changes.length∧a.changes.take k=b.changes.take k) (fun k=>a.changes.length - k) (fun k=> [(2,.raw (.pointer (some ⟨p,0,none⟩))),(3,.raw (.pointer (some ⟨q,0,none⟩))),(5,.raw (.int .i64 k))]) (fun _=> .box q 42 (Cc b):: .box p 42 (Cc a)::LF) 0 ⟨by simp,by simp⟩ ⟨rfl,rfl,rfl⟩ (.refl _) ?_
  rintro k ⟨hk,he⟩
  refine AY ?_
  refine A1 (fun hc=>?_) (fun hc=>?_)
  ·refine AY ?_
   refine AN (fun h2=>?_) (fun h2=>?_)
   ·refine AY ?_
    refine Al (no (fun e=>?_) h2)
    simp[e]
   ·refine AY ?_
    refine⟨k+1,⟨by omega,?_⟩,by dsimp only;omega,⟨rfl,rfl,rfl⟩,.refl _⟩
    rw[A6 (by omega),A6 (by omega),he,h2]
  ·refine AY ?_
   refine Al (.of_eq ?_)
   have h5:a.changes=b.changes:=by
    rw[AA (by omega),AA (by omega)]at he
    exact he
   have:a=b:=by
    apply mY<;>simp_all
   simp[this]⟩
theorem lU {a b:Sto} (h1:a.id=b.id) (h2:a.patch=b.patch):a=b:=by
 cases a;cases b;simp_all
instance sE (l m:List Sto) (t u:CZ):Bj Tryz.prog 20 [.slice (l.map eSto) t,.slice (m.map eSto) u] (.raw (.bool (decide (l=m)))):=⟨by
 refine Aj Tryz.func20 Tryz.ntmps20 rfl (rs:= [.tmp 4]) rfl rfl fun hb LF=>?_
 have hlen:l.length≤140737488355328:=(hb (.slice (l.map eSto) t) (by simp)).slice_map
 refine AY ?_
 refine AN (fun h1=>?_) (fun h1=>?_)
 ·refine AY ?_
  refine Al (.of_eq ?_)
  have: ¬l=m:=fun e=>h1 (by rw[e])
  simp[this]
 ·refine AY ?_
  have hl:l.length=m.length:=by omega
  refine AV (σ:=Nat) (fun k=>k≤l.length∧l.take k=m.take k) (fun k=>l.length - k) (fun k=> [(0,.slice (l.map eSto) t),(1,.slice (m.map eSto) u),(5,.raw (.int .i64 k))]) (fun _=>LF) 0 ⟨by simp,by simp⟩ ⟨rfl,rfl,rfl⟩ (.refl _) ?_
  rintro k ⟨hk,he⟩
  refine AY ?_
  refine A1 (fun hc=>?_) (fun hc=>?_)
  ·refine AY ?_
   refine Aw (fun hp=>?_) (fun hp=>?_)
   ·refine Bp ?_
    refine Al (.of_eq ?_)
    have: ¬l=m:=fun e=>by simp[e]at hp
    simp[this]
   ·refine Bp ?_
    refine AN (fun h2=>?_) (fun h2=>?_)
    ·refine AY ?_
     refine Al (.of_eq ?_)
     have: ¬l=m:=fun e=>h2 (by simp[e])
     simp[this]
    ·refine AY ?_
     refine⟨k+1,⟨by omega,?_⟩,by dsimp only;omega,⟨rfl,rfl,rfl⟩,.refl _⟩
     have h3:l[k]=m[k]:=lU (by simpa using hp) h2
     rw[A6 (by omega),A6 (by omega),he,h3]
  ·refine AY ?_
   refine Al (.of_eq ?_)
   have:l=m:=by
    rw[AA (by omega),AA (by omega)]at he
    exact he
   simp[this]⟩
def CU (s:List Sto) (l:List Dig):List Sto:=s.filter fun x=>decide (x.id∈l)
instance wu (s:List Sto) (l:List Dig) (t u:CZ) [hs:B0 (s.length≤1000000)]:Bj Tryz.prog 57 [.slice (s.map eSto) t,.slice (l.map eDig) u] (.slice ((CU s l).map eSto) .ro):=⟨by
 refine Aj Tryz.func57 Tryz.ntmps57 rfl (rs:= [.tmp 4]) rfl rfl fun hb LF=>?_
 have hlen:s.length≤1000000:=hs.out
 refine AY ?_
 refine Dw 37 ?_
 refine AV (σ:=Nat × CZ) (fun k=>k.1≤s.length) (fun k=>s.length - k.1) (fun k=> [(0,.slice (s.map eSto) t),(1,.slice (l.map eDig) u),(5,.slice ((CU (s.take k.1) l).map eSto) k.2),(6,.raw (.int .i64 k.1))]) (fun k=> .tok k.2 (CU (s.take k.1) l).length 37::LF) (0,.nil) (by simp) ⟨rfl,rfl,rfl,rfl⟩ (.refl _) ?_
 rintro⟨k,v⟩ hk
 dsimp only at hk
 refine AY ?_
 refine A1 (fun hc=>?_) (fun hc=>?_)
 ·have hl:(CU (s.take k) l).length≤k:=Cd (CR _ _) (by simp;omega)
  have e:CU (s.take (k+1)) l=CU (s.take k) l++CU [s[k]] l:=by
   rw[A6 (by omega)];simp only[CU,DI]
  refine AY ?_
  refine A1 (fun h=>?_) (fun h=>?_)
  ·refine GX fun v'=>?_
   have e2:CU [s[k]] l= [s[k]]:=by simp[CU,h]
   rw[e2]at e
   refine⟨(k+1,v'),by dsimp only;omega,by dsimp only;omega,⟨rfl,rfl,by dsimp only;rw[e];rfl,rfl⟩,by dsimp only;rw[e];exact .refl _⟩
  ·refine AY ?_
   have e2:CU [s[k]] l= []:=by simp[CU,h]
   rw[e2,B1]at e
   refine⟨(k+1,v),by dsimp only;omega,by dsimp only;omega,⟨rfl,rfl,by dsimp only;rw[e];rfl,rfl⟩,by dsimp only;rw[e];exact .refl _⟩
 ·refine AY ?_
  refine Al (.ros ?_)
  rw[AA (by omega)]⟩
theorem GL {α:Type} {l:List α} {q:α→Bool} (h: ∀ i (h:i < l.length),q l[i]=true):l.all q=true:=by
 rw[B5];intro x hx
 obtain⟨i,hi,rfl⟩:=Ak.1 hx
 exact h i hi
theorem Fe {α:Type} {l:List α} {q:α→Bool} {k:Nat} (hk:k < l.length) (h:q l[k]=false):l.all q=false:=by
 rw[L9];exact⟨_,AO hk,by simp[h]⟩
theorem Iu {α:Type} {l:List α} {q:α→Bool} {k:Nat} (he: ∀ i (h:i < l.length),i < k→q l[i]=true) (hk:k < l.length) (h:q l[k]=true): ∀ i (h:i < l.length),i < k+1→q l[i]=true:=fun i hi hik=>by
 rcases BC i k with h'|h'
 ·exact he i hi h'
 ·have:i=k:=by omega
  subst this;exact h
def Np (m n:Int) (c:UInt8):Bool:=!decide ((c.toNat:Int)=m)&&!decide ((c.toNat:Int)=n)
def Ov (s:Str) (m n:Int):Bool:=s.all (Np m n)
instance v7 (s:Str) (m n:Int):Bj Tryz.prog 348 [.str s,.raw (.int .u8 m),.raw (.int .u8 n)] (.raw (.bool (Ov s m n))):=⟨by
 refine Aj Tryz.func348 Tryz.ntmps348 rfl (rs:= [.tmp 6]) rfl rfl fun hb LF=>?_
 have hlen:s.length≤140737488355328:=(hb (.str s) (by simp)).str_len
 refine AY ?_
 refine AV (σ:=Nat) (fun k=>k≤s.length∧ ∀ i (h:i < s.length),i < k→Np m n s[i]=true) (fun k=>s.length - k) (fun k=> [(0,.str s),(1,.raw (.int .u8 m)),(2,.raw (.int .u8 n)),(7,.raw (.int .i64 k))]) (fun _=>LF) 0 ⟨by simp,by simp⟩ ⟨rfl,rfl,rfl,rfl⟩ (.refl _) ?_
 rintro k ⟨hk,he⟩
 refine AY ?_
 refine A1 (fun hc=>?_) (fun hc=>?_)
 ·have hlt:k < s.length:=by omega
  refine AY ?_
  repeat' (first|(refine A1 (fun h=>?_) (fun h=>?_)<;>refine AY ?_)|(refine AN (fun h=>?_) (fun h=>?_)<;>refine AY ?_)|(refine AU (fun h=>?_) (fun h=>?_)<;>refine AY ?_)|(refine Aw (fun h=>?_) (fun h=>?_)<;>(have h2:=h;(try simp only[AJ,A8,AQ,AR]at h2);refine Bp ?_)))
  all_goals first
   |(refine⟨k+1,⟨by omega,Iu he hlt ?_⟩,by dsimp only;omega,⟨rfl,rfl,rfl,rfl⟩,.refl _⟩;simp_all[Np];done)
   |(refine Al (.of_eq ?_);have:Np m n s[k]=false:=by simp_all[Np]
     rw[Ov,Fe hlt this])
 ·refine AY ?_
  refine Al (.of_eq ?_)
  rw[Ov,GL fun i h=>he i h (by omega)]⟩
def Iw (s:Str):Bool:=decide ((s.length:Int)≤1000)&&Ov s 10 0
instance vI (s:Str):Bj Tryz.prog 340 [.str s] (.raw (.bool (Iw s))):=⟨by
 refine Aj Tryz.func340 Tryz.ntmps340 rfl (rs:= [.tmp 2]) rfl rfl fun hb LF=>?_
 refine AY ?_
 repeat' (first|(refine A1 (fun h=>?_) (fun h=>?_)<;>refine AY ?_)|(refine AN (fun h=>?_) (fun h=>?_)<;>refine AY ?_)|(refine AU (fun h=>?_) (fun h=>?_)<;>refine AY ?_)|(refine Aw (fun h=>?_) (fun h=>?_)<;>(have h2:=h;(try simp only[AJ,A8,AQ,AR]at h2);refine Bp ?_)))
 all_goals (refine Al (.of_eq ?_);first|(simp_all[Iw];done)|grind [Iw])⟩
def HI (c:UInt8):Bool:=(decide (97≤(c.toNat:Int))&&decide ((c.toNat:Int)≤122))||(decide (65≤(c.toNat:Int))&&decide ((c.toNat:Int)≤90))||(decide (48≤(c.toNat:Int))&&decide ((c.toNat:Int)≤57))||decide ((c.toNat:Int)=46)||decide ((c.toNat:Int)=95)||decide ((c.toNat:Int)=45)
def EN (s:Str):Bool:=s.all HI&&decide (1≤(s.length:Int))&&decide ((s.length:Int)≤40)&&!decide (s= [46])&&!decide (s= [46,46])
instance wm (s:Str):Bj Tryz.prog 97 [.str s] (.raw (.bool (EN s))):=⟨by
 refine Aj Tryz.func97 Tryz.ntmps97 rfl (rs:= [.tmp 2]) rfl rfl fun hb LF=>?_
 have hlen:s.length≤140737488355328:=(hb (.str s) (by simp)).str_len
 refine AY ?_
 refine AV (σ:=Nat) (fun k=>k≤s.length∧ ∀ i (h:i < s.length),i < k→HI s[i]=true) (fun k=>s.length - k) (fun k=> [(0,.str s),(3,.raw (.int .i64 k))]) (fun _=>LF) 0 ⟨by simp,by simp⟩ ⟨rfl,rfl⟩ (.refl _) ?_
 rintro k ⟨hk,he⟩
 refine AY ?_
 refine A1 (fun hc=>?_) (fun hc=>?_)
 ·have hlt:k < s.length:=by omega
  refine AY ?_
  repeat' (first|(refine A1 (fun h=>?_) (fun h=>?_)<;>refine AY ?_)|(refine AN (fun h=>?_) (fun h=>?_)<;>refine AY ?_)|(refine AU (fun h=>?_) (fun h=>?_)<;>refine AY ?_)|(refine Aw (fun h=>?_) (fun h=>?_)<;>(have h2:=h;(try simp only[AJ,A8,AQ,AR]at h2);refine Bp ?_)))
  all_goals first
   |(refine⟨k+1,⟨by omega,Iu he hlt ?_⟩,by dsimp only;omega,⟨rfl,rfl⟩,.refl _⟩;clear he hc;grind [HI])
   |(refine Al (.of_eq ?_);have:HI s[k]=false:=by clear he hc;grind [HI]
     rw[EN,Fe hlt this];rfl)
 ·have hall:s.all HI=true:=GL fun i h=>he i h (by omega)
  refine AY ?_
  repeat' (first|(refine A1 (fun h=>?_) (fun h=>?_)<;>refine AY ?_)|(refine AN (fun h=>?_) (fun h=>?_)<;>refine AY ?_)|(refine AU (fun h=>?_) (fun h=>?_)<;>refine AY ?_)|(refine Aw (fun h=>?_) (fun h=>?_)<;>(have h2:=h;(try simp only[AJ,A8,AQ,AR]at h2);refine Bp ?_)))
  all_goals (refine Al (.of_eq ?_);first|(simp_all[EN];done)|grind [EN])⟩
def Lr (l:List Str):Int:=if(l.length:Int)=0 then 1 else if 2000 < (l.length:Int)then 4 else if l.all Iw then 0 else 3
instance ub (l:List Str) (t:CZ):Bj Tryz.prog 315 [.slice (l.map eS) t] (.raw (.int .i64 (Lr l))):=⟨by
 refine Aj Tryz.func315 Tryz.ntmps315 rfl (rs:= [.tmp 2]) rfl rfl fun hb LF=>?_
 have hlen:l.length≤140737488355328:=(hb (.slice (l.map eS) t) (by simp)).slice_map
 refine AY ?_
 refine A1 (fun h1=>?_) (fun h1=>?_)
 ·refine AY ?_
  refine Al (.of_eq ?_)
  simp[Lr,h1]
 refine AY ?_
 refine A1 (fun h2=>?_) (fun h2=>?_)
 ·refine AY ?_
  refine Al (.of_eq ?_)
  simp only[Lr,h1,h2,if_true,if_false]
 refine AY ?_
 refine AV (σ:=Nat) (fun k=>k≤l.length∧ ∀ i (h:i < l.length),i < k→Iw l[i]=true) (fun k=>l.length - k) (fun k=> [(0,.slice (l.map eS) t),(3,.raw (.int .i64 k))]) (fun _=>LF) 0 ⟨by simp,by simp⟩ ⟨rfl,rfl⟩ (.refl _) ?_
 rintro k ⟨hk,he⟩
 refine AY ?_
 refine A1 (fun hc=>?_) (fun hc=>?_)
 ·have hlt:k < l.length:=by omega
  refine AY ?_
  refine AU (fun h=>?_) (fun h=>?_)
  ·refine AY ?_
   refine Al (.of_eq ?_)
   simp only[Lr,h1,h2,if_false]
   rw[Fe hlt (by simpa using h)];rfl
  ·refine AY ?_
   exact⟨k+1,⟨by omega,Iu he hlt (by simpa using h)⟩,by dsimp only;omega,⟨rfl,rfl⟩,.refl _⟩
 ·refine AY ?_
  refine Al (.of_eq ?_)
  simp only[Lr,h1,h2,if_false]
  rw[GL fun i h=>he i h (by omega)];rfl⟩
def Ih (c:Chg):Chg:=
 { kind:=c.kind,file:=if 2≤c.kind∧c.kind≤6 then Ident.zero else c.file,type:=if c.kind=1 then 0 else c.type,parent:=if c.kind=2 then Ident.zero else c.parent,name:=if c.kind=2 then []else c.name,
   mode:=if c.kind=3 then 0 else c.mode,data:=if c.kind=4 then []else c.data,after:=if c.kind=5∨c.kind=6 then Ident.zero else c.after,before:=if c.kind=5∨c.kind=6 then Ident.zero else c.before,
   lines:=if c.kind=5 then []else c.lines,over:=if c.kind≠1∧c.kind≠5 then []else c.over }
instance w6 (c:Chg):Bj Tryz.prog 314 [.agg (BG c)] (.agg (BG (Ih c))):=⟨by
 refine Aj Tryz.func314 Tryz.ntmps314 rfl (rs:= [.cell 2 101]) rfl rfl fun hb LF=>?_
 refine Cx fun b=>?_
 refine Ef fun b2=>?_
 repeat' (first|(refine A1 (fun h=>?_) (fun h=>?_)<;>((try dsimp only at h);first|(exfalso;omega;done)|refine AY ?_))|(refine AN (fun h=>?_) (fun h=>?_)<;>((try dsimp only at h);first|(exfalso;omega;done)|refine AY ?_))|(refine AU (fun h=>?_) (fun h=>?_)<;>((try dsimp only at h);first|(exfalso;omega;done)|refine AY ?_))|(refine Aw (fun h=>?_) (fun h=>?_)<;>(have h2:=h;(try simp only[AJ,A8,AQ,AR]at h2);first|(exfalso;omega;done)|refine Bp ?_)))
 all_goals (refine FK rfl (.of_eq (congrArg (fun c=>PV.agg (BG c)) ?_));simp only[Ih,Chg.mk.injEq];and_intros<;>first|trivial|rfl|(split<;>first|rfl|(exfalso;omega)))⟩
def Fw (c:Chg):Bool:=decide (c.file=Ident.zero)&&decide (c.type=0)&&decide (c.parent=Ident.zero)&&decide (c.name= [])&&decide (c.mode=0)&&decide (c.data= [])&&decide (c.after=Ident.zero)&&decide (c.before=Ident.zero)&&decide ((c.lines.length:Int)=0)&&decide ((c.over.length:Int)=0)
instance uw (c:Chg):Bj Tryz.prog 313 [.agg (BG c)] (.raw (.bool (Fw c))):=⟨by
 refine Aj Tryz.func313 Tryz.ntmps313 rfl (rs:= [.tmp 2]) rfl rfl fun hb LF=>?_
 refine Cx fun b=>?_
 iterate 9
  refine Aw (fun hp=>?_) (fun hp=>by
   refine Bp ?_
   refine Al (.of_eq ?_)
   simp_all[Fw])
  refine Bp ?_
 refine Al (.of_eq ?_)
 simp_all[Fw]⟩
def C0 (c:Chg):Int:=
 if c.kind < 1∨7 < c.kind then 8 else
 if Fw (Ih c)=false then 1 else
 if c.kind=1∧(c.type < 1∨4 < c.type)then 8 else
 if c.kind=2∧EN c.name=false then 5 else
 if c.kind=3∧(c.mode < 0∨511 < c.mode)then 2 else
 if 65536 < (c.data.length:Int)then 4 else
 if c.kind=5 then Lr c.lines else
 if c.kind=7∧(c.over.length:Int)=0 then 1 else
 if 400 < (c.over.length:Int)then 4 else
 if Qf c.over=false then 9 else 0
instance tD (c:Chg):Bj Tryz.prog 282 [.agg (BG c)] (.raw (.int .i64 (C0 c))):=⟨by
 refine Aj Tryz.func282 Tryz.ntmps282 rfl (rs:= [.tmp 2]) rfl rfl fun hb LF=>?_
 refine Cx fun b=>?_
 refine BB [(10,.raw (.bool (decide (c.kind < 1∨7 < c.kind)))),(1,.raw (.pointer (some ⟨b,0,none⟩)))] (.box b 101 (BG c)::LF) ?_ ?_
 ·repeat' (first|(refine A1 (fun h=>?_) (fun h=>?_)<;>refine AY ?_)|(refine AN (fun h=>?_) (fun h=>?_)<;>refine AY ?_)|(refine AU (fun h=>?_) (fun h=>?_)<;>refine AY ?_)|(refine Aw (fun h=>?_) (fun h=>?_)<;>(have h2:=h;(try simp only[AJ,A8,AQ,AR]at h2);refine Bp ?_)))
  all_goals (refine⟨⟨BW (by rfl) ?_,rfl⟩,.refl _⟩;first|(simp_all;done)|(simp_all;omega)|grind)
 refine AY ?_
 refine A1 (fun h1=>?_) (fun h1=>?_)
 ·refine AY ?_
  refine Al (.of_eq ?_)
  rw[C0,if_pos h1]
 refine AY ?_
 refine AU (fun h2=>?_) (fun h2=>?_)
 ·refine AY ?_
  refine Al (.of_eq ?_)
  simp only[AQ]at h2
  rw[C0,if_neg h1,if_pos h2]
 replace h2: ¬Fw (Ih c)=false:=by simpa using h2
 refine AY ?_
 refine BB [(27,.raw (.bool (decide (c.kind=1∧(c.type < 1∨4 < c.type))))),(1,.raw (.pointer (some ⟨b,0,none⟩)))] (.box b 101 (BG c)::LF) ?_ ?_
 ·repeat' (first|(refine A1 (fun h=>?_) (fun h=>?_)<;>refine AY ?_)|(refine AN (fun h=>?_) (fun h=>?_)<;>refine AY ?_)|(refine AU (fun h=>?_) (fun h=>?_)<;>refine AY ?_)|(refine Aw (fun h=>?_) (fun h=>?_)<;>(have h2:=h;(try simp only[AJ,A8,AQ,AR]at h2);refine Bp ?_)))
  all_goals (refine⟨⟨BW (by rfl) ?_,rfl⟩,.refl _⟩;first|(simp_all;done)|(simp_all;omega)|grind)
 refine AY ?_
 refine A1 (fun h3=>?_) (fun h3=>?_)
 ·refine AY ?_
  refine Al (.of_eq ?_)
  rw[C0,if_neg h1,if_neg h2,if_pos h3]
 refine AY ?_
 refine BB [(36,.raw (.bool (decide (c.kind=2∧EN c.name=false)))),(1,.raw (.pointer (some ⟨b,0,none⟩)))] (.box b 101 (BG c)::LF) ?_ ?_
 ·repeat' (first|(refine A1 (fun h=>?_) (fun h=>?_)<;>refine AY ?_)|(refine AN (fun h=>?_) (fun h=>?_)<;>refine AY ?_)|(refine AU (fun h=>?_) (fun h=>?_)<;>refine AY ?_)|(refine Aw (fun h=>?_) (fun h=>?_)<;>(have h2:=h;(try simp only[AJ,A8,AQ,AR]at h2);refine Bp ?_)))
  all_goals (refine⟨⟨BW (by rfl) ?_,rfl⟩,.refl _⟩;first|(simp_all;done)|(simp_all;omega)|grind)
 refine AY ?_
 refine A1 (fun h4=>?_) (fun h4=>?_)
 ·refine AY ?_
  refine Al (.of_eq ?_)
  rw[C0,if_neg h1,if_neg h2,if_neg h3,if_pos h4]
 refine AY ?_
 refine BB [(49,.raw (.bool (decide (c.kind=3∧(c.mode < 0∨511 < c.mode))))),(1,.raw (.pointer (some ⟨b,0,none⟩)))] (.box b 101 (BG c)::LF) ?_ ?_
 ·repeat' (first|(refine A1 (fun h=>?_) (fun h=>?_)<;>refine AY ?_)|(refine AN (fun h=>?_) (fun h=>?_)<;>refine AY ?_)|(refine AU (fun h=>?_) (fun h=>?_)<;>refine AY ?_)|(refine Aw (fun h=>?_) (fun h=>?_)<;>(have h2:=h;(try simp only[AJ,A8,AQ,AR]at h2);refine Bp ?_)))
  all_goals (refine⟨⟨BW (by rfl) ?_,rfl⟩,.refl _⟩;first|(simp_all;done)|(simp_all;omega)|grind)
 refine AY ?_
 refine A1 (fun h5=>?_) (fun h5=>?_)
 ·refine AY ?_
  refine Al (.of_eq ?_)
  rw[C0,if_neg h1,if_neg h2,if_neg h3,if_neg h4,if_pos h5]
 refine AY ?_
 refine A1 (fun h6=>?_) (fun h6=>?_)
 ·refine AY ?_
  refine Al (.of_eq ?_)
  rw[C0,if_neg h1,if_neg h2,if_neg h3,if_neg h4,if_neg h5,if_pos h6]
 refine AY ?_
 refine A1 (fun h7=>?_) (fun h7=>?_)
 ·refine AY ?_
  refine Al (.of_eq ?_)
  rw[C0,if_neg h1,if_neg h2,if_neg h3,if_neg h4,if_neg h5,if_neg h6,if_pos h7]
 refine AY ?_
 refine BB [(68,.raw (.bool (decide (c.kind=7∧(c.over.length:Int)=0)))),(1,.raw (.pointer (some ⟨b,0,none⟩)))] (.box b 101 (BG c)::LF) ?_ ?_
 ·repeat' (first|(refine A1 (fun h=>?_) (fun h=>?_)<;>refine AY ?_)|(refine AN (fun h=>?_) (fun h=>?_)<;>refine AY ?_)|(refine AU (fun h=>?_) (fun h=>?_)<;>refine AY ?_)|(refine Aw (fun h=>?_) (fun h=>?_)<;>(have h2:=h;(try simp only[AJ,A8,AQ,AR]at h2);refine Bp ?_)))
  all_goals (refine⟨⟨BW (by rfl) ?_,rfl⟩,.refl _⟩;first|(simp_all;done)|(simp_all;omega)|grind)
 refine AY ?_
 refine A1 (fun h8=>?_) (fun h8=>?_)
 ·refine AY ?_
  refine Al (.of_eq ?_)
  rw[C0,if_neg h1,if_neg h2,if_neg h3,if_neg h4,if_neg h5,if_neg h6,if_neg h7,if_pos h8]
 refine AY ?_
 refine A1 (fun h9=>?_) (fun h9=>?_)
 ·refine AY ?_
  refine Al (.of_eq ?_)
  rw[C0,if_neg h1,if_neg h2,if_neg h3,if_neg h4,if_neg h5,if_neg h6,if_neg h7,if_neg h8,if_pos h9]
 refine AY ?_
 refine AU (fun h=>?_) (fun h=>?_)
 ·refine AY ?_
  refine Al (.of_eq ?_)
  simp only[AQ]at h
  rw[C0,if_neg h1,if_neg h2,if_neg h3,if_neg h4,if_neg h5,if_neg h6,if_neg h7,if_neg h8,if_neg h9,if_pos h]
 ·refine AY ?_
  refine Al (.of_eq ?_)
  replace h: ¬Qf c.over=false:=by simpa using h
  rw[C0,if_neg h1,if_neg h2,if_neg h3,if_neg h4,if_neg h5,if_neg h6,if_neg h7,if_neg h8,if_neg h9,if_neg h]⟩
def Aq {α:Type} (f:α→Int):List α→Int
 | []=>0
 |x::l=>if f x=0 then Aq f l else f x
theorem CN {α:Type} {f:α→Int}: ∀ {l:List α},(∀ i (h:i < l.length),f l[i]=0)→Aq f l=0
 | [],_=>rfl
 |x::l,h=>by
  have h0:=h 0 (by simp)
  simp only[B8]at h0
  rw[Aq,if_pos h0]
  exact CN fun i hi=>by have:=h (i+1) (by simpa using hi);simpa using this
theorem CV {α:Type} {f:α→Int}: ∀ {l:List α} {k:Nat} (hk:k < l.length),(∀ i (h:i < l.length),i < k→f l[i]=0)→f l[k]≠0→Aq f l=f l[k]
 |x::l,0,hk,_,hn=>by simp only[B8]at hn ⊢;rw[Aq,if_neg hn]
 |x::l,k+1,hk,h,hn=>by
  have h0:=h 0 (by simp) (by omega)
  simp only[B8]at h0
  simp only[Ct]at hn ⊢
  rw[Aq,if_pos h0]
  exact CV (by simpa using hk) (fun i hi hik=>by have:=h (i+1) (by simpa using hi) (by omega);simpa using this) hn
theorem DT {α:Type} {l:List α} {f:α→Int} {k:Nat} (he: ∀ i (h:i < l.length),i < k→f l[i]=0) (hk:k < l.length) (h:f l[k]=0): ∀ i (h:i < l.length),i < k+1→f l[i]=0:=fun i hi hik=>by
 rcases BC i k with h'|h'
 ·exact he i hi h'
 ·have:i=k:=by omega
  subst this;exact h
def Xq:Ident:=⟨Dig.zero,-1⟩
def KB (c:Chg) (own:List Atm):Int:=if 2≤c.kind∧c.kind≤6 then JL c.file own (EE c.kind (LN own c.file))else 0
def Me (c:Chg) (own:List Atm):Int:=if c.kind=2∧c.parent≠Xq then JL c.parent own (rDirectory (LN own c.parent))else 0
def PX (c:Chg) (own:List Atm) (x:Ident):Int:=JL x own (decide (x=c.file)||JM c.file (LN own x))
def N9 (c:Chg) (own:List Atm) (x:Ident):Int:=JL x own (H8 c.kind c.file (LN own x))
def IH (c:Chg) (own:List Atm):Int:=if Ig c.kind=true then Aq (PX c own) [c.after,c.before]else 0
def FT (c:Chg) (own:List Atm):Int:=
 if KB c own≠0 then KB c own else if Me c own≠0 then Me c own else if IH c own≠0 then IH c own else
 if Aq (N9 c own) c.over≠0 then Aq (N9 c own) c.over else if c.kind=2∧c.parent=c.file then 20 else
 if(Ig c.kind=true∧c.after=c.before)∧(c.kind=6∨c.after≠c.file)then 1 else 0
instance kg (c:Chg) (own:List Atm) (t:CZ):Bj Tryz.prog 283 [.agg (BG c),.slice (own.map eAtm) t] (.raw (.int .i64 (FT c own))):=⟨by
 refine Aj Tryz.func283 Tryz.ntmps283 rfl (rs:= [.tmp 4]) rfl rfl fun hb LF=>?_
 have hlen:c.over.length≤140737488355328:=((hb (.agg (BG c)) (by simp)).agg_at (c:= .slice (c.over.map eIdent) .ro) (by simp[BG])).slice_map
 refine Cx fun b=>?_
 refine BB [(20,.raw (.bool (decide (2≤c.kind∧c.kind≤6)))),(1,.slice (own.map eAtm) t),(2,.raw (.pointer (some ⟨b,0,none⟩)))] (.box b 101 (BG c)::LF) ?_ ?_
 ·repeat' (first|(refine A1 (fun h=>?_) (fun h=>?_)<;>refine AY ?_)|(refine AN (fun h=>?_) (fun h=>?_)<;>refine AY ?_)|(refine AU (fun h=>?_) (fun h=>?_)<;>refine AY ?_)|(refine Aw (fun h=>?_) (fun h=>?_)<;>(have h2:=h;(try simp only[AJ,A8,AQ,AR]at h2);refine Bp ?_)))
  all_goals (refine⟨⟨BW (by rfl) ?_,rfl,rfl⟩,.refl _⟩;first|(simp_all;done)|(simp_all;omega)|grind)
 refine AY ?_
 refine KE (KB c own=0) [(1,.slice (own.map eAtm) t),(2,.raw (.pointer (some ⟨b,0,none⟩)))] (.box b 101 (BG c)::LF) ?_ fun hF=>?_
 ·refine A1 (fun h=>?_) (fun h=>?_)
  ·refine AY ?_
   have e:KB c own=JL c.file own (EE c.kind (LN own c.file)):=by rw[KB,if_pos h]
   refine AN (fun h'=>?_) (fun h'=>?_)
   ·refine AY ?_
    refine Al (.of_eq ?_)
    rw[FT,if_pos (by rw[e];exact h'),e]
   ·refine AY ?_
    exact⟨e.trans h',⟨rfl,rfl⟩,.refl _⟩
  ·refine AY ?_
   exact⟨by rw[KB,if_neg h],⟨rfl,rfl⟩,.refl _⟩
 refine AY ?_
 refine BB [(43,.raw (.bool (decide (c.kind=2∧c.parent≠Xq)))),(1,.slice (own.map eAtm) t),(2,.raw (.pointer (some ⟨b,0,none⟩)))] (.box b 101 (BG c)::LF) ?_ ?_
 ·repeat' (first|(refine A1 (fun h=>?_) (fun h=>?_)<;>refine AY ?_)|(refine AN (fun h=>?_) (fun h=>?_)<;>refine AY ?_)|(refine AU (fun h=>?_) (fun h=>?_)<;>refine AY ?_)|(refine Aw (fun h=>?_) (fun h=>?_)<;>(have h2:=h;(try simp only[AJ,A8,AQ,AR]at h2);refine Bp ?_)))
  all_goals (refine⟨⟨BW (by rfl) ?_,rfl,rfl⟩,.refl _⟩;simp_all[Xq])
 refine AY ?_
 refine KE (Me c own=0) [(1,.slice (own.map eAtm) t),(2,.raw (.pointer (some ⟨b,0,none⟩)))] (.box b 101 (BG c)::LF) ?_ fun hP=>?_
 ·refine A1 (fun h=>?_) (fun h=>?_)
  ·refine Cx fun b2=>?_
   have e:Me c own=JL c.parent own (rDirectory (LN own c.parent)):=by rw[Me,if_pos h]
   refine Aw (fun hp=>?_) (fun hp=>?_)
   ·refine Bp ?_
    have e2:rDirectory (LN own c.parent)=decide ((LN own c.parent).type=4):=by rw[rDirectory,hp,vY]
    rw[e2]at e
    refine AN (fun h'=>?_) (fun h'=>?_)
    ·refine AY ?_
     refine Al (.of_eq ?_)
     rw[FT,if_neg (by simp[hF]),if_pos (by rw[e];exact h'),e]
    ·refine AY ?_
     exact⟨e.trans h',⟨rfl,rfl⟩,.cons _ (.refl _)⟩
   ·refine Bp ?_
    have e2:rDirectory (LN own c.parent)=false:=by rw[rDirectory,hp,Bool.false_and]
    rw[e2]at e
    refine AN (fun h'=>?_) (fun h'=>?_)
    ·refine AY ?_
     refine Al (.of_eq ?_)
     rw[FT,if_neg (by simp[hF]),if_pos (by rw[e];exact h'),e]
    ·refine AY ?_
     exact⟨e.trans h',⟨rfl,rfl⟩,.cons _ (.refl _)⟩
  ·refine AY ?_
   exact⟨by rw[Me,if_neg h],⟨rfl,rfl⟩,.refl _⟩
 refine AY ?_
 refine KE (IH c own=0) [(1,.slice (own.map eAtm) t),(2,.raw (.pointer (some ⟨b,0,none⟩)))] (.box b 101 (BG c)::LF) ?_ fun hE=>?_
 ·refine AU (fun h=>?_) (fun h=>?_)
  ·refine AY ?_
   have e:IH c own=Aq (PX c own) [c.after,c.before]:=by rw[IH,if_pos h]
   generalize hends: [c.after,c.before]=ends at e
   have hl2:ends.length=2:=by rw[←hends];rfl
   refine AV (σ:=Nat) (fun k=>k≤2∧ ∀ i (h:i < ends.length),i < k→PX c own ends[i]=0) (fun k=>2 - k) (fun k=> [(1,.slice (own.map eAtm) t),(2,.raw (.pointer (some ⟨b,0,none⟩))),(8,.slice (ends.map eIdent) .ro),(9,.raw (.int .i64 k))]) (fun _=> .box b 101 (BG c)::LF) 0 ⟨by simp,by simp⟩ ⟨rfl,rfl,by rw[←hends];rfl,rfl⟩ (.refl _) ?_
   rintro k ⟨hk,he⟩
   refine AY ?_
   refine A1 (fun hc=>?_) (fun hc=>?_)
   ·have hlt:k < ends.length:=by omega
    refine AY ?_
    refine Aw (fun hp=>?_) (fun hp=>?_)
    ·refine Bp ?_
     have e2:PX c own ends[k]=JL ends[k] own true:=by rw[PX,hp,Bool.true_or]
     refine AN (fun h'=>?_) (fun h'=>?_)
     ·refine AY ?_
      refine Al (.of_eq ?_)
      have e3:IH c own=JL ends[k] own true:=by rw[e,CV hlt he (by rw[e2];exact h'),e2]
      rw[FT,if_neg (by simp[hF]),if_neg (by simp[hP]),if_pos (by rw[e3];exact h'),e3]
     ·refine AY ?_
      exact⟨k+1,⟨by omega,DT he hlt (e2.trans h')⟩,by dsimp only;omega,⟨rfl,rfl,rfl,rfl⟩,.refl _⟩
    ·refine Bp ?_
     have e2:PX c own ends[k]=JL ends[k] own (JM c.file (LN own ends[k])):=by rw[PX,hp,IB]
     refine AN (fun h'=>?_) (fun h'=>?_)
     ·refine AY ?_
      refine Al (.of_eq ?_)
      have e3:IH c own=JL ends[k] own (JM c.file (LN own ends[k])):=by rw[e,CV hlt he (by rw[e2];exact h'),e2]
      rw[FT,if_neg (by simp[hF]),if_neg (by simp[hP]),if_pos (by rw[e3];exact h'),e3]
     ·refine AY ?_
      exact⟨k+1,⟨by omega,DT he hlt (e2.trans h')⟩,by dsimp only;omega,⟨rfl,rfl,rfl,rfl⟩,.refl _⟩
   ·refine AY ?_
    exact⟨by rw[e,CN fun i h=>he i h (by omega)],⟨rfl,rfl⟩,.refl _⟩
  ·refine AY ?_
   exact⟨by rw[IH,if_neg (by simp[h])],⟨rfl,rfl⟩,.refl _⟩
 refine AY ?_
 refine AV (σ:=Nat) (fun k=>k≤c.over.length∧ ∀ i (h:i < c.over.length),i < k→N9 c own c.over[i]=0) (fun k=>c.over.length - k) (fun k=> [(1,.slice (own.map eAtm) t),(2,.raw (.pointer (some ⟨b,0,none⟩))),(11,.raw (.int .i64 k))]) (fun _=> .box b 101 (BG c)::LF) 0 ⟨by simp,by simp⟩ ⟨rfl,rfl,rfl⟩ (.refl _) ?_
 rintro k ⟨hk,he⟩
 refine AY ?_
 refine A1 (fun hc=>?_) (fun hc=>?_)
 ·have hlt:k < c.over.length:=by omega
  refine AY ?_
  refine AN (fun h'=>?_) (fun h'=>?_)
  ·refine AY ?_
   refine Al (.of_eq ?_)
   have e3:Aq (N9 c own) c.over=N9 c own c.over[k]:=CV hlt he h'
   rw[FT,if_neg (by simp[hF]),if_neg (by simp[hP]),if_neg (by simp[hE]),if_pos (by rw[e3];exact h'),e3];rfl
  ·refine AY ?_
   exact⟨k+1,⟨by omega,DT he hlt h'⟩,by dsimp only;omega,⟨rfl,rfl,rfl⟩,.refl _⟩
 have hO:Aq (N9 c own) c.over=0:=CN fun i h=>he i h (by omega)
 refine AY ?_
 refine BB [(140,.raw (.bool (decide (c.kind=2∧c.parent=c.file)))),(2,.raw (.pointer (some ⟨b,0,none⟩)))] (.box b 101 (BG c)::LF) ?_ ?_
 ·repeat' (first|(refine A1 (fun h=>?_) (fun h=>?_)<;>refine AY ?_)|(refine AN (fun h=>?_) (fun h=>?_)<;>refine AY ?_)|(refine AU (fun h=>?_) (fun h=>?_)<;>refine AY ?_)|(refine Aw (fun h=>?_) (fun h=>?_)<;>(have h2:=h;(try simp only[AJ,A8,AQ,AR]at h2);refine Bp ?_)))
  all_goals (refine⟨⟨BW (by rfl) ?_,rfl⟩,.refl _⟩;first|(simp_all;done)|(simp_all;omega)|grind)
 refine AY ?_
 refine A1 (fun h1=>?_) (fun h1=>?_)
 ·refine AY ?_
  refine Al (.of_eq ?_)
  rw[FT,if_neg (by simp[hF]),if_neg (by simp[hP]),if_neg (by simp[hE]),if_neg (by simp[hO]),if_pos h1]
 refine AY ?_
 refine BB [(162,.raw (.bool (decide ((Ig c.kind=true∧c.after=c.before)∧(c.kind=6∨c.after≠c.file))))),(2,.raw (.pointer (some ⟨b,0,none⟩)))] (.box b 101 (BG c)::LF) ?_ ?_
 ·repeat' (first|(refine A1 (fun h=>?_) (fun h=>?_)<;>refine AY ?_)|(refine AN (fun h=>?_) (fun h=>?_)<;>refine AY ?_)|(refine AU (fun h=>?_) (fun h=>?_)<;>refine AY ?_)|(refine Aw (fun h=>?_) (fun h=>?_)<;>(have h2:=h;(try simp only[AJ,A8,AQ,AR]at h2);refine Bp ?_)))
  all_goals (refine⟨⟨BW (by rfl) ?_,rfl⟩,.refl _⟩;first|(simp_all;done)|(simp_all;omega)|grind)
 refine AY ?_
 refine A1 (fun h2=>?_) (fun h2=>?_)
 ·refine AY ?_
  refine Al (.of_eq ?_)
  rw[FT,if_neg (by simp[hF]),if_neg (by simp[hP]),if_neg (by simp[hE]),if_neg (by simp[hO]),if_neg h1,if_pos h2]
 ·refine AY ?_
  refine Al (.of_eq ?_)
  rw[FT,if_neg (by simp[hF]),if_neg (by simp[hP]),if_neg (by simp[hE]),if_neg (by simp[hO]),if_neg h1,if_neg h2]⟩
def HT (l:List Dig) (i:Nat):Int:=if l.getD i Dig.zero=Dig.zero then 1 else if 0 < (i:Int)∧0≤DY (l.getD (i - 1) Dig.zero) (l.getD i Dig.zero)then 9 else 0
def JN (l:List Dig):Int:=if 100 < (l.length:Int)then 4 else Aq (HT l) (List.range l.length)
instance wc (l:List Dig) (t:CZ):Bj Tryz.prog 244 [.slice (l.map eDig) t] (.raw (.int .i64 (JN l))):=⟨by
 refine Aj Tryz.func244 Tryz.ntmps244 rfl (rs:= [.tmp 2]) rfl rfl fun hb LF=>?_
 have hlen:l.length≤140737488355328:=(hb (.slice (l.map eDig) t) (by simp)).slice_map
 refine AY ?_
 refine A1 (fun h1=>?_) (fun h1=>?_)
 ·refine AY ?_
  refine Al (.of_eq ?_)
  rw[JN,if_pos h1]
 refine AY ?_
 refine AV (σ:=Nat) (fun k=>k≤l.length∧ ∀ i (h:i < (List.range l.length).length),i < k→HT l (List.range l.length)[i]=0) (fun k=>l.length - k) (fun k=> [(0,.slice (l.map eDig) t),(3,.raw (.int .i64 k))]) (fun _=>LF) 0 ⟨by simp,by simp⟩ ⟨rfl,rfl⟩ (.refl _) ?_
 rintro k ⟨hk,he⟩
 refine AY ?_
 refine A1 (fun hc=>?_) (fun hc=>?_)
 ·have hlt:k < l.length:=by omega
  have hltr:k < (List.range l.length).length:=by simpa using hlt
  have ek:(List.range l.length)[k]=k:=by simp
  have e0:l.getD k Dig.zero=l[k]:=by simp[List.getD,hlt]
  refine AY ?_
  refine A1 (fun h2=>?_) (fun h2=>?_)
  ·refine AY ?_
   refine Al (.of_eq ?_)
   have e:HT l (List.range l.length)[k]=1:=by rw[ek,HT,e0,if_pos h2]
   rw[JN,if_neg h1,CV hltr he (by rw[e];decide),e]
  refine AY ?_
  refine Aw (fun hp=>?_) (fun hp=>?_)
  ·have hp':0 < (k:Int):=An hp
   refine Bp ?_
   have e1:l.getD (k - 1) Dig.zero=l[((k:Int) - 1).toNat]:=by
    have:((k:Int) - 1).toNat=k - 1:=by omega
    simp only[this]
    have h':k - 1 < l.length:=by omega
    simp[List.getD,h']
   refine A1 (fun h3=>?_) (fun h3=>?_)
   ·refine AY ?_
    refine Al (.of_eq ?_)
    have e:HT l (List.range l.length)[k]=9:=by rw[ek,HT,e0,e1,if_neg h2,if_pos ⟨hp',h3⟩]
    rw[JN,if_neg h1,CV hltr he (by rw[e];decide),e]
   ·refine AY ?_
    have e:HT l (List.range l.length)[k]=0:=by rw[ek,HT,e0,e1,if_neg h2,if_neg (fun h=>h3 h.2)]
    exact⟨k+1,⟨by omega,DT he hltr e⟩,by dsimp only;omega,⟨rfl,rfl⟩,.refl _⟩
  ·have hp': ¬0 < (k:Int):=B6 hp
   refine Bp ?_
   have e:HT l (List.range l.length)[k]=0:=by rw[ek,HT,e0,if_neg h2,if_neg (fun h=>hp' h.1)]
   exact⟨k+1,⟨by omega,DT he hltr e⟩,by dsimp only;omega,⟨rfl,rfl⟩,.refl _⟩
 ·refine AY ?_
  refine Al (.of_eq ?_)
  rw[JN,if_neg h1,CN fun i h=>he i h (by simp at h;omega)]⟩
def FU (c:Chg) (first:Int) (i:Nat):Atm:={ Atm.zero with id:=⟨Dig.zero,first+i⟩,kind:=5,file:=c.file,text:=c.lines.getD i [] }
def Eh (c:Chg) (first:Int) (i:Nat):Atm:={ Atm.zero with id:=⟨Dig.zero,first+c.lines.length+i⟩,kind:=6,file:=c.file,src:=if 0 < (i:Int)then⟨Dig.zero,first+i - 1⟩else c.after,dst:=if(i:Int) < c.lines.length then⟨Dig.zero,first+i⟩else c.before }
def EJ (c:Chg) (first:Int):List Atm:=
 if c.kind=1 then [{ Atm.zero with id:=⟨Dig.zero,first⟩,kind:=1,file:=⟨Dig.zero,first⟩,type:=c.type }]else
 if c.kind=2 then [{ Atm.zero with id:=⟨Dig.zero,first⟩,kind:=2,file:=c.file,parent:=c.parent,name:=c.name,over:=c.over }]else
 if c.kind=3 then [{ Atm.zero with id:=⟨Dig.zero,first⟩,kind:=3,file:=c.file,mode:=c.mode,over:=c.over }]else
 if c.kind=4 then [{ Atm.zero with id:=⟨Dig.zero,first⟩,kind:=4,file:=c.file,data:=c.data,over:=c.over }]else
 if c.kind=6 then [{ Atm.zero with id:=⟨Dig.zero,first⟩,kind:=6,file:=c.file,src:=c.after,dst:=c.before,over:=c.over }]else
 if c.kind=7 then [{ Atm.zero with id:=⟨Dig.zero,first⟩,kind:=7,over:=c.over }]else
 (List.range c.lines.length).map (FU c first)++(List.range (c.lines.length+1)).map (Eh c first)
theorem LK (c:Chg) (first:Int):(EJ c first).length≤2*c.lines.length+1:=by
 unfold EJ
 repeat' split
 all_goals first|(simp only[AH,Aa];omega)|(simp only[A7,AF,Gu];omega)
instance wt (c:Chg) (first:Int) [hs:B0 (c.lines.length≤2000∧0≤first∧first≤1000000000)]:Bj Tryz.prog 284 [.agg (BG c),.raw (.int .i64 first)] (.slice ((EJ c first).map eAtm) .ro):=⟨by
 refine Aj Tryz.func284 Tryz.ntmps284 rfl (rs:= [.tmp 4]) rfl rfl fun hb LF=>?_
 obtain⟨hl,hf0,hf1⟩:=hs.out
 refine Cx fun b=>?_
 refine Ef fun b2=>?_
 refine A1 (fun h1=>?_) (fun h1=>?_)
 ·refine AY ?_
  refine Al (.of_eq ?_)
  rw[EJ,if_pos h1];rfl
 refine AY ?_
 refine A1 (fun h2=>?_) (fun h2=>?_)
 ·refine AY ?_
  refine Al (.of_eq ?_)
  rw[EJ,if_neg h1,if_pos h2];rfl
 refine AY ?_
 refine A1 (fun h3=>?_) (fun h3=>?_)
 ·refine AY ?_
  refine Al (.of_eq ?_)
  rw[EJ,if_neg h1,if_neg h2,if_pos h3];rfl
 refine AY ?_
 refine A1 (fun h4=>?_) (fun h4=>?_)
 ·refine AY ?_
  refine Al (.of_eq ?_)
  rw[EJ,if_neg h1,if_neg h2,if_neg h3,if_pos h4];rfl
 refine AY ?_
 refine A1 (fun h6=>?_) (fun h6=>?_)
 ·refine AY ?_
  refine Al (.of_eq ?_)
  rw[EJ,if_neg h1,if_neg h2,if_neg h3,if_neg h4,if_pos h6];rfl
 refine AY ?_
 refine A1 (fun h7=>?_) (fun h7=>?_)
 ·refine AY ?_
  refine Al (.of_eq ?_)
  rw[EJ,if_neg h1,if_neg h2,if_neg h3,if_neg h4,if_neg h6,if_pos h7];rfl
 refine AY ?_
 refine Dw 172 ?_
 refine AV (σ:=Nat × CZ) (fun k=>k.1≤c.lines.length) (fun k=>c.lines.length - k.1) (fun k=> [(1,.raw (.int .i64 first)),(2,.raw (.pointer (some ⟨b,0,none⟩))),(6,.slice (((List.range k.1).map (FU c first)).map eAtm) k.2),(7,.raw (.int .i64 c.lines.length)),(8,.raw (.int .i64 k.1))]) (fun k=> .tok k.2 ((List.range k.1).map (FU c first)).length 172:: .box b 101 (BG c)::LF) (0,.nil) (by simp) ⟨rfl,rfl,rfl,rfl,rfl⟩ (.cons_cons _ (.cons _ (.refl _))) ?_
 rintro⟨k,v⟩ hk
 dsimp only at hk
 refine AY ?_
 refine A1 (fun hc=>?_) (fun hc=>?_)
 ·have hlt:k < c.lines.length:=by omega
  have hll:((List.range k).map (FU c first)).length=k:=by simp
  generalize hB:(List.range k).map (FU c first)=B at hll ⊢
  refine OG ?_
  refine BR 14 ?_ ?_
  ·decide+kernel
  refine Fk fun v'=>?_
  have e:(List.range (k+1)).map (FU c first)=(List.range k).map (FU c first)++ [FU c first k]:=by rw[Hz,Az];rfl
  rw[hB]at e
  have e2:FU c first k= { Atm.zero with id:=⟨Dig.zero,first+k⟩,kind:=5,file:=c.file,text:=c.lines[k] }:=by simp[FU,List.getD,hlt]
  rw[e2]at e
  refine⟨(k+1,v'),by dsimp only;omega,by dsimp only;omega,⟨rfl,rfl,by dsimp only;rw[e];rfl,rfl,rfl⟩,by dsimp only;rw[e];exact .refl _⟩
 have hkk:k=c.lines.length:=by omega
 subst hkk
 refine AY ?_
 generalize hA:(List.range c.lines.length).map (FU c first)=A
 have hAl:A.length=c.lines.length:=by rw[←hA];simp
 refine AV (σ:=Nat × CZ) (fun k=>k.1≤c.lines.length+1) (fun k=>c.lines.length+1 - k.1) (fun k=> [(1,.raw (.int .i64 first)),(2,.raw (.pointer (some ⟨b,0,none⟩))),(6,.slice ((A++(List.range k.1).map (Eh c first)).map eAtm) k.2),(7,.raw (.int .i64 c.lines.length)),(9,.raw (.int .i64 k.1))]) (fun k=> .tok k.2 (A++(List.range k.1).map (Eh c first)).length 172:: .box b 101 (BG c)::LF) (0,v) (by simp) ⟨rfl,rfl,by simp only[nz,CX,B1];rfl,rfl,rfl⟩ (by simp only[nz,CX,B1];exact .refl _) ?_
 rintro⟨k,v⟩ hk
 dsimp only at hk
 refine AY ?_
 refine A1 (fun hc=>?_) (fun hc=>?_)
 ·have hll:(A++(List.range k).map (Eh c first)).length=c.lines.length+k:=by simp[hAl]
  have e:A++(List.range (k+1)).map (Eh c first)=(A++(List.range k).map (Eh c first))++ [Eh c first k]:=by rw[Hz,Az,AL];rfl
  generalize hB:A++(List.range k).map (Eh c first)=B at hll e ⊢
  refine Cx fun b3=>?_
  refine A1 (fun h8=>?_) (fun h8=>?_)
  ·refine AY ?_
   refine A1 (fun h9=>?_) (fun h9=>?_)
   ·refine GX fun v'=>?_
    have e2:Eh c first k= { Atm.zero with id:=⟨Dig.zero,first+c.lines.length+k⟩,kind:=6,file:=c.file,src:=⟨Dig.zero,first+k - 1⟩,dst:=⟨Dig.zero,first+k⟩ }:=by rw[Eh,if_pos h8,if_pos h9]
    rw[e2]at e
    refine⟨(k+1,v'),by dsimp only;omega,by dsimp only;omega,⟨rfl,rfl,by dsimp only;rw[e];rfl,rfl,rfl⟩,by dsimp only;rw[e];exact .cons _ (.refl _)⟩
   ·refine GX fun v'=>?_
    have e2:Eh c first k= { Atm.zero with id:=⟨Dig.zero,first+c.lines.length+k⟩,kind:=6,file:=c.file,src:=⟨Dig.zero,first+k - 1⟩,dst:=c.before }:=by rw[Eh,if_pos h8,if_neg h9]
    rw[e2]at e
    refine⟨(k+1,v'),by dsimp only;omega,by dsimp only;omega,⟨rfl,rfl,by dsimp only;rw[e];rfl,rfl,rfl⟩,by dsimp only;rw[e];exact .cons _ (.refl _)⟩
  ·refine AY ?_
   refine A1 (fun h9=>?_) (fun h9=>?_)
   ·refine GX fun v'=>?_
    have e2:Eh c first k= { Atm.zero with id:=⟨Dig.zero,first+c.lines.length+k⟩,kind:=6,file:=c.file,src:=c.after,dst:=⟨Dig.zero,first+k⟩ }:=by rw[Eh,if_neg h8,if_pos h9]
    rw[e2]at e
    refine⟨(k+1,v'),by dsimp only;omega,by dsimp only;omega,⟨rfl,rfl,by dsimp only;rw[e];rfl,rfl,rfl⟩,by dsimp only;rw[e];exact .cons _ (.refl _)⟩
   ·refine GX fun v'=>?_
    have e2:Eh c first k= { Atm.zero with id:=⟨Dig.zero,first+c.lines.length+k⟩,kind:=6,file:=c.file,src:=c.after,dst:=c.before }:=by rw[Eh,if_neg h8,if_neg h9]
    rw[e2]at e
    refine⟨(k+1,v'),by dsimp only;omega,by dsimp only;omega,⟨rfl,rfl,by dsimp only;rw[e];rfl,rfl,rfl⟩,by dsimp only;rw[e];exact .cons _ (.refl _)⟩
 ·refine AY ?_
  refine Al (.ros ?_)
  have hkk:k=c.lines.length+1:=by omega
  subst hkk
  rw[EJ,if_neg h1,if_neg h2,if_neg h3,if_neg h4,if_neg h6,if_neg h7,hA]⟩
theorem JF {c:Chg} (h:C0 c=0):c.lines.length≤2000:=by
 unfold C0 at h
 split at h
 ·omega
 split at h
 ·omega
 rename_i h2
 split at h
 ·omega
 split at h
 ·omega
 split at h
 ·omega
 split at h
 ·omega
 split at h
 ·unfold Lr at h
  split at h
  ·omega
  split at h
  ·omega
  ·omega
 ·rename_i h7
  simp only[Bool.not_eq_false,Fw,Bx,AJ,Ih,h7,if_false]at h2
  omega
def DP:List Chg→List Atm→List Atm × Int
 | [],own=>(own,0)
 |c::l,own=>if C0 c≠0 then([],C0 c)else if FT c own≠0 then([],FT c own)else DP l (own++EJ c own.length)
theorem Kq {l:List Chg} {k:Nat} (hk:k < l.length) (own:List Atm):DP (l.drop k) own=if C0 l[k]≠0 then([],C0 l[k])else if FT l[k] own≠0 then([],FT l[k] own)else DP (l.drop (k+1)) (own++EJ l[k] own.length):=by
 rw[Dk hk,DP]
instance ru (l:List Chg) (t:CZ) [hs:B0 (l.length≤400)]:Bj Tryz.prog 245 [.slice (l.map BG) t] (.tuple [.slice ((DP l []).1.map eAtm) .ro,.raw (.int .i64 (DP l []).2)]):=⟨by
 refine Aj Tryz.func245 Tryz.ntmps245 rfl (rs:= [.tmp 2,.tmp 3]) rfl rfl fun hb LF=>?_
 have hl:=hs.out
 refine AY ?_
 refine Dw 172 ?_
 refine AV (σ:=Nat × CZ × List Atm) (fun k=>k.1≤l.length∧k.2.2.length≤k.1*4001∧DP l []=DP (l.drop k.1) k.2.2) (fun k=>l.length - k.1) (fun k=> [(0,.slice (l.map BG) t),(4,.slice (k.2.2.map eAtm) k.2.1),(5,.raw (.int .i64 k.1))]) (fun k=> .tok k.2.1 k.2.2.length 172::LF) (0,.nil,[]) ⟨by simp,by simp,by simp⟩ ⟨rfl,rfl,rfl⟩ (.refl _) ?_
 rintro⟨k,v,own⟩ ⟨hk,hlen,he⟩
 dsimp only at hk hlen he
 refine AY ?_
 refine A1 (fun hc=>?_) (fun hc=>?_)
 ·have hlt:k < l.length:=by omega
  rw[Kq hlt]at he
  refine AY ?_
  refine AN (fun h1=>?_) (fun h1=>?_)
  ·refine AY ?_
   rw[if_pos h1]at he
   refine Ei (.tuple2 ?_ (.of_eq ?_))
   ·rw[he];exact .ro _ _
   ·rw[he]
  rw[if_neg (by simp[h1])]at he
  refine AY ?_
  refine AN (fun h2=>?_) (fun h2=>?_)
  ·refine AY ?_
   rw[if_pos h2]at he
   refine Ei (.tuple2 ?_ (.of_eq ?_))
   ·rw[he];exact .ro _ _
   ·rw[he]
  rw[if_neg (by simp[h2])]at he
  have hll:l[k].lines.length≤2000:=JF h1
  have hmm:=LK l[k] own.length
  have:B0 (l[k].lines.length≤2000∧(0:Int)≤own.length∧(own.length:Int)≤1000000000):=⟨hll,by omega,by omega⟩
  refine GX fun v'=>?_
  refine⟨(k+1,v',own++EJ l[k] own.length),⟨by dsimp only;omega,by dsimp only;rw[A7];omega,he⟩,by dsimp only;omega,⟨rfl,rfl,rfl⟩,.refl _⟩
 ·refine AY ?_
  have hkk:l.drop k= []:=CY (by omega)
  rw[hkk]at he
  refine Ei (.tuple2 ?_ (.of_eq ?_))
  ·rw[he];exact .ro _ _
  ·rw[he];rfl⟩
def Cv (p:Pat):List Atm × Int:=
 if EN p.author=false then([],5)else if 1000 < (p.message.length:Int)then([],4)else if p.time < 0∨1099511627776 < p.time then([],2)else
 if JN p.deps≠0 then([],JN p.deps)else if(p.changes.length:Int)=0 then([],1)else if 400 < (p.changes.length:Int)then([],4)else DP p.changes []
instance tJ (p:Pat):Bj Tryz.prog 209 [.agg (Cc p)] (.tuple [.slice ((Cv p).1.map eAtm) .ro,.raw (.int .i64 (Cv p).2)]):=⟨by
 refine Aj Tryz.func209 Tryz.ntmps209 rfl (rs:= [.tmp 2,.tmp 3]) rfl rfl fun hb LF=>?_
 refine Cx fun b=>?_
 refine AU (fun h1=>?_) (fun h1=>?_)
 ·refine AY ?_
  rw[Cv,if_pos (by simpa using h1)]
  refine Ei ?_;exact .tuple2 (.ro _ _) (.refl _)
 rw[Cv,if_neg (by simpa using h1)]
 refine AY ?_
 refine A1 (fun h2=>?_) (fun h2=>?_)
 ·refine AY ?_
  rw[if_pos h2]
  refine Ei ?_;exact .tuple2 (.ro _ _) (.refl _)
 rw[if_neg h2]
 refine AY ?_
 refine BB [(20,.raw (.bool (decide (p.time < 0∨1099511627776 < p.time)))),(1,.raw (.pointer (some ⟨b,0,none⟩)))] (.box b 42 (Cc p)::LF) ?_ ?_
 ·repeat' (first|(refine A1 (fun h=>?_) (fun h=>?_)<;>refine AY ?_)|(refine AN (fun h=>?_) (fun h=>?_)<;>refine AY ?_)|(refine AU (fun h=>?_) (fun h=>?_)<;>refine AY ?_)|(refine Aw (fun h=>?_) (fun h=>?_)<;>(have h2:=h;(try simp only[AJ,A8,AQ,AR]at h2);refine Bp ?_)))
  all_goals (refine⟨⟨BW (by rfl) ?_,rfl⟩,.refl _⟩;first|(simp_all;done)|(simp_all;omega)|grind)
 refine AY ?_
 refine A1 (fun h3=>?_) (fun h3=>?_)
 ·refine AY ?_
  rw[if_pos h3]
  refine Ei ?_;exact .tuple2 (.ro _ _) (.refl _)
 rw[if_neg h3]
 refine AY ?_
 refine AN (fun h4=>?_) (fun h4=>?_)
 ·refine AY ?_
  rw[if_pos h4]
  refine Ei ?_;exact .tuple2 (.ro _ _) (.refl _)
 rw[if_neg (by simp[h4])]
 refine AY ?_
 refine A1 (fun h5=>?_) (fun h5=>?_)
 ·refine AY ?_
  rw[if_pos h5]
  refine Ei ?_;exact .tuple2 (.ro _ _) (.refl _)
 rw[if_neg h5]
 refine AY ?_
 refine A1 (fun h6=>?_) (fun h6=>?_)
 ·refine AY ?_
  rw[if_pos h6]
  refine Ei ?_;exact .tuple2 (.ro _ _) (.refl _)
 rw[if_neg h6]
 have:B0 (p.changes.length≤400):=⟨by omega⟩
 refine AY ?_
 refine Ei ?_;exact .refl _⟩
def OO:Nat→Nat→Str
 |0,n=> [UInt8.ofNat (48+n)]
 |f+1,n=>if n < 10 then [UInt8.ofNat (48+n)]else OO f (n / 10)++ [UInt8.ofNat (48+n % 10)]
theorem SS: ∀ (f n:Nat),n≤f→OO f n=OO n n
 |0,n,h=>by have:n=0:=by omega
            subst this;rfl
 |f+1,n,h=>by
  by_cases hn:n < 10
  ·cases n with
   |zero=>simp[OO]
   |succ m=>simp only[OO,hn,if_true]
  ·obtain⟨m,rfl⟩: ∃ m,n=m+1:=⟨n - 1,by omega⟩
   simp only[OO,hn,if_false]
   rw[SS f ((m+1) / 10) (by omega),SS m ((m+1) / 10) (by omega)]
def HV (n:Nat):Str:=OO n n
theorem Hj {n:Nat} (h:n < 10):HV n= [UInt8.ofNat (48+n)]:=by
 unfold HV
 cases n with
 |zero=>simp[OO]
 |succ m=>simp only[OO,h,if_true]
theorem LO {n:Nat} (h: ¬n < 10):HV n=HV (n / 10)++ [UInt8.ofNat (48+n % 10)]:=by
 obtain⟨m,rfl⟩: ∃ m,n=m+1:=⟨n - 1,by omega⟩
 unfold HV
 simp only[OO,h,if_false]
 rw[SS m ((m+1) / 10) (by omega)]
theorem Xv: ∀ (m n:Nat),n < 10 ^ (m+1)→(HV n).length≤m+1
 |0,n,h=>by rw[Hj (by omega)];simp
 |m+1,n,h=>by
  by_cases hn:n < 10
  ·rw[Hj hn];simp
  ·rw[LO hn,A7]
   have:=Xv m (n / 10) (by rw[Nat.div_lt_iff_lt_mul (by omega)];rw[Nat.pow_succ]at h;omega)
   simp only[AH,Aa];omega
theorem KD {n:Nat} (h:n≤140737488355328):(HV n).length≤15:=Xv 14 n (by omega)
theorem RP: ∀ (n:Nat),n≤140737488355328→Q.Fn Tryz.prog 321 [.raw (.int .i64 (n:Int))] (.str (HV n)):=by
 intro n
 induction n using Nat.strongRecOn with
 |_ n ih=>
 intro hn
 have ih': ∀ m:Nat,[B0 (m < n)]→Bj Tryz.prog 321 [.raw (.int .i64 (m:Int))] (.str (HV m)):=fun m h=>⟨ih m h.out (by have:=h.out;omega)⟩
 refine Aj Tryz.func321 Tryz.ntmps321 rfl (rs:= [.tmp 2]) rfl rfl fun hb LF=>?_
 refine AY ?_
 refine A1 (fun h2=>?_) (fun h2=>?_)
 ·refine AY ?_
  refine Al (.of_eq ?_)
  rw[Hj (by omega)]
 ·have:B0 (n / 10 < n):=⟨by omega⟩
  have hl:=KD (n:=n / 10) (by omega)
  refine AY ?_
  refine XV (n:=10) (by rfl) (by rfl) (by decide) (by omega) ?_
  refine Bp ?_
  refine XU (n:=10) (by rfl) (by rfl) (by decide) ?_
  refine Bp ?_
  refine Al (.of_eq ?_)
  rw[LO (n:=n) (by omega)]
def Ik (n:Int):Str:=if n < 0 then 45::HV (-n).toNat else HV n.toNat
theorem Nn {n:Int} (h: -140737488355328≤n∧n≤140737488355328):(Ik n).length≤16:=by
 unfold Ik
 split
 ·have:=KD (n:=(-n).toNat) (by omega)
  simp only[AH];omega
 ·have:=KD (n:=n.toNat) (by omega)
  omega
instance sP (n:Int) [hs:B0 (-140737488355328≤n∧n≤140737488355328)]:Bj Tryz.prog 321 [.raw (.int .i64 n)] (.str (Ik n)):=⟨by
 obtain⟨h0,h1⟩:=hs.out
 by_cases hn:n < 0
 ·have h3:Bj Tryz.prog 321 [.raw (.int .i64 (-n))] (.str (HV (-n).toNat)):=⟨by
   have:=RP (-n).toNat (by omega)
   rwa [show(((-n).toNat:Nat):Int)= -n by omega]at this⟩
  refine Aj Tryz.func321 Tryz.ntmps321 rfl (rs:= [.tmp 2]) rfl rfl fun hb LF=>?_
  refine AY ?_
  refine A1 (fun h1=>?_) (fun h1=>?_)
  ·refine AY ?_
   refine A1 (fun h2=>?_) (fun h2=>?_)
   ·omega
   ·have hl:=KD (n:=(-n).toNat) (by omega)
    refine AY ?_
    refine Al (.of_eq ?_)
    rw[Ik,if_pos hn];rfl
  ·omega
 ·have:=RP n.toNat (by omega)
  rw[show((n.toNat:Nat):Int)=n by omega]at this
  rw[Ik,if_neg hn];exact this⟩
def Ch (s:Str):Sx:= .mk false s []
def Du (l:List Sx):Sx:= .mk true [] l
def Qd (n:Int):Sx × Int:=if n < -1099511627776∨1099511627776 < n then(Sx.zero,2)else(Ch (Ik n),0)
instance xf (n:Int):Bj Tryz.prog 290 [.raw (.int .i64 n)] (.tuple [.agg (eSx (Qd n).1),.raw (.int .i64 (Qd n).2)]):=⟨by
 refine Aj Tryz.func290 Tryz.ntmps290 rfl (rs:= [.cell 2 254,.tmp 3]) rfl rfl fun hb LF=>?_
 refine Cx fun b=>?_
 refine BB [(9,.raw (.bool (decide (n < -1099511627776∨1099511627776 < n)))),(0,.raw (.int .i64 n)),(2,.raw (.pointer (some ⟨b,0,none⟩)))] (.box b 254 (eSx Sx.zero)::LF) ?_ ?_
 ·repeat' (first|(refine A1 (fun h=>?_) (fun h=>?_)<;>refine AY ?_)|(refine AN (fun h=>?_) (fun h=>?_)<;>refine AY ?_)|(refine AU (fun h=>?_) (fun h=>?_)<;>refine AY ?_)|(refine Aw (fun h=>?_) (fun h=>?_)<;>(have h2:=h;(try simp only[AJ,A8,AQ,AR]at h2);refine Bp ?_)))
  all_goals (refine⟨⟨BW (by rfl) ?_,rfl,rfl⟩,.refl _⟩;first|(simp_all;done)|(simp_all;omega)|grind)
 refine AY ?_
 refine A1 (fun h=>?_) (fun h=>?_)
 ·refine AY ?_
  refine CJ rfl (.of_eq ?_)
  rw[Qd,if_pos h]
 ·have:B0 (-140737488355328≤n∧n≤140737488355328):=⟨by omega⟩
  refine AY ?_
  refine CJ rfl (.of_eq ?_)
  rw[Qd,if_neg h];rfl⟩
instance vB (s:Str):Bj Tryz.prog 250 [.str s] (.agg (eSx (Ch s))):=⟨by
 refine Aj Tryz.func250 Tryz.ntmps250 rfl (rs:= [.cell 2 254]) rfl rfl fun hb LF=>?_
 refine Cx fun b=>?_
 refine FK rfl (.of_eq ?_)
 rfl⟩
instance uY (l:List Sx) (t:CZ):Bj Tryz.prog 249 [.slice (l.map eSx) t] (.agg (eSx (Du l))):=⟨by
 refine Aj Tryz.func249 Tryz.ntmps249 rfl (rs:= [.cell 2 254]) rfl rfl fun hb LF=>?_
 refine Cx fun b=>?_
 refine FK rfl (.of_eq ?_)
 rfl⟩
def Fo (n:Int):Sx:=(Qd n).1
instance r8 (n:Int):Bj Tryz.prog 251 [.raw (.int .i64 n)] (.agg (eSx (Fo n))):=⟨by
 refine Aj Tryz.func251 Tryz.ntmps251 rfl (rs:= [.cell 2 254]) rfl rfl fun hb LF=>?_
 refine Cx fun b=>?_
 refine Ef fun b2=>?_
 refine FK rfl (.of_eq ?_)
 rfl⟩
instance vU (d:Dig):Bj Tryz.prog 285 [.agg (eDig d)] (.str d.bs):=⟨by
 refine Aj Tryz.func285 Tryz.ntmps285 rfl (rs:= [.tmp 2]) rfl rfl fun hb LF=>?_
 refine Cx fun b=>?_
 refine Al (.of_eq ?_)
 rfl⟩
def Jn (d:Dig):Sx:=if d=Dig.zero then Ch []else Ch d.bs
instance rq (d:Dig):Bj Tryz.prog 246 [.agg (eDig d)] (.agg (eSx (Jn d))):=⟨by
 refine Aj Tryz.func246 Tryz.ntmps246 rfl (rs:= [.cell 2 254]) rfl rfl fun hb LF=>?_
 refine Cx fun b=>?_
 refine Ef fun b2=>?_
 refine A1 (fun h=>?_) (fun h=>?_)
 ·refine AY ?_
  refine FK rfl (.of_eq ?_)
  rw[Jn,if_pos h]
 ·refine AY ?_
  refine FK rfl (.of_eq ?_)
  rw[Jn,if_neg h]⟩
def Fl (x:Ident):Sx:=Du [Jn x.patch,Fo x.n]
instance kh (x:Ident):Bj Tryz.prog 286 [.agg (eIdent x)] (.agg (eSx (Fl x))):=⟨by
 refine Aj Tryz.func286 Tryz.ntmps286 rfl (rs:= [.cell 2 254]) rfl rfl fun hb LF=>?_
 refine ZQ fun b=>?_
 refine lG fun b2=>?_
 refine BR 8 ?_ ?_
 ·decide+kernel
 refine Bp ?_
 refine FK rfl (.of_eq ?_)
 rfl⟩
def Ie (l:List Ident):Sx:=Du (l.map Fl)
instance uI (l:List Ident) (t:CZ) [hs:B0 (l.length≤1000000)]:Bj Tryz.prog 287 [.slice (l.map eIdent) t] (.agg (eSx (Ie l))):=⟨by
 refine Aj Tryz.func287 Tryz.ntmps287 rfl (rs:= [.cell 2 254]) rfl rfl fun hb LF=>?_
 have hlen:=hs.out
 refine Cx fun b=>?_
 refine Dw 3 ?_
 refine AV (σ:=Nat × CZ × List Sx) (fun k=>k.1≤l.length∧k.2.2=(l.take k.1).map Fl) (fun k=>l.length - k.1) (fun k=> [(0,.slice (l.map eIdent) t),(2,.raw (.pointer (some ⟨b,0,none⟩))),(3,.slice (k.2.2.map eSx) k.2.1),(4,.raw (.int .i64 k.1))]) (fun k=> .tok k.2.1 k.2.2.length 3:: .box b 254 (eSx Sx.zero)::LF) (0,.nil,[]) ⟨by simp,by simp⟩ ⟨rfl,rfl,rfl,rfl⟩ (.refl _) ?_
 rintro⟨k,v,out⟩ ⟨hk,he⟩
 dsimp only at hk he
 have hol:out.length=k:=by rw[he];simp;omega
 refine AY ?_
 refine A1 (fun hc=>?_) (fun hc=>?_)
 ·have hlt:k < l.length:=by omega
  refine GX fun v'=>?_
  refine⟨(k+1,v',out++ [Fl l[k]]),⟨by dsimp only;omega,?_⟩,by dsimp only;omega,⟨rfl,rfl,rfl,rfl⟩,.refl _⟩
  dsimp only
  rw[A6 hlt,Az,he];rfl
 ·refine AY ?_
  refine FK rfl (.of_eq ?_)
  rw[AA (by omega)]at he
  rw[Ie,←he]⟩
def O4:Nat→Sx→Prop
 |0,_=>False
 |d+1,x=>(x.isList=false∧x.list= []∧x.atom.length≤65536)∨(x.isList=true∧x.atom= []∧ ∀ y∈x.list,O4 d y)
def Hs:Nat→Sx→Nat
 |0,_=>0
 |d+1,x=>if x.isList then 1+(x.list.map (Hs d)).sum else 1
def Dc:Nat→Sx→Str
 |0,_=> []
 |d+1,x=>if x.isList then 40::(x.list.flatMap (Dc d)++ [41])else HV x.atom.length++58::x.atom
theorem Ka {l:List Nat} {k:Nat}:(l.take k).sum≤l.sum:=by
 conv=>rhs;rw[←CB k l,K5]
 omega
theorem Ys: ∀ (d:Nat) (x:Sx) (limit depth:Int),O4 d x→(Hs d x:Int)≤limit→limit≤1000000→(d:Int)≤depth→depth≤1000→Q.Fn Tryz.prog 319 [.agg (eSx x),.raw (.int .i64 limit),.raw (.int .i64 depth)] (.raw (.int .i64 (Hs d x:Int)))
 |0,x,limit,depth,hw,_,_,_,_=>hw.elim
 |d+1,x,limit,depth,hw,hn,hl,hd,hd2=>by
  have ih: ∀ (y:Sx) (lim dep:Int),[B0 (O4 d y∧(Hs d y:Int)≤lim∧lim≤1000000∧(d:Int)≤dep∧dep≤1000)]→Bj Tryz.prog 319 [.agg (eSx y),.raw (.int .i64 lim),.raw (.int .i64 dep)] (.raw (.int .i64 (Hs d y:Int))):=fun y lim dep h=>⟨by
   obtain⟨h1,h2,h3,h4,h5⟩:=h.out
   exact Ys d y lim dep h1 h2 h3 h4 h5⟩
  have hpos:1≤Hs (d+1) x:=by unfold Hs;split<;>omega
  refine Aj Tryz.func319 Tryz.ntmps319 rfl (rs:= [.tmp 6]) rfl rfl fun hb LF=>?_
  refine Cx fun b=>?_
  refine Aw (fun hp=>?_) (fun hp=>?_)
  ·have:=An hp;omega
  refine Bp ?_
  refine A1 (fun h1=>?_) (fun h1=>?_)
  ·omega
  refine AY ?_
  refine AU (fun h2=>?_) (fun h2=>?_)
  ·refine AY ?_
   refine Al (.of_eq ?_)
   have:x.isList=false:=by simpa using h2
   simp[Hs,this]
  have hL:x.isList=true:=by simpa using h2
  rcases hw with ⟨h3,_⟩|⟨_,_,hw⟩
  ·rw[hL]at h3;cases h3
  have hnd:Hs (d+1) x=1+(x.list.map (Hs d)).sum:=by simp[Hs,hL]
  rw[hnd]at hn ⊢
  have hlen:x.list.length≤140737488355328:=by
   have:=(hb (.agg (eSx x)) (by simp)).agg_at (c:= .slice (x.list.map eSx) .ro) (by rw[FV];simp)
   exact this.slice_map
  refine AY ?_
  refine AV (σ:=Nat) (fun k=>k≤x.list.length) (fun k=>x.list.length - k) (fun k=> [(1,.raw (.int .i64 limit)),(2,.raw (.int .i64 depth)),(3,.raw (.pointer (some ⟨b,0,none⟩))),(7,.raw (.int .i64 ((1+((x.list.map (Hs d)).take k).sum:Nat):Int))),(8,.raw (.int .i64 k))]) (fun _=> .box b 254 (eSx x)::LF) 0 (by simp) ⟨rfl,rfl,rfl,by simp;rfl,rfl⟩ (.refl _) ?_
  intro k hk
  have hsk:=Ka (l:=x.list.map (Hs d)) (k:=k)
  have hsk1:=Ka (l:=x.list.map (Hs d)) (k:=k+1)
  refine AY ?_
  refine Aw (fun hp=>?_) (fun hp=>?_)
  ·have hc:=An hp
   have hlt:k < x.list.length:=by omega
   have e:((x.list.map (Hs d)).take (k+1)).sum=((x.list.map (Hs d)).take k).sum+Hs d x.list[k]:=by
    rw[A6 (by simpa using hlt),K5];simp
   refine Bp ?_
   refine A1 (fun h4=>?_) (fun h4=>?_)
   ·have:B0 (O4 d x.list[k]∧(Hs d x.list[k]:Int)≤limit - ((1+((x.list.map (Hs d)).take k).sum:Nat):Int)∧limit - ((1+((x.list.map (Hs d)).take k).sum:Nat):Int)≤1000000∧(d:Int)≤depth - 1∧depth - 1≤1000):=⟨hw _ (AO hlt),by omega,by omega,by omega,by omega⟩
    refine AY ?_
    refine⟨k+1,by omega,by dsimp only;omega,⟨rfl,rfl,rfl,?_,rfl⟩,.refl _⟩
    show PV.raw (Value.int .i64 _)=PV.raw (Value.int .i64 _)
    rw[e];congr 2;omega
   ·omega
  ·have hc:=B6 hp
   refine Bp ?_
   refine Al (.of_eq ?_)
   rw[AA (by simp;omega)]
theorem Yx: ∀ (d:Nat) (x:Sx),O4 d x→Q.Fn Tryz.prog 320 [.agg (eSx x)] (.raw (.int .i64 0))
 |0,x,hw=>hw.elim
 |d+1,x,hw=>by
  have ih: ∀ (y:Sx),[B0 (O4 d y)]→Bj Tryz.prog 320 [.agg (eSx y)] (.raw (.int .i64 0)):=fun y h=>⟨Yx d y h.out⟩
  refine Aj Tryz.func320 Tryz.ntmps320 rfl (rs:= [.tmp 2]) rfl rfl fun hb LF=>?_
  have hlen:x.list.length≤140737488355328:=by
   have:=(hb (.agg (eSx x)) (by simp)).agg_at (c:= .slice (x.list.map eSx) .ro) (by rw[FV];simp)
   exact this.slice_map
  refine Cx fun b=>?_
  refine AU (fun h2=>?_) (fun h2=>?_)
  ·have hL:x.isList=false:=by simpa using h2
   rcases hw with ⟨_,h3,h4⟩|⟨h3,_⟩
   ·refine AY ?_
    refine A1 (fun h5=>?_) (fun h5=>?_)
    ·rw[h3]at h5;simp at h5
    refine AY ?_
    refine A1 (fun h6=>?_) (fun h6=>?_)
    ·omega
    refine AY ?_
    exact Al (.refl _)
   ·rw[hL]at h3;cases h3
  have hL:x.isList=true:=by simpa using h2
  rcases hw with ⟨h3,_⟩|⟨_,ha,hw⟩
  ·rw[hL]at h3;cases h3
  refine AY ?_
  refine AN (fun h5=>?_) (fun h5=>?_)
  ·exact absurd ha h5
  refine AY ?_
  refine AV (σ:=Nat) (fun k=>k≤x.list.length) (fun k=>x.list.length - k) (fun k=> [(1,.raw (.pointer (some ⟨b,0,none⟩))),(3,.raw (.int .i64 k))]) (fun _=> .box b 254 (eSx x)::LF) 0 (by simp) ⟨rfl,rfl⟩ (.refl _) ?_
  intro k hk
  refine AY ?_
  refine A1 (fun hc=>?_) (fun hc=>?_)
  ·have hlt:k < x.list.length:=by omega
   have:B0 (O4 d x.list[k]):=⟨hw _ (AO hlt)⟩
   refine AY ?_
   exact⟨k+1,by omega,by dsimp only;omega,⟨rfl,rfl⟩,.refl _⟩
  ·refine AY ?_
   exact Al (.refl _)
def mb (x:Sx):Prop:=O4 8 x∧Hs 8 x≤20000
instance tX (x:Sx) [hs:B0 (mb x)]:Bj Tryz.prog 288 [.agg (eSx x)] (.raw (.int .i64 0)):=⟨by
 obtain⟨h1,h2⟩:=hs.out
 have i1:Bj Tryz.prog 319 [.agg (eSx x),.raw (.int .i64 20000),.raw (.int .i64 12)] (.raw (.int .i64 (Hs 8 x:Int))):=⟨Ys 8 x 20000 12 h1 (by omega) (by omega) (by omega) (by omega)⟩
 have i2:Bj Tryz.prog 320 [.agg (eSx x)] (.raw (.int .i64 0)):=⟨Yx 8 x h1⟩
 refine Aj Tryz.func288 Tryz.ntmps288 rfl (rs:= [.tmp 2]) rfl rfl fun hb LF=>?_
 refine Cx fun b=>?_
 refine A1 (fun h=>?_) (fun h=>?_)
 ·omega
 refine AY ?_
 exact Al (.refl _)⟩
theorem IQ {α β:Type} {l:List α} {f:α→List β} {k:Nat} (h:k < l.length):(l.take (k+1)).flatMap f=(l.take k).flatMap f++f l[k]:=by
 rw[A6 h,Ez];simp
theorem J5 {α β:Type} {l:List α} {f:α→List β} {k:Nat}:((l.take k).flatMap f).length≤(l.flatMap f).length:=by
 conv=>rhs;rw[←CB k l,Ez,A7]
 omega
theorem Qz {α β:Type} {l:List α} {f:α→List β} {a:α} (h:a∈l):(f a).length≤(l.flatMap f).length:=by
 induction l with
 |nil=>cases h
 |cons x l ih=>
  rw[Cn,A7]
  rcases AI.1 h with rfl|h
  ·omega
  ·have:=ih h;omega
theorem Uz: ∀ (d:Nat) (x:Sx),O4 d x→(Dc d x).length≤1000000000→Q.Fn Tryz.prog 289 [.agg (eSx x)] (.str (Dc d x))
 |0,x,hw,_=>hw.elim
 |d+1,x,hw,hl=>by
  have ih: ∀ (y:Sx),[B0 (O4 d y∧(Dc d y).length≤1000000000)]→Bj Tryz.prog 289 [.agg (eSx y)] (.str (Dc d y)):=fun y h=>⟨Uz d y h.out.1 h.out.2⟩
  refine Aj Tryz.func289 Tryz.ntmps289 rfl (rs:= [.tmp 2]) rfl rfl fun hb LF=>?_
  have hlen:x.list.length≤140737488355328:=by
   have:=(hb (.agg (eSx x)) (by simp)).agg_at (c:= .slice (x.list.map eSx) .ro) (by rw[FV];simp)
   exact this.slice_map
  refine Cx fun b=>?_
  refine AU (fun h2=>?_) (fun h2=>?_)
  ·have hL:x.isList=false:=by simpa using h2
   rcases hw with ⟨_,h3,h4⟩|⟨h3,_⟩
   ·have:B0 (-140737488355328≤(x.atom.length:Int)∧(x.atom.length:Int)≤140737488355328):=⟨by omega,by omega⟩
    have hd:=Nn (n:=(x.atom.length:Int)) ⟨by omega,by omega⟩
    refine AY ?_
    refine Al (.of_eq ?_)
    have e:Ik (x.atom.length:Int)=HV x.atom.length:=by
     rw[Ik,if_neg (by omega)];rfl
    simp[Dc,hL,e]
   ·rw[hL]at h3;cases h3
  have hL:x.isList=true:=by simpa using h2
  rcases hw with ⟨h3,_⟩|⟨_,ha,hw⟩
  ·rw[hL]at h3;cases h3
  have he:Dc (d+1) x=40::(x.list.flatMap (Dc d)++ [41]):=by simp[Dc,hL]
  rw[he]at hl ⊢
  simp only[AH,A7,Aa]at hl
  refine AY ?_
  refine AV (σ:=Nat × Str) (fun k=>k.1≤x.list.length∧k.2=40::(x.list.take k.1).flatMap (Dc d)) (fun k=>x.list.length - k.1) (fun k=> [(1,.raw (.pointer (some ⟨b,0,none⟩))),(3,.str k.2),(4,.raw (.int .i64 k.1))]) (fun _=> .box b 254 (eSx x)::LF) (0,[40]) ⟨by simp,by simp⟩ ⟨rfl,rfl,rfl⟩ (.refl _) ?_
  rintro⟨k,s⟩ ⟨hk,hs⟩
  dsimp only at hk hs
  have hsl:s.length≤1+(x.list.flatMap (Dc d)).length:=by
   rw[hs,AH]
   have:=J5 (l:=x.list) (f:=Dc d) (k:=k)
   omega
  refine AY ?_
  refine A1 (fun hc=>?_) (fun hc=>?_)
  ·have hlt:k < x.list.length:=by omega
   have hel:(Dc d x.list[k]).length≤(x.list.flatMap (Dc d)).length:=Qz (AO hlt)
   have:B0 (O4 d x.list[k]∧(Dc d x.list[k]).length≤1000000000):=⟨hw _ (AO hlt),by omega⟩
   refine AY ?_
   refine⟨(k+1,s++Dc d x.list[k]),⟨by dsimp only;omega,?_⟩,by dsimp only;omega,⟨rfl,rfl,rfl⟩,.refl _⟩
   dsimp only
   rw[IQ hlt,hs,BM]
  ·refine AY ?_
   refine Al (.of_eq ?_)
   rw[hs,AA (by omega)];rfl
instance sN (x:Sx) [hs:B0 (mb x∧(Dc 8 x).length≤1000000000)]:Bj Tryz.prog 248 [.agg (eSx x)] (.tuple [.str (Dc 8 x),.raw (.int .i64 0)]):=⟨by
 obtain⟨h1,h2⟩:=hs.out
 have:B0 (mb x):=⟨h1⟩
 have i2:Bj Tryz.prog 289 [.agg (eSx x)] (.str (Dc 8 x)):=⟨Uz 8 x h1.1 h2⟩
 refine Aj Tryz.func248 Tryz.ntmps248 rfl (rs:= [.tmp 2,.tmp 3]) rfl rfl fun hb LF=>?_
 refine Cx fun b=>?_
 refine Ei ?_
 exact .refl _⟩
def Jh (c:Chg):List Sx:=if 2≤c.kind∧c.kind≤6 then [Fl c.file]else []
def Ho (c:Chg):List Sx:=if c.kind=1 then [Fo c.type]else if c.kind=2 then [Fl c.parent,Ch c.name]else if c.kind=3 then [Fo c.mode]else if c.kind=4 then [Ch c.data]else if c.kind=5∨c.kind=6 then [Fl c.after,Fl c.before]else []
def Kb (c:Chg):List Sx:=if c.kind=5 then [Du (c.lines.map Ch)]else if c.kind≠1 then [Ie c.over]else []
def KX (c:Chg):Sx:=Du (([Fo c.kind]++Jh c++Ho c)++Kb c)
theorem QW (c:Chg):(Jh c).length≤1:=by unfold Jh;split<;>simp
theorem QV (c:Chg):(Ho c).length≤2:=by
 unfold Ho
 repeat' split
 all_goals simp
instance ry (c:Chg) [hs:B0 (c.lines.length≤100000∧c.over.length≤100000)]:Bj Tryz.prog 247 [.agg (BG c)] (.agg (eSx (KX c))):=⟨by
 refine Aj Tryz.func247 Tryz.ntmps247 rfl (rs:= [.cell 2 254]) rfl rfl fun hb LF=>?_
 obtain⟨hl1,hl2⟩:=hs.out
 have i1:B0 (c.over.length≤1000000):=⟨by omega⟩
 have hc1:=QW c
 have hc2:=QV c
 refine ZQ fun b=>?_
 refine BN fun b2=>?_
 refine qD fun t=>?_
 refine BB [(17,.raw (.bool (decide (2≤c.kind∧c.kind≤6)))),(1,.raw (.pointer (some ⟨b,0,none⟩))),(2,.raw (.pointer (some ⟨b2,0,none⟩))),(3,.slice ([Fo c.kind].map eSx) t)] (.tok t [Fo c.kind].length 3:: .box b2 254 (eSx Sx.zero):: .box b 101 (BG c)::LF) ?_ ?_
 ·repeat' (first|(refine A1 (fun h=>?_) (fun h=>?_)<;>refine AY ?_)|(refine AN (fun h=>?_) (fun h=>?_)<;>refine AY ?_)|(refine AU (fun h=>?_) (fun h=>?_)<;>refine AY ?_)|(refine Aw (fun h=>?_) (fun h=>?_)<;>(have h2:=h;(try simp only[AJ,A8,AQ,AR]at h2);refine Bp ?_)))
  all_goals (refine⟨⟨BW (by rfl) ?_,rfl,rfl,rfl⟩,.refl _⟩;first|(simp_all;done)|(simp_all;omega)|grind)
 refine AY ?_
 refine DD (σ:=CZ × List Sx) (fun s=>s.2= [Fo c.kind]++Jh c) (fun s=> [(1,.raw (.pointer (some ⟨b,0,none⟩))),(2,.raw (.pointer (some ⟨b2,0,none⟩))),(3,.slice (s.2.map eSx) s.1)]) (fun s=> .tok s.1 s.2.length 3:: .box b2 254 (eSx Sx.zero):: .box b 101 (BG c)::LF) ?_ ?_
 ·refine A1 (fun h=>?_) (fun h=>?_)
  ·refine GX fun t'=>?_
   exact⟨(t',[Fo c.kind]++ [Fl c.file]),by dsimp only;rw[Jh,if_pos h],⟨rfl,rfl,rfl⟩,.refl _⟩
  ·refine AY ?_
   exact⟨(t,[Fo c.kind]),by dsimp only;rw[Jh,if_neg h];rfl,⟨rfl,rfl,rfl⟩,.refl _⟩
 rintro⟨t,out⟩ ho
 dsimp only at ho
 have hol:out.length≤2:=by rw[ho,A7,CQ];omega
 refine AY ?_
 refine DD (σ:=CZ × List Sx) (fun s=>s.2= [Fo c.kind]++Jh c++Ho c) (fun s=> [(1,.raw (.pointer (some ⟨b,0,none⟩))),(2,.raw (.pointer (some ⟨b2,0,none⟩))),(3,.slice (s.2.map eSx) s.1)]) (fun s=> .tok s.1 s.2.length 3:: .box b2 254 (eSx Sx.zero):: .box b 101 (BG c)::LF) ?_ ?_
 ·refine A1 (fun h1=>?_) (fun h1=>?_)
  ·refine GX fun t'=>?_
   exact⟨(t',out++ [Fo c.type]),by dsimp only;rw[Ho,if_pos h1,ho],⟨rfl,rfl,rfl⟩,.refl _⟩
  refine AY ?_
  refine A1 (fun h2=>?_) (fun h2=>?_)
  ·refine OG ?_
   refine BR 8 ?_ ?_
   ·decide+kernel
   refine Fk fun t'=>?_
   exact⟨(t',out++ [Fl c.parent,Ch c.name]),by dsimp only;rw[Ho,if_neg h1,if_pos h2,ho],⟨rfl,rfl,rfl⟩,.refl _⟩
  refine AY ?_
  refine A1 (fun h3=>?_) (fun h3=>?_)
  ·refine GX fun t'=>?_
   exact⟨(t',out++ [Fo c.mode]),by dsimp only;rw[Ho,if_neg h1,if_neg h2,if_pos h3,ho],⟨rfl,rfl,rfl⟩,.refl _⟩
  refine AY ?_
  refine A1 (fun h4=>?_) (fun h4=>?_)
  ·refine GX fun t'=>?_
   exact⟨(t',out++ [Ch c.data]),by dsimp only;rw[Ho,if_neg h1,if_neg h2,if_neg h3,if_pos h4,ho],⟨rfl,rfl,rfl⟩,.refl _⟩
  refine AY ?_
  refine A1 (fun h5=>?_) (fun h5=>?_)
  ·refine OG ?_
   refine LP (t:=true) (by show PV.raw (.bool (decide (c.kind=5)))=_;rw[Bh h5]) (fun _=>?_) (by simp)
   refine OG ?_
   refine BR 8 ?_ ?_
   ·decide+kernel
   refine Fk fun t'=>?_
   exact⟨(t',out++ [Fl c.after,Fl c.before]),by dsimp only;rw[Ho,if_neg h1,if_neg h2,if_neg h3,if_neg h4,if_pos (.inl h5),ho],⟨rfl,rfl,rfl⟩,.refl _⟩
  refine AY ?_
  refine A1 (fun h6=>?_) (fun h6=>?_)
  ·refine OG ?_
   refine BR 8 ?_ ?_
   ·decide+kernel
   refine Fk fun t'=>?_
   exact⟨(t',out++ [Fl c.after,Fl c.before]),by dsimp only;rw[Ho,if_neg h1,if_neg h2,if_neg h3,if_neg h4,if_pos (.inr h6),ho],⟨rfl,rfl,rfl⟩,.refl _⟩
  ·refine AY ?_
   exact⟨(t,out),by dsimp only;rw[Ho,if_neg h1,if_neg h2,if_neg h3,if_neg h4,if_neg (by rintro(h|h);exact h5 h;exact h6 h),B1,ho],⟨rfl,rfl,rfl⟩,.refl _⟩
 clear ho hol
 rintro⟨t,out⟩ ho
 dsimp only at ho
 have hol:out.length≤4:=by rw[ho,A7,A7,CQ];omega
 refine AY ?_
 refine A1 (fun h5=>?_) (fun h5=>?_)
 ·refine AY ?_
  refine Dw 3 ?_
  refine AV (σ:=Nat × CZ × List Sx) (fun k=>k.1≤c.lines.length∧k.2.2=(c.lines.take k.1).map Ch) (fun k=>c.lines.length - k.1) (fun k=> [(1,.raw (.pointer (some ⟨b,0,none⟩))),(2,.raw (.pointer (some ⟨b2,0,none⟩))),(3,.slice (out.map eSx) t),(4,.slice (k.2.2.map eSx) k.2.1),(5,.raw (.int .i64 k.1))]) (fun k=> .tok k.2.1 k.2.2.length 3:: .tok t out.length 3:: .box b2 254 (eSx Sx.zero):: .box b 101 (BG c)::LF) (0,.nil,[]) ⟨by simp,by simp⟩ ⟨rfl,rfl,rfl,rfl,rfl⟩ (.refl _) ?_
  rintro⟨k,v,l⟩ ⟨hk,he⟩
  dsimp only at hk he
  have hll:l.length=k:=by rw[he];simp;omega
  refine AY ?_
  refine A1 (fun hc=>?_) (fun hc=>?_)
  ·have hlt:k < c.lines.length:=by omega
   refine GX fun v'=>?_
   refine⟨(k+1,v',l++ [Ch c.lines[k]]),⟨by dsimp only;omega,?_⟩,by dsimp only;omega,⟨rfl,rfl,rfl,rfl,rfl⟩,.refl _⟩
   dsimp only
   rw[A6 hlt,Az,he];rfl
  ·refine GX fun v'=>?_
   refine FK rfl (.of_eq ?_)
   rw[AA (by omega)]at he
   rw[KX,Kb,if_pos h5,←he,ho]
 ·refine AY ?_
  refine AN (fun h6=>?_) (fun h6=>?_)
  ·refine GX fun v'=>?_
   refine FK rfl (.of_eq ?_)
   rw[KX,Kb,if_neg h5,if_pos h6,ho]
  ·refine AY ?_
   refine FK rfl (.of_eq ?_)
   rw[KX,Kb,if_neg h5,if_neg (by simp[h6]),B1,ho]⟩
def Vj (p:Pat):Sx:=Du [Ch [113,117,105,108,116,49],Ch p.author,Ch p.message,Fo p.time,Du (p.deps.map Jn),Du (p.changes.map KX)]
def Mn (p:Pat):Str:=Dc 8 (Vj p)
structure VA (p:Pat):Prop where
 deps:p.deps.length≤100000
 chgs:p.changes.length≤100000
 chg: ∀ c∈p.changes,c.lines.length≤100000∧c.over.length≤100000
 ok:mb (Vj p)
 len:(Mn p).length≤1000000000
def Jo (p:Pat):Str × Int:=if 65536 < ((Mn p).length:Int)then([],4)else(Mn p,0)
instance rm (p:Pat) [hs:B0 (VA p)]:Bj Tryz.prog 210 [.agg (Cc p)] (.tuple [.str (Jo p).1,.raw (.int .i64 (Jo p).2)]):=⟨by
 refine Aj Tryz.func210 Tryz.ntmps210 rfl (rs:= [.tmp 2,.tmp 3]) rfl rfl fun hb LF=>?_
 have hd:=hs.out.deps
 have hch:=hs.out.chgs
 refine Cx fun b=>?_
 refine Dw 3 ?_
 refine Dw 3 ?_
 refine AV (σ:=Nat × CZ × List Sx) (fun k=>k.1≤p.deps.length∧k.2.2=(p.deps.take k.1).map Jn) (fun k=>p.deps.length - k.1) (fun k=> [(1,.raw (.pointer (some ⟨b,0,none⟩))),(4,.slice (k.2.2.map eSx) k.2.1),(5,.slice [] .nil),(6,.raw (.int .i64 k.1))]) (fun k=> .tok k.2.1 k.2.2.length 3:: .tok .nil 0 3:: .box b 42 (Cc p)::LF) (0,.nil,[]) ⟨by simp,by simp⟩ ⟨rfl,rfl,rfl,rfl⟩ (.refl _) ?_
 rintro⟨k,v,l⟩ ⟨hk,he⟩
 dsimp only at hk he
 have hll:l.length=k:=by rw[he];simp;omega
 refine AY ?_
 refine A1 (fun hc=>?_) (fun hc=>?_)
 ·have hlt:k < p.deps.length:=by omega
  refine GX fun v'=>?_
  refine⟨(k+1,v',l++ [Jn p.deps[k]]),⟨by dsimp only;omega,?_⟩,by dsimp only;omega,⟨rfl,rfl,rfl,rfl⟩,.refl _⟩
  dsimp only
  rw[A6 hlt,Az,he];rfl
 rw[AA (by omega)]at he
 clear hll
 refine AY ?_
 refine AV (σ:=Nat × CZ × List Sx) (fun k=>k.1≤p.changes.length∧k.2.2=(p.changes.take k.1).map KX) (fun k=>p.changes.length - k.1) (fun k=> [(1,.raw (.pointer (some ⟨b,0,none⟩))),(4,.slice (l.map eSx) v),(5,.slice (k.2.2.map eSx) k.2.1),(7,.raw (.int .i64 k.1))]) (fun k=> .tok k.2.1 k.2.2.length 3:: .box b 42 (Cc p)::LF) (0,.nil,[]) ⟨by simp,by simp⟩ ⟨rfl,rfl,rfl,rfl⟩ (.cons _ (.refl _)) ?_
 rintro⟨k,v,m⟩ ⟨hk,hm⟩
 dsimp only at hk hm
 have hml:m.length=k:=by rw[hm];simp;omega
 refine AY ?_
 refine A1 (fun hc=>?_) (fun hc=>?_)
 ·have hlt:k < p.changes.length:=by omega
  have:B0 (p.changes[k].lines.length≤100000∧p.changes[k].over.length≤100000):=⟨hs.out.chg _ (AO hlt)⟩
  refine GX fun v'=>?_
  refine⟨(k+1,v',m++ [KX p.changes[k]]),⟨by dsimp only;omega,?_⟩,by dsimp only;omega,⟨rfl,rfl,rfl,rfl⟩,.refl _⟩
  dsimp only
  rw[A6 hlt,Az,hm];rfl
 rw[AA (by omega)]at hm
 have e:Vj p=Du [Ch [113,117,105,108,116,49],Ch p.author,Ch p.message,Fo p.time,Du l,Du m]:=by rw[Vj,←he,←hm]
 have i1:B0 (mb (Du [Ch [113,117,105,108,116,49],Ch p.author,Ch p.message,Fo p.time,Du l,Du m])∧(Dc 8 (Du [Ch [113,117,105,108,116,49],Ch p.author,Ch p.message,Fo p.time,Du l,Du m])).length≤1000000000):=by
  rw[←e];exact⟨hs.out.ok,hs.out.len⟩
 refine AY ?_
 refine A1 (fun h=>?_) (fun h=>?_)
 ·refine AY ?_
  refine Ei ?_
  rw[←e]at h
  have h':65536 < ((Mn p).length:Int):=h
  rw[Jo,if_pos h']
  exact .refl _
 ·refine AY ?_
  refine Ei ?_
  rw[←e]at h
  have h': ¬65536 < ((Mn p).length:Int):=h
  rw[Jo,if_neg h',Mn,e]
  exact .refl _⟩
end Go.Proofs
namespace Go.Q
open Go
section
variable {P:Program} {N:Nat} {all:Array Oper} {K:Env→List Res→Prop} {fl:List Bool} {os:List Oper} {ρ:Env} {L:List Res} {Q:PPost} {c:Code} {d:Nat} {ty:TypeId} {pos:String} {af:Array Edge}
theorem dQ {T n E sz by_:Nat} [hT:U4 P T n E] [hE:EG P E sz by_] {x y:Operand} {b off:Nat} {kk:IntKind} {i:Nat} (hx:ρ.ev x= .raw (.pointer (some ⟨b,off,none⟩))) (hy:ρ.ev y= .raw (.int kk (@OfNat.ofNat Int i _))) (hi:i < n)
  (k:AW P N all K fl.tail os (CT ρ d (.raw (.pointer (some ⟨b,off+(@OfNat.ofNat Nat i _)*sz,none⟩)))) L) (hd:Nat.blt d N=true:=by rfl):AW P N all K fl (⟨some d,.indexAddr T x y,ty,pos,af,none⟩::os) ρ L:=
 PN (i:=i) hx hy hi k hd
theorem dR {T n E sz by_:Nat} [hT:U4 P T n E] [hE:EG P E sz by_] {x y:Operand} {b off:Nat} {kk:IntKind} {i:Int} (hx:ρ.ev x= .raw (.pointer (some ⟨b,off,none⟩))) (hy:ρ.ev y= .raw (.int kk i)) (h0:0≤i) (hi:i.toNat < n)
  (k:AW P N all K fl.tail os (CT ρ d (.raw (.pointer (some ⟨b,off+i.toNat*sz,none⟩)))) L) (hd:Nat.blt d N=true:=by rfl):AW P N all K fl (⟨some d,.indexAddr T x y,ty,pos,af,none⟩::os) ρ L:=
 PN (i:=i.toNat) hx (by rw[hy,Int.toNat_of_nonneg h0]) hi k hd
theorem dP {T:TypeId} [hT:O6 P T] {x y:Operand} {s:Str} {ax:PV} {kk:IntKind} {n:Int} (hx:ρ.ev x=ax) [jx:HF ax s] (hy:ρ.ev y= .raw (.int kk n)) (h0:0≤n) (hn:n.toNat < s.length) (k:AW P N all K fl.tail os (CT ρ d (.raw (.int .u8 ((s.getD n.toNat 0).toNat:Int)))) L) (hd:Nat.blt d N=true:=by rfl):
  AW P N all K fl (⟨some d,.index T x y,ty,pos,af,none⟩::os) ρ L:=
 Xd (n:=n.toNat) hx (by rw[hy,Int.toNat_of_nonneg h0]) hn (by have e:s[n.toNat]=s.getD n.toNat 0:=by simp[List.getD,hn]
                                                              rw[e];exact k) hd
theorem Jy {T n E by_:Nat} {z:List PV} [hT:U4 P T n E] [hE:EG P E 1 by_] [hZ:Cu P T z] {parts:Array (Nat × Operand)} (xs:List Operand) (ws:List Nat) (hp:parts=(xs.zipIdx.map fun p=>(p.2,p.1)).toArray) (hx:xs.map ρ.ev=eW ws) (hz:z.length=ws.length) (hn:xs.length=ws.length)
  (k:AW P N all K fl.tail os (CT ρ d (.agg (eW ws))) L) (hd:Nat.blt d N=true:=by rfl):AW P N all K fl (⟨some d,.build T parts,ty,pos,af,none⟩::os) ρ L:=by
 subst hp;exact ga ws hx hz hn k hd
theorem gH {T T':TypeId} {x y:Operand} {m n:Nat} (hx:ρ.ev x= .raw (.int .i64 (m:Int))) (hy:ρ.ev y= .raw (.int .i64 (@OfNat.ofNat Int n _))) (hn:n≠0) (hm:m≤9223372036854775807) (k:AW P N all K fl.tail os (CT ρ d (.raw (.int .i64 ((m / (@OfNat.ofNat Nat n _):Nat):Int)))) L) (hd:Nat.blt d N=true:=by rfl):
  AW P N all K fl (⟨some d,.binOp .quo T x y T',ty,pos,af,none⟩::os) ρ L:=XV (n:=n) hx hy hn hm k hd
theorem Zc {T T':TypeId} {x y:Operand} {m n:Nat} (hx:ρ.ev x= .raw (.int .i64 (m:Int))) (hy:ρ.ev y= .raw (.int .i64 (@OfNat.ofNat Int n _))) (hn:n≠0) (k:AW P N all K fl.tail os (CT ρ d (.raw (.int .i64 ((m % (@OfNat.ofNat Nat n _):Nat):Int)))) L) (hd:Nat.blt d N=true:=by rfl):
  AW P N all K fl (⟨some d,.binOp .rem T x y T',ty,pos,af,none⟩::os) ρ L:=XU (n:=n) hx hy hn k hd
theorem uM {A B:Prop} (k:B) (h:NZ B→A:=by
  intro hB
  first
   |(refine jQ ?_;first|refine Jm (by(conv=>lhs;whnf);done) ?_)
   |(refine YX ?_;first|refine UR (by(conv=>lhs;whnf);done) ?_)
   |(refine jR ?_;first|refine bO (by rfl) (by repeat(first|exact AK|apply AD)) (by omega) ?_|refine Xa (by rfl) (by repeat(first|exact AK|apply AD)) (hl:=(by first|infer_instance|fail)) ?_|refine bQ (by rfl) (by repeat(first|exact AK|apply AD)) (by omega) ?_)
   |(refine pA ?_;first|refine Zd (by rfl) (hr:=(by first|infer_instance|fail)) ?_|refine bU (by rfl) (by(conv=>lhs;whnf);done) ?_)
   |(refine oz ?_;first|refine gP (by rfl) ?_|refine gN (by(conv=>lhs;whnf);done) (jx:=(by first|infer_instance|fail)) ?_|refine gQ (by rfl) ?_)
   |(refine aU ?_;first|refine W7 (by(conv=>lhs;whnf);done) (hN0:=(by first|infer_instance|fail)) (hc:=(by first|infer_instance|fail)) ?_|refine cD (by(conv=>lhs;whnf);done) (by(conv=>lhs;whnf);done) (hN0:=(by first|infer_instance|fail)) (hN1:=(by first|infer_instance|fail)) (hc:=(by first|infer_instance|fail)) ?_|refine cC (by(conv=>lhs;whnf);done) (by(conv=>lhs;whnf);done) (by(conv=>lhs;whnf);done) (hN0:=(by first|infer_instance|fail)) (hN1:=(by first|infer_instance|fail)) (hN2:=(by first|infer_instance|fail)) (hc:=(by first|infer_instance|fail)) ?_|refine cF (hc:=(by first|infer_instance|fail)) ?_|refine cB (by(conv=>lhs;whnf);done) (by(conv=>lhs;whnf);done) (by(conv=>lhs;whnf);done) (by(conv=>lhs;whnf);done) (hN0:=(by first|infer_instance|fail)) (hN1:=(by first|infer_instance|fail)) (hN2:=(by first|infer_instance|fail)) (hN3:=(by first|infer_instance|fail)) (hc:=(by first|infer_instance|fail)) ?_|refine j_call5 (by(conv=>lhs;whnf);done) (by(conv=>lhs;whnf);done) (by(conv=>lhs;whnf);done) (by(conv=>lhs;whnf);done) (by(conv=>lhs;whnf);done) (hN0:=(by first|infer_instance|fail)) (hN1:=(by first|infer_instance|fail)) (hN2:=(by first|infer_instance|fail)) (hN3:=(by first|infer_instance|fail)) (hN4:=(by first|infer_instance|fail)) (hc:=(by first|infer_instance|fail)) ?_|refine j_call6 (by(conv=>lhs;whnf);done) (by(conv=>lhs;whnf);done) (by(conv=>lhs;whnf);done) (by(conv=>lhs;whnf);done) (by(conv=>lhs;whnf);done) (by(conv=>lhs;whnf);done) (hN0:=(by first|infer_instance|fail)) (hN1:=(by first|infer_instance|fail)) (hN2:=(by first|infer_instance|fail)) (hN3:=(by first|infer_instance|fail)) (hN4:=(by first|infer_instance|fail)) (hN5:=(by first|infer_instance|fail)) (hc:=(by first|infer_instance|fail)) ?_)
   |(refine g_bi ?_;first|refine s_min (by rfl) (by rfl) ?_|refine s_max (by rfl) (by rfl) ?_)
   |(refine cP ?_;first|refine oT (by rfl) (by rfl) ?_|refine oU (by rfl) (by rfl) ?_|refine oW (by rfl) (by rfl) ?_|refine oc (by rfl) (by rfl) (by constructor<;>omega) ?_|refine oH (by rfl) (by rfl) (by constructor<;>omega) ?_|refine oY (by(conv=>lhs;whnf);done) (by(conv=>lhs;whnf);done) (jx:=(by first|infer_instance|fail)) (jy:=(by first|infer_instance|fail)) (by first|omega|(simp only[A7,AH,Aa,B3];omega)) ?_|refine oO (by rfl) (by rfl) (by constructor<;>omega) ?_|refine gm (by rfl) (by rfl) ?_|refine fv (by rfl) (by rfl) ?_|refine gl (by rfl) (by rfl) ?_|refine oI (by rfl) (by rfl) ?_|refine gD (by rfl) (by rfl) ?_|refine gG (by rfl) (by rfl) ?_|refine gF (by rfl) (by rfl) ?_|refine Vc (by rfl) (by rfl) (by omega) (by omega) ?_|refine Vd (by rfl) (by rfl) (by omega) ?_|refine gH (by rfl) (by rfl) (by decide) (by omega) ?_|refine Zc (by rfl) (by rfl) (by decide) ?_)
   |(refine ui ?_;first|refine dQ (by rfl) (by rfl) (by decide) ?_|refine PN (by rfl) (by rfl) (by omega) ?_|refine dR (by rfl) (by rfl) (by omega) (by omega) ?_)
   |(refine ug ?_;first|refine oJ (by rfl) ?_|refine oM (by rfl) (by constructor<;>omega) ?_|refine gI (by rfl) ?_)
   |(refine WC ?_;first|refine XP (by rfl) (by rfl) (hB:=(by first|infer_instance|fail)) (hu:=(by first|infer_instance|fail)) (hf:=(by first|infer_instance|fail)) (hlen:=(by first|infer_instance|fail)) (hcs:=(by first|infer_instance|fail)) ?_|refine S3 (by rfl) (by rfl) (by repeat(first|exact AK|apply AD)) (by omega) (hu:=(by first|infer_instance|fail)) ?_|refine XQ (by rfl) (by rfl) (by repeat(first|exact AK|apply AD)) (by omega) (hu:=(by first|infer_instance|fail)) ?_)
   |(refine uk ?_;first|refine oa ?_|refine oZ (by(conv=>lhs;whnf);done) (hC0:=(by first|infer_instance|fail)) (hf:=(by first|infer_instance|fail)) (by decide) ?_)
   |(refine cN ?_;first|refine Xh ?_|refine UQ ?_)
   |(refine WE ?_;first|refine Hh (by rfl) (by rfl) (by omega) ?_|refine gY (by rfl) (by rfl) (by omega) ?_|refine Vf (by(conv=>lhs;whnf);done) (by rfl) (by rfl) (jx:=(by first|infer_instance|fail)) (by omega) (by omega) (by omega) ?_|refine bW (by(conv=>lhs;whnf);done) (by rfl) (jx:=(by first|infer_instance|fail)) (by omega) (by omega) ?_|refine XT (by rfl) ?_)
   |(refine jS ?_;first|refine bc (by rfl) ?_|refine bZ (by rfl) ?_|refine Rf (by rfl) (by omega) ?_|refine fw (by rfl) ?_|refine XO (by rfl) (by repeat(first|exact AK|apply AD)) (hs:=(by first|infer_instance|fail)) ?_)
   |(refine cK ?_;first|refine dP (by(conv=>lhs;whnf);done) (by rfl) (jx:=(by first|infer_instance|fail)) (by omega) (by omega) ?_)
  exact hB.out):A:=h ⟨k⟩
theorem Dt {A B:Prop} (k:B) (h:NZ B→A:=by
  intro hB
  repeat(first
   |refine AE ?_
   |refine uM ?_
   |refine DU ?_
   |refine CD (by kernel_rfl) ?_
   |refine Hr ?_
   |refine Fx ?_
   |refine Jq ?_
   |refine H0 ?_
   |refine Da (by decide+kernel) ?_
   |refine Hp (by rfl) ?_
   |refine Hq (by rfl) ?_)
  exact hB.out):A:=h ⟨k⟩
theorem Ir {A B:Prop} (k:B) (h:NZ B→A:=by
  intro hB
  refine Dt ?_
  exact hB.out):A:=h ⟨k⟩
theorem Jc {A:Prop} {B:Nat→Prop} (k: ∀ b,B b) (h:KQ B→A:=by
  intro hB
  refine Dt ?_
  first|refine Xi (by rfl) fun b=>?_|refine BN fun b=>?_
  refine Dt ?_
  exact hB.out b):A:=h ⟨k⟩
theorem IC {A:Prop} {B:Nat→Prop} (k: ∀ b,B b) (h:KQ B→A:=by
  intro hB
  refine Jc fun b=>?_
  exact hB.out b):A:=h ⟨k⟩
theorem Mx {A B:Prop} (k:B) (h:NZ B→A:=by
  intro hB
  repeat(first
   |refine AE ?_
   |refine uM ?_
   |refine DU ?_
   |refine CD (by kernel_rfl) ?_
   |refine Hr ?_
   |refine Fx ?_
   |refine Jq ?_
   |refine H0 ?_
   |refine Hp (by rfl) ?_
   |refine Hq (by rfl) ?_)
  exact hB.out):A:=h ⟨k⟩
theorem VW {A B:Prop} (k:B) (h:NZ B→A:=by
  intro hB
  refine Mx ?_
  exact hB.out):A:=h ⟨k⟩
end
end Go.Q
namespace Go.Proofs
open Go Go.Q
attribute [local irreducible] EB AW B2 FW
def GN (a n:Nat):Nat:=dr (Vb a n) (XM a (32 - n))
instance Gg (a n:Nat) [hs:B0 (n≤32)]:Bj Tryz.prog 255 [.raw (.int .u32 (a:Int)),.raw (.int .u64 (n:Int))] (.raw (.int .u32 (GN a n:Nat))):=⟨by
 refine Aj Tryz.func255 Tryz.ntmps255 rfl (rs:= [.tmp 4]) rfl rfl fun hb LF=>?_
 have hn:=hs.out
 refine Dt ?_
 refine Vc (a:=32) (by rfl) (by rfl) hn (by decide) ?_
 refine Ir ?_
 refine Al (.of_eq ?_)
 rfl⟩
instance w5 (a:Nat):Bj Tryz.prog 255 [.raw (.int .u32 (a:Int)),.raw (.int .u64 2)] (.raw (.int .u32 (GN a 2:Nat))):=by
 have:B0 ((2:Nat)≤32):=⟨by decide⟩
 exact Gg a 2
instance vz (a:Nat):Bj Tryz.prog 255 [.raw (.int .u32 (a:Int)),.raw (.int .u64 6)] (.raw (.int .u32 (GN a 6:Nat))):=by
 have:B0 ((6:Nat)≤32):=⟨by decide⟩
 exact Gg a 6
instance vy (a:Nat):Bj Tryz.prog 255 [.raw (.int .u32 (a:Int)),.raw (.int .u64 7)] (.raw (.int .u32 (GN a 7:Nat))):=by
 have:B0 ((7:Nat)≤32):=⟨by decide⟩
 exact Gg a 7
instance uD (a:Nat):Bj Tryz.prog 255 [.raw (.int .u32 (a:Int)),.raw (.int .u64 11)] (.raw (.int .u32 (GN a 11:Nat))):=by
 have:B0 ((11:Nat)≤32):=⟨by decide⟩
 exact Gg a 11
instance uC (a:Nat):Bj Tryz.prog 255 [.raw (.int .u32 (a:Int)),.raw (.int .u64 13)] (.raw (.int .u32 (GN a 13:Nat))):=by
 have:B0 ((13:Nat)≤32):=⟨by decide⟩
 exact Gg a 13
instance uB (a:Nat):Bj Tryz.prog 255 [.raw (.int .u32 (a:Int)),.raw (.int .u64 17)] (.raw (.int .u32 (GN a 17:Nat))):=by
 have:B0 ((17:Nat)≤32):=⟨by decide⟩
 exact Gg a 17
instance uA (a:Nat):Bj Tryz.prog 255 [.raw (.int .u32 (a:Int)),.raw (.int .u64 18)] (.raw (.int .u32 (GN a 18:Nat))):=by
 have:B0 ((18:Nat)≤32):=⟨by decide⟩
 exact Gg a 18
instance u9 (a:Nat):Bj Tryz.prog 255 [.raw (.int .u32 (a:Int)),.raw (.int .u64 19)] (.raw (.int .u32 (GN a 19:Nat))):=by
 have:B0 ((19:Nat)≤32):=⟨by decide⟩
 exact Gg a 19
instance u7 (a:Nat):Bj Tryz.prog 255 [.raw (.int .u32 (a:Int)),.raw (.int .u64 22)] (.raw (.int .u32 (GN a 22:Nat))):=by
 have:B0 ((22:Nat)≤32):=⟨by decide⟩
 exact Gg a 22
instance u6 (a:Nat):Bj Tryz.prog 255 [.raw (.int .u32 (a:Int)),.raw (.int .u64 25)] (.raw (.int .u32 (GN a 25:Nat))):=by
 have:B0 ((25:Nat)≤32):=⟨by decide⟩
 exact Gg a 25
theorem Bm {α:Type} (f:α→Nat→α) (a:α) (k:Nat):(List.range (k+1)).foldl f a=f ((List.range k).foldl f a) k:=by
 rw[Hz,DF];rfl
instance tb (n:Int) [hs:B0 (0≤n∧n≤1000)]:Bj Tryz.prog 252 [.raw (.int .i64 n)] (.str (List.replicate n.toNat 0)):=⟨by
 refine Aj Tryz.func252 Tryz.ntmps252 rfl (rs:= [.tmp 2]) rfl rfl fun hb LF=>?_
 obtain⟨h0,h1⟩:=hs.out
 refine AY ?_
 refine AV (σ:=Nat × Str) (fun k=>k.1≤n.toNat∧k.2=List.replicate k.1 0) (fun k=>n.toNat - k.1) (fun k=> [(0,.raw (.int .i64 n)),(3,.str k.2),(4,.raw (.int .i64 k.1))]) (fun _=>LF) (0,[]) ⟨by simp,by simp⟩ ⟨rfl,rfl,rfl⟩ (.refl _) ?_
 rintro⟨k,s⟩ ⟨hk,he⟩
 dsimp only at hk he
 have hl:s.length=k:=by rw[he];simp
 refine AY ?_
 refine A1 (fun hc=>?_) (fun hc=>?_)
 ·refine AY ?_
  refine⟨(k+1,s++ [0]),⟨by dsimp only;omega,by dsimp only;rw[he,X6]⟩,by dsimp only;omega,⟨rfl,rfl,rfl⟩,.refl _⟩
 ·refine AY ?_
  refine Al (.of_eq ?_)
  rw[he,show k=n.toNat by omega]⟩
def FF (bits:Nat) (j:Nat):Str:=(List.range j).map fun i=>UInt8.ofNat (bits / 2 ^ (min (8*(7 - i)) 64))
def Iy (s:Str):Str:=(s++ [128])++List.replicate ((120 - (s.length+1) % 64) % 64) 0++FF (s.length*8) 8
theorem SN (s:Str):(Iy s).length=s.length+1+(120 - (s.length+1) % 64) % 64+8:=by simp[Iy,FF];omega
instance so (s:Str) [hs:B0 (s.length≤1000000)]:Bj Tryz.prog 211 [.str s] (.str (Iy s)):=⟨by
 refine Aj Tryz.func211 Tryz.ntmps211 rfl (rs:= [.tmp 2]) rfl rfl fun hb LF=>?_
 have hl:=hs.out
 have e1:(((120:Int) - (((s++ [128]).length % 64:Nat):Int)).tmod 64)=(((120 - (s.length+1) % 64) % 64:Nat):Int):=by
  rw[A7,CQ]
  have:(120:Int) - (((s.length+1) % 64:Nat):Int)=((120 - (s.length+1) % 64:Nat):Int):=by omega
  rw[this];exact(Int.ofNat_tmod _ _).symm
 have i1:B0 (0≤(((120 - (s.length+1) % 64) % 64:Nat):Int)∧(((120 - (s.length+1) % 64) % 64:Nat):Int)≤1000):=⟨by omega,by omega⟩
 refine AY ?_
 refine Zc (by rfl) (by rfl) (by decide) ?_
 refine Bp ?_
 refine GY (v:= .int .i64 (((120 - (s.length+1) % 64) % 64:Nat):Int)) (by rfl) (by rfl) (fun w=>?_) ?_
 ·have h3:(64:Int)≠0:=by decide
  simp only[binOp,ne_eq,not_true_eq_false,if_false,Op.intDiv,h3,e1];rfl
 have hz:(List.replicate (((120 - (s.length+1) % 64) % 64:Nat):Int).toNat (0:UInt8)).length=(120 - (s.length+1) % 64) % 64:=by rw[List.length_replicate];omega
 refine Bp ?_
 refine Vd (b:=8) (by rfl) (by rfl) (by omega) ?_
 refine Bp ?_
 refine AV (σ:=Nat × Str) (fun k=>k.1≤8∧k.2=(s++ [128])++List.replicate ((120 - (s.length+1) % 64) % 64) 0++FF (s.length*8) k.1) (fun k=>8 - k.1) (fun k=> [(3,.str k.2),(4,.raw (.int .u64 ((s.length*8:Nat):Int))),(5,.raw (.int .i64 (7 - (k.1:Int))))]) (fun _=>LF) (0,(s++ [128])++List.replicate ((120 - (s.length+1) % 64) % 64) 0) ⟨by simp,by simp[FF]⟩ ⟨rfl,rfl,rfl⟩ (.refl _) ?_
 rintro⟨k,o⟩ ⟨hk,he⟩
 dsimp only at hk he
 have hol:o.length≤1000100:=by rw[he];simp[FF];omega
 refine AY ?_
 refine A1 (fun hc=>?_) (fun hc=>?_)
 ·refine AY ?_
  have e8:(8:Int)*(7 - (k:Int))=((8*(7 - k):Nat):Int):=by omega
  refine Rf (a:=8*(7 - k)) (by show PV.raw (.int .i64 ((8:Int)*(7 - (k:Int))))=_;rw[e8]) (by omega) ?_
  refine Bp ?_
  refine⟨(k+1,o++ [UInt8.ofNat (s.length*8 / 2 ^ (min (8*(7 - k)) 64))]),⟨by dsimp only;omega,?_⟩,by dsimp only;omega,⟨rfl,rfl,?_⟩,.refl _⟩
  ·dsimp only
   rw[he,FF,FF,Hz,Az,←AL];rfl
  ·show PV.raw (Value.int .i64 _)=PV.raw (Value.int .i64 _)
   congr 2;dsimp only;omega
 ·refine AY ?_
  refine Al (.of_eq ?_)
  rw[he,show k=8 by omega,Iy]⟩
end Go.Proofs
