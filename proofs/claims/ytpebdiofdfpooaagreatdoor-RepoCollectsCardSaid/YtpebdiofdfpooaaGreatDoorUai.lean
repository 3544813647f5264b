/- Contracts: equality of patches and sets; sets that are kept and put into (the reference's layers 16 and 17). -/
import Derived.Test.YtpebdiofdfpooaaGreatDoorUah
import Derived.Test.YtpebdiofdfpooaaGreatDoorUae
set_option linter.unusedSimpArgs false
set_option linter.unusedVariables false
set_option maxHeartbeats 8000000
namespace Go.Proofs
open Go Go.Q
attribute [local irreducible] EG AY B2 FZ
theorem oD {a b:Pat} (h1:a.author=b.author) (h2:a.message=b.message) (h3:a.time=b.time) (h4:a.deps=b.deps) (h5:a.changes=b.changes):a=b:=by
 cases a;cases b;simp_all
instance xO (a b:Pat):Bl Tryz.prog 48 [.agg (CP a),.agg (CP b)] (.raw (.bool (decide (a=b)))):=⟨by
 refine Ak Tryz.func48 Tryz.ntmps48 rfl (rs:= [.tmp 4]) rfl rfl fun hb LF=>?_
 have hlen:a.changes.length≤140737488355328:=((hb (.agg (CP a)) (by simp)).agg_at (c:= .slice (a.changes.map BC) .ro) (by simp[CP])).slice_map
 have no: ∀ {q:Prop},(a=b→ ¬q)→q→Le (.raw (.bool false)) (.raw (.bool (decide (a=b)))):=fun h hq=> .of_eq (by rw[Ck (fun e=>h e hq)])
 refine DB fun p=>?_
 refine FI fun q=>?_
 iterate 4
  refine An (fun hp=>by
   refine Bz ?_
   refine Ah (no (fun e=>?_) hp)
   simp[e]) (fun hp=>?_)
  refine Bz ?_
 refine AL (fun h=>?_) (fun h=>?_)
 ·refine Ad ?_
  refine Ah (no (fun e=>?_) h)
  simp[e]
 ·refine Ad ?_
  have hl:a.changes.length=b.changes.length:=by omega
  refine AW (σ:=Nat) (fun k=>k≤a.changes.length∧a.changes.take k=b.changes.take k) (fun k=>a.changes.length - k) (fun k=> [(2,.raw (.pointer (some ⟨p,0,none⟩))),(3,.raw (.pointer (some ⟨q,0,none⟩))),(5,.raw (.int .i64 k))]) (fun _=> .box q 42 (CP b):: .box p 42 (CP a)::LF) 0 ⟨by simp,by simp⟩ ⟨rfl,rfl,rfl⟩ (.refl _) ?_
  rintro k ⟨hk,he⟩
  refine Ad ?_
  refine A1 (fun hc=>?_) (fun hc=>?_)
  ·refine Ad ?_
   refine AL (fun h2=>?_) (fun h2=>?_)
   ·refine Ad ?_
    refine Ah (no (fun e=>?_) h2)
    simp[e]
   ·refine Ad ?_
    refine⟨k+1,⟨by omega,?_⟩,by dsimp only;omega,⟨rfl,rfl,rfl⟩,.refl _⟩
    rw[A6 (by omega),A6 (by omega),he,h2]
  ·refine Ad ?_
   refine Ah (.of_eq ?_)
   have h5:a.changes=b.changes:=by
    rw[AA (by omega),AA (by omega)]at he
    exact he
   have:a=b:=by
    apply oD<;>simp_all
   simp[this]⟩
theorem nJ {a b:Sto} (h1:a.id=b.id) (h2:a.patch=b.patch):a=b:=by
 cases a;cases b;simp_all
instance tt (l m:List Sto) (t u:CW):Bl Tryz.prog 20 [.slice (l.map eSto) t,.slice (m.map eSto) u] (.raw (.bool (decide (l=m)))):=⟨by
 refine Ak Tryz.func20 Tryz.ntmps20 rfl (rs:= [.tmp 4]) rfl rfl fun hb LF=>?_
 have hlen:l.length≤140737488355328:=(hb (.slice (l.map eSto) t) (by simp)).slice_map
 refine Ad ?_
 refine AL (fun h1=>?_) (fun h1=>?_)
 ·refine Ad ?_
  refine Ah (.of_eq ?_)
  have: ¬l=m:=fun e=>h1 (by rw[e])
  simp[this]
 ·refine Ad ?_
  have hl:l.length=m.length:=by omega
  refine AW (σ:=Nat) (fun k=>k≤l.length∧l.take k=m.take k) (fun k=>l.length - k) (fun k=> [(0,.slice (l.map eSto) t),(1,.slice (m.map eSto) u),(5,.raw (.int .i64 k))]) (fun _=>LF) 0 ⟨by simp,by simp⟩ ⟨rfl,rfl,rfl⟩ (.refl _) ?_
  rintro k ⟨hk,he⟩
  refine Ad ?_
  refine A1 (fun hc=>?_) (fun hc=>?_)
  ·refine Ad ?_
   refine An (fun hp=>?_) (fun hp=>?_)
   ·refine Bz ?_
    refine Ah (.of_eq ?_)
    have: ¬l=m:=fun e=>by simp[e]at hp
    simp[this]
   ·refine Bz ?_
    refine AL (fun h2=>?_) (fun h2=>?_)
    ·refine Ad ?_
     refine Ah (.of_eq ?_)
     have: ¬l=m:=fun e=>h2 (by simp[e])
     simp[this]
    ·refine Ad ?_
     refine⟨k+1,⟨by omega,?_⟩,by dsimp only;omega,⟨rfl,rfl,rfl⟩,.refl _⟩
     have h3:l[k]=m[k]:=nJ (by simpa using hp) h2
     rw[A6 (by omega),A6 (by omega),he,h3]
  ·refine Ad ?_
   refine Ah (.of_eq ?_)
   have:l=m:=by
    rw[AA (by omega),AA (by omega)]at he
    exact he
   simp[this]⟩
def Bt (s:List Sto) (l:List Dig):List Sto:=s.filter fun x=>decide (x.id∈l)
theorem GZ {α:Type} {l:List α} {q:α→Bool} (h: ∀ i (h:i < l.length),q l[i]=true):l.all q=true:=by
 rw[Ar];intro x hx
 obtain⟨i,hi,rfl⟩:=AX.1 hx
 exact h i hi
theorem Fl {α:Type} {l:List α} {q:α→Bool} {k:Nat} (hk:k < l.length) (h:q l[k]=false):l.all q=false:=by
 rw[Lj];exact⟨_,AK hk,by simp[h]⟩
theorem KJ {α:Type} {l:List α} {q:α→Bool} {k:Nat} (he: ∀ i (h:i < l.length),i < k→q l[i]=true) (hk:k < l.length) (h:q l[k]=true): ∀ i (h:i < l.length),i < k+1→q l[i]=true:=fun i hi hik=>by
 rcases BB i k with h'|h'
 ·exact he i hi h'
 ·have:i=k:=by omega
  subst this;exact h
def OO (m n:Int) (c:UInt8):Bool:=!decide ((c.toNat:Int)=m)&&!decide ((c.toNat:Int)=n)
def PX (s:Str) (m n:Int):Bool:=s.all (OO m n)
instance xD (s:Str) (m n:Int):Bl Tryz.prog 348 [.str s,.raw (.int .u8 m),.raw (.int .u8 n)] (.raw (.bool (PX s m n))):=⟨by
 refine Ak Tryz.func348 Tryz.ntmps348 rfl (rs:= [.tmp 6]) rfl rfl fun hb LF=>?_
 have hlen:s.length≤140737488355328:=(hb (.str s) (by simp)).str_len
 refine Ad ?_
 refine AW (σ:=Nat) (fun k=>k≤s.length∧ ∀ i (h:i < s.length),i < k→OO m n s[i]=true) (fun k=>s.length - k) (fun k=> [(0,.str s),(1,.raw (.int .u8 m)),(2,.raw (.int .u8 n)),(7,.raw (.int .i64 k))]) (fun _=>LF) 0 ⟨by simp,by simp⟩ ⟨rfl,rfl,rfl,rfl⟩ (.refl _) ?_
 rintro k ⟨hk,he⟩
 refine Ad ?_
 refine A1 (fun hc=>?_) (fun hc=>?_)
 ·have hlt:k < s.length:=by omega
  refine Ad ?_
  repeat' (first|(refine A1 (fun h=>?_) (fun h=>?_)<;>refine Ad ?_)|(refine AL (fun h=>?_) (fun h=>?_)<;>refine Ad ?_)|(refine AO (fun h=>?_) (fun h=>?_)<;>refine Ad ?_)|(refine An (fun h=>?_) (fun h=>?_)<;>(have h2:=h;(try simp only[AB,A7,AG,AF]at h2);refine Bz ?_)))
  all_goals first
   |(refine⟨k+1,⟨by omega,KJ he hlt ?_⟩,by dsimp only;omega,⟨rfl,rfl,rfl,rfl⟩,.refl _⟩;simp_all[OO];done)
   |(refine Ah (.of_eq ?_);have:OO m n s[k]=false:=by simp_all[OO]
     rw[PX,Fl hlt this])
 ·refine Ad ?_
  refine Ah (.of_eq ?_)
  rw[PX,GZ fun i h=>he i h (by omega)]⟩
def JF (s:Str):Bool:=decide ((s.length:Int)≤1000)&&PX s 10 0
instance xM (s:Str):Bl Tryz.prog 340 [.str s] (.raw (.bool (JF s))):=⟨by
 refine Ak Tryz.func340 Tryz.ntmps340 rfl (rs:= [.tmp 2]) rfl rfl fun hb LF=>?_
 refine Ad ?_
 repeat' (first|(refine A1 (fun h=>?_) (fun h=>?_)<;>refine Ad ?_)|(refine AL (fun h=>?_) (fun h=>?_)<;>refine Ad ?_)|(refine AO (fun h=>?_) (fun h=>?_)<;>refine Ad ?_)|(refine An (fun h=>?_) (fun h=>?_)<;>(have h2:=h;(try simp only[AB,A7,AG,AF]at h2);refine Bz ?_)))
 all_goals (refine Ah (.of_eq ?_);first|(simp_all[JF];done)|grind [JF])⟩
def HY (c:UInt8):Bool:=(decide (97≤(c.toNat:Int))&&decide ((c.toNat:Int)≤122))||(decide (65≤(c.toNat:Int))&&decide ((c.toNat:Int)≤90))||(decide (48≤(c.toNat:Int))&&decide ((c.toNat:Int)≤57))||decide ((c.toNat:Int)=46)||decide ((c.toNat:Int)=95)||decide ((c.toNat:Int)=45)
def EK (s:Str):Bool:=s.all HY&&decide (1≤(s.length:Int))&&decide ((s.length:Int)≤40)&&!decide (s= [46])&&!decide (s= [46,46])
instance yL (s:Str):Bl Tryz.prog 97 [.str s] (.raw (.bool (EK s))):=⟨by
 refine Ak Tryz.func97 Tryz.ntmps97 rfl (rs:= [.tmp 2]) rfl rfl fun hb LF=>?_
 have hlen:s.length≤140737488355328:=(hb (.str s) (by simp)).str_len
 refine Ad ?_
 refine AW (σ:=Nat) (fun k=>k≤s.length∧ ∀ i (h:i < s.length),i < k→HY s[i]=true) (fun k=>s.length - k) (fun k=> [(0,.str s),(3,.raw (.int .i64 k))]) (fun _=>LF) 0 ⟨by simp,by simp⟩ ⟨rfl,rfl⟩ (.refl _) ?_
 rintro k ⟨hk,he⟩
 refine Ad ?_
 refine A1 (fun hc=>?_) (fun hc=>?_)
 ·have hlt:k < s.length:=by omega
  refine Ad ?_
  repeat' (first|(refine A1 (fun h=>?_) (fun h=>?_)<;>refine Ad ?_)|(refine AL (fun h=>?_) (fun h=>?_)<;>refine Ad ?_)|(refine AO (fun h=>?_) (fun h=>?_)<;>refine Ad ?_)|(refine An (fun h=>?_) (fun h=>?_)<;>(have h2:=h;(try simp only[AB,A7,AG,AF]at h2);refine Bz ?_)))
  all_goals first
   |(refine⟨k+1,⟨by omega,KJ he hlt ?_⟩,by dsimp only;omega,⟨rfl,rfl⟩,.refl _⟩;clear he hc;grind [HY])
   |(refine Ah (.of_eq ?_);have:HY s[k]=false:=by clear he hc;grind [HY]
     rw[EK,Fl hlt this];rfl)
 ·have hall:s.all HY=true:=GZ fun i h=>he i h (by omega)
  refine Ad ?_
  repeat' (first|(refine A1 (fun h=>?_) (fun h=>?_)<;>refine Ad ?_)|(refine AL (fun h=>?_) (fun h=>?_)<;>refine Ad ?_)|(refine AO (fun h=>?_) (fun h=>?_)<;>refine Ad ?_)|(refine An (fun h=>?_) (fun h=>?_)<;>(have h2:=h;(try simp only[AB,A7,AG,AF]at h2);refine Bz ?_)))
  all_goals (refine Ah (.of_eq ?_);first|(simp_all[EK];done)|grind [EK])⟩
def MY (l:List Str):Int:=if(l.length:Int)=0 then 1 else if 2000 < (l.length:Int)then 4 else if l.all JF then 0 else 3
instance wa (l:List Str) (t:CW):Bl Tryz.prog 315 [.slice (l.map eS) t] (.raw (.int .i64 (MY l))):=⟨by
 refine Ak Tryz.func315 Tryz.ntmps315 rfl (rs:= [.tmp 2]) rfl rfl fun hb LF=>?_
 have hlen:l.length≤140737488355328:=(hb (.slice (l.map eS) t) (by simp)).slice_map
 refine Ad ?_
 refine A1 (fun h1=>?_) (fun h1=>?_)
 ·refine Ad ?_
  refine Ah (.of_eq ?_)
  simp[MY,h1]
 refine Ad ?_
 refine A1 (fun h2=>?_) (fun h2=>?_)
 ·refine Ad ?_
  refine Ah (.of_eq ?_)
  simp only[MY,h1,h2,if_true,if_false]
 refine Ad ?_
 refine AW (σ:=Nat) (fun k=>k≤l.length∧ ∀ i (h:i < l.length),i < k→JF l[i]=true) (fun k=>l.length - k) (fun k=> [(0,.slice (l.map eS) t),(3,.raw (.int .i64 k))]) (fun _=>LF) 0 ⟨by simp,by simp⟩ ⟨rfl,rfl⟩ (.refl _) ?_
 rintro k ⟨hk,he⟩
 refine Ad ?_
 refine A1 (fun hc=>?_) (fun hc=>?_)
 ·have hlt:k < l.length:=by omega
  refine Ad ?_
  refine AO (fun h=>?_) (fun h=>?_)
  ·refine Ad ?_
   refine Ah (.of_eq ?_)
   simp only[MY,h1,h2,if_false]
   rw[Fl hlt (by simpa using h)];rfl
  ·refine Ad ?_
   exact⟨k+1,⟨by omega,KJ he hlt (by simpa using h)⟩,by dsimp only;omega,⟨rfl,rfl⟩,.refl _⟩
 ·refine Ad ?_
  refine Ah (.of_eq ?_)
  simp only[MY,h1,h2,if_false]
  rw[GZ fun i h=>he i h (by omega)];rfl⟩
def J8 (c:Chg):Chg:=
 { kind:=c.kind,file:=if 2≤c.kind∧c.kind≤6 then Ident.zero else c.file,type:=if c.kind=1 then 0 else c.type,parent:=if c.kind=2 then Ident.zero else c.parent,name:=if c.kind=2 then []else c.name,
   mode:=if c.kind=3 then 0 else c.mode,data:=if c.kind=4 then []else c.data,after:=if c.kind=5∨c.kind=6 then Ident.zero else c.after,before:=if c.kind=5∨c.kind=6 then Ident.zero else c.before,
   lines:=if c.kind=5 then []else c.lines,over:=if c.kind≠1∧c.kind≠5 then []else c.over }
instance xx (c:Chg):Bl Tryz.prog 314 [.agg (BC c)] (.agg (BC (J8 c))):=⟨by
 refine Ak Tryz.func314 Tryz.ntmps314 rfl (rs:= [.cell 2 101]) rfl rfl fun hb LF=>?_
 refine DB fun b=>?_
 refine FI fun b2=>?_
 repeat' (first|(refine A1 (fun h=>?_) (fun h=>?_)<;>((try dsimp only at h);first|(exfalso;omega;done)|refine Ad ?_))|(refine AL (fun h=>?_) (fun h=>?_)<;>((try dsimp only at h);first|(exfalso;omega;done)|refine Ad ?_))|(refine AO (fun h=>?_) (fun h=>?_)<;>((try dsimp only at h);first|(exfalso;omega;done)|refine Ad ?_))|(refine An (fun h=>?_) (fun h=>?_)<;>(have h2:=h;(try simp only[AB,A7,AG,AF]at h2);first|(exfalso;omega;done)|refine Bz ?_)))
 all_goals (refine FW rfl (.of_eq (congrArg (fun c=>PV.agg (BC c)) ?_));simp only[J8,Chg.mk.injEq];and_intros<;>first|trivial|rfl|(split<;>first|rfl|(exfalso;omega)))⟩
def GG (c:Chg):Bool:=decide (c.file=Ident.zero)&&decide (c.type=0)&&decide (c.parent=Ident.zero)&&decide (c.name= [])&&decide (c.mode=0)&&decide (c.data= [])&&decide (c.after=Ident.zero)&&decide (c.before=Ident.zero)&&decide ((c.lines.length:Int)=0)&&decide ((c.over.length:Int)=0)
instance x9 (c:Chg):Bl Tryz.prog 313 [.agg (BC c)] (.raw (.bool (GG c))):=⟨by
 refine Ak Tryz.func313 Tryz.ntmps313 rfl (rs:= [.tmp 2]) rfl rfl fun hb LF=>?_
 refine DB fun b=>?_
 iterate 9
  refine An (fun hp=>?_) (fun hp=>by
   refine Bz ?_
   refine Ah (.of_eq ?_)
   simp_all[GG])
  refine Bz ?_
 refine Ah (.of_eq ?_)
 simp_all[GG]⟩
def C0 (c:Chg):Int:=
 if c.kind < 1∨7 < c.kind then 8 else
 if GG (J8 c)=false then 1 else
 if c.kind=1∧(c.type < 1∨4 < c.type)then 8 else
 if c.kind=2∧EK c.name=false then 5 else
 if c.kind=3∧(c.mode < 0∨511 < c.mode)then 2 else
 if 65536 < (c.data.length:Int)then 4 else
 if c.kind=5 then MY c.lines else
 if c.kind=7∧(c.over.length:Int)=0 then 1 else
 if 400 < (c.over.length:Int)then 4 else
 if RE c.over=false then 9 else 0
instance uj (c:Chg):Bl Tryz.prog 282 [.agg (BC c)] (.raw (.int .i64 (C0 c))):=⟨by
 refine Ak Tryz.func282 Tryz.ntmps282 rfl (rs:= [.tmp 2]) rfl rfl fun hb LF=>?_
 refine DB fun b=>?_
 refine B0 [(10,.raw (.bool (decide (c.kind < 1∨7 < c.kind)))),(1,.raw (.pointer (some ⟨b,0,none⟩)))] (.box b 101 (BC c)::LF) ?_ ?_
 ·repeat' (first|(refine A1 (fun h=>?_) (fun h=>?_)<;>refine Ad ?_)|(refine AL (fun h=>?_) (fun h=>?_)<;>refine Ad ?_)|(refine AO (fun h=>?_) (fun h=>?_)<;>refine Ad ?_)|(refine An (fun h=>?_) (fun h=>?_)<;>(have h2:=h;(try simp only[AB,A7,AG,AF]at h2);refine Bz ?_)))
  all_goals (refine⟨⟨BO (by rfl) ?_,rfl⟩,.refl _⟩;first|(simp_all;done)|(simp_all;omega)|grind)
 refine Ad ?_
 refine A1 (fun h1=>?_) (fun h1=>?_)
 ·refine Ad ?_
  refine Ah (.of_eq ?_)
  rw[C0,if_pos h1]
 refine Ad ?_
 refine AO (fun h2=>?_) (fun h2=>?_)
 ·refine Ad ?_
  refine Ah (.of_eq ?_)
  simp only[AG]at h2
  rw[C0,if_neg h1,if_pos h2]
 replace h2: ¬GG (J8 c)=false:=by simpa using h2
 refine Ad ?_
 refine B0 [(27,.raw (.bool (decide (c.kind=1∧(c.type < 1∨4 < c.type))))),(1,.raw (.pointer (some ⟨b,0,none⟩)))] (.box b 101 (BC c)::LF) ?_ ?_
 ·repeat' (first|(refine A1 (fun h=>?_) (fun h=>?_)<;>refine Ad ?_)|(refine AL (fun h=>?_) (fun h=>?_)<;>refine Ad ?_)|(refine AO (fun h=>?_) (fun h=>?_)<;>refine Ad ?_)|(refine An (fun h=>?_) (fun h=>?_)<;>(have h2:=h;(try simp only[AB,A7,AG,AF]at h2);refine Bz ?_)))
  all_goals (refine⟨⟨BO (by rfl) ?_,rfl⟩,.refl _⟩;first|(simp_all;done)|(simp_all;omega)|grind)
 refine Ad ?_
 refine A1 (fun h3=>?_) (fun h3=>?_)
 ·refine Ad ?_
  refine Ah (.of_eq ?_)
  rw[C0,if_neg h1,if_neg h2,if_pos h3]
 refine Ad ?_
 refine B0 [(36,.raw (.bool (decide (c.kind=2∧EK c.name=false)))),(1,.raw (.pointer (some ⟨b,0,none⟩)))] (.box b 101 (BC c)::LF) ?_ ?_
 ·repeat' (first|(refine A1 (fun h=>?_) (fun h=>?_)<;>refine Ad ?_)|(refine AL (fun h=>?_) (fun h=>?_)<;>refine Ad ?_)|(refine AO (fun h=>?_) (fun h=>?_)<;>refine Ad ?_)|(refine An (fun h=>?_) (fun h=>?_)<;>(have h2:=h;(try simp only[AB,A7,AG,AF]at h2);refine Bz ?_)))
  all_goals (refine⟨⟨BO (by rfl) ?_,rfl⟩,.refl _⟩;first|(simp_all;done)|(simp_all;omega)|grind)
 refine Ad ?_
 refine A1 (fun h4=>?_) (fun h4=>?_)
 ·refine Ad ?_
  refine Ah (.of_eq ?_)
  rw[C0,if_neg h1,if_neg h2,if_neg h3,if_pos h4]
 refine Ad ?_
 refine B0 [(49,.raw (.bool (decide (c.kind=3∧(c.mode < 0∨511 < c.mode))))),(1,.raw (.pointer (some ⟨b,0,none⟩)))] (.box b 101 (BC c)::LF) ?_ ?_
 ·repeat' (first|(refine A1 (fun h=>?_) (fun h=>?_)<;>refine Ad ?_)|(refine AL (fun h=>?_) (fun h=>?_)<;>refine Ad ?_)|(refine AO (fun h=>?_) (fun h=>?_)<;>refine Ad ?_)|(refine An (fun h=>?_) (fun h=>?_)<;>(have h2:=h;(try simp only[AB,A7,AG,AF]at h2);refine Bz ?_)))
  all_goals (refine⟨⟨BO (by rfl) ?_,rfl⟩,.refl _⟩;first|(simp_all;done)|(simp_all;omega)|grind)
 refine Ad ?_
 refine A1 (fun h5=>?_) (fun h5=>?_)
 ·refine Ad ?_
  refine Ah (.of_eq ?_)
  rw[C0,if_neg h1,if_neg h2,if_neg h3,if_neg h4,if_pos h5]
 refine Ad ?_
 refine A1 (fun h6=>?_) (fun h6=>?_)
 ·refine Ad ?_
  refine Ah (.of_eq ?_)
  rw[C0,if_neg h1,if_neg h2,if_neg h3,if_neg h4,if_neg h5,if_pos h6]
 refine Ad ?_
 refine A1 (fun h7=>?_) (fun h7=>?_)
 ·refine Ad ?_
  refine Ah (.of_eq ?_)
  rw[C0,if_neg h1,if_neg h2,if_neg h3,if_neg h4,if_neg h5,if_neg h6,if_pos h7]
 refine Ad ?_
 refine B0 [(68,.raw (.bool (decide (c.kind=7∧(c.over.length:Int)=0)))),(1,.raw (.pointer (some ⟨b,0,none⟩)))] (.box b 101 (BC c)::LF) ?_ ?_
 ·repeat' (first|(refine A1 (fun h=>?_) (fun h=>?_)<;>refine Ad ?_)|(refine AL (fun h=>?_) (fun h=>?_)<;>refine Ad ?_)|(refine AO (fun h=>?_) (fun h=>?_)<;>refine Ad ?_)|(refine An (fun h=>?_) (fun h=>?_)<;>(have h2:=h;(try simp only[AB,A7,AG,AF]at h2);refine Bz ?_)))
  all_goals (refine⟨⟨BO (by rfl) ?_,rfl⟩,.refl _⟩;first|(simp_all;done)|(simp_all;omega)|grind)
 refine Ad ?_
 refine A1 (fun h8=>?_) (fun h8=>?_)
 ·refine Ad ?_
  refine Ah (.of_eq ?_)
  rw[C0,if_neg h1,if_neg h2,if_neg h3,if_neg h4,if_neg h5,if_neg h6,if_neg h7,if_pos h8]
 refine Ad ?_
 refine A1 (fun h9=>?_) (fun h9=>?_)
 ·refine Ad ?_
  refine Ah (.of_eq ?_)
  rw[C0,if_neg h1,if_neg h2,if_neg h3,if_neg h4,if_neg h5,if_neg h6,if_neg h7,if_neg h8,if_pos h9]
 refine Ad ?_
 refine AO (fun h=>?_) (fun h=>?_)
 ·refine Ad ?_
  refine Ah (.of_eq ?_)
  simp only[AG]at h
  rw[C0,if_neg h1,if_neg h2,if_neg h3,if_neg h4,if_neg h5,if_neg h6,if_neg h7,if_neg h8,if_neg h9,if_pos h]
 ·refine Ad ?_
  refine Ah (.of_eq ?_)
  replace h: ¬RE c.over=false:=by simpa using h
  rw[C0,if_neg h1,if_neg h2,if_neg h3,if_neg h4,if_neg h5,if_neg h6,if_neg h7,if_neg h8,if_neg h9,if_neg h]⟩
def Aq {α:Type} (f:α→Int):List α→Int
 | []=>0
 |x::l=>if f x=0 then Aq f l else f x
theorem CG {α:Type} {f:α→Int}: ∀ {l:List α},(∀ i (h:i < l.length),f l[i]=0)→Aq f l=0
 | [],_=>rfl
 |x::l,h=>by
  have h0:=h 0 (by simp)
  simp only[B9]at h0
  rw[Aq,if_pos h0]
  exact CG fun i hi=>by have:=h (i+1) (by simpa using hi);simpa using this
theorem CQ {α:Type} {f:α→Int}: ∀ {l:List α} {k:Nat} (hk:k < l.length),(∀ i (h:i < l.length),i < k→f l[i]=0)→f l[k]≠0→Aq f l=f l[k]
 |x::l,0,hk,_,hn=>by simp only[B9]at hn ⊢;rw[Aq,if_neg hn]
 |x::l,k+1,hk,h,hn=>by
  have h0:=h 0 (by simp) (by omega)
  simp only[B9]at h0
  simp only[Cn]at hn ⊢
  rw[Aq,if_pos h0]
  exact CQ (by simpa using hk) (fun i hi hik=>by have:=h (i+1) (by simpa using hi) (by omega);simpa using this) hn
theorem DT {α:Type} {l:List α} {f:α→Int} {k:Nat} (he: ∀ i (h:i < l.length),i < k→f l[i]=0) (hk:k < l.length) (h:f l[k]=0): ∀ i (h:i < l.length),i < k+1→f l[i]=0:=fun i hi hik=>by
 rcases BB i k with h'|h'
 ·exact he i hi h'
 ·have:i=k:=by omega
  subst this;exact h
def YW:Ident:=⟨Dig.zero,-1⟩
def Kd (c:Chg) (own:List Atm):Int:=if 2≤c.kind∧c.kind≤6 then Jf c.file own (EL c.kind (Lr own c.file))else 0
def NB (c:Chg) (own:List Atm):Int:=if c.kind=2∧c.parent≠YW then Jf c.parent own (rDirectory (Lr own c.parent))else 0
def QC (c:Chg) (own:List Atm) (x:Ident):Int:=Jf x own (decide (x=c.file)||Jg c.file (Lr own x))
def Nk (c:Chg) (own:List Atm) (x:Ident):Int:=Jf x own (HL c.kind c.file (Lr own x))
def Ih (c:Chg) (own:List Atm):Int:=if J7 c.kind=true then Aq (QC c own) [c.after,c.before]else 0
def FY (c:Chg) (own:List Atm):Int:=
 if Kd c own≠0 then Kd c own else if NB c own≠0 then NB c own else if Ih c own≠0 then Ih c own else
 if Aq (Nk c own) c.over≠0 then Aq (Nk c own) c.over else if c.kind=2∧c.parent=c.file then 20 else
 if(J7 c.kind=true∧c.after=c.before)∧(c.kind=6∨c.after≠c.file)then 1 else 0
instance mN (c:Chg) (own:List Atm) (t:CW):Bl Tryz.prog 283 [.agg (BC c),.slice (own.map eAtm) t] (.raw (.int .i64 (FY c own))):=⟨by
 refine Ak Tryz.func283 Tryz.ntmps283 rfl (rs:= [.tmp 4]) rfl rfl fun hb LF=>?_
 have hlen:c.over.length≤140737488355328:=((hb (.agg (BC c)) (by simp)).agg_at (c:= .slice (c.over.map eIdent) .ro) (by simp[BC])).slice_map
 refine DB fun b=>?_
 refine B0 [(20,.raw (.bool (decide (2≤c.kind∧c.kind≤6)))),(1,.slice (own.map eAtm) t),(2,.raw (.pointer (some ⟨b,0,none⟩)))] (.box b 101 (BC c)::LF) ?_ ?_
 ·repeat' (first|(refine A1 (fun h=>?_) (fun h=>?_)<;>refine Ad ?_)|(refine AL (fun h=>?_) (fun h=>?_)<;>refine Ad ?_)|(refine AO (fun h=>?_) (fun h=>?_)<;>refine Ad ?_)|(refine An (fun h=>?_) (fun h=>?_)<;>(have h2:=h;(try simp only[AB,A7,AG,AF]at h2);refine Bz ?_)))
  all_goals (refine⟨⟨BO (by rfl) ?_,rfl,rfl⟩,.refl _⟩;first|(simp_all;done)|(simp_all;omega)|grind)
 refine Ad ?_
 refine Kf (Kd c own=0) [(1,.slice (own.map eAtm) t),(2,.raw (.pointer (some ⟨b,0,none⟩)))] (.box b 101 (BC c)::LF) ?_ fun hF=>?_
 ·refine A1 (fun h=>?_) (fun h=>?_)
  ·refine Ad ?_
   have e:Kd c own=Jf c.file own (EL c.kind (Lr own c.file)):=by rw[Kd,if_pos h]
   refine AL (fun h'=>?_) (fun h'=>?_)
   ·refine Ad ?_
    refine Ah (.of_eq ?_)
    rw[FY,if_pos (by rw[e];exact h'),e]
   ·refine Ad ?_
    exact⟨e.trans h',⟨rfl,rfl⟩,.refl _⟩
  ·refine Ad ?_
   exact⟨by rw[Kd,if_neg h],⟨rfl,rfl⟩,.refl _⟩
 refine Ad ?_
 refine B0 [(43,.raw (.bool (decide (c.kind=2∧c.parent≠YW)))),(1,.slice (own.map eAtm) t),(2,.raw (.pointer (some ⟨b,0,none⟩)))] (.box b 101 (BC c)::LF) ?_ ?_
 ·repeat' (first|(refine A1 (fun h=>?_) (fun h=>?_)<;>refine Ad ?_)|(refine AL (fun h=>?_) (fun h=>?_)<;>refine Ad ?_)|(refine AO (fun h=>?_) (fun h=>?_)<;>refine Ad ?_)|(refine An (fun h=>?_) (fun h=>?_)<;>(have h2:=h;(try simp only[AB,A7,AG,AF]at h2);refine Bz ?_)))
  all_goals (refine⟨⟨BO (by rfl) ?_,rfl,rfl⟩,.refl _⟩;simp_all[YW])
 refine Ad ?_
 refine Kf (NB c own=0) [(1,.slice (own.map eAtm) t),(2,.raw (.pointer (some ⟨b,0,none⟩)))] (.box b 101 (BC c)::LF) ?_ fun hP=>?_
 ·refine A1 (fun h=>?_) (fun h=>?_)
  ·refine DB fun b2=>?_
   have e:NB c own=Jf c.parent own (rDirectory (Lr own c.parent)):=by rw[NB,if_pos h]
   refine An (fun hp=>?_) (fun hp=>?_)
   ·refine Bz ?_
    have e2:rDirectory (Lr own c.parent)=decide ((Lr own c.parent).type=4):=by rw[rDirectory,hp,Rh]
    rw[e2]at e
    refine AL (fun h'=>?_) (fun h'=>?_)
    ·refine Ad ?_
     refine Ah (.of_eq ?_)
     rw[FY,if_neg (by simp[hF]),if_pos (by rw[e];exact h'),e]
    ·refine Ad ?_
     exact⟨e.trans h',⟨rfl,rfl⟩,.cons _ (.refl _)⟩
   ·refine Bz ?_
    have e2:rDirectory (Lr own c.parent)=false:=by rw[rDirectory,hp,Xt]
    rw[e2]at e
    refine AL (fun h'=>?_) (fun h'=>?_)
    ·refine Ad ?_
     refine Ah (.of_eq ?_)
     rw[FY,if_neg (by simp[hF]),if_pos (by rw[e];exact h'),e]
    ·refine Ad ?_
     exact⟨e.trans h',⟨rfl,rfl⟩,.cons _ (.refl _)⟩
  ·refine Ad ?_
   exact⟨by rw[NB,if_neg h],⟨rfl,rfl⟩,.refl _⟩
 refine Ad ?_
 refine Kf (Ih c own=0) [(1,.slice (own.map eAtm) t),(2,.raw (.pointer (some ⟨b,0,none⟩)))] (.box b 101 (BC c)::LF) ?_ fun hE=>?_
 ·refine AO (fun h=>?_) (fun h=>?_)
  ·refine Ad ?_
   have e:Ih c own=Aq (QC c own) [c.after,c.before]:=by rw[Ih,if_pos h]
   generalize hends: [c.after,c.before]=ends at e
   have hl2:ends.length=2:=by rw[←hends];rfl
   refine AW (σ:=Nat) (fun k=>k≤2∧ ∀ i (h:i < ends.length),i < k→QC c own ends[i]=0) (fun k=>2 - k) (fun k=> [(1,.slice (own.map eAtm) t),(2,.raw (.pointer (some ⟨b,0,none⟩))),(8,.slice (ends.map eIdent) .ro),(9,.raw (.int .i64 k))]) (fun _=> .box b 101 (BC c)::LF) 0 ⟨by simp,by simp⟩ ⟨rfl,rfl,by rw[←hends];rfl,rfl⟩ (.refl _) ?_
   rintro k ⟨hk,he⟩
   refine Ad ?_
   refine A1 (fun hc=>?_) (fun hc=>?_)
   ·have hlt:k < ends.length:=by omega
    refine Ad ?_
    refine An (fun hp=>?_) (fun hp=>?_)
    ·refine Bz ?_
     have e2:QC c own ends[k]=Jf ends[k] own true:=by rw[QC,hp,Bool.true_or]
     refine AL (fun h'=>?_) (fun h'=>?_)
     ·refine Ad ?_
      refine Ah (.of_eq ?_)
      have e3:Ih c own=Jf ends[k] own true:=by rw[e,CQ hlt he (by rw[e2];exact h'),e2]
      rw[FY,if_neg (by simp[hF]),if_neg (by simp[hP]),if_pos (by rw[e3];exact h'),e3]
     ·refine Ad ?_
      exact⟨k+1,⟨by omega,DT he hlt (e2.trans h')⟩,by dsimp only;omega,⟨rfl,rfl,rfl,rfl⟩,.refl _⟩
    ·refine Bz ?_
     have e2:QC c own ends[k]=Jf ends[k] own (Jg c.file (Lr own ends[k])):=by rw[QC,hp,Ic]
     refine AL (fun h'=>?_) (fun h'=>?_)
     ·refine Ad ?_
      refine Ah (.of_eq ?_)
      have e3:Ih c own=Jf ends[k] own (Jg c.file (Lr own ends[k])):=by rw[e,CQ hlt he (by rw[e2];exact h'),e2]
      rw[FY,if_neg (by simp[hF]),if_neg (by simp[hP]),if_pos (by rw[e3];exact h'),e3]
     ·refine Ad ?_
      exact⟨k+1,⟨by omega,DT he hlt (e2.trans h')⟩,by dsimp only;omega,⟨rfl,rfl,rfl,rfl⟩,.refl _⟩
   ·refine Ad ?_
    exact⟨by rw[e,CG fun i h=>he i h (by omega)],⟨rfl,rfl⟩,.refl _⟩
  ·refine Ad ?_
   exact⟨by rw[Ih,if_neg (by simp[h])],⟨rfl,rfl⟩,.refl _⟩
 refine Ad ?_
 refine AW (σ:=Nat) (fun k=>k≤c.over.length∧ ∀ i (h:i < c.over.length),i < k→Nk c own c.over[i]=0) (fun k=>c.over.length - k) (fun k=> [(1,.slice (own.map eAtm) t),(2,.raw (.pointer (some ⟨b,0,none⟩))),(11,.raw (.int .i64 k))]) (fun _=> .box b 101 (BC c)::LF) 0 ⟨by simp,by simp⟩ ⟨rfl,rfl,rfl⟩ (.refl _) ?_
 rintro k ⟨hk,he⟩
 refine Ad ?_
 refine A1 (fun hc=>?_) (fun hc=>?_)
 ·have hlt:k < c.over.length:=by omega
  refine Ad ?_
  refine AL (fun h'=>?_) (fun h'=>?_)
  ·refine Ad ?_
   refine Ah (.of_eq ?_)
   have e3:Aq (Nk c own) c.over=Nk c own c.over[k]:=CQ hlt he h'
   rw[FY,if_neg (by simp[hF]),if_neg (by simp[hP]),if_neg (by simp[hE]),if_pos (by rw[e3];exact h'),e3];rfl
  ·refine Ad ?_
   exact⟨k+1,⟨by omega,DT he hlt h'⟩,by dsimp only;omega,⟨rfl,rfl,rfl⟩,.refl _⟩
 have hO:Aq (Nk c own) c.over=0:=CG fun i h=>he i h (by omega)
 refine Ad ?_
 refine B0 [(140,.raw (.bool (decide (c.kind=2∧c.parent=c.file)))),(2,.raw (.pointer (some ⟨b,0,none⟩)))] (.box b 101 (BC c)::LF) ?_ ?_
 ·repeat' (first|(refine A1 (fun h=>?_) (fun h=>?_)<;>refine Ad ?_)|(refine AL (fun h=>?_) (fun h=>?_)<;>refine Ad ?_)|(refine AO (fun h=>?_) (fun h=>?_)<;>refine Ad ?_)|(refine An (fun h=>?_) (fun h=>?_)<;>(have h2:=h;(try simp only[AB,A7,AG,AF]at h2);refine Bz ?_)))
  all_goals (refine⟨⟨BO (by rfl) ?_,rfl⟩,.refl _⟩;first|(simp_all;done)|(simp_all;omega)|grind)
 refine Ad ?_
 refine A1 (fun h1=>?_) (fun h1=>?_)
 ·refine Ad ?_
  refine Ah (.of_eq ?_)
  rw[FY,if_neg (by simp[hF]),if_neg (by simp[hP]),if_neg (by simp[hE]),if_neg (by simp[hO]),if_pos h1]
 refine Ad ?_
 refine B0 [(162,.raw (.bool (decide ((J7 c.kind=true∧c.after=c.before)∧(c.kind=6∨c.after≠c.file))))),(2,.raw (.pointer (some ⟨b,0,none⟩)))] (.box b 101 (BC c)::LF) ?_ ?_
 ·repeat' (first|(refine A1 (fun h=>?_) (fun h=>?_)<;>refine Ad ?_)|(refine AL (fun h=>?_) (fun h=>?_)<;>refine Ad ?_)|(refine AO (fun h=>?_) (fun h=>?_)<;>refine Ad ?_)|(refine An (fun h=>?_) (fun h=>?_)<;>(have h2:=h;(try simp only[AB,A7,AG,AF]at h2);refine Bz ?_)))
  all_goals (refine⟨⟨BO (by rfl) ?_,rfl⟩,.refl _⟩;first|(simp_all;done)|(simp_all;omega)|grind)
 refine Ad ?_
 refine A1 (fun h2=>?_) (fun h2=>?_)
 ·refine Ad ?_
  refine Ah (.of_eq ?_)
  rw[FY,if_neg (by simp[hF]),if_neg (by simp[hP]),if_neg (by simp[hE]),if_neg (by simp[hO]),if_neg h1,if_pos h2]
 ·refine Ad ?_
  refine Ah (.of_eq ?_)
  rw[FY,if_neg (by simp[hF]),if_neg (by simp[hP]),if_neg (by simp[hE]),if_neg (by simp[hO]),if_neg h1,if_neg h2]⟩
def Hn (l:List Dig) (i:Nat):Int:=if l.getD i Dig.zero=Dig.zero then 1 else if 0 < (i:Int)∧0≤Dh (l.getD (i - 1) Dig.zero) (l.getD i Dig.zero)then 9 else 0
def Jh (l:List Dig):Int:=if 100 < (l.length:Int)then 4 else Aq (Hn l) (List.range l.length)
instance yH (l:List Dig) (t:CW):Bl Tryz.prog 244 [.slice (l.map eDig) t] (.raw (.int .i64 (Jh l))):=⟨by
 refine Ak Tryz.func244 Tryz.ntmps244 rfl (rs:= [.tmp 2]) rfl rfl fun hb LF=>?_
 have hlen:l.length≤140737488355328:=(hb (.slice (l.map eDig) t) (by simp)).slice_map
 refine Ad ?_
 refine A1 (fun h1=>?_) (fun h1=>?_)
 ·refine Ad ?_
  refine Ah (.of_eq ?_)
  rw[Jh,if_pos h1]
 refine Ad ?_
 refine AW (σ:=Nat) (fun k=>k≤l.length∧ ∀ i (h:i < (List.range l.length).length),i < k→Hn l (List.range l.length)[i]=0) (fun k=>l.length - k) (fun k=> [(0,.slice (l.map eDig) t),(3,.raw (.int .i64 k))]) (fun _=>LF) 0 ⟨by simp,by simp⟩ ⟨rfl,rfl⟩ (.refl _) ?_
 rintro k ⟨hk,he⟩
 refine Ad ?_
 refine A1 (fun hc=>?_) (fun hc=>?_)
 ·have hlt:k < l.length:=by omega
  have hltr:k < (List.range l.length).length:=by simpa using hlt
  have ek:(List.range l.length)[k]=k:=by simp
  have e0:l.getD k Dig.zero=l[k]:=by simp[List.getD,hlt]
  refine Ad ?_
  refine A1 (fun h2=>?_) (fun h2=>?_)
  ·refine Ad ?_
   refine Ah (.of_eq ?_)
   have e:Hn l (List.range l.length)[k]=1:=by rw[ek,Hn,e0,if_pos h2]
   rw[Jh,if_neg h1,CQ hltr he (by rw[e];decide),e]
  refine Ad ?_
  refine An (fun hp=>?_) (fun hp=>?_)
  ·have hp':0 < (k:Int):=Ab hp
   refine Bz ?_
   have e1:l.getD (k - 1) Dig.zero=l[((k:Int) - 1).toNat]:=by
    have:((k:Int) - 1).toNat=k - 1:=by omega
    simp only[this]
    have h':k - 1 < l.length:=by omega
    simp[List.getD,h']
   refine A1 (fun h3=>?_) (fun h3=>?_)
   ·refine Ad ?_
    refine Ah (.of_eq ?_)
    have e:Hn l (List.range l.length)[k]=9:=by rw[ek,Hn,e0,e1,if_neg h2,if_pos ⟨hp',h3⟩]
    rw[Jh,if_neg h1,CQ hltr he (by rw[e];decide),e]
   ·refine Ad ?_
    have e:Hn l (List.range l.length)[k]=0:=by rw[ek,Hn,e0,e1,if_neg h2,if_neg (fun h=>h3 h.2)]
    exact⟨k+1,⟨by omega,DT he hltr e⟩,by dsimp only;omega,⟨rfl,rfl⟩,.refl _⟩
  ·have hp': ¬0 < (k:Int):=BJ hp
   refine Bz ?_
   have e:Hn l (List.range l.length)[k]=0:=by rw[ek,Hn,e0,if_neg h2,if_neg (fun h=>hp' h.1)]
   exact⟨k+1,⟨by omega,DT he hltr e⟩,by dsimp only;omega,⟨rfl,rfl⟩,.refl _⟩
 ·refine Ad ?_
  refine Ah (.of_eq ?_)
  rw[Jh,if_neg h1,CG fun i h=>he i h (by simp at h;omega)]⟩
def Fa (c:Chg) (first:Int) (i:Nat):Atm:={ Atm.zero with id:=⟨Dig.zero,first+i⟩,kind:=5,file:=c.file,text:=c.lines.getD i [] }
def Ep (c:Chg) (first:Int) (i:Nat):Atm:={ Atm.zero with id:=⟨Dig.zero,first+c.lines.length+i⟩,kind:=6,file:=c.file,src:=if 0 < (i:Int)then⟨Dig.zero,first+i - 1⟩else c.after,dst:=if(i:Int) < c.lines.length then⟨Dig.zero,first+i⟩else c.before }
def EZ (c:Chg) (first:Int):List Atm:=
 if c.kind=1 then [{ Atm.zero with id:=⟨Dig.zero,first⟩,kind:=1,file:=⟨Dig.zero,first⟩,type:=c.type }]else
 if c.kind=2 then [{ Atm.zero with id:=⟨Dig.zero,first⟩,kind:=2,file:=c.file,parent:=c.parent,name:=c.name,over:=c.over }]else
 if c.kind=3 then [{ Atm.zero with id:=⟨Dig.zero,first⟩,kind:=3,file:=c.file,mode:=c.mode,over:=c.over }]else
 if c.kind=4 then [{ Atm.zero with id:=⟨Dig.zero,first⟩,kind:=4,file:=c.file,data:=c.data,over:=c.over }]else
 if c.kind=6 then [{ Atm.zero with id:=⟨Dig.zero,first⟩,kind:=6,file:=c.file,src:=c.after,dst:=c.before,over:=c.over }]else
 if c.kind=7 then [{ Atm.zero with id:=⟨Dig.zero,first⟩,kind:=7,over:=c.over }]else
 (List.range c.lines.length).map (Fa c first)++(List.range (c.lines.length+1)).map (Ep c first)
theorem Lq (c:Chg) (first:Int):(EZ c first).length≤2*c.lines.length+1:=by
 unfold EZ
 repeat' split
 all_goals first|(simp only[AH,Aa];omega)|(simp only[A8,AR,H7];omega)
instance yM (c:Chg) (first:Int) [hs:B3 (c.lines.length≤2000∧0≤first∧first≤1000000000)]:Bl Tryz.prog 284 [.agg (BC c),.raw (.int .i64 first)] (.slice ((EZ c first).map eAtm) .ro):=⟨by
 refine Ak Tryz.func284 Tryz.ntmps284 rfl (rs:= [.tmp 4]) rfl rfl fun hb LF=>?_
 obtain⟨hl,hf0,hf1⟩:=hs.out
 refine DB fun b=>?_
 refine FI fun b2=>?_
 refine A1 (fun h1=>?_) (fun h1=>?_)
 ·refine Ad ?_
  refine Ah (.of_eq ?_)
  rw[EZ,if_pos h1];rfl
 refine Ad ?_
 refine A1 (fun h2=>?_) (fun h2=>?_)
 ·refine Ad ?_
  refine Ah (.of_eq ?_)
  rw[EZ,if_neg h1,if_pos h2];rfl
 refine Ad ?_
 refine A1 (fun h3=>?_) (fun h3=>?_)
 ·refine Ad ?_
  refine Ah (.of_eq ?_)
  rw[EZ,if_neg h1,if_neg h2,if_pos h3];rfl
 refine Ad ?_
 refine A1 (fun h4=>?_) (fun h4=>?_)
 ·refine Ad ?_
  refine Ah (.of_eq ?_)
  rw[EZ,if_neg h1,if_neg h2,if_neg h3,if_pos h4];rfl
 refine Ad ?_
 refine A1 (fun h6=>?_) (fun h6=>?_)
 ·refine Ad ?_
  refine Ah (.of_eq ?_)
  rw[EZ,if_neg h1,if_neg h2,if_neg h3,if_neg h4,if_pos h6];rfl
 refine Ad ?_
 refine A1 (fun h7=>?_) (fun h7=>?_)
 ·refine Ad ?_
  refine Ah (.of_eq ?_)
  rw[EZ,if_neg h1,if_neg h2,if_neg h3,if_neg h4,if_neg h6,if_pos h7];rfl
 refine Ad ?_
 refine Ee 172 ?_
 refine AW (σ:=Nat × CW) (fun k=>k.1≤c.lines.length) (fun k=>c.lines.length - k.1) (fun k=> [(1,.raw (.int .i64 first)),(2,.raw (.pointer (some ⟨b,0,none⟩))),(6,.slice (((List.range k.1).map (Fa c first)).map eAtm) k.2),(7,.raw (.int .i64 c.lines.length)),(8,.raw (.int .i64 k.1))]) (fun k=> .tok k.2 ((List.range k.1).map (Fa c first)).length 172:: .box b 101 (BC c)::LF) (0,.nil) (by simp) ⟨rfl,rfl,rfl,rfl,rfl⟩ (.cons_cons _ (.cons _ (.refl _))) ?_
 rintro⟨k,v⟩ hk
 dsimp only at hk
 refine Ad ?_
 refine A1 (fun hc=>?_) (fun hc=>?_)
 ·have hlt:k < c.lines.length:=by omega
  have hll:((List.range k).map (Fa c first)).length=k:=by simp
  generalize hB:(List.range k).map (Fa c first)=B at hll ⊢
  refine Ri ?_
  refine BZ 14 ?_ ?_
  ·decide+kernel
  refine IB fun v'=>?_
  have e:(List.range (k+1)).map (Fa c first)=(List.range k).map (Fa c first)++ [Fa c first k]:=by rw[Ib,Az];rfl
  rw[hB]at e
  have e2:Fa c first k= { Atm.zero with id:=⟨Dig.zero,first+k⟩,kind:=5,file:=c.file,text:=c.lines[k] }:=by simp[Fa,List.getD,hlt]
  rw[e2]at e
  refine⟨(k+1,v'),by dsimp only;omega,by dsimp only;omega,⟨rfl,rfl,by dsimp only;rw[e];rfl,rfl,rfl⟩,by dsimp only;rw[e];exact .refl _⟩
 have hkk:k=c.lines.length:=by omega
 subst hkk
 refine Ad ?_
 generalize hA:(List.range c.lines.length).map (Fa c first)=A
 have hAl:A.length=c.lines.length:=by rw[←hA];simp
 refine AW (σ:=Nat × CW) (fun k=>k.1≤c.lines.length+1) (fun k=>c.lines.length+1 - k.1) (fun k=> [(1,.raw (.int .i64 first)),(2,.raw (.pointer (some ⟨b,0,none⟩))),(6,.slice ((A++(List.range k.1).map (Ep c first)).map eAtm) k.2),(7,.raw (.int .i64 c.lines.length)),(9,.raw (.int .i64 k.1))]) (fun k=> .tok k.2 (A++(List.range k.1).map (Ep c first)).length 172:: .box b 101 (BC c)::LF) (0,v) (by simp) ⟨rfl,rfl,by simp only[qC,CY,B6];rfl,rfl,rfl⟩ (by simp only[qC,CY,B6];exact .refl _) ?_
 rintro⟨k,v⟩ hk
 dsimp only at hk
 refine Ad ?_
 refine A1 (fun hc=>?_) (fun hc=>?_)
 ·have hll:(A++(List.range k).map (Ep c first)).length=c.lines.length+k:=by simp[hAl]
  have e:A++(List.range (k+1)).map (Ep c first)=(A++(List.range k).map (Ep c first))++ [Ep c first k]:=by rw[Ib,Az,AJ];rfl
  generalize hB:A++(List.range k).map (Ep c first)=B at hll e ⊢
  refine DB fun b3=>?_
  refine A1 (fun h8=>?_) (fun h8=>?_)
  ·refine Ad ?_
   refine A1 (fun h9=>?_) (fun h9=>?_)
   ·refine Hh fun v'=>?_
    have e2:Ep c first k= { Atm.zero with id:=⟨Dig.zero,first+c.lines.length+k⟩,kind:=6,file:=c.file,src:=⟨Dig.zero,first+k - 1⟩,dst:=⟨Dig.zero,first+k⟩ }:=by rw[Ep,if_pos h8,if_pos h9]
    rw[e2]at e
    refine⟨(k+1,v'),by dsimp only;omega,by dsimp only;omega,⟨rfl,rfl,by dsimp only;rw[e];rfl,rfl,rfl⟩,by dsimp only;rw[e];exact .cons _ (.refl _)⟩
   ·refine Hh fun v'=>?_
    have e2:Ep c first k= { Atm.zero with id:=⟨Dig.zero,first+c.lines.length+k⟩,kind:=6,file:=c.file,src:=⟨Dig.zero,first+k - 1⟩,dst:=c.before }:=by rw[Ep,if_pos h8,if_neg h9]
    rw[e2]at e
    refine⟨(k+1,v'),by dsimp only;omega,by dsimp only;omega,⟨rfl,rfl,by dsimp only;rw[e];rfl,rfl,rfl⟩,by dsimp only;rw[e];exact .cons _ (.refl _)⟩
  ·refine Ad ?_
   refine A1 (fun h9=>?_) (fun h9=>?_)
   ·refine Hh fun v'=>?_
    have e2:Ep c first k= { Atm.zero with id:=⟨Dig.zero,first+c.lines.length+k⟩,kind:=6,file:=c.file,src:=c.after,dst:=⟨Dig.zero,first+k⟩ }:=by rw[Ep,if_neg h8,if_pos h9]
    rw[e2]at e
    refine⟨(k+1,v'),by dsimp only;omega,by dsimp only;omega,⟨rfl,rfl,by dsimp only;rw[e];rfl,rfl,rfl⟩,by dsimp only;rw[e];exact .cons _ (.refl _)⟩
   ·refine Hh fun v'=>?_
    have e2:Ep c first k= { Atm.zero with id:=⟨Dig.zero,first+c.lines.length+k⟩,kind:=6,file:=c.file,src:=c.after,dst:=c.before }:=by rw[Ep,if_neg h8,if_neg h9]
    rw[e2]at e
    refine⟨(k+1,v'),by dsimp only;omega,by dsimp only;omega,⟨rfl,rfl,by dsimp only;rw[e];rfl,rfl,rfl⟩,by dsimp only;rw[e];exact .cons _ (.refl _)⟩
 ·refine Ad ?_
  refine Ah (.ros ?_)
  have hkk:k=c.lines.length+1:=by omega
  subst hkk
  rw[EZ,if_neg h1,if_neg h2,if_neg h3,if_neg h4,if_neg h6,if_neg h7,hA]⟩
theorem JZ {c:Chg} (h:C0 c=0):c.lines.length≤2000:=by
 unfold C0 at h
 split at h
 ·omega
 split at h
 ·omega
 rename_i h2
 split at h
 ·omega
 split at h
 ·omega
 split at h
 ·omega
 split at h
 ·omega
 split at h
 ·unfold MY at h
  split at h
  ·omega
  split at h
  ·omega
  ·omega
 ·rename_i h7
  simp only[Bool.not_eq_false,GG,Bu,AB,J8,h7,if_false]at h2
  omega
def DK:List Chg→List Atm→List Atm × Int
 | [],own=>(own,0)
 |c::l,own=>if C0 c≠0 then([],C0 c)else if FY c own≠0 then([],FY c own)else DK l (own++EZ c own.length)
theorem LQ {l:List Chg} {k:Nat} (hk:k < l.length) (own:List Atm):DK (l.drop k) own=if C0 l[k]≠0 then([],C0 l[k])else if FY l[k] own≠0 then([],FY l[k] own)else DK (l.drop (k+1)) (own++EZ l[k] own.length):=by
 rw[EW hk,DK]
instance th (l:List Chg) (t:CW) [hs:B3 (l.length≤400)]:Bl Tryz.prog 245 [.slice (l.map BC) t] (.tuple [.slice ((DK l []).1.map eAtm) .ro,.raw (.int .i64 (DK l []).2)]):=⟨by
 refine Ak Tryz.func245 Tryz.ntmps245 rfl (rs:= [.tmp 2,.tmp 3]) rfl rfl fun hb LF=>?_
 have hl:=hs.out
 refine Ad ?_
 refine Ee 172 ?_
 refine AW (σ:=Nat × CW × List Atm) (fun k=>k.1≤l.length∧k.2.2.length≤k.1*4001∧DK l []=DK (l.drop k.1) k.2.2) (fun k=>l.length - k.1) (fun k=> [(0,.slice (l.map BC) t),(4,.slice (k.2.2.map eAtm) k.2.1),(5,.raw (.int .i64 k.1))]) (fun k=> .tok k.2.1 k.2.2.length 172::LF) (0,.nil,[]) ⟨by simp,by simp,by simp⟩ ⟨rfl,rfl,rfl⟩ (.refl _) ?_
 rintro⟨k,v,own⟩ ⟨hk,hlen,he⟩
 dsimp only at hk hlen he
 refine Ad ?_
 refine A1 (fun hc=>?_) (fun hc=>?_)
 ·have hlt:k < l.length:=by omega
  rw[LQ hlt]at he
  refine Ad ?_
  refine AL (fun h1=>?_) (fun h1=>?_)
  ·refine Ad ?_
   rw[if_pos h1]at he
   refine GM (.tuple2 ?_ (.of_eq ?_))
   ·rw[he];exact .ro _ _
   ·rw[he]
  rw[if_neg (by simp[h1])]at he
  refine Ad ?_
  refine AL (fun h2=>?_) (fun h2=>?_)
  ·refine Ad ?_
   rw[if_pos h2]at he
   refine GM (.tuple2 ?_ (.of_eq ?_))
   ·rw[he];exact .ro _ _
   ·rw[he]
  rw[if_neg (by simp[h2])]at he
  have hll:l[k].lines.length≤2000:=JZ h1
  have hmm:=Lq l[k] own.length
  have:B3 (l[k].lines.length≤2000∧(0:Int)≤own.length∧(own.length:Int)≤1000000000):=⟨hll,by omega,by omega⟩
  refine Hh fun v'=>?_
  refine⟨(k+1,v',own++EZ l[k] own.length),⟨by dsimp only;omega,by dsimp only;rw[A8];omega,he⟩,by dsimp only;omega,⟨rfl,rfl,rfl⟩,.refl _⟩
 ·refine Ad ?_
  have hkk:l.drop k= []:=Cp (by omega)
  rw[hkk]at he
  refine GM (.tuple2 ?_ (.of_eq ?_))
  ·rw[he];exact .ro _ _
  ·rw[he];rfl⟩
def Cq (p:Pat):List Atm × Int:=
 if EK p.author=false then([],5)else if 1000 < (p.message.length:Int)then([],4)else if p.time < 0∨1099511627776 < p.time then([],2)else
 if Jh p.deps≠0 then([],Jh p.deps)else if(p.changes.length:Int)=0 then([],1)else if 400 < (p.changes.length:Int)then([],4)else DK p.changes []
instance uu (p:Pat):Bl Tryz.prog 209 [.agg (CP p)] (.tuple [.slice ((Cq p).1.map eAtm) .ro,.raw (.int .i64 (Cq p).2)]):=⟨by
 refine Ak Tryz.func209 Tryz.ntmps209 rfl (rs:= [.tmp 2,.tmp 3]) rfl rfl fun hb LF=>?_
 refine DB fun b=>?_
 refine AO (fun h1=>?_) (fun h1=>?_)
 ·refine Ad ?_
  rw[Cq,if_pos (by simpa using h1)]
  refine GM ?_;exact .tuple2 (.ro _ _) (.refl _)
 rw[Cq,if_neg (by simpa using h1)]
 refine Ad ?_
 refine A1 (fun h2=>?_) (fun h2=>?_)
 ·refine Ad ?_
  rw[if_pos h2]
  refine GM ?_;exact .tuple2 (.ro _ _) (.refl _)
 rw[if_neg h2]
 refine Ad ?_
 refine B0 [(20,.raw (.bool (decide (p.time < 0∨1099511627776 < p.time)))),(1,.raw (.pointer (some ⟨b,0,none⟩)))] (.box b 42 (CP p)::LF) ?_ ?_
 ·repeat' (first|(refine A1 (fun h=>?_) (fun h=>?_)<;>refine Ad ?_)|(refine AL (fun h=>?_) (fun h=>?_)<;>refine Ad ?_)|(refine AO (fun h=>?_) (fun h=>?_)<;>refine Ad ?_)|(refine An (fun h=>?_) (fun h=>?_)<;>(have h2:=h;(try simp only[AB,A7,AG,AF]at h2);refine Bz ?_)))
  all_goals (refine⟨⟨BO (by rfl) ?_,rfl⟩,.refl _⟩;first|(simp_all;done)|(simp_all;omega)|grind)
 refine Ad ?_
 refine A1 (fun h3=>?_) (fun h3=>?_)
 ·refine Ad ?_
  rw[if_pos h3]
  refine GM ?_;exact .tuple2 (.ro _ _) (.refl _)
 rw[if_neg h3]
 refine Ad ?_
 refine AL (fun h4=>?_) (fun h4=>?_)
 ·refine Ad ?_
  rw[if_pos h4]
  refine GM ?_;exact .tuple2 (.ro _ _) (.refl _)
 rw[if_neg (by simp[h4])]
 refine Ad ?_
 refine A1 (fun h5=>?_) (fun h5=>?_)
 ·refine Ad ?_
  rw[if_pos h5]
  refine GM ?_;exact .tuple2 (.ro _ _) (.refl _)
 rw[if_neg h5]
 refine Ad ?_
 refine A1 (fun h6=>?_) (fun h6=>?_)
 ·refine Ad ?_
  rw[if_pos h6]
  refine GM ?_;exact .tuple2 (.ro _ _) (.refl _)
 rw[if_neg h6]
 have:B3 (p.changes.length≤400):=⟨by omega⟩
 refine Ad ?_
 refine GM ?_;exact .refl _⟩
def P1:Nat→Nat→Str
 |0,n=> [UInt8.ofNat (48+n)]
 |f+1,n=>if n < 10 then [UInt8.ofNat (48+n)]else P1 f (n / 10)++ [UInt8.ofNat (48+n % 10)]
theorem TI: ∀ (f n:Nat),n≤f→P1 f n=P1 n n
 |0,n,h=>by have:n=0:=by omega
            subst this;rfl
 |f+1,n,h=>by
  by_cases hn:n < 10
  ·cases n with
   |zero=>simp[P1]
   |succ m=>simp only[P1,hn,if_true]
  ·obtain⟨m,rfl⟩: ∃ m,n=m+1:=⟨n - 1,by omega⟩
   simp only[P1,hn,if_false]
   rw[TI f ((m+1) / 10) (by omega),TI m ((m+1) / 10) (by omega)]
def Ho (n:Nat):Str:=P1 n n
theorem IC {n:Nat} (h:n < 10):Ho n= [UInt8.ofNat (48+n)]:=by
 unfold Ho
 cases n with
 |zero=>simp[P1]
 |succ m=>simp only[P1,h,if_true]
theorem Lu {n:Nat} (h: ¬n < 10):Ho n=Ho (n / 10)++ [UInt8.ofNat (48+n % 10)]:=by
 obtain⟨m,rfl⟩: ∃ m,n=m+1:=⟨n - 1,by omega⟩
 unfold Ho
 simp only[P1,h,if_false]
 rw[TI m ((m+1) / 10) (by omega)]
theorem Ya: ∀ (m n:Nat),n < 10 ^ (m+1)→(Ho n).length≤m+1
 |0,n,h=>by rw[IC (by omega)];simp
 |m+1,n,h=>by
  by_cases hn:n < 10
  ·rw[IC hn];simp
  ·rw[Lu hn,A8]
   have:=Ya m (n / 10) (by rw[Nat.div_lt_iff_lt_mul (by omega)];rw[Nat.pow_succ]at h;omega)
   simp only[AH,Aa];omega
theorem Ke {n:Nat} (h:n≤140737488355328):(Ho n).length≤15:=Ya 14 n (by omega)
theorem S5: ∀ (n:Nat),n≤140737488355328→Q.Fn Tryz.prog 321 [.raw (.int .i64 (n:Int))] (.str (Ho n)):=by
 intro n
 induction n using Nat.strongRecOn with
 |_ n ih=>
 intro hn
 have ih': ∀ m:Nat,[B3 (m < n)]→Bl Tryz.prog 321 [.raw (.int .i64 (m:Int))] (.str (Ho m)):=fun m h=>⟨ih m h.out (by have:=h.out;omega)⟩
 refine Ak Tryz.func321 Tryz.ntmps321 rfl (rs:= [.tmp 2]) rfl rfl fun hb LF=>?_
 refine Ad ?_
 refine A1 (fun h2=>?_) (fun h2=>?_)
 ·refine Ad ?_
  refine Ah (.of_eq ?_)
  rw[IC (by omega)]
 ·have:B3 (n / 10 < n):=⟨by omega⟩
  have hl:=Ke (n:=n / 10) (by omega)
  refine Ad ?_
  refine YB (n:=10) (by rfl) (by rfl) (by decide) (by omega) ?_
  refine Bz ?_
  refine YA (n:=10) (by rfl) (by rfl) (by decide) ?_
  refine Bz ?_
  refine Ah (.of_eq ?_)
  rw[Lu (n:=n) (by omega)]
def JA (n:Int):Str:=if n < 0 then 45::Ho (-n).toNat else Ho n.toNat
theorem OM {n:Int} (h: -140737488355328≤n∧n≤140737488355328):(JA n).length≤16:=by
 unfold JA
 split
 ·have:=Ke (n:=(-n).toNat) (by omega)
  simp only[AH];omega
 ·have:=Ke (n:=n.toNat) (by omega)
  omega
instance u9 (n:Int) [hs:B3 (-140737488355328≤n∧n≤140737488355328)]:Bl Tryz.prog 321 [.raw (.int .i64 n)] (.str (JA n)):=⟨by
 obtain⟨h0,h1⟩:=hs.out
 by_cases hn:n < 0
 ·have h3:Bl Tryz.prog 321 [.raw (.int .i64 (-n))] (.str (Ho (-n).toNat)):=⟨by
   have:=S5 (-n).toNat (by omega)
   rwa [show(((-n).toNat:Nat):Int)= -n by omega]at this⟩
  refine Ak Tryz.func321 Tryz.ntmps321 rfl (rs:= [.tmp 2]) rfl rfl fun hb LF=>?_
  refine Ad ?_
  refine A1 (fun h1=>?_) (fun h1=>?_)
  ·refine Ad ?_
   refine A1 (fun h2=>?_) (fun h2=>?_)
   ·omega
   ·have hl:=Ke (n:=(-n).toNat) (by omega)
    refine Ad ?_
    refine Ah (.of_eq ?_)
    rw[JA,if_pos hn];rfl
  ·omega
 ·have:=S5 n.toNat (by omega)
  rw[show((n.toNat:Nat):Int)=n by omega]at this
  rw[JA,if_neg hn];exact this⟩
def Cb (s:Str):Sx:= .mk false s []
def Dy (l:List Sx):Sx:= .mk true [] l
def RA (n:Int):Sx × Int:=if n < -1099511627776∨1099511627776 < n then(Sx.zero,2)else(Cb (JA n),0)
instance yw (n:Int):Bl Tryz.prog 290 [.raw (.int .i64 n)] (.tuple [.agg (eSx (RA n).1),.raw (.int .i64 (RA n).2)]):=⟨by
 refine Ak Tryz.func290 Tryz.ntmps290 rfl (rs:= [.cell 2 254,.tmp 3]) rfl rfl fun hb LF=>?_
 refine DB fun b=>?_
 refine B0 [(9,.raw (.bool (decide (n < -1099511627776∨1099511627776 < n)))),(0,.raw (.int .i64 n)),(2,.raw (.pointer (some ⟨b,0,none⟩)))] (.box b 254 (eSx Sx.zero)::LF) ?_ ?_
 ·repeat' (first|(refine A1 (fun h=>?_) (fun h=>?_)<;>refine Ad ?_)|(refine AL (fun h=>?_) (fun h=>?_)<;>refine Ad ?_)|(refine AO (fun h=>?_) (fun h=>?_)<;>refine Ad ?_)|(refine An (fun h=>?_) (fun h=>?_)<;>(have h2:=h;(try simp only[AB,A7,AG,AF]at h2);refine Bz ?_)))
  all_goals (refine⟨⟨BO (by rfl) ?_,rfl,rfl⟩,.refl _⟩;first|(simp_all;done)|(simp_all;omega)|grind)
 refine Ad ?_
 refine A1 (fun h=>?_) (fun h=>?_)
 ·refine Ad ?_
  refine DX rfl (.of_eq ?_)
  rw[RA,if_pos h]
 ·have:B3 (-140737488355328≤n∧n≤140737488355328):=⟨by omega⟩
  refine Ad ?_
  refine DX rfl (.of_eq ?_)
  rw[RA,if_neg h];rfl⟩
instance xF (s:Str):Bl Tryz.prog 250 [.str s] (.agg (eSx (Cb s))):=⟨by
 refine Ak Tryz.func250 Tryz.ntmps250 rfl (rs:= [.cell 2 254]) rfl rfl fun hb LF=>?_
 refine DB fun b=>?_
 refine FW rfl (.of_eq ?_)
 rfl⟩
instance wV (l:List Sx) (t:CW):Bl Tryz.prog 249 [.slice (l.map eSx) t] (.agg (eSx (Dy l))):=⟨by
 refine Ak Tryz.func249 Tryz.ntmps249 rfl (rs:= [.cell 2 254]) rfl rfl fun hb LF=>?_
 refine DB fun b=>?_
 refine FW rfl (.of_eq ?_)
 rfl⟩
def Fu (n:Int):Sx:=(RA n).1
instance sl (n:Int):Bl Tryz.prog 251 [.raw (.int .i64 n)] (.agg (eSx (Fu n))):=⟨by
 refine Ak Tryz.func251 Tryz.ntmps251 rfl (rs:= [.cell 2 254]) rfl rfl fun hb LF=>?_
 refine DB fun b=>?_
 refine FI fun b2=>?_
 refine FW rfl (.of_eq ?_)
 rfl⟩
instance xW (d:Dig):Bl Tryz.prog 285 [.agg (eDig d)] (.str d.bs):=⟨by
 refine Ak Tryz.func285 Tryz.ntmps285 rfl (rs:= [.tmp 2]) rfl rfl fun hb LF=>?_
 refine DB fun b=>?_
 refine Ah (.of_eq ?_)
 rfl⟩
def KB (d:Dig):Sx:=if d=Dig.zero then Cb []else Cb d.bs
instance te (d:Dig):Bl Tryz.prog 246 [.agg (eDig d)] (.agg (eSx (KB d))):=⟨by
 refine Ak Tryz.func246 Tryz.ntmps246 rfl (rs:= [.cell 2 254]) rfl rfl fun hb LF=>?_
 refine DB fun b=>?_
 refine FI fun b2=>?_
 refine A1 (fun h=>?_) (fun h=>?_)
 ·refine Ad ?_
  refine FW rfl (.of_eq ?_)
  rw[KB,if_pos h]
 ·refine Ad ?_
  refine FW rfl (.of_eq ?_)
  rw[KB,if_neg h]⟩
def Ft (x:Ident):Sx:=Dy [KB x.patch,Fu x.n]
instance mO (x:Ident):Bl Tryz.prog 286 [.agg (eIdent x)] (.agg (eSx (Ft x))):=⟨by
 refine Ak Tryz.func286 Tryz.ntmps286 rfl (rs:= [.cell 2 254]) rfl rfl fun hb LF=>?_
 refine aG fun b=>?_
 refine mz fun b2=>?_
 refine BZ 8 ?_ ?_
 ·decide+kernel
 refine Bz ?_
 refine FW rfl (.of_eq ?_)
 rfl⟩
def J6 (l:List Ident):Sx:=Dy (l.map Ft)
instance wA (l:List Ident) (t:CW) [hs:B3 (l.length≤1000000)]:Bl Tryz.prog 287 [.slice (l.map eIdent) t] (.agg (eSx (J6 l))):=⟨by
 refine Ak Tryz.func287 Tryz.ntmps287 rfl (rs:= [.cell 2 254]) rfl rfl fun hb LF=>?_
 have hlen:=hs.out
 refine DB fun b=>?_
 refine Ee 3 ?_
 refine AW (σ:=Nat × CW × List Sx) (fun k=>k.1≤l.length∧k.2.2=(l.take k.1).map Ft) (fun k=>l.length - k.1) (fun k=> [(0,.slice (l.map eIdent) t),(2,.raw (.pointer (some ⟨b,0,none⟩))),(3,.slice (k.2.2.map eSx) k.2.1),(4,.raw (.int .i64 k.1))]) (fun k=> .tok k.2.1 k.2.2.length 3:: .box b 254 (eSx Sx.zero)::LF) (0,.nil,[]) ⟨by simp,by simp⟩ ⟨rfl,rfl,rfl,rfl⟩ (.refl _) ?_
 rintro⟨k,v,out⟩ ⟨hk,he⟩
 dsimp only at hk he
 have hol:out.length=k:=by rw[he];simp;omega
 refine Ad ?_
 refine A1 (fun hc=>?_) (fun hc=>?_)
 ·have hlt:k < l.length:=by omega
  refine Hh fun v'=>?_
  refine⟨(k+1,v',out++ [Ft l[k]]),⟨by dsimp only;omega,?_⟩,by dsimp only;omega,⟨rfl,rfl,rfl,rfl⟩,.refl _⟩
  dsimp only
  rw[A6 hlt,Az,he];rfl
 ·refine Ad ?_
  refine FW rfl (.of_eq ?_)
  rw[AA (by omega)]at he
  rw[J6,←he]⟩
def Oh:Nat→Sx→Prop
 |0,_=>False
 |d+1,x=>(x.isList=false∧x.list= []∧x.atom.length≤65536)∨(x.isList=true∧x.atom= []∧ ∀ y∈x.list,Oh d y)
def IQ:Nat→Sx→Nat
 |0,_=>0
 |d+1,x=>if x.isList then 1+(x.list.map (IQ d)).sum else 1
def Da:Nat→Sx→Str
 |0,_=> []
 |d+1,x=>if x.isList then 40::(x.list.flatMap (Da d)++ [41])else Ho x.atom.length++58::x.atom
theorem L0 {l:List Nat} {k:Nat}:(l.take k).sum≤l.sum:=by
 conv=>rhs;rw[←C4 k l,KS]
 omega
theorem Zd: ∀ (d:Nat) (x:Sx) (limit depth:Int),Oh d x→(IQ d x:Int)≤limit→limit≤1000000→(d:Int)≤depth→depth≤1000→Q.Fn Tryz.prog 319 [.agg (eSx x),.raw (.int .i64 limit),.raw (.int .i64 depth)] (.raw (.int .i64 (IQ d x:Int)))
 |0,x,limit,depth,hw,_,_,_,_=>hw.elim
 |d+1,x,limit,depth,hw,hn,hl,hd,hd2=>by
  have ih: ∀ (y:Sx) (lim dep:Int),[B3 (Oh d y∧(IQ d y:Int)≤lim∧lim≤1000000∧(d:Int)≤dep∧dep≤1000)]→Bl Tryz.prog 319 [.agg (eSx y),.raw (.int .i64 lim),.raw (.int .i64 dep)] (.raw (.int .i64 (IQ d y:Int))):=fun y lim dep h=>⟨by
   obtain⟨h1,h2,h3,h4,h5⟩:=h.out
   exact Zd d y lim dep h1 h2 h3 h4 h5⟩
  have hpos:1≤IQ (d+1) x:=by unfold IQ;split<;>omega
  refine Ak Tryz.func319 Tryz.ntmps319 rfl (rs:= [.tmp 6]) rfl rfl fun hb LF=>?_
  refine DB fun b=>?_
  refine An (fun hp=>?_) (fun hp=>?_)
  ·have:=Ab hp;omega
  refine Bz ?_
  refine A1 (fun h1=>?_) (fun h1=>?_)
  ·omega
  refine Ad ?_
  refine AO (fun h2=>?_) (fun h2=>?_)
  ·refine Ad ?_
   refine Ah (.of_eq ?_)
   have:x.isList=false:=by simpa using h2
   simp[IQ,this]
  have hL:x.isList=true:=by simpa using h2
  rcases hw with ⟨h3,_⟩|⟨_,_,hw⟩
  ·rw[hL]at h3;cases h3
  have hnd:IQ (d+1) x=1+(x.list.map (IQ d)).sum:=by simp[IQ,hL]
  rw[hnd]at hn ⊢
  have hlen:x.list.length≤140737488355328:=by
   have:=(hb (.agg (eSx x)) (by simp)).agg_at (c:= .slice (x.list.map eSx) .ro) (by rw[Fb];simp)
   exact this.slice_map
  refine Ad ?_
  refine AW (σ:=Nat) (fun k=>k≤x.list.length) (fun k=>x.list.length - k) (fun k=> [(1,.raw (.int .i64 limit)),(2,.raw (.int .i64 depth)),(3,.raw (.pointer (some ⟨b,0,none⟩))),(7,.raw (.int .i64 ((1+((x.list.map (IQ d)).take k).sum:Nat):Int))),(8,.raw (.int .i64 k))]) (fun _=> .box b 254 (eSx x)::LF) 0 (by simp) ⟨rfl,rfl,rfl,by simp;rfl,rfl⟩ (.refl _) ?_
  intro k hk
  have hsk:=L0 (l:=x.list.map (IQ d)) (k:=k)
  have hsk1:=L0 (l:=x.list.map (IQ d)) (k:=k+1)
  refine Ad ?_
  refine An (fun hp=>?_) (fun hp=>?_)
  ·have hc:=Ab hp
   have hlt:k < x.list.length:=by omega
   have e:((x.list.map (IQ d)).take (k+1)).sum=((x.list.map (IQ d)).take k).sum+IQ d x.list[k]:=by
    rw[A6 (by simpa using hlt),KS];simp
   refine Bz ?_
   refine A1 (fun h4=>?_) (fun h4=>?_)
   ·have:B3 (Oh d x.list[k]∧(IQ d x.list[k]:Int)≤limit - ((1+((x.list.map (IQ d)).take k).sum:Nat):Int)∧limit - ((1+((x.list.map (IQ d)).take k).sum:Nat):Int)≤1000000∧(d:Int)≤depth - 1∧depth - 1≤1000):=⟨hw _ (AK hlt),by omega,by omega,by omega,by omega⟩
    refine Ad ?_
    refine⟨k+1,by omega,by dsimp only;omega,⟨rfl,rfl,rfl,?_,rfl⟩,.refl _⟩
    show PV.raw (Value.int .i64 _)=PV.raw (Value.int .i64 _)
    rw[e];congr 2;omega
   ·omega
  ·have hc:=BJ hp
   refine Bz ?_
   refine Ah (.of_eq ?_)
   rw[AA (by simp;omega)]
theorem Zj: ∀ (d:Nat) (x:Sx),Oh d x→Q.Fn Tryz.prog 320 [.agg (eSx x)] (.raw (.int .i64 0))
 |0,x,hw=>hw.elim
 |d+1,x,hw=>by
  have ih: ∀ (y:Sx),[B3 (Oh d y)]→Bl Tryz.prog 320 [.agg (eSx y)] (.raw (.int .i64 0)):=fun y h=>⟨Zj d y h.out⟩
  refine Ak Tryz.func320 Tryz.ntmps320 rfl (rs:= [.tmp 2]) rfl rfl fun hb LF=>?_
  have hlen:x.list.length≤140737488355328:=by
   have:=(hb (.agg (eSx x)) (by simp)).agg_at (c:= .slice (x.list.map eSx) .ro) (by rw[Fb];simp)
   exact this.slice_map
  refine DB fun b=>?_
  refine AO (fun h2=>?_) (fun h2=>?_)
  ·have hL:x.isList=false:=by simpa using h2
   rcases hw with ⟨_,h3,h4⟩|⟨h3,_⟩
   ·refine Ad ?_
    refine A1 (fun h5=>?_) (fun h5=>?_)
    ·rw[h3]at h5;simp at h5
    refine Ad ?_
    refine A1 (fun h6=>?_) (fun h6=>?_)
    ·omega
    refine Ad ?_
    exact Ah (.refl _)
   ·rw[hL]at h3;cases h3
  have hL:x.isList=true:=by simpa using h2
  rcases hw with ⟨h3,_⟩|⟨_,ha,hw⟩
  ·rw[hL]at h3;cases h3
  refine Ad ?_
  refine AL (fun h5=>?_) (fun h5=>?_)
  ·exact absurd ha h5
  refine Ad ?_
  refine AW (σ:=Nat) (fun k=>k≤x.list.length) (fun k=>x.list.length - k) (fun k=> [(1,.raw (.pointer (some ⟨b,0,none⟩))),(3,.raw (.int .i64 k))]) (fun _=> .box b 254 (eSx x)::LF) 0 (by simp) ⟨rfl,rfl⟩ (.refl _) ?_
  intro k hk
  refine Ad ?_
  refine A1 (fun hc=>?_) (fun hc=>?_)
  ·have hlt:k < x.list.length:=by omega
   have:B3 (Oh d x.list[k]):=⟨hw _ (AK hlt)⟩
   refine Ad ?_
   exact⟨k+1,by omega,by dsimp only;omega,⟨rfl,rfl⟩,.refl _⟩
  ·refine Ad ?_
   exact Ah (.refl _)
def oI (x:Sx):Prop:=Oh 8 x∧IQ 8 x≤20000
instance vG (x:Sx) [hs:B3 (oI x)]:Bl Tryz.prog 288 [.agg (eSx x)] (.raw (.int .i64 0)):=⟨by
 obtain⟨h1,h2⟩:=hs.out
 have i1:Bl Tryz.prog 319 [.agg (eSx x),.raw (.int .i64 20000),.raw (.int .i64 12)] (.raw (.int .i64 (IQ 8 x:Int))):=⟨Zd 8 x 20000 12 h1 (by omega) (by omega) (by omega) (by omega)⟩
 have i2:Bl Tryz.prog 320 [.agg (eSx x)] (.raw (.int .i64 0)):=⟨Zj 8 x h1⟩
 refine Ak Tryz.func288 Tryz.ntmps288 rfl (rs:= [.tmp 2]) rfl rfl fun hb LF=>?_
 refine DB fun b=>?_
 refine A1 (fun h=>?_) (fun h=>?_)
 ·omega
 refine Ad ?_
 exact Ah (.refl _)⟩
theorem Iu {α β:Type} {l:List α} {f:α→List β} {k:Nat} (h:k < l.length):(l.take (k+1)).flatMap f=(l.take k).flatMap f++f l[k]:=by
 rw[A6 h,GA];simp
theorem JN {α β:Type} {l:List α} {f:α→List β} {k:Nat}:((l.take k).flatMap f).length≤(l.flatMap f).length:=by
 conv=>rhs;rw[←C4 k l,GA,A8]
 omega
theorem Rb {α β:Type} {l:List α} {f:α→List β} {a:α} (h:a∈l):(f a).length≤(l.flatMap f).length:=by
 induction l with
 |nil=>cases h
 |cons x l ih=>
  rw[Cf,A8]
  rcases AQ.1 h with rfl|h
  ·omega
  ·have:=ih h;omega
theorem W0: ∀ (d:Nat) (x:Sx),Oh d x→(Da d x).length≤1000000000→Q.Fn Tryz.prog 289 [.agg (eSx x)] (.str (Da d x))
 |0,x,hw,_=>hw.elim
 |d+1,x,hw,hl=>by
  have ih: ∀ (y:Sx),[B3 (Oh d y∧(Da d y).length≤1000000000)]→Bl Tryz.prog 289 [.agg (eSx y)] (.str (Da d y)):=fun y h=>⟨W0 d y h.out.1 h.out.2⟩
  refine Ak Tryz.func289 Tryz.ntmps289 rfl (rs:= [.tmp 2]) rfl rfl fun hb LF=>?_
  have hlen:x.list.length≤140737488355328:=by
   have:=(hb (.agg (eSx x)) (by simp)).agg_at (c:= .slice (x.list.map eSx) .ro) (by rw[Fb];simp)
   exact this.slice_map
  refine DB fun b=>?_
  refine AO (fun h2=>?_) (fun h2=>?_)
  ·have hL:x.isList=false:=by simpa using h2
   rcases hw with ⟨_,h3,h4⟩|⟨h3,_⟩
   ·have:B3 (-140737488355328≤(x.atom.length:Int)∧(x.atom.length:Int)≤140737488355328):=⟨by omega,by omega⟩
    have hd:=OM (n:=(x.atom.length:Int)) ⟨by omega,by omega⟩
    refine Ad ?_
    refine Ah (.of_eq ?_)
    have e:JA (x.atom.length:Int)=Ho x.atom.length:=by
     rw[JA,if_neg (by omega)];rfl
    simp[Da,hL,e]
   ·rw[hL]at h3;cases h3
  have hL:x.isList=true:=by simpa using h2
  rcases hw with ⟨h3,_⟩|⟨_,ha,hw⟩
  ·rw[hL]at h3;cases h3
  have he:Da (d+1) x=40::(x.list.flatMap (Da d)++ [41]):=by simp[Da,hL]
  rw[he]at hl ⊢
  simp only[AH,A8,Aa]at hl
  refine Ad ?_
  refine AW (σ:=Nat × Str) (fun k=>k.1≤x.list.length∧k.2=40::(x.list.take k.1).flatMap (Da d)) (fun k=>x.list.length - k.1) (fun k=> [(1,.raw (.pointer (some ⟨b,0,none⟩))),(3,.str k.2),(4,.raw (.int .i64 k.1))]) (fun _=> .box b 254 (eSx x)::LF) (0,[40]) ⟨by simp,by simp⟩ ⟨rfl,rfl,rfl⟩ (.refl _) ?_
  rintro⟨k,s⟩ ⟨hk,hs⟩
  dsimp only at hk hs
  have hsl:s.length≤1+(x.list.flatMap (Da d)).length:=by
   rw[hs,AH]
   have:=JN (l:=x.list) (f:=Da d) (k:=k)
   omega
  refine Ad ?_
  refine A1 (fun hc=>?_) (fun hc=>?_)
  ·have hlt:k < x.list.length:=by omega
   have hel:(Da d x.list[k]).length≤(x.list.flatMap (Da d)).length:=Rb (AK hlt)
   have:B3 (Oh d x.list[k]∧(Da d x.list[k]).length≤1000000000):=⟨hw _ (AK hlt),by omega⟩
   refine Ad ?_
   refine⟨(k+1,s++Da d x.list[k]),⟨by dsimp only;omega,?_⟩,by dsimp only;omega,⟨rfl,rfl,rfl⟩,.refl _⟩
   dsimp only
   rw[Iu hlt,hs,BM]
  ·refine Ad ?_
   refine Ah (.of_eq ?_)
   rw[hs,AA (by omega)];rfl
instance u6 (x:Sx) [hs:B3 (oI x∧(Da 8 x).length≤1000000000)]:Bl Tryz.prog 248 [.agg (eSx x)] (.tuple [.str (Da 8 x),.raw (.int .i64 0)]):=⟨by
 obtain⟨h1,h2⟩:=hs.out
 have:B3 (oI x):=⟨h1⟩
 have i2:Bl Tryz.prog 289 [.agg (eSx x)] (.str (Da 8 x)):=⟨W0 8 x h1.1 h2⟩
 refine Ak Tryz.func248 Tryz.ntmps248 rfl (rs:= [.tmp 2,.tmp 3]) rfl rfl fun hb LF=>?_
 refine DB fun b=>?_
 refine GM ?_
 exact .refl _⟩
def K3 (c:Chg):List Sx:=if 2≤c.kind∧c.kind≤6 then [Ft c.file]else []
def IH (c:Chg):List Sx:=if c.kind=1 then [Fu c.type]else if c.kind=2 then [Ft c.parent,Cb c.name]else if c.kind=3 then [Fu c.mode]else if c.kind=4 then [Cb c.data]else if c.kind=5∨c.kind=6 then [Ft c.after,Ft c.before]else []
def L5 (c:Chg):List Sx:=if c.kind=5 then [Dy (c.lines.map Cb)]else if c.kind≠1 then [J6 c.over]else []
def Ky (c:Chg):Sx:=Dy (([Fu c.kind]++K3 c++IH c)++L5 c)
theorem R6 (c:Chg):(K3 c).length≤1:=by unfold K3;split<;>simp
theorem R5 (c:Chg):(IH c).length≤2:=by
 unfold IH
 repeat' split
 all_goals simp
instance ti (c:Chg) [hs:B3 (c.lines.length≤100000∧c.over.length≤100000)]:Bl Tryz.prog 247 [.agg (BC c)] (.agg (eSx (Ky c))):=⟨by
 refine Ak Tryz.func247 Tryz.ntmps247 rfl (rs:= [.cell 2 254]) rfl rfl fun hb LF=>?_
 obtain⟨hl1,hl2⟩:=hs.out
 have i1:B3 (c.over.length≤1000000):=⟨by omega⟩
 have hc1:=R6 c
 have hc2:=R5 c
 refine aG fun b=>?_
 refine BR fun b2=>?_
 refine rk fun t=>?_
 refine B0 [(17,.raw (.bool (decide (2≤c.kind∧c.kind≤6)))),(1,.raw (.pointer (some ⟨b,0,none⟩))),(2,.raw (.pointer (some ⟨b2,0,none⟩))),(3,.slice ([Fu c.kind].map eSx) t)] (.tok t [Fu c.kind].length 3:: .box b2 254 (eSx Sx.zero):: .box b 101 (BC c)::LF) ?_ ?_
 ·repeat' (first|(refine A1 (fun h=>?_) (fun h=>?_)<;>refine Ad ?_)|(refine AL (fun h=>?_) (fun h=>?_)<;>refine Ad ?_)|(refine AO (fun h=>?_) (fun h=>?_)<;>refine Ad ?_)|(refine An (fun h=>?_) (fun h=>?_)<;>(have h2:=h;(try simp only[AB,A7,AG,AF]at h2);refine Bz ?_)))
  all_goals (refine⟨⟨BO (by rfl) ?_,rfl,rfl,rfl⟩,.refl _⟩;first|(simp_all;done)|(simp_all;omega)|grind)
 refine Ad ?_
 refine Cz (σ:=CW × List Sx) (fun s=>s.2= [Fu c.kind]++K3 c) (fun s=> [(1,.raw (.pointer (some ⟨b,0,none⟩))),(2,.raw (.pointer (some ⟨b2,0,none⟩))),(3,.slice (s.2.map eSx) s.1)]) (fun s=> .tok s.1 s.2.length 3:: .box b2 254 (eSx Sx.zero):: .box b 101 (BC c)::LF) ?_ ?_
 ·refine A1 (fun h=>?_) (fun h=>?_)
  ·refine Hh fun t'=>?_
   exact⟨(t',[Fu c.kind]++ [Ft c.file]),by dsimp only;rw[K3,if_pos h],⟨rfl,rfl,rfl⟩,.refl _⟩
  ·refine Ad ?_
   exact⟨(t,[Fu c.kind]),by dsimp only;rw[K3,if_neg h];rfl,⟨rfl,rfl,rfl⟩,.refl _⟩
 rintro⟨t,out⟩ ho
 dsimp only at ho
 have hol:out.length≤2:=by rw[ho,A8,CJ];omega
 refine Ad ?_
 refine Cz (σ:=CW × List Sx) (fun s=>s.2= [Fu c.kind]++K3 c++IH c) (fun s=> [(1,.raw (.pointer (some ⟨b,0,none⟩))),(2,.raw (.pointer (some ⟨b2,0,none⟩))),(3,.slice (s.2.map eSx) s.1)]) (fun s=> .tok s.1 s.2.length 3:: .box b2 254 (eSx Sx.zero):: .box b 101 (BC c)::LF) ?_ ?_
 ·refine A1 (fun h1=>?_) (fun h1=>?_)
  ·refine Hh fun t'=>?_
   exact⟨(t',out++ [Fu c.type]),by dsimp only;rw[IH,if_pos h1,ho],⟨rfl,rfl,rfl⟩,.refl _⟩
  refine Ad ?_
  refine A1 (fun h2=>?_) (fun h2=>?_)
  ·refine Ri ?_
   refine BZ 8 ?_ ?_
   ·decide+kernel
   refine IB fun t'=>?_
   exact⟨(t',out++ [Ft c.parent,Cb c.name]),by dsimp only;rw[IH,if_neg h1,if_pos h2,ho],⟨rfl,rfl,rfl⟩,.refl _⟩
  refine Ad ?_
  refine A1 (fun h3=>?_) (fun h3=>?_)
  ·refine Hh fun t'=>?_
   exact⟨(t',out++ [Fu c.mode]),by dsimp only;rw[IH,if_neg h1,if_neg h2,if_pos h3,ho],⟨rfl,rfl,rfl⟩,.refl _⟩
  refine Ad ?_
  refine A1 (fun h4=>?_) (fun h4=>?_)
  ·refine Hh fun t'=>?_
   exact⟨(t',out++ [Cb c.data]),by dsimp only;rw[IH,if_neg h1,if_neg h2,if_neg h3,if_pos h4,ho],⟨rfl,rfl,rfl⟩,.refl _⟩
  refine Ad ?_
  refine A1 (fun h5=>?_) (fun h5=>?_)
  ·refine Ri ?_
   refine Lv (t:=true) (by show PV.raw (.bool (decide (c.kind=5)))=_;rw[BL h5]) (fun _=>?_) (by simp)
   refine Ri ?_
   refine BZ 8 ?_ ?_
   ·decide+kernel
   refine IB fun t'=>?_
   exact⟨(t',out++ [Ft c.after,Ft c.before]),by dsimp only;rw[IH,if_neg h1,if_neg h2,if_neg h3,if_neg h4,if_pos (.inl h5),ho],⟨rfl,rfl,rfl⟩,.refl _⟩
  refine Ad ?_
  refine A1 (fun h6=>?_) (fun h6=>?_)
  ·refine Ri ?_
   refine BZ 8 ?_ ?_
   ·decide+kernel
   refine IB fun t'=>?_
   exact⟨(t',out++ [Ft c.after,Ft c.before]),by dsimp only;rw[IH,if_neg h1,if_neg h2,if_neg h3,if_neg h4,if_pos (.inr h6),ho],⟨rfl,rfl,rfl⟩,.refl _⟩
  ·refine Ad ?_
   exact⟨(t,out),by dsimp only;rw[IH,if_neg h1,if_neg h2,if_neg h3,if_neg h4,if_neg (by rintro(h|h);exact h5 h;exact h6 h),B6,ho],⟨rfl,rfl,rfl⟩,.refl _⟩
 clear ho hol
 rintro⟨t,out⟩ ho
 dsimp only at ho
 have hol:out.length≤4:=by rw[ho,A8,A8,CJ];omega
 refine Ad ?_
 refine A1 (fun h5=>?_) (fun h5=>?_)
 ·refine Ad ?_
  refine Ee 3 ?_
  refine AW (σ:=Nat × CW × List Sx) (fun k=>k.1≤c.lines.length∧k.2.2=(c.lines.take k.1).map Cb) (fun k=>c.lines.length - k.1) (fun k=> [(1,.raw (.pointer (some ⟨b,0,none⟩))),(2,.raw (.pointer (some ⟨b2,0,none⟩))),(3,.slice (out.map eSx) t),(4,.slice (k.2.2.map eSx) k.2.1),(5,.raw (.int .i64 k.1))]) (fun k=> .tok k.2.1 k.2.2.length 3:: .tok t out.length 3:: .box b2 254 (eSx Sx.zero):: .box b 101 (BC c)::LF) (0,.nil,[]) ⟨by simp,by simp⟩ ⟨rfl,rfl,rfl,rfl,rfl⟩ (.refl _) ?_
  rintro⟨k,v,l⟩ ⟨hk,he⟩
  dsimp only at hk he
  have hll:l.length=k:=by rw[he];simp;omega
  refine Ad ?_
  refine A1 (fun hc=>?_) (fun hc=>?_)
  ·have hlt:k < c.lines.length:=by omega
   refine Hh fun v'=>?_
   refine⟨(k+1,v',l++ [Cb c.lines[k]]),⟨by dsimp only;omega,?_⟩,by dsimp only;omega,⟨rfl,rfl,rfl,rfl,rfl⟩,.refl _⟩
   dsimp only
   rw[A6 hlt,Az,he];rfl
  ·refine Hh fun v'=>?_
   refine FW rfl (.of_eq ?_)
   rw[AA (by omega)]at he
   rw[Ky,L5,if_pos h5,←he,ho]
 ·refine Ad ?_
  refine AL (fun h6=>?_) (fun h6=>?_)
  ·refine Hh fun v'=>?_
   refine FW rfl (.of_eq ?_)
   rw[Ky,L5,if_neg h5,if_pos h6,ho]
  ·refine Ad ?_
   refine FW rfl (.of_eq ?_)
   rw[Ky,L5,if_neg h5,if_neg (by simp[h6]),B6,ho]⟩
def Wt (p:Pat):Sx:=Dy [Cb [113,117,105,108,116,49],Cb p.author,Cb p.message,Fu p.time,Dy (p.deps.map KB),Dy (p.changes.map Ky)]
def NN (p:Pat):Str:=Da 8 (Wt p)
structure W3 (p:Pat):Prop where
 deps:p.deps.length≤100000
 chgs:p.changes.length≤100000
 chg: ∀ c∈p.changes,c.lines.length≤100000∧c.over.length≤100000
 ok:oI (Wt p)
 len:(NN p).length≤1000000000
def KC (p:Pat):Str × Int:=if 65536 < ((NN p).length:Int)then([],4)else(NN p,0)
instance tX (p:Pat) [hs:B3 (W3 p)]:Bl Tryz.prog 210 [.agg (CP p)] (.tuple [.str (KC p).1,.raw (.int .i64 (KC p).2)]):=⟨by
 refine Ak Tryz.func210 Tryz.ntmps210 rfl (rs:= [.tmp 2,.tmp 3]) rfl rfl fun hb LF=>?_
 have hd:=hs.out.deps
 have hch:=hs.out.chgs
 refine DB fun b=>?_
 refine Ee 3 ?_
 refine Ee 3 ?_
 refine AW (σ:=Nat × CW × List Sx) (fun k=>k.1≤p.deps.length∧k.2.2=(p.deps.take k.1).map KB) (fun k=>p.deps.length - k.1) (fun k=> [(1,.raw (.pointer (some ⟨b,0,none⟩))),(4,.slice (k.2.2.map eSx) k.2.1),(5,.slice [] .nil),(6,.raw (.int .i64 k.1))]) (fun k=> .tok k.2.1 k.2.2.length 3:: .tok .nil 0 3:: .box b 42 (CP p)::LF) (0,.nil,[]) ⟨by simp,by simp⟩ ⟨rfl,rfl,rfl,rfl⟩ (.refl _) ?_
 rintro⟨k,v,l⟩ ⟨hk,he⟩
 dsimp only at hk he
 have hll:l.length=k:=by rw[he];simp;omega
 refine Ad ?_
 refine A1 (fun hc=>?_) (fun hc=>?_)
 ·have hlt:k < p.deps.length:=by omega
  refine Hh fun v'=>?_
  refine⟨(k+1,v',l++ [KB p.deps[k]]),⟨by dsimp only;omega,?_⟩,by dsimp only;omega,⟨rfl,rfl,rfl,rfl⟩,.refl _⟩
  dsimp only
  rw[A6 hlt,Az,he];rfl
 rw[AA (by omega)]at he
 clear hll
 refine Ad ?_
 refine AW (σ:=Nat × CW × List Sx) (fun k=>k.1≤p.changes.length∧k.2.2=(p.changes.take k.1).map Ky) (fun k=>p.changes.length - k.1) (fun k=> [(1,.raw (.pointer (some ⟨b,0,none⟩))),(4,.slice (l.map eSx) v),(5,.slice (k.2.2.map eSx) k.2.1),(7,.raw (.int .i64 k.1))]) (fun k=> .tok k.2.1 k.2.2.length 3:: .box b 42 (CP p)::LF) (0,.nil,[]) ⟨by simp,by simp⟩ ⟨rfl,rfl,rfl,rfl⟩ (.cons _ (.refl _)) ?_
 rintro⟨k,v,m⟩ ⟨hk,hm⟩
 dsimp only at hk hm
 have hml:m.length=k:=by rw[hm];simp;omega
 refine Ad ?_
 refine A1 (fun hc=>?_) (fun hc=>?_)
 ·have hlt:k < p.changes.length:=by omega
  have:B3 (p.changes[k].lines.length≤100000∧p.changes[k].over.length≤100000):=⟨hs.out.chg _ (AK hlt)⟩
  refine Hh fun v'=>?_
  refine⟨(k+1,v',m++ [Ky p.changes[k]]),⟨by dsimp only;omega,?_⟩,by dsimp only;omega,⟨rfl,rfl,rfl,rfl⟩,.refl _⟩
  dsimp only
  rw[A6 hlt,Az,hm];rfl
 rw[AA (by omega)]at hm
 have e:Wt p=Dy [Cb [113,117,105,108,116,49],Cb p.author,Cb p.message,Fu p.time,Dy l,Dy m]:=by rw[Wt,←he,←hm]
 have i1:B3 (oI (Dy [Cb [113,117,105,108,116,49],Cb p.author,Cb p.message,Fu p.time,Dy l,Dy m])∧(Da 8 (Dy [Cb [113,117,105,108,116,49],Cb p.author,Cb p.message,Fu p.time,Dy l,Dy m])).length≤1000000000):=by
  rw[←e];exact⟨hs.out.ok,hs.out.len⟩
 refine Ad ?_
 refine A1 (fun h=>?_) (fun h=>?_)
 ·refine Ad ?_
  refine GM ?_
  rw[←e]at h
  have h':65536 < ((NN p).length:Int):=h
  rw[KC,if_pos h']
  exact .refl _
 ·refine Ad ?_
  refine GM ?_
  rw[←e]at h
  have h': ¬65536 < ((NN p).length:Int):=h
  rw[KC,if_neg h',NN,e]
  exact .refl _⟩
end Go.Proofs
namespace Go.Q
open Go
section
variable {P:Program} {N:Nat} {all:Array Oper} {K:Env→List Res→Prop} {fl:List Bool} {os:List Oper} {ρ:Env} {L:List Res} {Q:PPost} {c:Code} {d:Nat} {ty:TypeId} {pos:String} {af:Array Edge}
theorem eZ {T n E sz by_:Nat} [hT:Uv P T n E] [hE:ER P E sz by_] {x y:Operand} {b off:Nat} {kk:IntKind} {i:Nat} (hx:ρ.ev x= .raw (.pointer (some ⟨b,off,none⟩))) (hy:ρ.ev y= .raw (.int kk (@OfNat.ofNat Int i _))) (hi:i < n)
  (k:AY P N all K fl.tail os (CN ρ d (.raw (.pointer (some ⟨b,off+(@OfNat.ofNat Nat i _)*sz,none⟩)))) L) (hd:Nat.blt d N=true:=by rfl):AY P N all K fl (⟨some d,.indexAddr T x y,ty,pos,af,none⟩::os) ρ L:=
 Q3 (i:=i) hx hy hi k hd
theorem ed {T n E sz by_:Nat} [hT:Uv P T n E] [hE:ER P E sz by_] {x y:Operand} {b off:Nat} {kk:IntKind} {i:Int} (hx:ρ.ev x= .raw (.pointer (some ⟨b,off,none⟩))) (hy:ρ.ev y= .raw (.int kk i)) (h0:0≤i) (hi:i.toNat < n)
  (k:AY P N all K fl.tail os (CN ρ d (.raw (.pointer (some ⟨b,off+i.toNat*sz,none⟩)))) L) (hd:Nat.blt d N=true:=by rfl):AY P N all K fl (⟨some d,.indexAddr T x y,ty,pos,af,none⟩::os) ρ L:=
 Q3 (i:=i.toNat) hx (by rw[hy,Int.toNat_of_nonneg h0]) hi k hd
theorem eY {T:TypeId} [hT:Pg P T] {x y:Operand} {s:Str} {ax:PV} {kk:IntKind} {n:Int} (hx:ρ.ev x=ax) [jx:IX ax s] (hy:ρ.ev y= .raw (.int kk n)) (h0:0≤n) (hn:n.toNat < s.length) (k:AY P N all K fl.tail os (CN ρ d (.raw (.int .u8 ((s.getD n.toNat 0).toNat:Int)))) L) (hd:Nat.blt d N=true:=by rfl):
  AY P N all K fl (⟨some d,.index T x y,ty,pos,af,none⟩::os) ρ L:=
 YJ (n:=n.toNat) hx (by rw[hy,Int.toNat_of_nonneg h0]) hn (by have e:s[n.toNat]=s.getD n.toNat 0:=by simp[List.getD,hn]
                                                              rw[e];exact k) hd
theorem KK {T n E by_:Nat} {z:List PV} [hT:Uv P T n E] [hE:ER P E 1 by_] [hZ:Ch P T z] {parts:Array (Nat × Operand)} (xs:List Operand) (ws:List Nat) (hp:parts=(xs.zipIdx.map fun p=>(p.2,p.1)).toArray) (hx:xs.map ρ.ev=eW ws) (hz:z.length=ws.length) (hn:xs.length=ws.length)
  (k:AY P N all K fl.tail os (CN ρ d (.agg (eW ws))) L) (hd:Nat.blt d N=true:=by rfl):AY P N all K fl (⟨some d,.build T parts,ty,pos,af,none⟩::os) ρ L:=by
 subst hp;exact jI ws hx hz hn k hd
theorem ix {T T':TypeId} {x y:Operand} {m n:Nat} (hx:ρ.ev x= .raw (.int .i64 (m:Int))) (hy:ρ.ev y= .raw (.int .i64 (@OfNat.ofNat Int n _))) (hn:n≠0) (hm:m≤9223372036854775807) (k:AY P N all K fl.tail os (CN ρ d (.raw (.int .i64 ((m / (@OfNat.ofNat Nat n _):Nat):Int)))) L) (hd:Nat.blt d N=true:=by rfl):
  AY P N all K fl (⟨some d,.binOp .quo T x y T',ty,pos,af,none⟩::os) ρ L:=YB (n:=n) hx hy hn hm k hd
theorem aO {T T':TypeId} {x y:Operand} {m n:Nat} (hx:ρ.ev x= .raw (.int .i64 (m:Int))) (hy:ρ.ev y= .raw (.int .i64 (@OfNat.ofNat Int n _))) (hn:n≠0) (k:AY P N all K fl.tail os (CN ρ d (.raw (.int .i64 ((m % (@OfNat.ofNat Nat n _):Nat):Int)))) L) (hd:Nat.blt d N=true:=by rfl):
  AY P N all K fl (⟨some d,.binOp .rem T x y T',ty,pos,af,none⟩::os) ρ L:=YA (n:=n) hx hy hn k hd
theorem wE {A B:Prop} (k:B) (h:O5 B→A:=by
  intro hB
  first
   |(refine ke ?_;first|refine KA (by(conv=>lhs;whnf);done) ?_)
   |(refine ZI ?_;first|refine VS (by(conv=>lhs;whnf);done) ?_)
   |(refine kf ?_;first|refine cW (by rfl) (by repeat(first|exact AI|apply AD)) (by omega) ?_|refine YG (by rfl) (by repeat(first|exact AI|apply AD)) (hl:=(by first|infer_instance|fail)) ?_|refine cY (by rfl) (by repeat(first|exact AI|apply AD)) (by omega) ?_)
   |(refine qo ?_;first|refine aQ (by rfl) (hr:=(by first|infer_instance|fail)) ?_|refine cd (by rfl) (by(conv=>lhs;whnf);done) ?_)
   |(refine qn ?_;first|refine jB (by rfl) ?_|refine jA (by(conv=>lhs;whnf);done) (jx:=(by first|infer_instance|fail)) ?_|refine jC (by rfl) ?_)
   |(refine bO ?_;first|refine XE (by(conv=>lhs;whnf);done) (hN0:=(by first|infer_instance|fail)) (hc:=(by first|infer_instance|fail)) ?_|refine dU (by(conv=>lhs;whnf);done) (by(conv=>lhs;whnf);done) (hN0:=(by first|infer_instance|fail)) (hN1:=(by first|infer_instance|fail)) (hc:=(by first|infer_instance|fail)) ?_|refine dT (by(conv=>lhs;whnf);done) (by(conv=>lhs;whnf);done) (by(conv=>lhs;whnf);done) (hN0:=(by first|infer_instance|fail)) (hN1:=(by first|infer_instance|fail)) (hN2:=(by first|infer_instance|fail)) (hc:=(by first|infer_instance|fail)) ?_|refine dV (hc:=(by first|infer_instance|fail)) ?_|refine dS (by(conv=>lhs;whnf);done) (by(conv=>lhs;whnf);done) (by(conv=>lhs;whnf);done) (by(conv=>lhs;whnf);done) (hN0:=(by first|infer_instance|fail)) (hN1:=(by first|infer_instance|fail)) (hN2:=(by first|infer_instance|fail)) (hN3:=(by first|infer_instance|fail)) (hc:=(by first|infer_instance|fail)) ?_|refine j_call5 (by(conv=>lhs;whnf);done) (by(conv=>lhs;whnf);done) (by(conv=>lhs;whnf);done) (by(conv=>lhs;whnf);done) (by(conv=>lhs;whnf);done) (hN0:=(by first|infer_instance|fail)) (hN1:=(by first|infer_instance|fail)) (hN2:=(by first|infer_instance|fail)) (hN3:=(by first|infer_instance|fail)) (hN4:=(by first|infer_instance|fail)) (hc:=(by first|infer_instance|fail)) ?_|refine j_call6 (by(conv=>lhs;whnf);done) (by(conv=>lhs;whnf);done) (by(conv=>lhs;whnf);done) (by(conv=>lhs;whnf);done) (by(conv=>lhs;whnf);done) (by(conv=>lhs;whnf);done) (hN0:=(by first|infer_instance|fail)) (hN1:=(by first|infer_instance|fail)) (hN2:=(by first|infer_instance|fail)) (hN3:=(by first|infer_instance|fail)) (hN4:=(by first|infer_instance|fail)) (hN5:=(by first|infer_instance|fail)) (hc:=(by first|infer_instance|fail)) ?_)
   |(refine g_bi ?_;first|refine s_min (by rfl) (by rfl) ?_|refine s_max (by rfl) (by rfl) ?_)
   |(refine da ?_;first|refine qS (by rfl) (by rfl) ?_|refine qT (by rfl) (by rfl) ?_|refine qV (by rfl) (by rfl) ?_|refine qb (by rfl) (by rfl) (by constructor<;>omega) ?_|refine qM (by rfl) (by rfl) (by constructor<;>omega) ?_|refine qX (by(conv=>lhs;whnf);done) (by(conv=>lhs;whnf);done) (jx:=(by first|infer_instance|fail)) (jy:=(by first|infer_instance|fail)) (by first|omega|(simp only[A8,AH,Aa,B4];omega)) ?_|refine qQ (by rfl) (by rfl) (by constructor<;>omega) ?_|refine jS (by rfl) (by rfl) ?_|refine ib (by rfl) (by rfl) ?_|refine jR (by rfl) (by rfl) ?_|refine qN (by rfl) (by rfl) ?_|refine ir (by rfl) (by rfl) ?_|refine iw (by rfl) (by rfl) ?_|refine iu (by rfl) (by rfl) ?_|refine Wc (by rfl) (by rfl) (by omega) (by omega) ?_|refine We (by rfl) (by rfl) (by omega) ?_|refine ix (by rfl) (by rfl) (by decide) (by omega) ?_|refine aO (by rfl) (by rfl) (by decide) ?_)
   |(refine wj ?_;first|refine eZ (by rfl) (by rfl) (by decide) ?_|refine Q3 (by rfl) (by rfl) (by omega) ?_|refine ed (by rfl) (by rfl) (by omega) (by omega) ?_)
   |(refine wh ?_;first|refine qO (by rfl) ?_|refine qP (by rfl) (by constructor<;>omega) ?_|refine iy (by rfl) ?_)
   |(refine XI ?_;first|refine Y6 (by rfl) (by rfl) (hB:=(by first|infer_instance|fail)) (hu:=(by first|infer_instance|fail)) (hf:=(by first|infer_instance|fail)) (hlen:=(by first|infer_instance|fail)) (hcs:=(by first|infer_instance|fail)) ?_|refine Sj (by rfl) (by rfl) (by repeat(first|exact AI|apply AD)) (by omega) (hu:=(by first|infer_instance|fail)) ?_|refine Y7 (by rfl) (by rfl) (by repeat(first|exact AI|apply AD)) (by omega) (hu:=(by first|infer_instance|fail)) ?_)
   |(refine wt ?_;first|refine qZ ?_|refine qY (by(conv=>lhs;whnf);done) (hC0:=(by first|infer_instance|fail)) (hf:=(by first|infer_instance|fail)) (by decide) ?_)
   |(refine dZ ?_;first|refine YN ?_|refine VO ?_)
   |(refine XJ ?_;first|refine Nb (by rfl) (by rfl) (by omega) ?_|refine jG (by rfl) (by rfl) (by omega) ?_|refine Wh (by(conv=>lhs;whnf);done) (by rfl) (by rfl) (jx:=(by first|infer_instance|fail)) (by omega) (by omega) (by omega) ?_|refine cf (by(conv=>lhs;whnf);done) (by rfl) (jx:=(by first|infer_instance|fail)) (by omega) (by omega) ?_|refine Y9 (by rfl) ?_)
   |(refine kg ?_;first|refine cu (by rfl) ?_|refine ch (by rfl) ?_|refine SK (by rfl) (by omega) ?_|refine ic (by rfl) ?_|refine Y5 (by rfl) (by repeat(first|exact AI|apply AD)) (hs:=(by first|infer_instance|fail)) ?_)
   |(refine dY ?_;first|refine eY (by(conv=>lhs;whnf);done) (by rfl) (jx:=(by first|infer_instance|fail)) (by omega) (by omega) ?_)
  exact hB.out):A:=h ⟨k⟩
theorem Dx {A B:Prop} (k:B) (h:O5 B→A:=by
  intro hB
  repeat(first
   |refine AN ?_
   |refine wE ?_
   |refine DU ?_
   |refine CC (by kernel_rfl) ?_
   |refine IM ?_
   |refine GH ?_
   |refine KD ?_
   |refine HD ?_
   |refine DZ (by decide+kernel) ?_
   |refine IK (by rfl) ?_
   |refine IL (by rfl) ?_)
  exact hB.out):A:=h ⟨k⟩
theorem JD {A B:Prop} (k:B) (h:O5 B→A:=by
  intro hB
  refine Dx ?_
  exact hB.out):A:=h ⟨k⟩
theorem Jy {A:Prop} {B:Nat→Prop} (k: ∀ b,B b) (h:Ks B→A:=by
  intro hB
  refine Dx ?_
  first|refine YO (by rfl) fun b=>?_|refine BR fun b=>?_
  refine Dx ?_
  exact hB.out b):A:=h ⟨k⟩
theorem Ie {A:Prop} {B:Nat→Prop} (k: ∀ b,B b) (h:Ks B→A:=by
  intro hB
  refine Jy fun b=>?_
  exact hB.out b):A:=h ⟨k⟩
theorem NW {A B:Prop} (k:B) (h:O5 B→A:=by
  intro hB
  repeat(first
   |refine AN ?_
   |refine wE ?_
   |refine DU ?_
   |refine CC (by kernel_rfl) ?_
   |refine IM ?_
   |refine GH ?_
   |refine KD ?_
   |refine HD ?_
   |refine IK (by rfl) ?_
   |refine IL (by rfl) ?_)
  exact hB.out):A:=h ⟨k⟩
theorem WT {A B:Prop} (k:B) (h:O5 B→A:=by
  intro hB
  refine NW ?_
  exact hB.out):A:=h ⟨k⟩
end
end Go.Q
namespace Go.Proofs
open Go Go.Q
attribute [local irreducible] EG AY B2 FZ
def Gd (a n:Nat):Nat:=fM (Wa a n) (Y3 a (32 - n))
instance Gx (a n:Nat) [hs:B3 (n≤32)]:Bl Tryz.prog 255 [.raw (.int .u32 (a:Int)),.raw (.int .u64 (n:Int))] (.raw (.int .u32 (Gd a n:Nat))):=⟨by
 refine Ak Tryz.func255 Tryz.ntmps255 rfl (rs:= [.tmp 4]) rfl rfl fun hb LF=>?_
 have hn:=hs.out
 refine Dx ?_
 refine Wc (a:=32) (by rfl) (by rfl) hn (by decide) ?_
 refine JD ?_
 refine Ah (.of_eq ?_)
 rfl⟩
instance xw (a:Nat):Bl Tryz.prog 255 [.raw (.int .u32 (a:Int)),.raw (.int .u64 2)] (.raw (.int .u32 (Gd a 2:Nat))):=by
 have:B3 ((2:Nat)≤32):=⟨by decide⟩
 exact Gx a 2
instance xv (a:Nat):Bl Tryz.prog 255 [.raw (.int .u32 (a:Int)),.raw (.int .u64 6)] (.raw (.int .u32 (Gd a 6:Nat))):=by
 have:B3 ((6:Nat)≤32):=⟨by decide⟩
 exact Gx a 6
instance xu (a:Nat):Bl Tryz.prog 255 [.raw (.int .u32 (a:Int)),.raw (.int .u64 7)] (.raw (.int .u32 (Gd a 7:Nat))):=by
 have:B3 ((7:Nat)≤32):=⟨by decide⟩
 exact Gx a 7
instance w5 (a:Nat):Bl Tryz.prog 255 [.raw (.int .u32 (a:Int)),.raw (.int .u64 11)] (.raw (.int .u32 (Gd a 11:Nat))):=by
 have:B3 ((11:Nat)≤32):=⟨by decide⟩
 exact Gx a 11
instance w0 (a:Nat):Bl Tryz.prog 255 [.raw (.int .u32 (a:Int)),.raw (.int .u64 13)] (.raw (.int .u32 (Gd a 13:Nat))):=by
 have:B3 ((13:Nat)≤32):=⟨by decide⟩
 exact Gx a 13
instance vz (a:Nat):Bl Tryz.prog 255 [.raw (.int .u32 (a:Int)),.raw (.int .u64 17)] (.raw (.int .u32 (Gd a 17:Nat))):=by
 have:B3 ((17:Nat)≤32):=⟨by decide⟩
 exact Gx a 17
instance vy (a:Nat):Bl Tryz.prog 255 [.raw (.int .u32 (a:Int)),.raw (.int .u64 18)] (.raw (.int .u32 (Gd a 18:Nat))):=by
 have:B3 ((18:Nat)≤32):=⟨by decide⟩
 exact Gx a 18
instance vv (a:Nat):Bl Tryz.prog 255 [.raw (.int .u32 (a:Int)),.raw (.int .u64 19)] (.raw (.int .u32 (Gd a 19:Nat))):=by
 have:B3 ((19:Nat)≤32):=⟨by decide⟩
 exact Gx a 19
instance vn (a:Nat):Bl Tryz.prog 255 [.raw (.int .u32 (a:Int)),.raw (.int .u64 22)] (.raw (.int .u32 (Gd a 22:Nat))):=by
 have:B3 ((22:Nat)≤32):=⟨by decide⟩
 exact Gx a 22
instance vm (a:Nat):Bl Tryz.prog 255 [.raw (.int .u32 (a:Int)),.raw (.int .u64 25)] (.raw (.int .u32 (Gd a 25:Nat))):=by
 have:B3 ((25:Nat)≤32):=⟨by decide⟩
 exact Gx a 25
theorem Bn {α:Type} (f:α→Nat→α) (a:α) (k:Nat):(List.range (k+1)).foldl f a=f ((List.range k).foldl f a) k:=by
 rw[Ib,DR];rfl
instance vJ (n:Int) [hs:B3 (0≤n∧n≤1000)]:Bl Tryz.prog 252 [.raw (.int .i64 n)] (.str (List.replicate n.toNat 0)):=⟨by
 refine Ak Tryz.func252 Tryz.ntmps252 rfl (rs:= [.tmp 2]) rfl rfl fun hb LF=>?_
 obtain⟨h0,h1⟩:=hs.out
 refine Ad ?_
 refine AW (σ:=Nat × Str) (fun k=>k.1≤n.toNat∧k.2=List.replicate k.1 0) (fun k=>n.toNat - k.1) (fun k=> [(0,.raw (.int .i64 n)),(3,.str k.2),(4,.raw (.int .i64 k.1))]) (fun _=>LF) (0,[]) ⟨by simp,by simp⟩ ⟨rfl,rfl,rfl⟩ (.refl _) ?_
 rintro⟨k,s⟩ ⟨hk,he⟩
 dsimp only at hk he
 have hl:s.length=k:=by rw[he];simp
 refine Ad ?_
 refine A1 (fun hc=>?_) (fun hc=>?_)
 ·refine Ad ?_
  refine⟨(k+1,s++ [0]),⟨by dsimp only;omega,by dsimp only;rw[he,Xq]⟩,by dsimp only;omega,⟨rfl,rfl,rfl⟩,.refl _⟩
 ·refine Ad ?_
  refine Ah (.of_eq ?_)
  rw[he,show k=n.toNat by omega]⟩
def FK (bits:Nat) (j:Nat):Str:=(List.range j).map fun i=>UInt8.ofNat (bits / 2 ^ (min (8*(7 - i)) 64))
def JG (s:Str):Str:=(s++ [128])++List.replicate ((120 - (s.length+1) % 64) % 64) 0++FK (s.length*8) 8
theorem TD (s:Str):(JG s).length=s.length+1+(120 - (s.length+1) % 64) % 64+8:=by simp[JG,FK];omega
instance uZ (s:Str) [hs:B3 (s.length≤1000000)]:Bl Tryz.prog 211 [.str s] (.str (JG s)):=⟨by
 refine Ak Tryz.func211 Tryz.ntmps211 rfl (rs:= [.tmp 2]) rfl rfl fun hb LF=>?_
 have hl:=hs.out
 have e1:(((120:Int) - (((s++ [128]).length % 64:Nat):Int)).tmod 64)=(((120 - (s.length+1) % 64) % 64:Nat):Int):=by
  rw[A8,CJ]
  have:(120:Int) - (((s.length+1) % 64:Nat):Int)=((120 - (s.length+1) % 64:Nat):Int):=by omega
  rw[this];exact(Int.ofNat_tmod _ _).symm
 have i1:B3 (0≤(((120 - (s.length+1) % 64) % 64:Nat):Int)∧(((120 - (s.length+1) % 64) % 64:Nat):Int)≤1000):=⟨by omega,by omega⟩
 refine Ad ?_
 refine aO (by rfl) (by rfl) (by decide) ?_
 refine Bz ?_
 refine Gp (v:= .int .i64 (((120 - (s.length+1) % 64) % 64:Nat):Int)) (by rfl) (by rfl) (fun w=>?_) ?_
 ·have h3:(64:Int)≠0:=by decide
  simp only[binOp,ne_eq,not_true_eq_false,if_false,Op.intDiv,h3,e1];rfl
 have hz:(List.replicate (((120 - (s.length+1) % 64) % 64:Nat):Int).toNat (0:UInt8)).length=(120 - (s.length+1) % 64) % 64:=by rw[List.length_replicate];omega
 refine Bz ?_
 refine We (b:=8) (by rfl) (by rfl) (by omega) ?_
 refine Bz ?_
 refine AW (σ:=Nat × Str) (fun k=>k.1≤8∧k.2=(s++ [128])++List.replicate ((120 - (s.length+1) % 64) % 64) 0++FK (s.length*8) k.1) (fun k=>8 - k.1) (fun k=> [(3,.str k.2),(4,.raw (.int .u64 ((s.length*8:Nat):Int))),(5,.raw (.int .i64 (7 - (k.1:Int))))]) (fun _=>LF) (0,(s++ [128])++List.replicate ((120 - (s.length+1) % 64) % 64) 0) ⟨by simp,by simp[FK]⟩ ⟨rfl,rfl,rfl⟩ (.refl _) ?_
 rintro⟨k,o⟩ ⟨hk,he⟩
 dsimp only at hk he
 have hol:o.length≤1000100:=by rw[he];simp[FK];omega
 refine Ad ?_
 refine A1 (fun hc=>?_) (fun hc=>?_)
 ·refine Ad ?_
  have e8:(8:Int)*(7 - (k:Int))=((8*(7 - k):Nat):Int):=by omega
  refine SK (a:=8*(7 - k)) (by show PV.raw (.int .i64 ((8:Int)*(7 - (k:Int))))=_;rw[e8]) (by omega) ?_
  refine Bz ?_
  refine⟨(k+1,o++ [UInt8.ofNat (s.length*8 / 2 ^ (min (8*(7 - k)) 64))]),⟨by dsimp only;omega,?_⟩,by dsimp only;omega,⟨rfl,rfl,?_⟩,.refl _⟩
  ·dsimp only
   rw[he,FK,FK,Ib,Az,←AJ];rfl
  ·show PV.raw (Value.int .i64 _)=PV.raw (Value.int .i64 _)
   congr 2;dsimp only;omega
 ·refine Ad ?_
  refine Ah (.of_eq ?_)
  rw[he,show k=8 by omega,JG]⟩
end Go.Proofs
