/- Contracts: lists of digests and sets of patches (the reference's layers 16 and 17). -/
import Derived.Test.YtaibdmankdppkaaGreatDoorZah
set_option linter.unusedSimpArgs false
set_option linter.unusedVariables false
set_option maxHeartbeats 8000000
namespace Go.Proofs
open Go Go.Q
attribute [local irreducible] ER AU BA Fk
def JL (s:Str):Bool:=decide ((s.length:Int)≤1000)&&Q1 s 10 0
instance yP (s:Str):C8 Tryz.prog 299 [.str s] (.raw (.bool (JL s))):=⟨by
 refine Av Tryz.func299 Tryz.ntmps299 rfl (rs:= [.tmp 2]) rfl rfl fun hb LF=>?_
 refine AZ ?_
 repeat' (first|(refine A6 (fun h=>?_) (fun h=>?_)<;>refine AZ ?_)|(refine AX (fun h=>?_) (fun h=>?_)<;>refine AZ ?_)|(refine AW (fun h=>?_) (fun h=>?_)<;>refine AZ ?_)|(refine Ay (fun h=>?_) (fun h=>?_)<;>(have h2:=h;(try simp only[AD,A8,AI,AN]at h2);refine CH ?_)))
 all_goals (refine B1 (.of_eq ?_);first|(simp_all[JL];done)|grind [JL])⟩
def Ka (c:UInt8):Bool:=(decide (97≤(c.toNat:Int))&&decide ((c.toNat:Int)≤122))||(decide (65≤(c.toNat:Int))&&decide ((c.toNat:Int)≤90))||(decide (48≤(c.toNat:Int))&&decide ((c.toNat:Int)≤57))||decide ((c.toNat:Int)=46)||decide ((c.toNat:Int)=95)||decide ((c.toNat:Int)=45)
def Jg (s:Str):Bool:=s.all Ka&&decide (1≤(s.length:Int))&&decide ((s.length:Int)≤40)&&!decide (s= [46])&&!decide (s= [46,46])
instance zP (s:Str):C8 Tryz.prog 161 [.str s] (.raw (.bool (Jg s))):=⟨by
 refine Av Tryz.func161 Tryz.ntmps161 rfl (rs:= [.tmp 2]) rfl rfl fun hb LF=>?_
 have hlen:s.length≤140737488355328:=(hb (.str s) (by simp)).str_len
 refine AZ ?_
 refine Ab (σ:=Nat) (fun k=>k≤s.length∧ ∀ i (h:i < s.length),i < k→Ka s[i]=true) (fun k=>s.length - k) (fun k=> [(0,.str s),(3,.raw (.int .i64 k))]) (fun _=>LF) 0 ⟨by simp,by simp⟩ ⟨rfl,rfl⟩ (.refl _) ?_
 rintro k ⟨hk,he⟩
 refine AZ ?_
 refine A6 (fun hc=>?_) (fun hc=>?_)
 ·have hlt:k < s.length:=by omega
  refine AZ ?_
  repeat' (first|(refine A6 (fun h=>?_) (fun h=>?_)<;>refine AZ ?_)|(refine AX (fun h=>?_) (fun h=>?_)<;>refine AZ ?_)|(refine AW (fun h=>?_) (fun h=>?_)<;>refine AZ ?_)|(refine Ay (fun h=>?_) (fun h=>?_)<;>(have h2:=h;(try simp only[AD,A8,AI,AN]at h2);refine CH ?_)))
  all_goals first
   |(refine⟨k+1,⟨by omega,Ln he hlt ?_⟩,by dsimp only;omega,⟨rfl,rfl⟩,.refl _⟩;clear he hc;grind [Ka])
   |(refine B1 (.of_eq ?_);have:Ka s[k]=false:=by clear he hc;grind [Ka]
     rw[Jg,Gn hlt this];rfl)
 ·have hall:s.all Ka=true:=HY fun i h=>he i h (by omega)
  refine AZ ?_
  repeat' (first|(refine A6 (fun h=>?_) (fun h=>?_)<;>refine AZ ?_)|(refine AX (fun h=>?_) (fun h=>?_)<;>refine AZ ?_)|(refine AW (fun h=>?_) (fun h=>?_)<;>refine AZ ?_)|(refine Ay (fun h=>?_) (fun h=>?_)<;>(have h2:=h;(try simp only[AD,A8,AI,AN]at h2);refine CH ?_)))
  all_goals (refine B1 (.of_eq ?_);first|(simp_all[Jg];done)|grind [Jg])⟩
def Mz (l:List Str):Int:=if(l.length:Int)=0 then 1 else if 2000 < (l.length:Int)then 4 else if l.all JL then 0 else 3
instance xl (l:List Str) (t:CC):C8 Tryz.prog 276 [.slice (l.map eS) t] (.raw (.int .i64 (Mz l))):=⟨by
 refine Av Tryz.func276 Tryz.ntmps276 rfl (rs:= [.tmp 2]) rfl rfl fun hb LF=>?_
 have hlen:l.length≤140737488355328:=(hb (.slice (l.map eS) t) (by simp)).slice_map
 refine AZ ?_
 refine A6 (fun h1=>?_) (fun h1=>?_)
 ·refine AZ ?_
  refine B1 (.of_eq ?_)
  simp[Mz,h1]
 refine AZ ?_
 refine A6 (fun h2=>?_) (fun h2=>?_)
 ·refine AZ ?_
  refine B1 (.of_eq ?_)
  simp only[Mz,h1,h2,if_true,if_false]
 refine AZ ?_
 refine Ab (σ:=Nat) (fun k=>k≤l.length∧ ∀ i (h:i < l.length),i < k→JL l[i]=true) (fun k=>l.length - k) (fun k=> [(0,.slice (l.map eS) t),(3,.raw (.int .i64 k))]) (fun _=>LF) 0 ⟨by simp,by simp⟩ ⟨rfl,rfl⟩ (.refl _) ?_
 rintro k ⟨hk,he⟩
 refine AZ ?_
 refine A6 (fun hc=>?_) (fun hc=>?_)
 ·have hlt:k < l.length:=by omega
  refine AZ ?_
  refine AW (fun h=>?_) (fun h=>?_)
  ·refine AZ ?_
   refine B1 (.of_eq ?_)
   simp only[Mz,h1,h2,if_false]
   rw[Gn hlt (by simpa using h)];rfl
  ·refine AZ ?_
   exact⟨k+1,⟨by omega,Ln he hlt (by simpa using h)⟩,by dsimp only;omega,⟨rfl,rfl⟩,.refl _⟩
 ·refine AZ ?_
  refine B1 (.of_eq ?_)
  simp only[Mz,h1,h2,if_false]
  rw[HY fun i h=>he i h (by omega)];rfl⟩
instance zo (x:Ident):C8 Tryz.prog 59 [.agg (eIdent x)] (.raw (.bool (decide (x.patch=Dig.zero)))):=⟨by
 refine Av Tryz.func59 Tryz.ntmps59 rfl (rs:= [.tmp 2]) rfl rfl fun hb LF=>?_
 refine wf ?_
 exact B1 (.refl _)⟩
instance xU:C8 Tryz.prog 119 [] (.agg (eIdent ⟨Dig.zero,-1⟩)):=⟨by
 refine Av Tryz.func119 Tryz.ntmps119 rfl (rs:= [.cell 0 65]) rfl rfl fun hb LF=>?_
 refine YD fun b=>?_
 exact Fv rfl (.refl _)⟩
instance jT (s:Str) (c:Int):C8 Tryz.prog 286 [.str s,.raw (.int .u8 c)] (.raw (.int .i64 (Lib.indexByte s c.toNat.toUInt8))):=⟨by
 refine Av Tryz.func286 Tryz.ntmps286 rfl (rs:= [.tmp 4]) rfl rfl fun hb LF=>?_
 refine wf ?_
 exact B1 (.refl _)⟩
instance my (s:Str) (c:Int):C8 Tryz.prog 237 [.str s,.raw (.int .u8 c)] (.raw (.int .i64 (Lib.indexByte s c.toNat.toUInt8))):=⟨by
 refine Av Tryz.func237 Tryz.ntmps237 rfl (rs:= [.tmp 4]) rfl rfl fun hb LF=>?_
 refine wf ?_
 exact B1 (.refl _)⟩
theorem LS (c:UInt8): ∀ l:List UInt8,Lib.indexByte l c < 0↔c∉l
 | []=>by simp[Lib.indexByte]
 |b::l=>by
  have h:=Lib.indexByte_ge l c
  have ih:=LS c l
  unfold Lib.indexByte
  by_cases e:b=c
  ·subst e;simp
  ·have e2: ¬c=b:=fun h=>e h.symm
   have d:(b==c)=false:=by simp[e]
   simp only[d,BQ,if_false,AH,e2,false_or]
   rw[←ih]
   split
   ·rename_i h2
    have h2:Lib.indexByte l c= -1:=by simpa using h2
    omega
   ·rename_i h2
    have h2:Lib.indexByte l c≠ -1:=by simpa using h2
    omega
theorem bj (s:Str) (m n:UInt8):Q1 s m.toNat n.toNat=(decide (m∉s)&&decide (n∉s)):=by
 unfold Q1
 induction s with
 |nil=>simp
 |cons a s ih=>
  simp only[ya,ih,Ov,AH,not_or]
  have e1:((a.toNat:Int)=m.toNat)↔a=m:=⟨fun h=>UInt8.toNat.inj (by omega),fun h=>by rw[h]⟩
  have e2:((a.toNat:Int)=n.toNat)↔a=n:=⟨fun h=>UInt8.toNat.inj (by omega),fun h=>by rw[h]⟩
  simp only[e1,e2]
  grind
theorem fg (s:Str):JL s=(decide ((s.length:Int)≤1000)&&decide (Lib.indexByte s 10 < 0)&&decide (Lib.indexByte s 0 < 0)):=by
 have h:Q1 s 10 0=(decide (10∉s)&&decide (0∉s)):=bj s 10 0
 have a1:decide (Lib.indexByte s 10 < 0)=decide (10∉s):=by rw[decide_eq_decide];exact LS 10 s
 have a2:decide (Lib.indexByte s 0 < 0)=decide (0∉s):=by rw[decide_eq_decide];exact LS 0 s
 rw[JL,h,a1,a2,Bool.and_assoc]
instance vm (s:Str):C8 Tryz.prog 195 [.str s] (.raw (.bool (JL s))):=⟨by
 refine Av Tryz.func195 Tryz.ntmps195 rfl (rs:= [.tmp 2]) rfl rfl fun hb LF=>?_
 have e:=fg s
 have c1:((10:Int).toNat).toUInt8=10:=rfl
 have c2:((0:Int).toNat).toUInt8=0:=rfl
 refine wf ?_
 repeat' (first|(refine A6 (fun h=>?_) (fun h=>?_)<;>refine wf ?_)|(refine AX (fun h=>?_) (fun h=>?_)<;>refine wf ?_)|(refine AW (fun h=>?_) (fun h=>?_)<;>refine wf ?_)|(refine Ay (fun h=>?_) (fun h=>?_)<;>(have h2:=h;(try simp only[AD,A8,AI,AN]at h2);refine wf ?_)))
 all_goals (refine B1 (.of_eq ?_);rw[e];simp only[c1,c2]at*;first|(simp_all;done)|grind)⟩
instance vq (s:Str):C8 Tryz.prog 193 [.str s] (.raw (.bool (Jg s))):=⟨by
 refine Av Tryz.func193 Tryz.ntmps193 rfl (rs:= [.tmp 2]) rfl rfl fun hb LF=>?_
 have hlen:s.length≤140737488355328:=(hb (.str s) (by simp)).str_len
 refine wf ?_
 refine Ab (σ:=Nat) (fun k=>k≤s.length∧ ∀ i (h:i < s.length),i < k→Ka s[i]=true) (fun k=>s.length - k) (fun k=> [(0,.str s),(6,.raw (.int .i64 s.length)),(7,.raw (.int .i64 k))]) (fun _=>LF) 0 ⟨by simp,by simp⟩ ⟨rfl,rfl,rfl⟩ (.refl _) ?_
 rintro k ⟨hk,he⟩
 refine wf ?_
 refine A6 (fun hc=>?_) (fun hc=>?_)
 ·have hlt:k < s.length:=by omega
  refine wf ?_
  refine BT [(46,.raw (.bool (!Ka s[k]))),(0,.str s),(6,.raw (.int .i64 s.length)),(7,.raw (.int .i64 k))] (LF) ?_ ?_
  ·repeat' (first|(refine A6 (fun h=>?_) (fun h=>?_)<;>refine wf ?_)|(refine AX (fun h=>?_) (fun h=>?_)<;>refine wf ?_)|(refine AW (fun h=>?_) (fun h=>?_)<;>refine wf ?_)|(refine Ay (fun h=>?_) (fun h=>?_)<;>(have h2:=h;(try simp only[AD,A8,AI,AN]at h2);refine wf ?_)))
   all_goals (refine⟨⟨C9 (by rfl) ?_,rfl,rfl,rfl⟩,.refl _⟩;(clear he hc;grind [Ka]))
  refine wf ?_
  refine AW (fun h=>?_) (fun h=>?_)
  ·refine wf ?_
   refine B1 (.of_eq ?_)
   have:Ka s[k]=false:=by simpa using h
   rw[Jg,Gn hlt this];rfl
  ·refine wf ?_
   exact⟨k+1,⟨by omega,Ln he hlt (by simpa using h)⟩,by dsimp only;omega,⟨rfl,rfl,rfl⟩,.refl _⟩
 ·have hall:s.all Ka=true:=HY fun i h=>he i h (by omega)
  have e1:decide (1≤(s.length:Int))=!decide (s= []):=by cases s<;>simp;omega
  refine wf ?_
  repeat' (first|(refine A6 (fun h=>?_) (fun h=>?_)<;>refine wf ?_)|(refine AX (fun h=>?_) (fun h=>?_)<;>refine wf ?_)|(refine AW (fun h=>?_) (fun h=>?_)<;>refine wf ?_)|(refine Ay (fun h=>?_) (fun h=>?_)<;>(have h2:=h;(try simp only[AD,A8,AI,AN]at h2);refine wf ?_)))
  all_goals (refine B1 (.of_eq ?_);rw[Jg,hall,e1];clear he hall hb;first|(simp_all;done)|grind)⟩
def IG (c:Chg):Chg:=
 { kind:=c.kind,file:=if 2≤c.kind∧c.kind≤6 then Ident.zero else c.file,type:=if c.kind=1 then 0 else c.type,parent:=if c.kind=2 then Ident.zero else c.parent,name:=if c.kind=2 then []else c.name,
   mode:=if c.kind=3 then 0 else c.mode,data:=if c.kind=4 then []else c.data,after:=if c.kind=5∨c.kind=6 then Ident.zero else c.after,before:=if c.kind=5∨c.kind=6 then Ident.zero else c.before,
   lines:=if c.kind=5 then []else c.lines,over:=if c.kind≠1∧c.kind≠5 then []else c.over }
instance yq (c:Chg):C8 Tryz.prog 275 [.agg (eChg c)] (.agg (eChg (IG c))):=⟨by
 refine Av Tryz.func275 Tryz.ntmps275 rfl (rs:= [.cell 2 73]) rfl rfl fun hb LF=>?_
 refine DU fun b=>?_
 refine Fq fun b2=>?_
 repeat' (first|(refine A6 (fun h=>?_) (fun h=>?_)<;>((try dsimp only at h);first|(exfalso;omega;done)|refine AZ ?_))|(refine AX (fun h=>?_) (fun h=>?_)<;>((try dsimp only at h);first|(exfalso;omega;done)|refine AZ ?_))|(refine AW (fun h=>?_) (fun h=>?_)<;>((try dsimp only at h);first|(exfalso;omega;done)|refine AZ ?_))|(refine Ay (fun h=>?_) (fun h=>?_)<;>(have h2:=h;(try simp only[AD,A8,AI,AN]at h2);first|(exfalso;omega;done)|refine CH ?_)))
 all_goals (refine Fv rfl (.of_eq (congrArg (fun c=>PV.agg (eChg c)) ?_));simp only[IG,Chg.mk.injEq];and_intros<;>first|trivial|rfl|(split<;>first|rfl|(exfalso;omega)))⟩
def Fu (c:Chg):Bool:=decide (c.file=Ident.zero)&&decide (c.type=0)&&decide (c.parent=Ident.zero)&&decide (c.name= [])&&decide (c.mode=0)&&decide (c.data= [])&&decide (c.after=Ident.zero)&&decide (c.before=Ident.zero)&&decide ((c.lines.length:Int)=0)&&decide ((c.over.length:Int)=0)
instance yC (c:Chg):C8 Tryz.prog 274 [.agg (eChg c)] (.raw (.bool (Fu c))):=⟨by
 refine Av Tryz.func274 Tryz.ntmps274 rfl (rs:= [.tmp 2]) rfl rfl fun hb LF=>?_
 refine DU fun b=>?_
 iterate 9
  refine Ay (fun hp=>?_) (fun hp=>by
   refine CH ?_
   refine B1 (.of_eq ?_)
   simp_all[Fu])
  refine CH ?_
 refine B1 (.of_eq ?_)
 simp_all[Fu]⟩
def C3 (c:Chg):Int:=
 if c.kind < 1∨7 < c.kind then 8 else
 if Fu (IG c)=false then 1 else
 if c.kind=1∧(c.type < 1∨4 < c.type)then 8 else
 if c.kind=2∧Jg c.name=false then 5 else
 if c.kind=3∧(c.mode < 0∨511 < c.mode)then 2 else
 if 65536 < (c.data.length:Int)then 4 else
 if c.kind=5 then Mz c.lines else
 if c.kind=7∧(c.over.length:Int)=0 then 1 else
 if 400 < (c.over.length:Int)then 4 else
 if Q2 c.over=false then 9 else 0
instance vu (c:Chg):C8 Tryz.prog 216 [.agg (eChg c)] (.raw (.int .i64 (C3 c))):=⟨by
 refine Av Tryz.func216 Tryz.ntmps216 rfl (rs:= [.tmp 2]) rfl rfl fun hb LF=>?_
 refine DU fun b=>?_
 refine BT [(10,.raw (.bool (decide (c.kind < 1∨7 < c.kind)))),(1,.raw (.pointer (some ⟨b,0,none⟩)))] (.box b 73 (eChg c)::LF) ?_ ?_
 ·repeat' (first|(refine A6 (fun h=>?_) (fun h=>?_)<;>refine AZ ?_)|(refine AX (fun h=>?_) (fun h=>?_)<;>refine AZ ?_)|(refine AW (fun h=>?_) (fun h=>?_)<;>refine AZ ?_)|(refine Ay (fun h=>?_) (fun h=>?_)<;>(have h2:=h;(try simp only[AD,A8,AI,AN]at h2);refine CH ?_)))
  all_goals (refine⟨⟨C9 (by rfl) ?_,rfl⟩,.refl _⟩;first|(simp_all;done)|(simp_all;omega)|grind)
 refine AZ ?_
 refine A6 (fun h1=>?_) (fun h1=>?_)
 ·refine AZ ?_
  refine B1 (.of_eq ?_)
  rw[C3,if_pos h1]
 refine AZ ?_
 refine AW (fun h2=>?_) (fun h2=>?_)
 ·refine AZ ?_
  refine B1 (.of_eq ?_)
  simp only[AI]at h2
  rw[C3,if_neg h1,if_pos h2]
 replace h2: ¬Fu (IG c)=false:=by simpa using h2
 refine AZ ?_
 refine BT [(27,.raw (.bool (decide (c.kind=1∧(c.type < 1∨4 < c.type))))),(1,.raw (.pointer (some ⟨b,0,none⟩)))] (.box b 73 (eChg c)::LF) ?_ ?_
 ·repeat' (first|(refine A6 (fun h=>?_) (fun h=>?_)<;>refine AZ ?_)|(refine AX (fun h=>?_) (fun h=>?_)<;>refine AZ ?_)|(refine AW (fun h=>?_) (fun h=>?_)<;>refine AZ ?_)|(refine Ay (fun h=>?_) (fun h=>?_)<;>(have h2:=h;(try simp only[AD,A8,AI,AN]at h2);refine CH ?_)))
  all_goals (refine⟨⟨C9 (by rfl) ?_,rfl⟩,.refl _⟩;first|(simp_all;done)|(simp_all;omega)|grind)
 refine AZ ?_
 refine A6 (fun h3=>?_) (fun h3=>?_)
 ·refine AZ ?_
  refine B1 (.of_eq ?_)
  rw[C3,if_neg h1,if_neg h2,if_pos h3]
 refine AZ ?_
 refine BT [(36,.raw (.bool (decide (c.kind=2∧Jg c.name=false)))),(1,.raw (.pointer (some ⟨b,0,none⟩)))] (.box b 73 (eChg c)::LF) ?_ ?_
 ·repeat' (first|(refine A6 (fun h=>?_) (fun h=>?_)<;>refine AZ ?_)|(refine AX (fun h=>?_) (fun h=>?_)<;>refine AZ ?_)|(refine AW (fun h=>?_) (fun h=>?_)<;>refine AZ ?_)|(refine Ay (fun h=>?_) (fun h=>?_)<;>(have h2:=h;(try simp only[AD,A8,AI,AN]at h2);refine CH ?_)))
  all_goals (refine⟨⟨C9 (by rfl) ?_,rfl⟩,.refl _⟩;first|(simp_all;done)|(simp_all;omega)|grind)
 refine AZ ?_
 refine A6 (fun h4=>?_) (fun h4=>?_)
 ·refine AZ ?_
  refine B1 (.of_eq ?_)
  rw[C3,if_neg h1,if_neg h2,if_neg h3,if_pos h4]
 refine AZ ?_
 refine BT [(49,.raw (.bool (decide (c.kind=3∧(c.mode < 0∨511 < c.mode))))),(1,.raw (.pointer (some ⟨b,0,none⟩)))] (.box b 73 (eChg c)::LF) ?_ ?_
 ·repeat' (first|(refine A6 (fun h=>?_) (fun h=>?_)<;>refine AZ ?_)|(refine AX (fun h=>?_) (fun h=>?_)<;>refine AZ ?_)|(refine AW (fun h=>?_) (fun h=>?_)<;>refine AZ ?_)|(refine Ay (fun h=>?_) (fun h=>?_)<;>(have h2:=h;(try simp only[AD,A8,AI,AN]at h2);refine CH ?_)))
  all_goals (refine⟨⟨C9 (by rfl) ?_,rfl⟩,.refl _⟩;first|(simp_all;done)|(simp_all;omega)|grind)
 refine AZ ?_
 refine A6 (fun h5=>?_) (fun h5=>?_)
 ·refine AZ ?_
  refine B1 (.of_eq ?_)
  rw[C3,if_neg h1,if_neg h2,if_neg h3,if_neg h4,if_pos h5]
 refine AZ ?_
 refine A6 (fun h6=>?_) (fun h6=>?_)
 ·refine AZ ?_
  refine B1 (.of_eq ?_)
  rw[C3,if_neg h1,if_neg h2,if_neg h3,if_neg h4,if_neg h5,if_pos h6]
 refine AZ ?_
 refine A6 (fun h7=>?_) (fun h7=>?_)
 ·refine AZ ?_
  refine B1 (.of_eq ?_)
  rw[C3,if_neg h1,if_neg h2,if_neg h3,if_neg h4,if_neg h5,if_neg h6,if_pos h7]
 refine AZ ?_
 refine BT [(68,.raw (.bool (decide (c.kind=7∧(c.over.length:Int)=0)))),(1,.raw (.pointer (some ⟨b,0,none⟩)))] (.box b 73 (eChg c)::LF) ?_ ?_
 ·repeat' (first|(refine A6 (fun h=>?_) (fun h=>?_)<;>refine AZ ?_)|(refine AX (fun h=>?_) (fun h=>?_)<;>refine AZ ?_)|(refine AW (fun h=>?_) (fun h=>?_)<;>refine AZ ?_)|(refine Ay (fun h=>?_) (fun h=>?_)<;>(have h2:=h;(try simp only[AD,A8,AI,AN]at h2);refine CH ?_)))
  all_goals (refine⟨⟨C9 (by rfl) ?_,rfl⟩,.refl _⟩;first|(simp_all;done)|(simp_all;omega)|grind)
 refine AZ ?_
 refine A6 (fun h8=>?_) (fun h8=>?_)
 ·refine AZ ?_
  refine B1 (.of_eq ?_)
  rw[C3,if_neg h1,if_neg h2,if_neg h3,if_neg h4,if_neg h5,if_neg h6,if_neg h7,if_pos h8]
 refine AZ ?_
 refine A6 (fun h9=>?_) (fun h9=>?_)
 ·refine AZ ?_
  refine B1 (.of_eq ?_)
  rw[C3,if_neg h1,if_neg h2,if_neg h3,if_neg h4,if_neg h5,if_neg h6,if_neg h7,if_neg h8,if_pos h9]
 refine AZ ?_
 refine AW (fun h=>?_) (fun h=>?_)
 ·refine AZ ?_
  refine B1 (.of_eq ?_)
  simp only[AI]at h
  rw[C3,if_neg h1,if_neg h2,if_neg h3,if_neg h4,if_neg h5,if_neg h6,if_neg h7,if_neg h8,if_neg h9,if_pos h]
 ·refine AZ ?_
  refine B1 (.of_eq ?_)
  replace h: ¬Q2 c.over=false:=by simpa using h
  rw[C3,if_neg h1,if_neg h2,if_neg h3,if_neg h4,if_neg h5,if_neg h6,if_neg h7,if_neg h8,if_neg h9,if_neg h]⟩
def Qz {α:Type} [DecidableEq α] (v:α):List α→Int
 | []=> -1
 |a::l=>if v=a then 0 else if Qz v l= -1 then -1 else Qz v l+1
theorem XW {α:Type} [DecidableEq α] (v:α): ∀ l:List α,-1≤Qz v l
 | []=>by simp[Qz]
 |a::l=>by
  have:=XW v l
  unfold Qz;split
  ·omega
  ·split<;>omega
theorem UM {α:Type} [DecidableEq α] (v:α): ∀ l:List α,0≤Qz v l↔v∈l
 | []=>by simp[Qz]
 |a::l=>by
  have h:=XW v l
  have ih:=UM v l
  unfold Qz
  by_cases e:v=a
  ·simp[e]
  ·simp only[e,if_false,AH,false_or]
   rw[←ih]
   split<;>omega
theorem eO {α:Type} [DecidableEq α] (v:α): ∀ {l:List α} {k:Nat} (h:k < l.length),l[k]=v→(∀ i (hi:i < l.length),i < k→l[i]≠v)→Qz v l=k
 |a::l,0,_,e,_=>by simp only[BL]at e;simp[Qz,e]
 |a::l,k+1,h,e,hb=>by
  have h0:a≠v:=hb 0 (by simp) (by omega)
  have ih:=eO v (l:=l) (k:=k) (by simpa using h) (by simpa using e) (fun i hi hk=>by have:=hb (i+1) (by simpa using hi) (by omega);simpa using this)
  unfold Qz
  rw[if_neg (Ne.symm h0),ih,if_neg (by omega)];omega
theorem gf {α:Type} [DecidableEq α] (v:α) {l:List α} (h: ∀ i (hi:i < l.length),l[i]≠v):Qz v l= -1:=by
 have h1:=XW v l
 have h2: ¬0≤Qz v l:=fun h'=>by
  obtain⟨i,hi,e⟩:=AY.1 ((UM v l).1 h')
  exact h i hi e
 omega
instance wE (l:List Int) (v:Int) (t:CC):C8 Tryz.prog 285 [.slice (l.map eI) t,.raw (.int .i64 v)] (.raw (.int .i64 (Qz v l))):=⟨by
 refine Av Tryz.func285 Tryz.ntmps285 rfl (rs:= [.tmp 4]) rfl rfl fun hb LF=>?_
 have hlen:l.length≤140737488355328:=(hb (.slice (l.map eI) t) (by simp)).slice_map
 refine wf ?_
 refine Ab (σ:=Nat) (fun k=>k≤l.length∧ ∀ i (h:i < l.length),i < k→l[i]≠v) (fun k=>l.length - k) (fun k=> [(0,.slice (l.map eI) t),(1,.raw (.int .i64 v)),(7,.raw (.int .i64 l.length)),(8,.raw (.int .i64 k))]) (fun _=>LF) 0 ⟨by simp,by simp⟩ ⟨rfl,rfl,rfl,rfl⟩ (.refl _) ?_
 rintro k ⟨hk,he⟩
 refine wf ?_
 refine A6 (fun hc=>?_) (fun hc=>?_)
 ·have hlt:k < l.length:=by omega
  refine wf ?_
  refine A6 (fun h=>?_) (fun h=>?_)
  ·refine wf ?_
   refine B1 (.of_eq ?_)
   rw[eO v hlt h.symm he]
  ·refine wf ?_
   refine⟨k+1,⟨by omega,fun i hi hik=>?_⟩,by dsimp only;omega,⟨rfl,rfl,rfl,rfl⟩,.refl _⟩
   rcases B8 i k with h'|h'
   ·exact he i hi h'
   ·have:i=k:=by omega
    subst this;exact fun e=>h e.symm
 ·refine wf ?_
  refine B1 (.of_eq ?_)
  rw[gf v fun i hi=>he i hi (by omega)]⟩
instance qj (l:List Int) (v:Int) (t:CC):C8 Tryz.prog 236 [.slice (l.map eI) t,.raw (.int .i64 v)] (.raw (.bool (decide (v∈l)))):=⟨by
 refine Av Tryz.func236 Tryz.ntmps236 rfl (rs:= [.tmp 4]) rfl rfl fun hb LF=>?_
 refine wf ?_
 refine B1 (.of_eq ?_)
 have:=UM v l
 simp only[this]⟩
instance zw (l:List Int) (k:Int) (t:CC):C8 Tryz.prog 235 [.slice (l.map eI) t,.pt [.raw (.int .i64 k)] 0] (.raw (.bool (decide (k∈l)))):=⟨by
 refine Av Tryz.func235 Tryz.ntmps235 rfl (rs:= [.tmp 3]) rfl rfl fun hb LF=>?_
 refine wf ?_
 exact B1 (.refl _)⟩
def Mw (c:Chg):Bool:=decide (c.kind∈ [1])||decide (c.type=0)
def Mu (c:Chg):Bool:=decide (c.kind∈ [2,3,4,5,6])||decide (c.file=Ident.zero)
def O2 (c:Chg):Bool:=decide (c.kind∈ [2])||(decide (c.parent=Ident.zero)&&decide (c.name= []))
def Pw (c:Chg):Bool:=decide (c.kind∈ [3])||decide (c.mode=0)
def Rj (c:Chg):Bool:=decide (c.kind∈ [4])||decide (c.data= [])
def Te (c:Chg):Bool:=decide (c.kind∈ [5,6])||(decide (c.after=Ident.zero)&&decide (c.before=Ident.zero))
def XC (c:Chg):Bool:=decide (c.kind∈ [5])||decide ((c.lines.length:Int)=0)
def ba (c:Chg):Bool:=decide (c.kind∈ [2,3,4,6,7])||decide ((c.over.length:Int)=0)
def Yp (c:Chg):Bool:=Mw c&&Mu c&&O2 c&&Pw c&&Rj c&&Te c&&XC c&&ba c
instance yj (c:Chg):C8 Tryz.prog 194 [.agg (eChg c)] (.raw (.bool (Yp c))):=⟨by
 refine Av Tryz.func194 Tryz.ntmps194 rfl (rs:= [.tmp 2]) rfl rfl fun hb LF=>?_
 refine wz fun b3=>?_
 refine Al 3 ?_
 refine wz fun b=>?_
 refine DZ ?_
 refine CK (by kernel_rfl) ?_
 refine KS 19 [(28,.raw (.bool (Mw c&&Mu c))),(1,.pt (eChg c) 0),(4,.clo 235 [.pt [.raw (.int .i64 c.kind)] 0]),(5,.raw (.pointer (some ⟨b,0,none⟩)))] (.box b 65 (eIdent Ident.zero)::LF) ?_ ?_
 ·refine wf ?_
  repeat' (first|(refine A6 (fun h=>?_) (fun h=>?_)<;>refine wf ?_)|(refine AX (fun h=>?_) (fun h=>?_)<;>refine wf ?_)|(refine AW (fun h=>?_) (fun h=>?_)<;>refine wf ?_)|(refine Ay (fun h=>?_) (fun h=>?_)<;>(have h2:=h;(try simp only[AD,A8,AI,AN]at h2);refine wf ?_)))
  all_goals (refine⟨⟨C9 (by rfl) ?_,rfl,rfl,rfl⟩,.refl _⟩;(simp only[Mw,Mu];first|(simp_all;done)|grind))
 refine KS 16 [(44,.raw (.bool (Mw c&&Mu c&&O2 c))),(1,.pt (eChg c) 0),(4,.clo 235 [.pt [.raw (.int .i64 c.kind)] 0]),(5,.raw (.pointer (some ⟨b,0,none⟩)))] (.box b 65 (eIdent Ident.zero)::LF) ?_ ?_
 ·refine wf ?_
  repeat' (first|(refine A6 (fun h=>?_) (fun h=>?_)<;>refine wf ?_)|(refine AX (fun h=>?_) (fun h=>?_)<;>refine wf ?_)|(refine AW (fun h=>?_) (fun h=>?_)<;>refine wf ?_)|(refine Ay (fun h=>?_) (fun h=>?_)<;>(have h2:=h;(try simp only[AD,A8,AI,AN]at h2);refine wf ?_)))
  all_goals (refine⟨⟨C9 (by rfl) ?_,rfl,rfl,rfl⟩,.refl _⟩;(simp only[O2];first|(simp_all;done)|grind))
 refine KS 10 [(54,.raw (.bool (Mw c&&Mu c&&O2 c&&Pw c))),(1,.pt (eChg c) 0),(4,.clo 235 [.pt [.raw (.int .i64 c.kind)] 0]),(5,.raw (.pointer (some ⟨b,0,none⟩)))] (.box b 65 (eIdent Ident.zero)::LF) ?_ ?_
 ·refine wf ?_
  repeat' (first|(refine A6 (fun h=>?_) (fun h=>?_)<;>refine wf ?_)|(refine AX (fun h=>?_) (fun h=>?_)<;>refine wf ?_)|(refine AW (fun h=>?_) (fun h=>?_)<;>refine wf ?_)|(refine Ay (fun h=>?_) (fun h=>?_)<;>(have h2:=h;(try simp only[AD,A8,AI,AN]at h2);refine wf ?_)))
  all_goals (refine⟨⟨C9 (by rfl) ?_,rfl,rfl,rfl⟩,.refl _⟩;(simp only[Pw];first|(simp_all;done)|grind))
 refine KS 10 [(64,.raw (.bool (Mw c&&Mu c&&O2 c&&Pw c&&Rj c))),(1,.pt (eChg c) 0),(4,.clo 235 [.pt [.raw (.int .i64 c.kind)] 0]),(5,.raw (.pointer (some ⟨b,0,none⟩)))] (.box b 65 (eIdent Ident.zero)::LF) ?_ ?_
 ·refine wf ?_
  repeat' (first|(refine A6 (fun h=>?_) (fun h=>?_)<;>refine wf ?_)|(refine AX (fun h=>?_) (fun h=>?_)<;>refine wf ?_)|(refine AW (fun h=>?_) (fun h=>?_)<;>refine wf ?_)|(refine Ay (fun h=>?_) (fun h=>?_)<;>(have h2:=h;(try simp only[AD,A8,AI,AN]at h2);refine wf ?_)))
  all_goals (refine⟨⟨C9 (by rfl) ?_,rfl,rfl,rfl⟩,.refl _⟩;(simp only[Rj];first|(simp_all;done)|grind))
 refine KS 17 [(81,.raw (.bool (Mw c&&Mu c&&O2 c&&Pw c&&Rj c&&Te c))),(1,.pt (eChg c) 0),(4,.clo 235 [.pt [.raw (.int .i64 c.kind)] 0]),(5,.raw (.pointer (some ⟨b,0,none⟩)))] (.box b 65 (eIdent Ident.zero)::LF) ?_ ?_
 ·refine wf ?_
  repeat' (first|(refine A6 (fun h=>?_) (fun h=>?_)<;>refine wf ?_)|(refine AX (fun h=>?_) (fun h=>?_)<;>refine wf ?_)|(refine AW (fun h=>?_) (fun h=>?_)<;>refine wf ?_)|(refine Ay (fun h=>?_) (fun h=>?_)<;>(have h2:=h;(try simp only[AD,A8,AI,AN]at h2);refine wf ?_)))
  all_goals (refine⟨⟨C9 (by rfl) ?_,rfl,rfl,rfl⟩,.refl _⟩;(simp only[Te];first|(simp_all;done)|grind))
 refine KS 11 [(92,.raw (.bool (Mw c&&Mu c&&O2 c&&Pw c&&Rj c&&Te c&&XC c))),(1,.pt (eChg c) 0),(4,.clo 235 [.pt [.raw (.int .i64 c.kind)] 0]),(5,.raw (.pointer (some ⟨b,0,none⟩)))] (.box b 65 (eIdent Ident.zero)::LF) ?_ ?_
 ·refine wf ?_
  repeat' (first|(refine A6 (fun h=>?_) (fun h=>?_)<;>refine wf ?_)|(refine AX (fun h=>?_) (fun h=>?_)<;>refine wf ?_)|(refine AW (fun h=>?_) (fun h=>?_)<;>refine wf ?_)|(refine Ay (fun h=>?_) (fun h=>?_)<;>(have h2:=h;(try simp only[AD,A8,AI,AN]at h2);refine wf ?_)))
  all_goals (refine⟨⟨C9 (by rfl) ?_,rfl,rfl,rfl⟩,.refl _⟩;(simp only[XC];first|(simp_all;done)|grind))
 refine wf ?_
 repeat' (first|(refine A6 (fun h=>?_) (fun h=>?_)<;>refine wf ?_)|(refine AX (fun h=>?_) (fun h=>?_)<;>refine wf ?_)|(refine AW (fun h=>?_) (fun h=>?_)<;>refine wf ?_)|(refine Ay (fun h=>?_) (fun h=>?_)<;>(have h2:=h;(try simp only[AD,A8,AI,AN]at h2);refine wf ?_)))
 all_goals (refine B1 (.of_eq ?_);simp only[Yp,ba];first|(simp_all;done)|grind)⟩
end Go.Proofs
