/- Contracts: lists of digests and sets of patches (the reference's layers 16 and 17). -/
import Derived.Test.YtaibdmankdppkaaGreatDoorYah
set_option linter.unusedSimpArgs false
set_option linter.unusedVariables false
set_option maxHeartbeats 8000000
namespace Go.Proofs
open Go Go.Q
attribute [local irreducible] ER AV BA Fc
def JE (s:Str):Bool:=decide ((s.length:Int)≤1000)&&Pe s 10 0
instance yH (s:Str):CB Tryz.prog 299 [.str s] (.raw (.bool (JE s))):=⟨by
 refine Au Tryz.func299 Tryz.ntmps299 rfl (rs:= [.tmp 2]) rfl rfl fun hb LF=>?_
 refine AX ?_
 repeat' (first|(refine A6 (fun h=>?_) (fun h=>?_)<;>refine AX ?_)|(refine AY (fun h=>?_) (fun h=>?_)<;>refine AX ?_)|(refine AW (fun h=>?_) (fun h=>?_)<;>refine AX ?_)|(refine Av (fun h=>?_) (fun h=>?_)<;>(have h2:=h;(try simp only[AB,A8,AJ,AL]at h2);refine CK ?_)))
 all_goals (refine B2 (.of_eq ?_);first|(simp_all[JE];done)|grind [JE])⟩
def KX (c:UInt8):Bool:=(decide (97≤(c.toNat:Int))&&decide ((c.toNat:Int)≤122))||(decide (65≤(c.toNat:Int))&&decide ((c.toNat:Int)≤90))||(decide (48≤(c.toNat:Int))&&decide ((c.toNat:Int)≤57))||decide ((c.toNat:Int)=46)||decide ((c.toNat:Int)=95)||decide ((c.toNat:Int)=45)
def Ja (s:Str):Bool:=s.all KX&&decide (1≤(s.length:Int))&&decide ((s.length:Int)≤40)&&!decide (s= [46])&&!decide (s= [46,46])
instance zG (s:Str):CB Tryz.prog 161 [.str s] (.raw (.bool (Ja s))):=⟨by
 refine Au Tryz.func161 Tryz.ntmps161 rfl (rs:= [.tmp 2]) rfl rfl fun hb LF=>?_
 have hlen:s.length≤140737488355328:=(hb (.str s) (by simp)).str_len
 refine AX ?_
 refine Ad (σ:=Nat) (fun k=>k≤s.length∧ ∀ i (h:i < s.length),i < k→KX s[i]=true) (fun k=>s.length - k) (fun k=> [(0,.str s),(3,.raw (.int .i64 k))]) (fun _=>LF) 0 ⟨by simp,by simp⟩ ⟨rfl,rfl⟩ (.refl _) ?_
 rintro k ⟨hk,he⟩
 refine AX ?_
 refine A6 (fun hc=>?_) (fun hc=>?_)
 ·have hlt:k < s.length:=by omega
  refine AX ?_
  repeat' (first|(refine A6 (fun h=>?_) (fun h=>?_)<;>refine AX ?_)|(refine AY (fun h=>?_) (fun h=>?_)<;>refine AX ?_)|(refine AW (fun h=>?_) (fun h=>?_)<;>refine AX ?_)|(refine Av (fun h=>?_) (fun h=>?_)<;>(have h2:=h;(try simp only[AB,A8,AJ,AL]at h2);refine CK ?_)))
  all_goals first
   |(refine⟨k+1,⟨by omega,Lh he hlt ?_⟩,by dsimp only;omega,⟨rfl,rfl⟩,.refl _⟩;clear he hc;grind [KX])
   |(refine B2 (.of_eq ?_);have:KX s[k]=false:=by clear he hc;grind [KX]
     rw[Ja,HY hlt this];rfl)
 ·have hall:s.all KX=true:=Ig fun i h=>he i h (by omega)
  refine AX ?_
  repeat' (first|(refine A6 (fun h=>?_) (fun h=>?_)<;>refine AX ?_)|(refine AY (fun h=>?_) (fun h=>?_)<;>refine AX ?_)|(refine AW (fun h=>?_) (fun h=>?_)<;>refine AX ?_)|(refine Av (fun h=>?_) (fun h=>?_)<;>(have h2:=h;(try simp only[AB,A8,AJ,AL]at h2);refine CK ?_)))
  all_goals (refine B2 (.of_eq ?_);first|(simp_all[Ja];done)|grind [Ja])⟩
def Mo (l:List Str):Int:=if(l.length:Int)=0 then 1 else if 2000 < (l.length:Int)then 4 else if l.all JE then 0 else 3
instance xc (l:List Str) (t:CF):CB Tryz.prog 276 [.slice (l.map eS) t] (.raw (.int .i64 (Mo l))):=⟨by
 refine Au Tryz.func276 Tryz.ntmps276 rfl (rs:= [.tmp 2]) rfl rfl fun hb LF=>?_
 have hlen:l.length≤140737488355328:=(hb (.slice (l.map eS) t) (by simp)).slice_map
 refine AX ?_
 refine A6 (fun h1=>?_) (fun h1=>?_)
 ·refine AX ?_
  refine B2 (.of_eq ?_)
  simp[Mo,h1]
 refine AX ?_
 refine A6 (fun h2=>?_) (fun h2=>?_)
 ·refine AX ?_
  refine B2 (.of_eq ?_)
  simp only[Mo,h1,h2,if_true,if_false]
 refine AX ?_
 refine Ad (σ:=Nat) (fun k=>k≤l.length∧ ∀ i (h:i < l.length),i < k→JE l[i]=true) (fun k=>l.length - k) (fun k=> [(0,.slice (l.map eS) t),(3,.raw (.int .i64 k))]) (fun _=>LF) 0 ⟨by simp,by simp⟩ ⟨rfl,rfl⟩ (.refl _) ?_
 rintro k ⟨hk,he⟩
 refine AX ?_
 refine A6 (fun hc=>?_) (fun hc=>?_)
 ·have hlt:k < l.length:=by omega
  refine AX ?_
  refine AW (fun h=>?_) (fun h=>?_)
  ·refine AX ?_
   refine B2 (.of_eq ?_)
   simp only[Mo,h1,h2,if_false]
   rw[HY hlt (by simpa using h)];rfl
  ·refine AX ?_
   exact⟨k+1,⟨by omega,Lh he hlt (by simpa using h)⟩,by dsimp only;omega,⟨rfl,rfl⟩,.refl _⟩
 ·refine AX ?_
  refine B2 (.of_eq ?_)
  simp only[Mo,h1,h2,if_false]
  rw[Ig fun i h=>he i h (by omega)];rfl⟩
instance zg (x:Ident):CB Tryz.prog 59 [.agg (eIdent x)] (.raw (.bool (decide (x.patch=Dig.zero)))):=⟨by
 refine Au Tryz.func59 Tryz.ntmps59 rfl (rs:= [.tmp 2]) rfl rfl fun hb LF=>?_
 refine wf ?_
 exact B2 (.refl _)⟩
instance xL:CB Tryz.prog 119 [] (.agg (eIdent ⟨Dig.zero,-1⟩)):=⟨by
 refine Au Tryz.func119 Tryz.ntmps119 rfl (rs:= [.cell 0 65]) rfl rfl fun hb LF=>?_
 refine Y9 fun b=>?_
 exact Fo rfl (.refl _)⟩
instance jB (s:Str) (c:Int):CB Tryz.prog 286 [.str s,.raw (.int .u8 c)] (.raw (.int .i64 (Lib.indexByte s c.toNat.toUInt8))):=⟨by
 refine Au Tryz.func286 Tryz.ntmps286 rfl (rs:= [.tmp 4]) rfl rfl fun hb LF=>?_
 refine wf ?_
 exact B2 (.refl _)⟩
instance mg (s:Str) (c:Int):CB Tryz.prog 237 [.str s,.raw (.int .u8 c)] (.raw (.int .i64 (Lib.indexByte s c.toNat.toUInt8))):=⟨by
 refine Au Tryz.func237 Tryz.ntmps237 rfl (rs:= [.tmp 4]) rfl rfl fun hb LF=>?_
 refine wf ?_
 exact B2 (.refl _)⟩
theorem LS (c:UInt8): ∀ l:List UInt8,Lib.indexByte l c < 0↔c∉l
 | []=>by simp[Lib.indexByte]
 |b::l=>by
  have h:=Lib.indexByte_ge l c
  have ih:=LS c l
  unfold Lib.indexByte
  by_cases e:b=c
  ·subst e;simp
  ·have e2: ¬c=b:=fun h=>e h.symm
   have d:(b==c)=false:=by simp[e]
   simp only[d,BT,if_false,AI,e2,false_or]
   rw[←ih]
   split
   ·rename_i h2
    have h2:Lib.indexByte l c= -1:=by simpa using h2
    omega
   ·rename_i h2
    have h2:Lib.indexByte l c≠ -1:=by simpa using h2
    omega
theorem bR (s:Str) (m n:UInt8):Pe s m.toNat n.toNat=(decide (m∉s)&&decide (n∉s)):=by
 unfold Pe
 induction s with
 |nil=>simp
 |cons a s ih=>
  simp only[yQ,ih,Oc,AI,not_or]
  have e1:((a.toNat:Int)=m.toNat)↔a=m:=⟨fun h=>UInt8.toNat.inj (by omega),fun h=>by rw[h]⟩
  have e2:((a.toNat:Int)=n.toNat)↔a=n:=⟨fun h=>UInt8.toNat.inj (by omega),fun h=>by rw[h]⟩
  simp only[e1,e2]
  grind
theorem fR (s:Str):JE s=(decide ((s.length:Int)≤1000)&&decide (Lib.indexByte s 10 < 0)&&decide (Lib.indexByte s 0 < 0)):=by
 have h:Pe s 10 0=(decide (10∉s)&&decide (0∉s)):=bR s 10 0
 have a1:decide (Lib.indexByte s 10 < 0)=decide (10∉s):=by rw[decide_eq_decide];exact LS 10 s
 have a2:decide (Lib.indexByte s 0 < 0)=decide (0∉s):=by rw[decide_eq_decide];exact LS 0 s
 rw[JE,h,a1,a2,Bool.and_assoc]
instance ve (s:Str):CB Tryz.prog 195 [.str s] (.raw (.bool (JE s))):=⟨by
 refine Au Tryz.func195 Tryz.ntmps195 rfl (rs:= [.tmp 2]) rfl rfl fun hb LF=>?_
 have e:=fR s
 have c1:((10:Int).toNat).toUInt8=10:=rfl
 have c2:((0:Int).toNat).toUInt8=0:=rfl
 refine wf ?_
 repeat' (first|(refine A6 (fun h=>?_) (fun h=>?_)<;>refine wf ?_)|(refine AY (fun h=>?_) (fun h=>?_)<;>refine wf ?_)|(refine AW (fun h=>?_) (fun h=>?_)<;>refine wf ?_)|(refine Av (fun h=>?_) (fun h=>?_)<;>(have h2:=h;(try simp only[AB,A8,AJ,AL]at h2);refine wf ?_)))
 all_goals (refine B2 (.of_eq ?_);rw[e];simp only[c1,c2]at*;first|(simp_all;done)|grind)⟩
instance vi (s:Str):CB Tryz.prog 193 [.str s] (.raw (.bool (Ja s))):=⟨by
 refine Au Tryz.func193 Tryz.ntmps193 rfl (rs:= [.tmp 2]) rfl rfl fun hb LF=>?_
 have hlen:s.length≤140737488355328:=(hb (.str s) (by simp)).str_len
 refine wf ?_
 refine Ad (σ:=Nat) (fun k=>k≤s.length∧ ∀ i (h:i < s.length),i < k→KX s[i]=true) (fun k=>s.length - k) (fun k=> [(0,.str s),(6,.raw (.int .i64 s.length)),(7,.raw (.int .i64 k))]) (fun _=>LF) 0 ⟨by simp,by simp⟩ ⟨rfl,rfl,rfl⟩ (.refl _) ?_
 rintro k ⟨hk,he⟩
 refine wf ?_
 refine A6 (fun hc=>?_) (fun hc=>?_)
 ·have hlt:k < s.length:=by omega
  refine wf ?_
  refine BZ [(46,.raw (.bool (!KX s[k]))),(0,.str s),(6,.raw (.int .i64 s.length)),(7,.raw (.int .i64 k))] (LF) ?_ ?_
  ·repeat' (first|(refine A6 (fun h=>?_) (fun h=>?_)<;>refine wf ?_)|(refine AY (fun h=>?_) (fun h=>?_)<;>refine wf ?_)|(refine AW (fun h=>?_) (fun h=>?_)<;>refine wf ?_)|(refine Av (fun h=>?_) (fun h=>?_)<;>(have h2:=h;(try simp only[AB,A8,AJ,AL]at h2);refine wf ?_)))
   all_goals (refine⟨⟨CD (by rfl) ?_,rfl,rfl,rfl⟩,.refl _⟩;(clear he hc;grind [KX]))
  refine wf ?_
  refine AW (fun h=>?_) (fun h=>?_)
  ·refine wf ?_
   refine B2 (.of_eq ?_)
   have:KX s[k]=false:=by simpa using h
   rw[Ja,HY hlt this];rfl
  ·refine wf ?_
   exact⟨k+1,⟨by omega,Lh he hlt (by simpa using h)⟩,by dsimp only;omega,⟨rfl,rfl,rfl⟩,.refl _⟩
 ·have hall:s.all KX=true:=Ig fun i h=>he i h (by omega)
  have e1:decide (1≤(s.length:Int))=!decide (s= []):=by cases s<;>simp;omega
  refine wf ?_
  repeat' (first|(refine A6 (fun h=>?_) (fun h=>?_)<;>refine wf ?_)|(refine AY (fun h=>?_) (fun h=>?_)<;>refine wf ?_)|(refine AW (fun h=>?_) (fun h=>?_)<;>refine wf ?_)|(refine Av (fun h=>?_) (fun h=>?_)<;>(have h2:=h;(try simp only[AB,A8,AJ,AL]at h2);refine wf ?_)))
  all_goals (refine B2 (.of_eq ?_);rw[Ja,hall,e1];clear he hall hb;first|(simp_all;done)|grind)⟩
def Hx (c:Chg):Chg:=
 { kind:=c.kind,file:=if 2≤c.kind∧c.kind≤6 then Ident.zero else c.file,type:=if c.kind=1 then 0 else c.type,parent:=if c.kind=2 then Ident.zero else c.parent,name:=if c.kind=2 then []else c.name,
   mode:=if c.kind=3 then 0 else c.mode,data:=if c.kind=4 then []else c.data,after:=if c.kind=5∨c.kind=6 then Ident.zero else c.after,before:=if c.kind=5∨c.kind=6 then Ident.zero else c.before,
   lines:=if c.kind=5 then []else c.lines,over:=if c.kind≠1∧c.kind≠5 then []else c.over }
instance yh (c:Chg):CB Tryz.prog 275 [.agg (eChg c)] (.agg (eChg (Hx c))):=⟨by
 refine Au Tryz.func275 Tryz.ntmps275 rfl (rs:= [.cell 2 73]) rfl rfl fun hb LF=>?_
 refine DQ fun b=>?_
 refine Fh fun b2=>?_
 repeat' (first|(refine A6 (fun h=>?_) (fun h=>?_)<;>((try dsimp only at h);first|(exfalso;omega;done)|refine AX ?_))|(refine AY (fun h=>?_) (fun h=>?_)<;>((try dsimp only at h);first|(exfalso;omega;done)|refine AX ?_))|(refine AW (fun h=>?_) (fun h=>?_)<;>((try dsimp only at h);first|(exfalso;omega;done)|refine AX ?_))|(refine Av (fun h=>?_) (fun h=>?_)<;>(have h2:=h;(try simp only[AB,A8,AJ,AL]at h2);first|(exfalso;omega;done)|refine CK ?_)))
 all_goals (refine Fo rfl (.of_eq (congrArg (fun c=>PV.agg (eChg c)) ?_));simp only[Hx,Chg.mk.injEq];and_intros<;>first|trivial|rfl|(split<;>first|rfl|(exfalso;omega)))⟩
def Fl (c:Chg):Bool:=decide (c.file=Ident.zero)&&decide (c.type=0)&&decide (c.parent=Ident.zero)&&decide (c.name= [])&&decide (c.mode=0)&&decide (c.data= [])&&decide (c.after=Ident.zero)&&decide (c.before=Ident.zero)&&decide ((c.lines.length:Int)=0)&&decide ((c.over.length:Int)=0)
instance xz (c:Chg):CB Tryz.prog 274 [.agg (eChg c)] (.raw (.bool (Fl c))):=⟨by
 refine Au Tryz.func274 Tryz.ntmps274 rfl (rs:= [.tmp 2]) rfl rfl fun hb LF=>?_
 refine DQ fun b=>?_
 iterate 9
  refine Av (fun hp=>?_) (fun hp=>by
   refine CK ?_
   refine B2 (.of_eq ?_)
   simp_all[Fl])
  refine CK ?_
 refine B2 (.of_eq ?_)
 simp_all[Fl]⟩
def C3 (c:Chg):Int:=
 if c.kind < 1∨7 < c.kind then 8 else
 if Fl (Hx c)=false then 1 else
 if c.kind=1∧(c.type < 1∨4 < c.type)then 8 else
 if c.kind=2∧Ja c.name=false then 5 else
 if c.kind=3∧(c.mode < 0∨511 < c.mode)then 2 else
 if 65536 < (c.data.length:Int)then 4 else
 if c.kind=5 then Mo c.lines else
 if c.kind=7∧(c.over.length:Int)=0 then 1 else
 if 400 < (c.over.length:Int)then 4 else
 if Pf c.over=false then 9 else 0
instance vl (c:Chg):CB Tryz.prog 216 [.agg (eChg c)] (.raw (.int .i64 (C3 c))):=⟨by
 refine Au Tryz.func216 Tryz.ntmps216 rfl (rs:= [.tmp 2]) rfl rfl fun hb LF=>?_
 refine DQ fun b=>?_
 refine BZ [(10,.raw (.bool (decide (c.kind < 1∨7 < c.kind)))),(1,.raw (.pointer (some ⟨b,0,none⟩)))] (.box b 73 (eChg c)::LF) ?_ ?_
 ·repeat' (first|(refine A6 (fun h=>?_) (fun h=>?_)<;>refine AX ?_)|(refine AY (fun h=>?_) (fun h=>?_)<;>refine AX ?_)|(refine AW (fun h=>?_) (fun h=>?_)<;>refine AX ?_)|(refine Av (fun h=>?_) (fun h=>?_)<;>(have h2:=h;(try simp only[AB,A8,AJ,AL]at h2);refine CK ?_)))
  all_goals (refine⟨⟨CD (by rfl) ?_,rfl⟩,.refl _⟩;first|(simp_all;done)|(simp_all;omega)|grind)
 refine AX ?_
 refine A6 (fun h1=>?_) (fun h1=>?_)
 ·refine AX ?_
  refine B2 (.of_eq ?_)
  rw[C3,if_pos h1]
 refine AX ?_
 refine AW (fun h2=>?_) (fun h2=>?_)
 ·refine AX ?_
  refine B2 (.of_eq ?_)
  simp only[AJ]at h2
  rw[C3,if_neg h1,if_pos h2]
 replace h2: ¬Fl (Hx c)=false:=by simpa using h2
 refine AX ?_
 refine BZ [(27,.raw (.bool (decide (c.kind=1∧(c.type < 1∨4 < c.type))))),(1,.raw (.pointer (some ⟨b,0,none⟩)))] (.box b 73 (eChg c)::LF) ?_ ?_
 ·repeat' (first|(refine A6 (fun h=>?_) (fun h=>?_)<;>refine AX ?_)|(refine AY (fun h=>?_) (fun h=>?_)<;>refine AX ?_)|(refine AW (fun h=>?_) (fun h=>?_)<;>refine AX ?_)|(refine Av (fun h=>?_) (fun h=>?_)<;>(have h2:=h;(try simp only[AB,A8,AJ,AL]at h2);refine CK ?_)))
  all_goals (refine⟨⟨CD (by rfl) ?_,rfl⟩,.refl _⟩;first|(simp_all;done)|(simp_all;omega)|grind)
 refine AX ?_
 refine A6 (fun h3=>?_) (fun h3=>?_)
 ·refine AX ?_
  refine B2 (.of_eq ?_)
  rw[C3,if_neg h1,if_neg h2,if_pos h3]
 refine AX ?_
 refine BZ [(36,.raw (.bool (decide (c.kind=2∧Ja c.name=false)))),(1,.raw (.pointer (some ⟨b,0,none⟩)))] (.box b 73 (eChg c)::LF) ?_ ?_
 ·repeat' (first|(refine A6 (fun h=>?_) (fun h=>?_)<;>refine AX ?_)|(refine AY (fun h=>?_) (fun h=>?_)<;>refine AX ?_)|(refine AW (fun h=>?_) (fun h=>?_)<;>refine AX ?_)|(refine Av (fun h=>?_) (fun h=>?_)<;>(have h2:=h;(try simp only[AB,A8,AJ,AL]at h2);refine CK ?_)))
  all_goals (refine⟨⟨CD (by rfl) ?_,rfl⟩,.refl _⟩;first|(simp_all;done)|(simp_all;omega)|grind)
 refine AX ?_
 refine A6 (fun h4=>?_) (fun h4=>?_)
 ·refine AX ?_
  refine B2 (.of_eq ?_)
  rw[C3,if_neg h1,if_neg h2,if_neg h3,if_pos h4]
 refine AX ?_
 refine BZ [(49,.raw (.bool (decide (c.kind=3∧(c.mode < 0∨511 < c.mode))))),(1,.raw (.pointer (some ⟨b,0,none⟩)))] (.box b 73 (eChg c)::LF) ?_ ?_
 ·repeat' (first|(refine A6 (fun h=>?_) (fun h=>?_)<;>refine AX ?_)|(refine AY (fun h=>?_) (fun h=>?_)<;>refine AX ?_)|(refine AW (fun h=>?_) (fun h=>?_)<;>refine AX ?_)|(refine Av (fun h=>?_) (fun h=>?_)<;>(have h2:=h;(try simp only[AB,A8,AJ,AL]at h2);refine CK ?_)))
  all_goals (refine⟨⟨CD (by rfl) ?_,rfl⟩,.refl _⟩;first|(simp_all;done)|(simp_all;omega)|grind)
 refine AX ?_
 refine A6 (fun h5=>?_) (fun h5=>?_)
 ·refine AX ?_
  refine B2 (.of_eq ?_)
  rw[C3,if_neg h1,if_neg h2,if_neg h3,if_neg h4,if_pos h5]
 refine AX ?_
 refine A6 (fun h6=>?_) (fun h6=>?_)
 ·refine AX ?_
  refine B2 (.of_eq ?_)
  rw[C3,if_neg h1,if_neg h2,if_neg h3,if_neg h4,if_neg h5,if_pos h6]
 refine AX ?_
 refine A6 (fun h7=>?_) (fun h7=>?_)
 ·refine AX ?_
  refine B2 (.of_eq ?_)
  rw[C3,if_neg h1,if_neg h2,if_neg h3,if_neg h4,if_neg h5,if_neg h6,if_pos h7]
 refine AX ?_
 refine BZ [(68,.raw (.bool (decide (c.kind=7∧(c.over.length:Int)=0)))),(1,.raw (.pointer (some ⟨b,0,none⟩)))] (.box b 73 (eChg c)::LF) ?_ ?_
 ·repeat' (first|(refine A6 (fun h=>?_) (fun h=>?_)<;>refine AX ?_)|(refine AY (fun h=>?_) (fun h=>?_)<;>refine AX ?_)|(refine AW (fun h=>?_) (fun h=>?_)<;>refine AX ?_)|(refine Av (fun h=>?_) (fun h=>?_)<;>(have h2:=h;(try simp only[AB,A8,AJ,AL]at h2);refine CK ?_)))
  all_goals (refine⟨⟨CD (by rfl) ?_,rfl⟩,.refl _⟩;first|(simp_all;done)|(simp_all;omega)|grind)
 refine AX ?_
 refine A6 (fun h8=>?_) (fun h8=>?_)
 ·refine AX ?_
  refine B2 (.of_eq ?_)
  rw[C3,if_neg h1,if_neg h2,if_neg h3,if_neg h4,if_neg h5,if_neg h6,if_neg h7,if_pos h8]
 refine AX ?_
 refine A6 (fun h9=>?_) (fun h9=>?_)
 ·refine AX ?_
  refine B2 (.of_eq ?_)
  rw[C3,if_neg h1,if_neg h2,if_neg h3,if_neg h4,if_neg h5,if_neg h6,if_neg h7,if_neg h8,if_pos h9]
 refine AX ?_
 refine AW (fun h=>?_) (fun h=>?_)
 ·refine AX ?_
  refine B2 (.of_eq ?_)
  simp only[AJ]at h
  rw[C3,if_neg h1,if_neg h2,if_neg h3,if_neg h4,if_neg h5,if_neg h6,if_neg h7,if_neg h8,if_neg h9,if_pos h]
 ·refine AX ?_
  refine B2 (.of_eq ?_)
  replace h: ¬Pf c.over=false:=by simpa using h
  rw[C3,if_neg h1,if_neg h2,if_neg h3,if_neg h4,if_neg h5,if_neg h6,if_neg h7,if_neg h8,if_neg h9,if_neg h]⟩
def Ql {α:Type} [DecidableEq α] (v:α):List α→Int
 | []=> -1
 |a::l=>if v=a then 0 else if Ql v l= -1 then -1 else Ql v l+1
theorem XO {α:Type} [DecidableEq α] (v:α): ∀ l:List α,-1≤Ql v l
 | []=>by simp[Ql]
 |a::l=>by
  have:=XO v l
  unfold Ql;split
  ·omega
  ·split<;>omega
theorem U9 {α:Type} [DecidableEq α] (v:α): ∀ l:List α,0≤Ql v l↔v∈l
 | []=>by simp[Ql]
 |a::l=>by
  have h:=XO v l
  have ih:=U9 v l
  unfold Ql
  by_cases e:v=a
  ·simp[e]
  ·simp only[e,if_false,AI,false_or]
   rw[←ih]
   split<;>omega
theorem dz {α:Type} [DecidableEq α] (v:α): ∀ {l:List α} {k:Nat} (h:k < l.length),l[k]=v→(∀ i (hi:i < l.length),i < k→l[i]≠v)→Ql v l=k
 |a::l,0,_,e,_=>by simp only[BJ]at e;simp[Ql,e]
 |a::l,k+1,h,e,hb=>by
  have h0:a≠v:=hb 0 (by simp) (by omega)
  have ih:=dz v (l:=l) (k:=k) (by simpa using h) (by simpa using e) (fun i hi hk=>by have:=hb (i+1) (by simpa using hi) (by omega);simpa using this)
  unfold Ql
  rw[if_neg (Ne.symm h0),ih,if_neg (by omega)];omega
theorem gJ {α:Type} [DecidableEq α] (v:α) {l:List α} (h: ∀ i (hi:i < l.length),l[i]≠v):Ql v l= -1:=by
 have h1:=XO v l
 have h2: ¬0≤Ql v l:=fun h'=>by
  obtain⟨i,hi,e⟩:=AZ.1 ((U9 v l).1 h')
  exact h i hi e
 omega
instance w6 (l:List Int) (v:Int) (t:CF):CB Tryz.prog 285 [.slice (l.map eI) t,.raw (.int .i64 v)] (.raw (.int .i64 (Ql v l))):=⟨by
 refine Au Tryz.func285 Tryz.ntmps285 rfl (rs:= [.tmp 4]) rfl rfl fun hb LF=>?_
 have hlen:l.length≤140737488355328:=(hb (.slice (l.map eI) t) (by simp)).slice_map
 refine wf ?_
 refine Ad (σ:=Nat) (fun k=>k≤l.length∧ ∀ i (h:i < l.length),i < k→l[i]≠v) (fun k=>l.length - k) (fun k=> [(0,.slice (l.map eI) t),(1,.raw (.int .i64 v)),(7,.raw (.int .i64 l.length)),(8,.raw (.int .i64 k))]) (fun _=>LF) 0 ⟨by simp,by simp⟩ ⟨rfl,rfl,rfl,rfl⟩ (.refl _) ?_
 rintro k ⟨hk,he⟩
 refine wf ?_
 refine A6 (fun hc=>?_) (fun hc=>?_)
 ·have hlt:k < l.length:=by omega
  refine wf ?_
  refine A6 (fun h=>?_) (fun h=>?_)
  ·refine wf ?_
   refine B2 (.of_eq ?_)
   rw[dz v hlt h.symm he]
  ·refine wf ?_
   refine⟨k+1,⟨by omega,fun i hi hik=>?_⟩,by dsimp only;omega,⟨rfl,rfl,rfl,rfl⟩,.refl _⟩
   rcases B9 i k with h'|h'
   ·exact he i hi h'
   ·have:i=k:=by omega
    subst this;exact fun e=>h e.symm
 ·refine wf ?_
  refine B2 (.of_eq ?_)
  rw[gJ v fun i hi=>he i hi (by omega)]⟩
instance qa (l:List Int) (v:Int) (t:CF):CB Tryz.prog 236 [.slice (l.map eI) t,.raw (.int .i64 v)] (.raw (.bool (decide (v∈l)))):=⟨by
 refine Au Tryz.func236 Tryz.ntmps236 rfl (rs:= [.tmp 4]) rfl rfl fun hb LF=>?_
 refine wf ?_
 refine B2 (.of_eq ?_)
 have:=U9 v l
 simp only[this]⟩
instance zl (l:List Int) (k:Int) (t:CF):CB Tryz.prog 235 [.slice (l.map eI) t,.pt [.raw (.int .i64 k)] 0] (.raw (.bool (decide (k∈l)))):=⟨by
 refine Au Tryz.func235 Tryz.ntmps235 rfl (rs:= [.tmp 3]) rfl rfl fun hb LF=>?_
 refine wf ?_
 exact B2 (.refl _)⟩
def Ml (c:Chg):Bool:=decide (c.kind∈ [1])||decide (c.type=0)
def Mj (c:Chg):Bool:=decide (c.kind∈ [2,3,4,5,6])||decide (c.file=Ident.zero)
def Nt (c:Chg):Bool:=decide (c.kind∈ [2])||(decide (c.parent=Ident.zero)&&decide (c.name= []))
def Pa (c:Chg):Bool:=decide (c.kind∈ [3])||decide (c.mode=0)
def RU (c:Chg):Bool:=decide (c.kind∈ [4])||decide (c.data= [])
def TT (c:Chg):Bool:=decide (c.kind∈ [5,6])||(decide (c.after=Ident.zero)&&decide (c.before=Ident.zero))
def X5 (c:Chg):Bool:=decide (c.kind∈ [5])||decide ((c.lines.length:Int)=0)
def bM (c:Chg):Bool:=decide (c.kind∈ [2,3,4,6,7])||decide ((c.over.length:Int)=0)
def Yj (c:Chg):Bool:=Ml c&&Mj c&&Nt c&&Pa c&&RU c&&TT c&&X5 c&&bM c
instance ya (c:Chg):CB Tryz.prog 194 [.agg (eChg c)] (.raw (.bool (Yj c))):=⟨by
 refine Au Tryz.func194 Tryz.ntmps194 rfl (rs:= [.tmp 2]) rfl rfl fun hb LF=>?_
 refine wz fun b3=>?_
 refine Ao 3 ?_
 refine wz fun b=>?_
 refine DX ?_
 refine CQ (by kernel_rfl) ?_
 refine KP 19 [(28,.raw (.bool (Ml c&&Mj c))),(1,.pt (eChg c) 0),(4,.clo 235 [.pt [.raw (.int .i64 c.kind)] 0]),(5,.raw (.pointer (some ⟨b,0,none⟩)))] (.box b 65 (eIdent Ident.zero)::LF) ?_ ?_
 ·refine wf ?_
  repeat' (first|(refine A6 (fun h=>?_) (fun h=>?_)<;>refine wf ?_)|(refine AY (fun h=>?_) (fun h=>?_)<;>refine wf ?_)|(refine AW (fun h=>?_) (fun h=>?_)<;>refine wf ?_)|(refine Av (fun h=>?_) (fun h=>?_)<;>(have h2:=h;(try simp only[AB,A8,AJ,AL]at h2);refine wf ?_)))
  all_goals (refine⟨⟨CD (by rfl) ?_,rfl,rfl,rfl⟩,.refl _⟩;(simp only[Ml,Mj];first|(simp_all;done)|grind))
 refine KP 16 [(44,.raw (.bool (Ml c&&Mj c&&Nt c))),(1,.pt (eChg c) 0),(4,.clo 235 [.pt [.raw (.int .i64 c.kind)] 0]),(5,.raw (.pointer (some ⟨b,0,none⟩)))] (.box b 65 (eIdent Ident.zero)::LF) ?_ ?_
 ·refine wf ?_
  repeat' (first|(refine A6 (fun h=>?_) (fun h=>?_)<;>refine wf ?_)|(refine AY (fun h=>?_) (fun h=>?_)<;>refine wf ?_)|(refine AW (fun h=>?_) (fun h=>?_)<;>refine wf ?_)|(refine Av (fun h=>?_) (fun h=>?_)<;>(have h2:=h;(try simp only[AB,A8,AJ,AL]at h2);refine wf ?_)))
  all_goals (refine⟨⟨CD (by rfl) ?_,rfl,rfl,rfl⟩,.refl _⟩;(simp only[Nt];first|(simp_all;done)|grind))
 refine KP 10 [(54,.raw (.bool (Ml c&&Mj c&&Nt c&&Pa c))),(1,.pt (eChg c) 0),(4,.clo 235 [.pt [.raw (.int .i64 c.kind)] 0]),(5,.raw (.pointer (some ⟨b,0,none⟩)))] (.box b 65 (eIdent Ident.zero)::LF) ?_ ?_
 ·refine wf ?_
  repeat' (first|(refine A6 (fun h=>?_) (fun h=>?_)<;>refine wf ?_)|(refine AY (fun h=>?_) (fun h=>?_)<;>refine wf ?_)|(refine AW (fun h=>?_) (fun h=>?_)<;>refine wf ?_)|(refine Av (fun h=>?_) (fun h=>?_)<;>(have h2:=h;(try simp only[AB,A8,AJ,AL]at h2);refine wf ?_)))
  all_goals (refine⟨⟨CD (by rfl) ?_,rfl,rfl,rfl⟩,.refl _⟩;(simp only[Pa];first|(simp_all;done)|grind))
 refine KP 10 [(64,.raw (.bool (Ml c&&Mj c&&Nt c&&Pa c&&RU c))),(1,.pt (eChg c) 0),(4,.clo 235 [.pt [.raw (.int .i64 c.kind)] 0]),(5,.raw (.pointer (some ⟨b,0,none⟩)))] (.box b 65 (eIdent Ident.zero)::LF) ?_ ?_
 ·refine wf ?_
  repeat' (first|(refine A6 (fun h=>?_) (fun h=>?_)<;>refine wf ?_)|(refine AY (fun h=>?_) (fun h=>?_)<;>refine wf ?_)|(refine AW (fun h=>?_) (fun h=>?_)<;>refine wf ?_)|(refine Av (fun h=>?_) (fun h=>?_)<;>(have h2:=h;(try simp only[AB,A8,AJ,AL]at h2);refine wf ?_)))
  all_goals (refine⟨⟨CD (by rfl) ?_,rfl,rfl,rfl⟩,.refl _⟩;(simp only[RU];first|(simp_all;done)|grind))
 refine KP 17 [(81,.raw (.bool (Ml c&&Mj c&&Nt c&&Pa c&&RU c&&TT c))),(1,.pt (eChg c) 0),(4,.clo 235 [.pt [.raw (.int .i64 c.kind)] 0]),(5,.raw (.pointer (some ⟨b,0,none⟩)))] (.box b 65 (eIdent Ident.zero)::LF) ?_ ?_
 ·refine wf ?_
  repeat' (first|(refine A6 (fun h=>?_) (fun h=>?_)<;>refine wf ?_)|(refine AY (fun h=>?_) (fun h=>?_)<;>refine wf ?_)|(refine AW (fun h=>?_) (fun h=>?_)<;>refine wf ?_)|(refine Av (fun h=>?_) (fun h=>?_)<;>(have h2:=h;(try simp only[AB,A8,AJ,AL]at h2);refine wf ?_)))
  all_goals (refine⟨⟨CD (by rfl) ?_,rfl,rfl,rfl⟩,.refl _⟩;(simp only[TT];first|(simp_all;done)|grind))
 refine KP 11 [(92,.raw (.bool (Ml c&&Mj c&&Nt c&&Pa c&&RU c&&TT c&&X5 c))),(1,.pt (eChg c) 0),(4,.clo 235 [.pt [.raw (.int .i64 c.kind)] 0]),(5,.raw (.pointer (some ⟨b,0,none⟩)))] (.box b 65 (eIdent Ident.zero)::LF) ?_ ?_
 ·refine wf ?_
  repeat' (first|(refine A6 (fun h=>?_) (fun h=>?_)<;>refine wf ?_)|(refine AY (fun h=>?_) (fun h=>?_)<;>refine wf ?_)|(refine AW (fun h=>?_) (fun h=>?_)<;>refine wf ?_)|(refine Av (fun h=>?_) (fun h=>?_)<;>(have h2:=h;(try simp only[AB,A8,AJ,AL]at h2);refine wf ?_)))
  all_goals (refine⟨⟨CD (by rfl) ?_,rfl,rfl,rfl⟩,.refl _⟩;(simp only[X5];first|(simp_all;done)|grind))
 refine wf ?_
 repeat' (first|(refine A6 (fun h=>?_) (fun h=>?_)<;>refine wf ?_)|(refine AY (fun h=>?_) (fun h=>?_)<;>refine wf ?_)|(refine AW (fun h=>?_) (fun h=>?_)<;>refine wf ?_)|(refine Av (fun h=>?_) (fun h=>?_)<;>(have h2:=h;(try simp only[AB,A8,AJ,AL]at h2);refine wf ?_)))
 all_goals (refine B2 (.of_eq ?_);simp only[Yj,bM];first|(simp_all;done)|grind)⟩
end Go.Proofs
