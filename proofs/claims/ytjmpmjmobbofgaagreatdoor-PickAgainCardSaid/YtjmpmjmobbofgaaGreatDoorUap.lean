/- The small logic: an entry of a map opened and then written (a list in a map that grows). Library, no statement of its own. -/
import Derived.Test.YtjmpmjmobbofgaaGreatDoorUao
import Derived.Test.YtjmpmjmobbofgaaGreatDoorUam
import Derived.Test.YtjmpmjmobbofgaaGreatDoorUan
import Derived.Test.YtjmpmjmobbofgaaGreatDoorUaj
import Derived.Test.YtjmpmjmobbofgaaGreatDoorUal
import Derived.Shelf.SlSortCmp.NoneTotal
import Derived.Shelf.SlGeneric
import Derived.Ground.SlsfProg
import Derived.Test.YtjmpmjmobbofgaaGreatDoorProg
import Derived.Test.YtjmpmjmobbofgaaGreatDoorUag
set_option linter.unusedSimpArgs false
set_option linter.unusedVariables false
namespace Go.Q
open Go
section
variable {P:Program} {N:Nat} {all:Array Oper} {K:Env→List Res→Prop} {fl:List Bool} {os:List Oper} {ρ:Env} {L:List Res} {d:Nat} {ty:TypeId} {pos:String} {af:Array Edge}
variable {κ α:Type} [DecidableEq κ] {ek:κ→PV} {ev:α→PV} {T KT ET:Nat}
end
end Go.Q
namespace Go.Proofs
open Go Go.Q
attribute [local irreducible] pwp pops PCalls OpN
def vTg (x:List Dig × Tag):PV:= .slice (x.1.map eDig) x.2
instance zv_tg:ZV Tryz.prog 24 vTg ([],.nil):=zvof (v:= .slice none 0 0) (by kernel_rfl) fun _=> .nilN none (by simp)
def tokE (x:List Dig × Tag):Res:= .tok x.2 x.1.length 32
end Go.Proofs
namespace Go.Proofs
open Go Go.Q
attribute [local irreducible] pwp pops PCalls OpN
theorem needs_len {s:List Sto} (v:Valid s) {x:Sto} (hx:x∈s):(rNeeds x.patch).length≤40:=by
 have h1:=nodup_len (rNeeds_asc x.patch).nodup (fun d hd=>v.close.2 x hx d hd)
 have:=v.close.1.1
 rw[ids_len]at h1
 omega
end Go.Proofs
namespace Go.Proofs
open Go Go.Q
attribute [local irreducible] pwp pops PCalls OpN
instance supers_ct (k:Int):FnC Tryz.prog 152 [.raw (.int .i64 k)] (.raw (.int .i64 (ovK k))):=⟨by
 refine fn_of Tryz.func152 Tryz.ntmps152 rfl (rs:= [.tmp 2]) rfl rfl fun hb LF=>?_
 refine wf ?_
 repeat' (first|(refine pwp_condD (fun h=>?_) (fun h=>?_)<;>refine wf ?_)|(refine pwp_condN (fun h=>?_) (fun h=>?_)<;>refine wf ?_)|(refine pwp_condB (fun h=>?_) (fun h=>?_)<;>refine wf ?_)|(refine pops_if (fun h=>?_) (fun h=>?_)<;>(have h2:=h;(try simp only[decide_eq_true_eq,decide_eq_false_iff_not,Bool.not_eq_true',Bool.not_eq_false']at h2);refine wf ?_)))
 all_goals (refine end1 (.of_eq ?_);simp only[ovK];first|(simp_all;done)|grind)⟩
def ffP (k:Int) (a:Atm):Bool:=if a.kind≠1 then false else if k=5∨k=6 then decide (a.type=1)else if k=4 then decide (a.type=2∨a.type=3)else true
instance fitsFile_ct (k:Int) (a:Atm):FnC Tryz.prog 149 [.raw (.int .i64 k),.agg (eAtm a)] (.raw (.bool (ffP k a))):=⟨by
 refine fn_of Tryz.func149 Tryz.ntmps149 rfl (rs:= [.tmp 4]) rfl rfl fun hb LF=>?_
 refine wf ?_
 repeat' (first|(refine pwp_condD (fun h=>?_) (fun h=>?_)<;>refine wf ?_)|(refine pwp_condN (fun h=>?_) (fun h=>?_)<;>refine wf ?_)|(refine pwp_condB (fun h=>?_) (fun h=>?_)<;>refine wf ?_)|(refine pops_if (fun h=>?_) (fun h=>?_)<;>(have h2:=h;(try simp only[decide_eq_true_eq,decide_eq_false_iff_not,Bool.not_eq_true',Bool.not_eq_false']at h2);refine wf ?_)))
 all_goals (refine end1 (.of_eq ?_);simp only[ffP];first|(simp_all;done)|grind)⟩
def sf4 (x f g:Ident) (a:Atm):Bool:=decide (x=f)||(decide (a.kind=5)&&decide (a.file=g))
def sf5 (k:Int) (g:Ident) (a:Atm):Bool:=decide (k=0)||(decide (a.kind=k)&&decide (a.file=g))
instance sf2_ct (c:Chg) (a:Atm):FnC Tryz.prog 148 [.agg (eAtm a),.pt (eChg c) 0] (.raw (.bool (ffP c.kind a))):=⟨by
 refine fn_of Tryz.func148 Tryz.ntmps148 rfl (rs:= [.tmp 3]) rfl rfl fun hb LF=>?_
 refine wf ?_
 exact end1 (.refl _)⟩
instance sf3_ct (a:Atm):FnC Tryz.prog 150 [.agg (eAtm a)] (.raw (.bool (pf5 a))):=⟨by
 refine fn_of Tryz.func150 Tryz.ntmps150 rfl (rs:= [.tmp 2]) rfl rfl fun hb LF=>?_
 refine wf ?_
 repeat' (first|(refine pwp_condD (fun h=>?_) (fun h=>?_)<;>refine wf ?_)|(refine pwp_condN (fun h=>?_) (fun h=>?_)<;>refine wf ?_)|(refine pwp_condB (fun h=>?_) (fun h=>?_)<;>refine wf ?_)|(refine pops_if (fun h=>?_) (fun h=>?_)<;>(have h2:=h;(try simp only[decide_eq_true_eq,decide_eq_false_iff_not,Bool.not_eq_true',Bool.not_eq_false']at h2);refine wf ?_)))
 all_goals (refine end1 (.of_eq ?_);simp only[pf5];first|(simp_all;done)|grind)⟩
instance sf4_ct (x g:Ident) (c:Chg) (a:Atm):FnC Tryz.prog 151 [.agg (eAtm a),.pt (eIdent x) 0,.pt (eChg c) 0,.pt (eIdent g) 0] (.raw (.bool (sf4 x c.file g a))):=⟨by
 refine fn_of Tryz.func151 Tryz.ntmps151 rfl (rs:= [.tmp 5]) rfl rfl fun hb LF=>?_
 refine wf ?_
 repeat' (first|(refine pwp_condD (fun h=>?_) (fun h=>?_)<;>refine wf ?_)|(refine pwp_condN (fun h=>?_) (fun h=>?_)<;>refine wf ?_)|(refine pwp_condB (fun h=>?_) (fun h=>?_)<;>refine wf ?_)|(refine pops_if (fun h=>?_) (fun h=>?_)<;>(have h2:=h;(try simp only[decide_eq_true_eq,decide_eq_false_iff_not,Bool.not_eq_true',Bool.not_eq_false']at h2);refine wf ?_)))
 all_goals (refine end1 (.of_eq ?_);simp only[sf4];first|(simp_all;done)|grind)⟩
instance sf5_ct (k:Int) (g:Ident) (a:Atm):FnC Tryz.prog 153 [.agg (eAtm a),.pt [.raw (.int .i64 k)] 0,.pt (eIdent g) 0] (.raw (.bool (sf5 k g a))):=⟨by
 refine fn_of Tryz.func153 Tryz.ntmps153 rfl (rs:= [.tmp 4]) rfl rfl fun hb LF=>?_
 refine wf ?_
 repeat' (first|(refine pwp_condD (fun h=>?_) (fun h=>?_)<;>refine wf ?_)|(refine pwp_condN (fun h=>?_) (fun h=>?_)<;>refine wf ?_)|(refine pwp_condB (fun h=>?_) (fun h=>?_)<;>refine wf ?_)|(refine pops_if (fun h=>?_) (fun h=>?_)<;>(have h2:=h;(try simp only[decide_eq_true_eq,decide_eq_false_iff_not,Bool.not_eq_true',Bool.not_eq_false']at h2);refine wf ?_)))
 all_goals (refine end1 (.of_eq ?_);simp only[sf5];first|(simp_all;done)|grind)⟩
def putR (l:List Rfc) (r:Rfc):List Rfc:=if r.id.patch=Dig.zero then l else l++ [r]
def addS (b:Nat) (l:List Rfc) (t:Tag):List Res:= [.box b 143 [.slice (l.map eRfc) t],.tok t l.length 34]
set_option maxHeartbeats 1000000 in
theorem addS_fn (x:Ident) (f:Nat) (cs:List PV) (b:Nat) (l:List Rfc) (t:Tag) (hl:l.length≤1000000):
  PCalls Tryz.prog 147 [.agg (eIdent x),.clo f cs,.raw (.pointer (some ⟨b,0,none⟩))] (addS b l t) (fun _ L'=> ∃ t',L'=addS b (putR l ⟨x,f,cs⟩) t'):=by
 refine pcalls_bd Tryz.func147 rfl Tryz.ntmps147 (rs:= []) rfl rfl fun hb LF=>?_
 rw[show addS b l t++LF= .box b 143 [.slice (l.map eRfc) t]:: .tok t l.length 34::LF from rfl]
 refine wf ?_
 refine pwp_condN (fun h=>?_) (fun h=>?_)
 ·refine wfa fun t'=>?_
  exact⟨trivial,[],addS b (l++ [⟨x,f,cs⟩]) t',.nil,.refl _,t',by rw[putR,if_neg h]⟩
 ·refine wf ?_
  have h0:x.patch=Dig.zero:=by simpa using h
  exact⟨trivial,[],addS b l t,.nil,.refl _,t,by rw[putR,if_pos h0]⟩
end Go.Proofs
namespace Go.Proofs
open Go Go.Q
attribute [local irreducible] pwp pops PCalls OpN
section
variable {N:Nat} {all:Array Oper} {K:Env→List Res→Prop} {fl:List Bool} {os:List Oper} {ρ:Env} {L:List Res} {Q:PPost} {c:Code} {d:Nat} {ty:TypeId} {pos:String} {af:Array Edge}
theorem j_addS {x x0 x1:Operand} {ats:Array TypeId} {b f:Nat} {l:List Rfc} {t:Tag} {id:Ident} {cs:List PV} {a1:PV} {LF:List Res}
  (qx:ρ.ev x= .clo 147 [.raw (.pointer (some ⟨b,0,none⟩))]) (q0:ρ.ev x0= .agg (eIdent id)) (q1:ρ.ev x1=a1) [h1:IsClo a1 f cs] (hl:l.length≤1000000)
  (k: ∀ t' u,pops Tryz.prog N all K fl.tail os (upd ρ d u) (.box b 143 [.slice ((putR l (Rfc.mk id f cs)).map eRfc) t']:: .tok t' (putR l (Rfc.mk id f cs)).length 34::LF)) (hd:Nat.blt d N=true:=by rfl) (hfl:fl.headD true=true:=by rfl):
  pops Tryz.prog N all K fl (⟨some d,.call { callee:= .value x,args:= #[x0,x1],argTypes:=ats },ty,pos,af,none⟩::os) ρ (.box b 143 [.slice (l.map eRfc) t]:: .tok t l.length 34::LF):=
 s_callR (xs:= [x0,x1]) (addS b l t) LF (.of_eq qx) rfl rfl (.refl _) (fun _ L'=> ∃ t',L'=addS b (putR l ⟨id,f,cs⟩) t')
  (PCalls.args (bs:= [.agg (eIdent id),.clo f cs,.raw (.pointer (some ⟨b,0,none⟩))]) rfl (fun i g1 g2=>by
   match i,g1,g2 with
   |0,_,_=>exact .of_eq q0
   |1,_,_=>show Le (ρ.ev x1) _;rw[q1];exact h1.out
   |2,_,_=>exact .refl _
   |m+3,g1,_=>exact absurd g1 (by simp)) (addS_fn id f cs b l t hl)) (fun r L' ⟨t',e⟩=>by subst e;exact k t' r) hd hfl
end
theorem putR_len (l:List Rfc) (r:Rfc):(putR l r).length≤l.length+1:=by unfold putR;split<;>simp
def fileS (id:Dig) (c:Chg):Ident:=if c.file.patch=Dig.zero then { c.file with patch:=id }else c.file
def rs1 (c:Chg):List Rfc:=if c.kind≠1∧c.kind≠7 then putR [] ⟨c.file,148,[.pt (eChg c) 0]⟩else []
def rs2 (c:Chg) (l:List Rfc):List Rfc:=if c.kind=2 then putR l ⟨c.parent,150,[]⟩else l
def end1R (g:Ident) (c:Chg) (x:Ident):Rfc:=⟨x,151,[.pt (eIdent x) 0,.pt (eChg c) 0,.pt (eIdent g) 0]⟩
def rs3 (g:Ident) (c:Chg) (l:List Rfc):List Rfc:=if c.kind=5∨c.kind=6 then [c.after,c.before].foldl (fun l x=>putR l (end1R g c x)) l else l
def over1R (g:Ident) (c:Chg) (x:Ident):Rfc:=⟨x,153,[.pt [.raw (.int .i64 (ovK c.kind))] 0,.pt (eIdent g) 0]⟩
def rs4 (g:Ident) (c:Chg) (l:List Rfc) (o:List Ident):List Rfc:=o.foldl (fun l x=>putR l (over1R g c x)) l
def refsS (id:Dig) (c:Chg):List Rfc:=rs4 (fileS id c) c (rs3 (fileS id c) c (rs2 c (rs1 c))) c.over
theorem foldR_len' {α:Type} (f:α→Rfc): ∀ (o:List α) (l:List Rfc),(o.foldl (fun l x=>putR l (f x)) l).length≤l.length+o.length
 | [],l=>by simp
 |x::o,l=>by
  have:=foldR_len' f o (putR l (f x))
  have:=putR_len l (f x)
  simp only[List.foldl_cons,List.length_cons]
  omega
theorem rs1_len (c:Chg):(rs1 c).length≤1:=by
 unfold rs1;split
 ·exact putR_len _ _
 ·simp
theorem rs2_len (c:Chg) (l:List Rfc):(rs2 c l).length≤l.length+1:=by
 unfold rs2;split
 ·exact putR_len _ _
 ·omega
theorem rs3_len (g:Ident) (c:Chg) (l:List Rfc):(rs3 g c l).length≤l.length+2:=by
 unfold rs3;split
 ·exact foldR_len' _ _ _
 ·omega
set_option maxHeartbeats 4000000 in
instance referencesS_ct (id:Dig) (c:Chg) [hs:Small (c.over.length≤400)]:FnC Tryz.prog 114 [.agg (eDig id),.agg (eChg c)] (.slice ((refsS id c).map eRfc) .ro):=⟨by
 have hover:=hs.out
 have r1:=rs1_len c
 have r2:=rs2_len c (rs1 c)
 have r3:=rs3_len (fileS id c) c (rs2 c (rs1 c))
 refine fn_of Tryz.func114 Tryz.ntmps114 rfl (rs:= [.tmp 4]) rfl rfl fun hb LF=>?_
 refine wf ?_
 refine s_alloc fun b5=>?_
 refine wf ?_
 refine pwp_join True [(2,.pt (eDig id) 0),(3,.pt (eChg c) 0),(5,.raw (.pointer (some ⟨b5,0,none⟩)))] (.box b5 73 (eIdent (fileS id c))::LF) ?_ fun _=>?_
 ·refine pwp_condD (fun h=>?_) (fun h=>?_)
  ·refine wf ?_
   rw[fileS,if_pos h]
   exact⟨trivial,⟨rfl,rfl,rfl⟩,.refl _⟩
  ·refine wf ?_
   rw[fileS,if_neg h]
   exact⟨trivial,⟨rfl,rfl,rfl⟩,.refl _⟩
 generalize hg:fileS id c=g at r3 ⊢
 refine pwp_freezeD 5 ?_
 refine wf ?_
 refine s_alloc fun b6=>?_
 refine wo ?_
 refine pops_nil ?_
 refine pwp_tok 34 ?_
 refine pwp_perm (.swap _ _ _) ?_
 refine ws ?_
 refine pops_cutE [(29,.raw (.bool (decide (c.kind≠1∧c.kind≠7)))),(3,.pt (eChg c) 0),(5,.pt (eIdent g) 0),(6,.raw (.pointer (some ⟨b6,0,none⟩))),(7,.clo 147 [.raw (.pointer (some ⟨b6,0,none⟩))])] (.box b6 143 [.slice [] .nil]:: .tok .nil 0 34::LF) ?_ ?_
 ·repeat' (first|(refine pwp_condD (fun h=>?_) (fun h=>?_)<;>refine wf ?_)|(refine pwp_condN (fun h=>?_) (fun h=>?_)<;>refine wf ?_)|(refine pwp_condB (fun h=>?_) (fun h=>?_)<;>refine wf ?_)|(refine pops_if (fun h=>?_) (fun h=>?_)<;>(have h2:=h;(try simp only[decide_eq_true_eq,decide_eq_false_iff_not,Bool.not_eq_true',Bool.not_eq_false']at h2);refine wf ?_)))
  all_goals (refine⟨⟨holdsB (by rfl) ?_,rfl,rfl,rfl,rfl⟩,.refl _⟩;first|(simp_all;done)|grind)
 refine pwp_joinG (σ:=List Rfc × Tag) (fun s=>s.1=rs1 c) (fun s=> [(3,.pt (eChg c) 0),(5,.pt (eIdent g) 0),(6,.raw (.pointer (some ⟨b6,0,none⟩))),(7,.clo 147 [.raw (.pointer (some ⟨b6,0,none⟩))])]) (fun s=> .box b6 143 [.slice (s.1.map eRfc) s.2]:: .tok s.2 s.1.length 34::LF) ?_ ?_
 ·refine pwp_condD (fun h=>?_) (fun h=>?_)
  ·refine wf ?_
   refine j_addS (l:= []) rfl rfl (by(conv=>lhs;whnf);done) (h1:=(by first|infer_instance|fail)) (by simp) fun t' u=>?_
   refine wf ?_
   exact⟨(putR [] ⟨c.file,148,[.pt (eChg c) 0]⟩,t'),by rw[rs1,if_pos h],⟨rfl,rfl,rfl,rfl⟩,.refl _⟩
  ·refine wf ?_
   exact⟨([],.nil),by rw[rs1,if_neg h],⟨rfl,rfl,rfl,rfl⟩,.refl _⟩
 rintro⟨l1,t1⟩ hl1
 dsimp only at hl1 ⊢
 have k1:l1.length≤1:=by rw[hl1];exact r1
 rw[←hl1]at r2 r3
 refine wf ?_
 refine pwp_joinG (σ:=List Rfc × Tag) (fun s=>s.1=rs2 c l1) (fun s=> [(3,.pt (eChg c) 0),(5,.pt (eIdent g) 0),(6,.raw (.pointer (some ⟨b6,0,none⟩))),(7,.clo 147 [.raw (.pointer (some ⟨b6,0,none⟩))])]) (fun s=> .box b6 143 [.slice (s.1.map eRfc) s.2]:: .tok s.2 s.1.length 34::LF) ?_ ?_
 ·refine pwp_condD (fun h=>?_) (fun h=>?_)
  ·refine wf ?_
   refine j_addS rfl rfl (by(conv=>lhs;whnf);done) (h1:=(by first|infer_instance|fail)) (by omega) fun t' u=>?_
   refine wf ?_
   exact⟨(putR l1 ⟨c.parent,150,[]⟩,t'),by rw[rs2,if_pos h],⟨rfl,rfl,rfl,rfl⟩,.refl _⟩
  ·refine wf ?_
   exact⟨(l1,t1),by rw[rs2,if_neg h],⟨rfl,rfl,rfl,rfl⟩,.refl _⟩
 rintro⟨l2,t2⟩ hl2
 dsimp only at hl2 ⊢
 rw[←hl2]at r2 r3
 refine ws ?_
 refine pops_cutE [(49,.raw (.bool (decide (c.kind=5∨c.kind=6)))),(3,.pt (eChg c) 0),(5,.pt (eIdent g) 0),(6,.raw (.pointer (some ⟨b6,0,none⟩))),(7,.clo 147 [.raw (.pointer (some ⟨b6,0,none⟩))])] (.box b6 143 [.slice (l2.map eRfc) t2]:: .tok t2 l2.length 34::LF) ?_ ?_
 ·repeat' (first|(refine pwp_condD (fun h=>?_) (fun h=>?_)<;>refine wf ?_)|(refine pwp_condN (fun h=>?_) (fun h=>?_)<;>refine wf ?_)|(refine pwp_condB (fun h=>?_) (fun h=>?_)<;>refine wf ?_)|(refine pops_if (fun h=>?_) (fun h=>?_)<;>(have h2:=h;(try simp only[decide_eq_true_eq,decide_eq_false_iff_not,Bool.not_eq_true',Bool.not_eq_false']at h2);refine wf ?_)))
  all_goals (refine⟨⟨holdsB (by rfl) ?_,rfl,rfl,rfl,rfl⟩,.refl _⟩;first|(simp_all;done)|grind)
 refine pwp_joinG (σ:=List Rfc × Tag) (fun s=>s.1=rs3 g c l2) (fun s=> [(3,.pt (eChg c) 0),(5,.pt (eIdent g) 0),(6,.raw (.pointer (some ⟨b6,0,none⟩))),(7,.clo 147 [.raw (.pointer (some ⟨b6,0,none⟩))])]) (fun s=> .box b6 143 [.slice (s.1.map eRfc) s.2]:: .tok s.2 s.1.length 34::LF) ?_ ?_
 ·refine pwp_condD (fun h=>?_) (fun h=>?_)
  ·refine wf ?_
   refine pwp_loopS (σ:=Nat × List Rfc × Tag) (fun k=>k.1≤2∧k.2.1=([c.after,c.before].take k.1).foldl (fun l x=>putR l (end1R g c x)) l2) (fun k=>2 - k.1) (fun k=> [(3,.pt (eChg c) 0),(5,.pt (eIdent g) 0),(6,.raw (.pointer (some ⟨b6,0,none⟩))),(7,.clo 147 [.raw (.pointer (some ⟨b6,0,none⟩))]),(54,.slice ([c.after,c.before].map eIdent) .ro),(55,.raw (.int .i64 2)),(56,.raw (.int .i64 k.1))]) (fun k=> .box b6 143 [.slice (k.2.1.map eRfc) k.2.2]:: .tok k.2.2 k.2.1.length 34::LF) (0,l2,t2) ⟨by simp,rfl⟩ ⟨rfl,rfl,rfl,rfl,rfl,rfl,rfl⟩ (.refl _) ?_
   rintro⟨k,m,t3⟩ ⟨hk,hm⟩
   dsimp only at hk hm ⊢
   have hml:m.length≤10:=by
    have:=foldR_len' (end1R g c) ([c.after,c.before].take k) l2
    rw[←hm,List.length_take]at this
    simp only[List.length_cons,List.length_nil]at this
    omega
   refine wf ?_
   refine pwp_condD (fun hc=>?_) (fun hc=>?_)
   ·have hlt:k < [c.after,c.before].length:=by simp only[List.length_cons,List.length_nil];omega
    refine wz fun b9=>?_
    refine pwp_freezeD 9 ?_
    refine wf ?_
    refine j_addS rfl rfl (by(conv=>lhs;whnf);done) (h1:=(by first|infer_instance|fail)) (by omega) fun t' u=>?_
    refine wf ?_
    refine⟨(k+1,putR m (end1R g c [c.after,c.before][k]),t'),⟨by dsimp only;omega,?_⟩,by dsimp only;omega,⟨rfl,rfl,rfl,rfl,rfl,rfl,rfl⟩,.refl _⟩
    dsimp only
    rw[List.take_succ_eq_append_getElem hlt,List.foldl_append,←hm];rfl
   ·rw[List.take_of_length_le (by simp only[List.length_cons,List.length_nil];omega)]at hm
    refine wf ?_
    exact⟨(m,t3),by rw[rs3,if_pos h];exact hm,⟨rfl,rfl,rfl,rfl⟩,.refl _⟩
  ·refine wf ?_
   exact⟨(l2,t2),by rw[rs3,if_neg h],⟨rfl,rfl,rfl,rfl⟩,.refl _⟩
 rintro⟨l3,t3⟩ hl3
 dsimp only at hl3 ⊢
 rw[←hl3]at r3
 refine wf ?_
 refine s_alloc fun b10=>?_
 refine wo ?_
 refine pops_nil ?_
 refine pwp_freezeD 10 ?_
 refine wf ?_
 refine pwp_loopS (σ:=Nat × List Rfc × Tag) (fun k=>k.1≤c.over.length∧k.2.1=rs4 g c l3 (c.over.take k.1)) (fun k=>c.over.length - k.1) (fun k=> [(5,.pt (eIdent g) 0),(6,.raw (.pointer (some ⟨b6,0,none⟩))),(7,.clo 147 [.raw (.pointer (some ⟨b6,0,none⟩))]),(10,.pt [.raw (.int .i64 (ovK c.kind))] 0),(69,.slice (c.over.map eIdent) .ro),(70,.raw (.int .i64 c.over.length)),(71,.raw (.int .i64 k.1))]) (fun k=> .box b6 143 [.slice (k.2.1.map eRfc) k.2.2]:: .tok k.2.2 k.2.1.length 34::LF) (0,l3,t3) ⟨by simp,rfl⟩ ⟨rfl,rfl,rfl,rfl,rfl,rfl,rfl⟩ (.refl _) ?_
 rintro⟨k,m,t4⟩ ⟨hk,hm⟩
 dsimp only at hk hm ⊢
 have hml:m.length≤1000:=by
  have:=foldR_len' (over1R g c) (c.over.take k) l3
  rw[List.length_take]at this
  have e:m.length=((c.over.take k).foldl (fun l x=>putR l (over1R g c x)) l3).length:=by rw[hm];rfl
  omega
 refine wf ?_
 refine pwp_condD (fun hc=>?_) (fun hc=>?_)
 ·have hlt:k < c.over.length:=by omega
  refine wz fun b12=>?_
  refine pwp_freezeD 12 ?_
  refine wf ?_
  refine j_addS rfl rfl (by(conv=>lhs;whnf);done) (h1:=(by first|infer_instance|fail)) (by omega) fun t' u=>?_
  refine wf ?_
  refine⟨(k+1,putR m (over1R g c c.over[k]),t'),⟨by dsimp only;omega,?_⟩,by dsimp only;omega,⟨rfl,rfl,rfl,rfl,rfl,rfl,rfl⟩,.refl _⟩
  dsimp only
  rw[List.take_succ_eq_append_getElem hlt,rs4,List.foldl_append,hm];rfl
 ·rw[List.take_of_length_le (by omega)]at hm
  refine wf ?_
  refine end1 (.ros ?_)
  rw[hm,refsS,hg,←hl1,←hl2,←hl3]⟩
end Go.Proofs
namespace Go.Proofs
open Go Go.Q
attribute [local irreducible] pwp pops PCalls OpN
instance trw_Atm:TRw Tryz.prog 120 130 172 296:=⟨by
 have h2:(Tryz.prog.info? 130).map (fun i=>(i.size,i.bytes,i.zero.isSome,(i.zero.getD undef).cells.size))=some (172,296,true,172):=by kernel_rfl
 obtain⟨i,hi,e⟩:=Option.map_eq_some_iff.1 h2
 simp only[Prod.mk.injEq]at e
 obtain⟨e1,e2,e3,e4⟩:=e
 obtain⟨z,hz⟩:=Option.isSome_iff_exists.1 e3
 rw[hz]at e4
 exact⟨i,z,by kernel_rfl,hi,e1,e2,hz,e4,by decide,by decide⟩⟩
def bxA (b:Nat) (v:Value) (R LF:List Res):List Res:= .box b 120 [.raw v]::(R++LF)
set_option maxHeartbeats 2000000 in
theorem examineB_fn (p:Pat) (hs:rBig p=false):PCalls Tryz.prog 88 [.agg (ePat p)] [] (fun r L'=> ∃ x y,r= .tuple [x,y,.raw (.int .i64 (rEx p).2.2)]∧(((rEx p).2.2≠0∧L'= [])∨((rEx p).2.2=0∧ ∃ v,x= .raw v∧RowB 130 172 v ((rEx p).1.map eAtm) L'∧(rEx p).1.length≤100000))):=by
 obtain⟨hg1,hg2,hg3,hg4,hg5⟩:=big_facts hs
 refine pcalls_bd Tryz.func88 rfl Tryz.ntmps88 (rs:= [.tmp 2,.tmp 3,.tmp 4]) rfl rfl fun hb LF=>?_
 have zr:ZeroE Tryz.prog 120 [.raw (.slice none 0 0)]:=zero1 (v:= .slice none 0 0) (by kernel_rfl) rfl fun _=> .raw _
 refine wf ?_
 refine pwp_condN (fun h1=>?_) (fun h1=>?_)
 ·refine wf ?_
  have e:rCheckP p=([],rHead p):=by rw[checkP_head,if_pos h1]
  have e2:rEx p=([],[],rHead p):=by rw[rEx,e,if_pos h1]
  rw[e2]
  exact⟨trivial,_,[],.cons (.tmp 2) (.cons (.tmp 3) (.cons (.tmp 4) .nil)),.refl _,_,_,rfl,.inl ⟨h1,rfl⟩⟩
 have hH:=rCheckP_ok h1
 refine wf ?_
 refine s_alloc (hZ:=zr) fun b6=>?_
 refine wf ?_
 refine pwp_loopS (σ:=Nat × Value × List Res × List Atm) (fun k=>k.1≤p.changes.length∧RowB 130 172 k.2.1 (k.2.2.2.map eAtm) k.2.2.1∧k.2.2.2.length≤k.1*81∧idsOk k.2.2.2∧(∀ c∈p.changes.take k.1,1≤c.kind∧c.kind≤7)∧rCheckP p=rChanges (p.changes.drop k.1) k.2.2.2) (fun k=>p.changes.length - k.1) (fun k=> [(1,.pt (ePat p) 0),(6,.raw (.pointer (some ⟨b6,0,none⟩))),(20,.slice (p.changes.map eChg) .ro),(21,.raw (.int .i64 p.changes.length)),(22,.raw (.int .i64 k.1))]) (fun k=>bxA b6 k.2.1 k.2.2.1 LF) (0,.slice none 0 0,[],[]) ⟨by simp,.nil none (by simp),by simp,fun i h=>absurd h (by simp),by simp,hH⟩ ⟨rfl,rfl,rfl,rfl,rfl⟩ (.refl _) ?_
 rintro⟨k,v,R,own⟩ ⟨hk,hrow,hlen,hid,hkd,he⟩
 dsimp only at hk hrow hlen hid hkd he
 rw[show bxA b6 (k,v,R,own).2.1 (k,v,R,own).2.2.1 LF= .box b6 120 [.raw v]::(R++LF) from rfl]
 refine wf ?_
 refine pwp_condD (fun hc=>?_) (fun hc=>?_)
 ·have hlt:k < p.changes.length:=by omega
  rw[rChanges_step hlt]at he
  refine wz fun b8=>?_
  refine pwp_freezeD 8 ?_
  refine wf ?_
  refine pwp_condN (fun h2=>?_) (fun h2=>?_)
  ·refine wf ?_
   rw[if_pos h2]at he
   have e2:rEx p=([],[],rFields p.changes[k]):=by rw[rEx,he,if_pos h2]
   rw[e2]
   exact⟨trivial,_,[],.cons (.tmp 2) (.cons (.tmp 3) (.cons (.tmp 4) .nil)),.cons _ (List.sublist_append_right R LF),_,_,rfl,.inl ⟨h2,rfl⟩⟩
  rw[if_neg (by simp[h2])]at he
  have hll:p.changes[k].lines.length≤2000:=rFields_lines h2
  have hkk:1≤p.changes[k].kind∧p.changes[k].kind≤7:=rFields_kind h2
  have hmm:=rMade_len p.changes[k] own.length
  have hl40:=(hg5 _ (List.getElem_mem hlt)).lines
  have i1:Small (rFields p.changes[k]=0∧own.length≤100000∧idsOk own):=⟨h2,by omega,hid⟩
  have hmx:(own.map eAtm).length≤maxN∧(own.map eAtm).length*172≤maxN:=by
   have:maxN=140737488355328:=rfl
   rw[List.length_map];omega
  refine wf ?_
  refine s_callR (xs:= [.tmp 31,.tmp 32]) R (.box b6 120 [.raw v]::LF) (f:=124) (cs:= []) (le_func _) rfl rfl List.perm_middle.symm _ (hrow.lend [.agg (eChg p.changes[k])] [] hmx (inferInstance:FnC Tryz.prog 124 [.agg (eChg p.changes[k]),.slice (own.map eAtm) .ro] (.raw (.int .i64 (rRefs p.changes[k] own)))).out) fun r L' ⟨e1,e2⟩=>?_
  subst e1
  rw[e2]
  refine wf ?_
  refine wf ?_
  refine pwp_perm List.perm_middle ?_
  refine pwp_condN (fun h3=>?_) (fun h3=>?_)
  ·refine wf ?_
   rw[if_pos h3]at he
   have e2:rEx p=([],[],rRefs p.changes[k] own):=by rw[rEx,he,if_pos h3]
   rw[e2]
   exact⟨trivial,_,[],.cons (.tmp 2) (.cons (.tmp 3) (.cons (.tmp 4) .nil)),.cons _ (List.sublist_append_right R LF),_,_,rfl,.inl ⟨h3,rfl⟩⟩
  rw[if_neg (by simp[h3])]at he
  have hrow':=hrow
  obtain⟨⟨o,cc,ev⟩,_⟩:=hrow.slice
  rw[List.length_map]at ev
  subst ev
  refine wf ?_
  refine s_lenR rfl ?_
  refine wf ?_
  refine pwp_rangeFunc (made_iter p.changes[k] own.length hkk ⟨hll,by omega,by omega⟩) [41] (σ:=Value × List Res × List Atm) (fun pre s=>RowB 130 172 s.1 (s.2.2.map eAtm) s.2.1∧s.2.2=own++pre) (fun _ _=>False) (fun s LF'=>bxA b6 s.1 s.2.1 LF') (.slice o own.length cc,R,own) LF ?_ rfl (fun _=>rfl) (by simp) (fun _ _=>by simp[bxA]) (.refl _) ⟨hrow',by simp⟩ ?_ ?_ (fun _ _ h=>h.elim)
  ·exact .refl _
  ·rintro pre x ⟨v1,R1,own1⟩ LF' hpre ⟨hr1,hI⟩
   dsimp only at hr1 hI
   have hpl:=hpre.length_le
   have hol:own1.length≤90000:=by
    rw[hI,List.length_append]
    rw[List.length_append,List.length_singleton]at hpl
    omega
   rw[show bxA b6 (v1,R1,own1).1 (v1,R1,own1).2.1 LF'= .box b6 120 [.raw v1]::(R1++LF') from rfl]
   refine wz fun b11=>?_
   refine pwp_freezeD 11 ?_
   refine wf ?_
   refine s_appB (f:=eAtm) (m:= [x]) (R:=R1) (LF:= .box b6 120 [.raw v1]::LF') (fun R'=> .box b6 120 [.raw v1]::(R'++LF')) rfl rfl hr1 List.perm_middle.symm (fun R'=>List.perm_middle) (by simp only[List.length_map,List.length_cons,List.length_nil];omega) (by simp only[List.length_map,List.length_cons,List.length_nil];omega) fun v2 R2 hr2=>?_
   have h1c:v2.oneCell'=true:=by
    obtain⟨⟨o2,c2,e2⟩,_⟩:=hr2.slice
    rw[e2];rfl
   refine s_storeV [.raw v2] rfl rfl h1c rfl (by simp) ?_
   refine wf ?_
   exact⟨(v2,R2,own1++ [x]),⟨by dsimp only;rw[List.map_append];exact hr2,by dsimp only;rw[hI,List.append_assoc]⟩,.refl _⟩
  ·rintro⟨v1,R1,own1⟩ ⟨hr1,hI⟩
   dsimp only at hr1 hI
   refine wf ?_
   refine⟨(k+1,v1,R1,own1),⟨by dsimp only;omega,hr1,?_,?_,?_,?_⟩,by dsimp only;omega,⟨rfl,rfl,rfl,rfl,rfl⟩,.refl _⟩
   ·dsimp only
    rw[hI,List.length_append];omega
   ·dsimp only
    rw[hI];exact idsOk_made _ hid
   ·dsimp only
    intro c hcm
    rw[List.take_succ_eq_append_getElem hlt]at hcm
    rcases List.mem_append.1 hcm with h|h
    ·exact hkd c h
    ·rw[List.mem_singleton.1 h];exact hkk
   ·dsimp only
    rw[hI];exact he
 have hkk:k=p.changes.length:=by omega
 rw[List.drop_eq_nil_of_le (by omega)]at he
 rw[List.take_of_length_le (by omega)]at hkd
 have he':rCheckP p=(own,0):=he
 have i1:Small (encOkP p):=⟨⟨encOk_of hs,rDeps_nz (rHead_deps h1),hkd⟩⟩
 refine wf ?_
 have h0: ¬(rCheckP p).2≠0:=by rw[he'];simp
 refine pwp_condD (fun h=>?_) (fun h=>?_)
 ·refine wf ?_
  have e2:rEx p=([],[],4):=by rw[rEx,if_neg h0,if_pos h]
  rw[e2]
  exact⟨trivial,_,[],.cons (.tmp 2) (.cons (.tmp 3) (.cons (.tmp 4) .nil)),.cons _ (List.sublist_append_right R LF),_,_,rfl,.inl ⟨by decide,rfl⟩⟩
 ·refine wf ?_
  have e2:rEx p=(own,rEnc p,0):=by rw[rEx,if_neg h0,if_neg h,he']
  rw[e2]
  exact⟨trivial,_,R,.cons (.tmp 2) (.cons (.tmp 3) (.cons (.tmp 4) .nil)),.cons _ (.refl _),_,_,rfl,.inr ⟨rfl,_,rfl,hrow,by dsimp only;omega⟩⟩
end Go.Proofs
namespace Go.Proofs
open Go.Shelf
def Tryz.sortI_ren:Go.Shelf.Ren:=⟨fun|6=>239|15=>108|14=>260|28=>141|29=>142|20=>274|21=>275|22=>276|23=>277|24=>278|25=>279|26=>280|27=>281|46=>287|47=>188|48=>189|49=>288|50=>289|57=>295|n=>n,fun|22=>75|24=>73|25=>191|3=>3|39=>135|0=>0|53=>171|55=>173|4=>4|46=>165|45=>164|50=>117|5=>5|9=>9|66=>209|70=>213|76=>247|77=>248|n=>n,fun|n=>n⟩
theorem Tryz.sortI:Go.Proofs.SlLaysF0.n6 Tryz.prog Tryz.sortI_ren:={
 mixed:=by kernel_rfl
 f6:=⟨Tryz.f239.name,by decide,Tryz.func239.trans (congrArg some (by kernel_rfl))⟩
 f14:=⟨Tryz.f260.name,by decide,Tryz.func260.trans (congrArg some (by kernel_rfl))⟩
 f15:=Tryz.func108.trans (congrArg some (by kernel_rfl))
 f20:=⟨Tryz.f274.name,by decide,Tryz.func274.trans (congrArg some (by kernel_rfl))⟩
 f21:=⟨Tryz.f275.name,by decide,Tryz.func275.trans (congrArg some (by kernel_rfl))⟩
 f22:=⟨Tryz.f276.name,by decide,Tryz.func276.trans (congrArg some (by kernel_rfl))⟩
 f23:=⟨Tryz.f277.name,by decide,Tryz.func277.trans (congrArg some (by kernel_rfl))⟩
 f24:=⟨Tryz.f278.name,by decide,Tryz.func278.trans (congrArg some (by kernel_rfl))⟩
 f25:=⟨Tryz.f279.name,by decide,Tryz.func279.trans (congrArg some (by kernel_rfl))⟩
 f26:=⟨Tryz.f280.name,by decide,Tryz.func280.trans (congrArg some (by kernel_rfl))⟩
 f27:=⟨Tryz.f281.name,by decide,Tryz.func281.trans (congrArg some (by kernel_rfl))⟩
 f28:=Tryz.func141.trans (congrArg some (by kernel_rfl))
 f29:=Tryz.func142.trans (congrArg some (by kernel_rfl))
 f46:=⟨Tryz.f287.name,by decide,Tryz.func287.trans (congrArg some (by kernel_rfl))⟩
 f47:=Tryz.func188.trans (congrArg some (by kernel_rfl))
 f48:=Tryz.func189.trans (congrArg some (by kernel_rfl))
 f49:=⟨Tryz.f288.name,by decide,Tryz.func288.trans (congrArg some (by kernel_rfl))⟩
 f50:=⟨Tryz.f289.name,by decide,Tryz.func289.trans (congrArg some (by kernel_rfl))⟩
 f57:=⟨Tryz.f295.name,by decide,Tryz.func295.trans (congrArg some (by kernel_rfl))⟩
 t0:=Tryz.underlying0
 a0:=Tryz.isAgg0
 z0:=Tryz.sizeOf0
 v0:=Tryz.zeroValue0
 t3:=Tryz.underlying3
 a3:=Tryz.isAgg3
 z3:=Tryz.sizeOf3
 v3:=Tryz.zeroValue3
 t4:=Tryz.underlying4
 a4:=Tryz.isAgg4
 z4:=Tryz.sizeOf4
 v4:=Tryz.zeroValue4
 t5:=Tryz.underlying5
 a5:=Tryz.isAgg5
 z5:=Tryz.sizeOf5
 v5:=Tryz.zeroValue5
 t9:=Tryz.underlying9
 a9:=Tryz.isAgg9
 z9:=Tryz.sizeOf9
 v9:=Tryz.zeroValue9
 t22:=Tryz.underlying75
 a22:=Tryz.isAgg75
 z22:=Tryz.sizeOf75
 v22:=Tryz.zeroValue75
 t25:=Tryz.underlying191
 a25:=Tryz.isAgg191
 z25:=Tryz.sizeOf191
 v25:=Tryz.zeroValue191
 t39:=Tryz.underlying135
 a39:=Tryz.isAgg135
 z39:=Tryz.sizeOf135
 v39:=Tryz.zeroValue135
 t45:=Tryz.underlying164
 a45:=Tryz.isAgg164
 z45:=Tryz.sizeOf164
 v45:=Tryz.zeroValue164
 t46:=Tryz.underlying165
 a46:=Tryz.isAgg165
 z46:=Tryz.sizeOf165
 v46:=Tryz.zeroValue165
 t50:=Tryz.underlying117
 a50:=Tryz.isAgg117
 z50:=Tryz.sizeOf117
 v50:=Tryz.zeroValue117
 t53:=Tryz.underlying171
 a53:=Tryz.isAgg171
 z53:=Tryz.sizeOf171
 v53:=Tryz.zeroValue171
 t55:=Tryz.underlying173
 a55:=Tryz.isAgg173
 z55:=Tryz.sizeOf173
 v55:=Tryz.zeroValue173
 t66:=Tryz.underlying209
 a66:=Tryz.isAgg209
 z66:=Tryz.sizeOf209
 v66:=Tryz.zeroValue209
 t70:=Tryz.underlying213
 a70:=Tryz.isAgg213
 z70:=Tryz.sizeOf213
 v70:=Tryz.zeroValue213
 t76:=Tryz.underlying247
 a76:=Tryz.isAgg247
 z76:=Tryz.sizeOf247
 v76:=Tryz.zeroValue247
 t77:=Tryz.underlying248
 a77:=Tryz.isAgg248
 z77:=Tryz.sizeOf248
 v77:=Tryz.zeroValue248 }
end Go.Proofs
namespace Go.Proofs
open Go Go.Q Go.Shelf Go.Sort
attribute [local irreducible] pwp pops OpN
instance inh_Id:Inhabited Ident:=⟨Ident.zero⟩
def vIdn (x:Ident):List Value:=bcs x.patch.bs++ [.int .i64 x.n]
theorem vIdn_len (x:Ident):(vIdn x).length=33:=by
 have:=vDig_len x.patch
 unfold vDig at this
 simp[vIdn,this]
instance rawE_Id:RawE eIdent vIdn:=⟨fun x=>by
 have:=(inferInstance:RawE eDig vDig).out x.patch
 unfold vDig at this
 rw[eIdent,this,vIdn,List.map_append];rfl,fun x v hv=>by
 rcases List.mem_append.1 hv with h|h
 ·exact(inferInstance:RawE eDig vDig).one x.patch v h
 ·rw[List.mem_singleton.1 h];rfl⟩
instance trw_Id:TRw Tryz.prog 75 73 33 40:=⟨by
 have h2:(Tryz.prog.info? 73).map (fun i=>(i.size,i.bytes,i.zero.isSome,(i.zero.getD undef).cells.size))=some (33,40,true,33):=by kernel_rfl
 obtain⟨i,hi,e⟩:=Option.map_eq_some_iff.1 h2
 simp only[Prod.mk.injEq]at e
 obtain⟨e1,e2,e3,e4⟩:=e
 obtain⟨z,hz⟩:=Option.isSome_iff_exists.1 e3
 rw[hz]at e4
 exact⟨i,z,by kernel_rfl,hi,e1,e2,hz,e4,by decide,by decide⟩⟩
theorem cmpI_neg {a b:Ident}:cmpI a b < 0↔Dig.lt a.patch b.patch∨(a.patch=b.patch∧a.n < b.n):=by
 unfold cmpI
 by_cases h:cmpD a.patch b.patch=0
 ·have e:=cmpD_zero.1 h
  rw[if_neg (by simp[h])]
  constructor
  ·intro h2
   refine .inr ⟨e,?_⟩
   split at h2
   ·assumption
   ·split at h2<;>omega
  ·rintro(h2|⟨_,h2⟩)
   ·rw[e]at h2;exact absurd h2 (Dig.lt_irrefl _)
   ·rw[if_pos h2];omega
 ·rw[if_pos h]
  constructor
  ·exact fun h2=> .inl h2
  ·rintro(h2|⟨e,_⟩)
   ·exact h2
   ·exact absurd (cmpD_zero.2 e) h
theorem Ident.lt_irrefl (a:Ident): ¬cmpI a a < 0:=fun h=>by
 rcases cmpI_neg.1 h with h|⟨_,h⟩
 ·exact Dig.lt_irrefl _ h
 ·omega
theorem Ident.lt_trans {a b c:Ident} (h:cmpI a b < 0) (k:cmpI b c < 0):cmpI a c < 0:=by
 refine cmpI_neg.2 ?_
 rcases cmpI_neg.1 h with h|⟨e,h⟩<;>rcases cmpI_neg.1 k with k|⟨e2,k⟩
 ·exact .inl (Dig.lt_trans h k)
 ·exact .inl (e2 ▸ h)
 ·exact .inl (e ▸ k)
 ·exact .inr ⟨e.trans e2,by omega⟩
theorem Ident.tri (a b:Ident):cmpI a b < 0∨a=b∨cmpI b a < 0:=by
 rcases Dig.tri a.patch b.patch with h|h|h
 ·exact .inl (cmpI_neg.2 (.inl h))
 ·rcases Int.lt_trichotomy a.n b.n with h2|h2|h2
  ·exact .inl (cmpI_neg.2 (.inr ⟨h,h2⟩))
  ·refine .inr (.inl ?_)
   cases a;cases b
   simp only at h h2
   rw[h,h2]
  ·exact .inr (.inr (cmpI_neg.2 (.inr ⟨h.symm,h2⟩)))
 ·exact .inr (.inr (cmpI_neg.2 (.inl h)))
abbrev IRow (v:Value) (l:List Ident) (R:List Res):Prop:=RowL vIdn 73 33 v l R
theorem swoI:SWO (ltOf cmpI) where
 irrefl x:=by
  unfold ltOf
  exact decide_eq_false (fun h=>Ident.lt_irrefl x h)
 trans x y z h1 h2:=by
  unfold ltOf at*
  exact decide_eq_true (Ident.lt_trans (of_decide_eq_true h1) (of_decide_eq_true h2))
 ntrans x y z h1 h2:=by
  unfold ltOf at*
  refine decide_eq_false fun h=>?_
  have h1:=of_decide_eq_false h1
  have h2:=of_decide_eq_false h2
  rcases Ident.tri x y with h'|h'|h'
  ·exact h1 h'
  ·subst h';exact h2 h
  ·rcases Ident.tri y z with h3|h3|h3
   ·exact h2 h3
   ·subst h3;exact h1 h
   ·exact Ident.lt_irrefl x (Ident.lt_trans h (Ident.lt_trans h3 h'))
def sortI (l:List Ident):List Ident:=l.mergeSort fun x y=>!(ltOf cmpI) y x
theorem cmpI_lays {w:World} {g:Gh} {r n E:Nat} {cur:Array Value} (hi:Inv w g []) (h1:w.heap[r]? =some (.cells cur E (0,0))) (h2: ∀ o,g.H r o=none) (h3:g.M r=none):CmpLays Tryz.prog 167 #[] vIdn 33 cmpI r 0 n w:=by
 intro m os dk hdk x y
 have hI:Inv (sortWorldK vIdn 33 w r 0 m dk os) g []:=hi.laterBut h2 h3 (by simp[blocks]) (fun k hk hn=>sortWorld_other m dk os k hk hn)
 have hv:VRl g [.agg (vIdn x).toArray,.agg (vIdn y).toArray] [.agg (eIdent x),.agg (eIdent y)]:=by
  have e: ∀ d:Ident,VR g (.agg (vIdn d).toArray) (.agg (eIdent d)):=fun d=>by
   rw[(inferInstance:RawE eIdent vIdn).out]
   have:VRl g (vIdn d) ((vIdn d).map PV.raw):=⟨by simp,fun i h1 h2=>by simp;exact .raw _⟩
   exact this.agg
  exact .cons (e x) (.cons (e y) (.nil g))
 have:=(piCompare_ct x y).out _ (sortWorldK vIdn 33 w r 0 m dk os) g [] hv hI
 refine Calls.mono this ?_
 rintro e w' ⟨v,x',g',L',rfl,k1,k2,k3,k4,rfl,rfl⟩
 refine⟨by rw[k1.raw_inv],?_⟩
 exact grown_eq k3.os k3.tape k3.output.1 k3.output.2 k3.size (fun k hk=>k3.keep k hk (by simp[blocks]))
theorem sortI_fn (l:List Ident) (v:Value) (R:List Res) (hv:IRow v l R) (hl:l.length≤1000000):PCalls Tryz.prog 239 [.raw v,.raw (.func (.func 167) #[] #[])] R (fun _ L'=> ∃ v',v'=v∧IRow v' (sortI l) L'):=fun vs w g LF hvs hi=>by
 obtain⟨v1,v2,rfl⟩: ∃ a b,vs= [a,b]:=by
  have:=hvs.len
  match vs,this with
  | [a,b],_=>exact⟨a,b,rfl⟩
 rw[hvs.uncons.1.raw_inv,hvs.uncons.2.uncons.1.raw_inv]
 obtain⟨o,c,rfl⟩:=hv.slice
 by_cases hne:l= []
 ·subst hne
  refine(AnyF.slices_SortFunc_none Tryz.sortI o c _ w).mono ?_
  rintro e w' ⟨rfl,rfl⟩
  exact⟨_,.raw (.tuple #[]),g,R,rfl,.raw _,hi,.refl _ _ _,.refl _ _,_,rfl,by simpa [sortI]using hv⟩
 obtain⟨_,r,cur,rest,rfl,rfl,hcur,hsz,hlc⟩:=hv.inv hne
 obtain⟨k1,k2,k3,k4,k5⟩:=hi.rawHead
 have hlt:r < w.heap.size:=(Array.getElem?_eq_some_iff.1 k1).1
 have hF:(flatK vIdn 33 l.toArray).toList=l.flatMap vIdn:=flatK_eq (by decide) vIdn_len l
 have hH:HoldsK vIdn 33 w r 0 l.toArray:=fun j hj=>by
  have hj2:j < l.length*33:=by simpa using hj
  refine⟨?_,by simp[World.frozen?,k1]⟩
  have hj3:j < cur.size:=by omega
  simp only[World.cell?,k1,Option.isSome_none,Bool.false_eq_true,if_false,Nat.zero_add]
  rw[getElem!_pos _ j hj]
  have e1:cur.toList[j]? =(flatK vIdn 33 l.toArray).toList[j]?:=by
   rw[hcur,hF,List.getElem?_append_left (by rw[len_raws (f:=eIdent) (sz:=33)];exact hj2)]
  rw[Array.getElem?_toList,Array.getElem?_toList,Array.getElem?_eq_getElem hj]at e1
  exact e1
 refine(AnyQ.slices_SortFunc_total Tryz.sortI 33 (fun w=>?_) (fun w=>TSz.run (inferInstance:TSz Tryz.prog 73 33 40) w) vIdn vIdn_len (fun x v h=>(inferInstance:RawE eIdent vIdn).one x v h) cmpI swoI 167 #[] r 0 c l.toArray w (fun args w=>(inferInstance:TFun Tryz.prog 167).out args w) (cmpI_lays (hi.sub (List.nil_sublist _)) k1 k2 k3) hH hlt (by simp;omega) ?_).mono ?_
 ·exact(isAgg_run (inferInstance:TAgg Tryz.prog 73 33).out w).1
 ·intro x y h1 h2
  unfold ltOf at h1 h2
  have h1:=of_decide_eq_false h1
  have h2:=of_decide_eq_false h2
  rcases Ident.tri x y with h'|h'|h'
  ·exact absurd h' h1
  ·exact h'
  ·exact absurd h' h2
 ·rintro e w' ⟨rfl,n,os,rfl⟩
  have hlen:(sortI l).length=l.length:=List.length_mergeSort _
  have hFs:(flatK vIdn 33 (sortI l).toArray).toList=(sortI l).flatMap vIdn:=flatK_eq (by decide) vIdn_len (sortI l)
  have hFz:(flatK vIdn 33 (sortI l).toArray).size=l.length*33:=by simp[hlen]
  have htk:=putCells_take (cur:=cur) (flatK vIdn 33 (sortI l).toArray) (by omega)
  have hrow:RowL vIdn 73 33 (.slice (some ⟨r,0,none⟩) (sortI l).length c) (sortI l) [.raw r (.cells (putCells id 0 (flatK vIdn 33 (sortI l).toArray) cur) 73 (0,0))]:=by
   refine RowL.mk (rest:=(putCells id 0 (flatK vIdn 33 (sortI l).toArray) cur).toList.drop (l.length*33)) vIdn_len ?_ (by simp[putCells,hsz]) (by omega)
   rw[←hFs,←htk,hFz,List.take_append_drop]
  rw[hlen]at hrow
  refine⟨_,.raw (.tuple #[]),g,[.raw r (.cells (putCells id 0 (flatK vIdn 33 (sortI l).toArray) cur) 73 (0,0))],rfl,.raw _,?_,⟨rfl,rfl,⟨rfl,Nat.le_add_right _ _⟩,sortWorld_size n _ os,fun b hb hn=>sortWorld_other n _ os b hb (fun e=>hn (by rw[e];simp[blocks,Res.block])),.refl g,fun _ _ _=>⟨fun _=>rfl,rfl⟩⟩,fun b hb _=>by simpa [blocks,Res.block]using hb,_,rfl,hrow⟩
  exact(k5.laterBut k2 k3 k4 (fun k hk hn=>sortWorld_other n _ os k hk hn)).addRaw (sortWorld_row k1 n _ os) k2 k3 k4
end Go.Proofs
namespace Go.Q
open Go
section
variable {P:Program} {N:Nat} {Q:PPost} {all:Array Oper} {K:Env→List Res→Prop}
theorem pOp_putL {bar:Nat→Bool} {j:Nat} {oi oj:Oper} {x:PV} (hj:all[j]? =some oj) (hap:oi.apart all oj=true) {K:Env→List Res→Prop} {ρ:Env} {L:List Res}
  (hy: ∀ L,YQ P all oi ρ L x) (h:pOp P N all bar j K (updo ρ oi.dst x) L):pOp P N all bar j (fun ρ' L'=>(∀ L,YQ P all oi ρ' L x)∧K (updo ρ' oi.dst x) L') ρ L:=by
 obtain⟨h1,h2,h3⟩:=Oper.apart_spec hap
 unfold pOp at*
 simp only[hj]at*
 obtain⟨hd,h⟩:=h
 have cj: ∀ s,s∈oj.looksAt all→updo ρ oi.dst x s=ρ s:=fun s hs=>updo_slot fun d hd e=>h1 d hd (e ▸ hs)
 have ci: ∀ u,∀ L,YQ P all oi (updo ρ oj.dst u) L x:=fun u L=>(hy L).congr fun s hs=>(updo_slot fun d hd e=>h3 d hd (e ▸ hs)).symm
 refine⟨hd,?_⟩
 rcases h with ⟨u,hu,hk⟩|⟨hb,hg,ho⟩
 ·refine .inl ⟨u,hu.congr cj,ci u,?_⟩
  rw[updo_comm ρ u x (fun d hd e=>h2 d e hd)];exact hk
 ·refine .inr ⟨hb,hg.congr cj,(OpN.congr (ev_of_slots cj) ho).mono fun u L' hk=>⟨ci u,?_⟩⟩
  rw[updo_comm ρ u x (fun d hd e=>h2 d e hd)];exact hk
theorem pAny_firstL {bar:Nat→Bool} {i:Nat} {oi:Oper} {x:PV} (hi:all[i]? =some oi) (hdi: ∀ d,oi.dst=some d→d < N):
  ∀ (fuel:Nat) (listed:Array Bool) (ρ:Env) (L:List Res),Closed all listed→
    (∀ j oj,all[j]? =some oj→j≠i→listed.getD j true=false→(∀ e∈oj.after,Region.binds .any e=true→e.on≠i)→oi.apart all oj=true)→
    i∈Region.ready .any all listed→(∀ L,YQ P all oi ρ L x)→
    pAny P N all bar K fuel (listed.setIfInBounds i true) (updo ρ oi.dst x) L→pAny P N all bar K (fuel+1) listed ρ L:=by
 intro fuel
 have self: ∀ (listed:Array Bool) (ρ:Env) (L:List Res) (n:Nat),YQ P all oi ρ L x→pAny P N all bar K n (listed.setIfInBounds i true) (updo ρ oi.dst x) L→
   pOp P N all bar i (pAny P N all bar K n (listed.setIfInBounds i true)) ρ L:=fun listed ρ L n hy H=>by
  unfold pOp;simp only[hi];exact⟨hdi,.inl ⟨x,hy,H⟩⟩
 induction fuel with
 |zero=>
  intro listed ρ L hc _ hr hy H
  refine⟨fun h=>(by rw[h]at hr;cases hr),fun j hj=>?_⟩
  by_cases hji:j=i
  ·subst hji;exact self _ _ _ _ (hy L) H
  ·have:=ready_mono hj hji
   rw[H.1]at this
   cases this
 |succ fuel ih=>
  intro listed ρ L hc hfree hr hy H
  refine⟨fun h=>(by rw[h]at hr;cases hr),fun j hj=>?_⟩
  by_cases hji:j=i
  ·subst hji;exact self _ _ _ _ (hy L) H
  ·have h1:=H.2 j (ready_mono hj hji)
   obtain⟨hjun,oj,hoj,hall⟩:=mem_ready.1 hj
   have hiun:=(mem_ready.1 hr).1
   have hnot: ∀ e∈oj.after,Region.binds .any e=true→e.on≠i:=fun e he hb heq=>by
    have h1:=hall e he hb
    rw[heq]at h1
    rcases Nat.lt_or_ge i listed.size with h'|h'
    ·simp[h']at hiun h1;rw[hiun]at h1;cases h1
    ·simp[Array.getElem?_eq_none h']at h1
   have h2:=pOp_putL hoj (hfree j oj hoj hji hjun hnot) hy h1
   have hfree': ∀ k ok,all[k]? =some ok→k≠i→(listed.setIfInBounds j true).getD k true=false→
     (∀ e∈ok.after,Region.binds .any e=true→e.on≠i)→oi.apart all ok=true:=fun k ok hk hki hun hno=>by
    refine hfree k ok hk hki ?_ hno
    by_cases hjk:j=k
    ·subst hjk;exact hjun
    ·rw[getD_set_ne true hjk]at hun;exact hun
   refine pOp_mono (fun ρ' L' h3=>?_) h2
   obtain⟨h4,h5⟩:=h3
   refine ih (listed.setIfInBounds j true) ρ' L' (hc.set hj) hfree' (ready_mono hr (Ne.symm hji)) h4 ?_
   rw[Array.setIfInBounds_comm _ _ hji]
   exact h5
def closedB (all:Array Oper) (listed:Array Bool):Bool:=listed.size==all.size&&(List.range all.size).all fun j=>match all[j]? with
 |some oj=>!listed.getD j false||oj.after.all fun e=>!Region.binds .any e||listed.getD e.on false
 |none=>true
theorem closedB_spec {listed:Array Bool} (h:closedB all listed=true):Closed all listed:=by
 simp only[closedB,Bool.and_eq_true,beq_iff_eq,List.all_eq_true,List.mem_range]at h
 obtain⟨h1,h2⟩:=h
 refine⟨h1,fun j oj hj hl e he hb=>?_⟩
 have:=h2 j (Array.getElem?_eq_some_iff.1 hj).1
 simp only[hj,hl,Bool.not_true,Bool.false_or,Array.all_eq_true_iff_forall_mem]at this
 have:=this e he
 simpa [hb]using this
theorem pAny_quiet {bar:Nat→Bool} {fuel:Nat} {listed:Array Bool} {ρ:Env} {L:List Res} (i:Nat) {d:Nat} {op:Op} {ty:TypeId} {pos:String} {af:Array Edge} {x:PV} (h0:all[i]? =some ⟨some d,op,ty,pos,af,none⟩)
  (hB:(closedB all listed&&Region.free .any all listed i&&(Region.ready .any all listed).contains i)=true) (hd:Nat.blt d N=true)
  (hq: ∀ L,QOp P ⟨some d,op,ty,pos,af,none⟩ ρ L x) (k:pAny P N all bar K fuel (listed.setIfInBounds i true) (upd ρ d x) L):pAny P N all bar K (fuel+1) listed ρ L:=by
 simp only[Bool.and_eq_true]at hB
 obtain⟨⟨h1,h2⟩,h3⟩:=hB
 exact pAny_firstL (x:=x) h0 (dlt hd) fuel listed ρ L (closedB_spec h1) (Region.free_spec h0 h2) (by simpa using h3) (fun L=> .inr ⟨by unfold GYes;trivial,hq L⟩) k
theorem pwp_drawA {id:Nat} {l:List Oper} {ρ:Env} {L:List Res} (bs:List Nat) [hm:TMix P] (hG:guardsIn l.toArray N=true)
  (h:pAny P N l.toArray (fun k=>bs.contains k) (Q .normal) l.length (Array.replicate l.length false) ρ L):pwp P N (.region id l.toArray true) Q ρ L:=fun ro base a w g hst=>by
 refine wpIn_region_any hm.out ?_
 have hi:=hst.inv
 have hst0:Step (blocks L) w g { w with drawn:=w.drawn+1 } g:=⟨rfl,rfl,⟨rfl,Nat.le_succ _⟩,Nat.le_refl _,fun _ _ _=>rfl,.refl g,fun _ _ _=>⟨fun _=>rfl,rfl⟩⟩
 have hi':Inv { w with drawn:=w.drawn+1 } g L:=⟨hi.sat,fun b z hz=>(hi.satM b z hz).congr rfl,fun r hr=>by have:=hi.res r hr;cases r<;>first|exact this|(rename_i t _ _;cases t<;>exact this),hi.nodup,hi.glob⟩
 have k:=wpAny_of_pAny (ro:=ro) (base:=base) (Q:=Q) (w₀:=w) (g₀:=g) (L₀:=L) (fun _ _ h=>h) hG _ _ ρ L a _ g hst.agr hi' hst0 (.refl _ _) h
 simpa using k
end
theorem q_of_pops {P:Program} {N:Nat} {o:Oper} {ρ:Env} {d:Nat} {x:PV} {L:List Res} (hd:o.dst=some d) (hg:o.guard=none) (h:pops P N #[] (fun ρ' L'=>ρ' d=x∧L'=L) [false] [o] ρ L):QOp P o ρ L x:=by
 obtain⟨_,h⟩:=h
 rcases h with ⟨hno,_⟩|⟨_,⟨y,hq,h1,_⟩|⟨hf,_⟩⟩
 ·unfold GNo at hno
  rw[hg]at hno
  exact hno.elim
 ·rw[hd]at h1
  have:y=x:=by
   rw[←h1]
   show y=upd ρ d y d
   rw[upd_self]
  rw[←this];exact hq
 ·cases hf
end Go.Q
namespace Go.Proofs
open Go Go.Q
attribute [local irreducible] pwp pops pAny PCalls OpN
instance full_ct (x:Ident) (d:Dig):FnC Tryz.prog 238 [.agg (eIdent x),.pt (eDig d) 0] (.agg (eIdent (rWhole x d))):=⟨by
 refine fn_of Tryz.func238 Tryz.ntmps238 rfl (rs:= [.cell 3 73]) rfl rfl fun hb LF=>?_
 refine wkb fun b2=>?_
 refine s_alloc fun b3=>?_
 refine wf ?_
 refine pops_if (fun hp=>?_) (fun hp=>?_)
 ·have h0:x.patch=Dig.zero:=by simpa using hp
  refine wf ?_
  refine pwp_condD (fun h=>?_) (fun h=>?_)
  ·refine wf ?_
   refine endC rfl (.of_eq ?_)
   rw[rWhole,if_pos ⟨h0,h⟩]
  ·refine wf ?_
   refine endC rfl (.of_eq ?_)
   rw[rWhole,if_neg (fun h'=>h h'.2)]
 ·have h0: ¬x.patch=Dig.zero:=by simpa using hp
  refine wf ?_
  refine endC rfl (.of_eq ?_)
  rw[rWhole,if_neg (fun h'=>h0 h'.1)]⟩
def fP1 (d:Dig) (a:Atm):Atm:={ a with id:=rWhole a.id d }
def fP2 (d:Dig) (a:Atm):Atm:=if a.kind≠7 then { a with file:=rWhole a.file d }else a
def fP3 (d:Dig) (a:Atm):Atm:=if a.kind=2 then { a with parent:=rWhole a.parent d }else a
def fP4 (d:Dig) (a:Atm):Atm:=if a.kind=6 then { a with src:=rWhole a.src d,dst:=rWhole a.dst d }else a
def fP5 (d:Dig) (a:Atm):Atm:={ a with over:=sortI (a.over.map fun y=>rWhole y d) }
def fP (d:Dig) (a:Atm):Atm:=fP5 d (fP4 d (fP3 d (fP2 d (fP1 d a))))
def atomsP (p:Pat):List Atm × Int:=if(rEx p).2.2≠0 then([],(rEx p).2.2)else if(rId p).2≠0 then([],(rId p).2)else((rEx p).1.map (fP (rId p).1),0)
set_option maxHeartbeats 4000000 in
theorem complete_fn (p:Pat) (hs:rBig p=false):FnC Tryz.prog 196 [.agg (ePat p)] (.tuple [.slice ((atomsP p).1.map eAtm) .ro,.raw (.int .i64 (atomsP p).2)]):=⟨by
 have i0:Small (rBig p=false):=⟨hs⟩
 refine fn_of Tryz.func196 Tryz.ntmps196 rfl (rs:= [.tmp 2,.tmp 3]) rfl rfl fun hb LF=>?_
 repeat(refine pwp_seq ?_)
 refine pwp_region (by kernel_rfl) ?_
 refine wo ?_
 refine pops_nil ?_
 repeat(refine pwp_seq ?_)
 refine pwp_region (by kernel_rfl) ?_
 refine s_loadAL (by rfl) (hl:=(by infer_instance)) ?_
 refine s_callR (xs:= [.tmp 15]) [] LF (f:=88) (cs:= []) (le_func _) rfl rfl (.refl _) _ (examineB_fn p hs) fun r L' ⟨x,y,e,hor⟩=>?_
 subst e
 refine wf ?_
 refine wf ?_
 rcases hor with ⟨hne,rfl⟩|⟨he0,v,rfl,hrow,hll⟩
 ·refine pwp_condN (fun h=>?_) (fun h=>absurd h hne)
  refine wf ?_
  refine end2 ?_
  rw[atomsP,if_pos hne]
  exact .tuple2 (.ros rfl) (.refl _)
 refine pwp_condN (fun h=>absurd he0 h) (fun h=>?_)
 refine wf ?_
 refine s_alloc fun b7=>?_
 refine wo ?_
 refine pops_nil ?_
 refine pwp_freezeD 7 ?_
 refine wf ?_
 refine pwp_condN (fun h2=>?_) (fun h2=>?_)
 ·refine pwp_weaken (fun i=> .inl rfl) (List.sublist_append_right L' LF) ?_
  refine wf ?_
  refine end2 ?_
  rw[atomsP,if_neg (by simp[he0]),if_pos h2]
  exact .tuple2 (.ros rfl) (.refl _)
 have e1:atomsP p=((rEx p).1.map (fP (rId p).1),0):=by rw[atomsP,if_neg (by simp[he0]),if_neg (by simpa using h2)]
 rw[e1]
 have hov: ∀ a∈(rEx p).1,a.over.length≤40:=fun a ha=>by
  unfold rEx at ha
  split at ha
  ·cases ha
  ·split at ha
   ·cases ha
   ·exact(rCheckP_facts hs).2 a ha
 generalize (rEx p).1=l at hrow hll hov ⊢
 generalize (rId p).1=g
 obtain⟨⟨o,cc,ev⟩,_⟩:=hrow.slice
 rw[List.length_map]at ev
 subst ev
 refine wf ?_
 refine s_lenR rfl ?_
 refine wf ?_
 refine pwp_loopS (σ:=Nat × List Res) (fun k=>k.1≤l.length∧RowB 130 172 (.slice o l.length cc) (((l.take k.1).map (fP g)++l.drop k.1).map eAtm) k.2) (fun k=>l.length - k.1) (fun k=> [(4,.raw (.slice o l.length cc)),(8,.clo 238 [.pt (eDig g) 0]),(32,.raw (.slice o l.length cc)),(33,.raw (.int .i64 l.length)),(34,.raw (.int .i64 k.1))]) (fun k=>k.2++LF) (0,_) ⟨by simp,by simpa using hrow⟩ ⟨rfl,rfl,rfl,rfl,rfl⟩ (.refl _) ?_
 rintro⟨k,R⟩ ⟨hk,hR⟩
 dsimp only at hk hR ⊢
 refine wf ?_
 refine pwp_condD (fun hc=>?_) (fun hc=>?_)
 ·have hlt:k < l.length:=by omega
  obtain⟨xs,hxs⟩: ∃ xs,xs=((l.take k).map (fP g)++l.drop k).map eAtm:=⟨_,rfl⟩
  rw[←hxs]at hR
  have hlk:xs.length=l.length:=by rw[hxs];simp;omega
  have hel:xs[k]'(by omega)=eAtm l[k]:=by
   subst hxs
   rw[List.getElem_map,List.getElem_append_right (by simp;omega),List.getElem_drop]
   congr 2
   simp;omega
  obtain⟨r,rest,rfl,rfl,hn,hcl,hsz,hcc⟩:=hR.inv (by omega)
  have isub:Sub (xs.flatten++rest) (0+k*172) 172 (eAtm l[k]):=by
   rw[←hel];exact flat_sub hsz (by omega)
  refine wf ?_
  refine s_ixRow (k:=k) rfl rfl hlt ?_
  refine wf ?_
  refine s_alloc fun b10=>?_
  refine wf ?_
  refine pwp_join True [(4,.raw (.slice (some ⟨r,0,none⟩) l.length cc)),(8,.clo 238 [.pt (eDig g) 0]),(9,.raw (.int .i64 k)),(10,.raw (.pointer (some ⟨b10,0,none⟩))),(32,.raw (.slice (some ⟨r,0,none⟩) l.length cc)),(33,.raw (.int .i64 l.length)),(34,.raw (.int .i64 k))] (.box b10 130 (eAtm (fP2 g (fP1 g l[k]))):: .box r 130 (xs.flatten++rest)::LF) ?_ fun _=>?_
  ·refine pwp_condN (fun h=>?_) (fun h=>?_)
   ·refine wf ?_
    rw[show fP2 g (fP1 g l[k])= { fP1 g l[k]with file:=rWhole l[k].file g } by rw[fP2,if_pos (show(fP1 g l[k]).kind≠7 from h)];rfl]
    exact⟨trivial,⟨rfl,rfl,rfl,rfl,rfl,rfl,rfl⟩,.refl _⟩
   ·refine wf ?_
    rw[show fP2 g (fP1 g l[k])=fP1 g l[k] by rw[fP2,if_neg (show ¬(fP1 g l[k]).kind≠7 from fun h'=>h' h)]]
    exact⟨trivial,⟨rfl,rfl,rfl,rfl,rfl,rfl,rfl⟩,.refl _⟩
  have o2:(fP2 g (fP1 g l[k])).over.length≤40:=by
   have h:=hov _ (List.getElem_mem hlt)
   unfold fP2;split<;>exact h
  generalize hg2:fP2 g (fP1 g l[k])=a2 at o2 ⊢
  refine wf ?_
  refine pwp_join True [(4,.raw (.slice (some ⟨r,0,none⟩) l.length cc)),(8,.clo 238 [.pt (eDig g) 0]),(9,.raw (.int .i64 k)),(10,.raw (.pointer (some ⟨b10,0,none⟩))),(32,.raw (.slice (some ⟨r,0,none⟩) l.length cc)),(33,.raw (.int .i64 l.length)),(34,.raw (.int .i64 k))] (.box b10 130 (eAtm (fP3 g a2)):: .box r 130 (xs.flatten++rest)::LF) ?_ fun _=>?_
  ·refine pwp_condD (fun h=>?_) (fun h=>?_)
   ·refine wf ?_
    rw[show fP3 g a2= { a2 with parent:=rWhole a2.parent g } by rw[fP3,if_pos h]]
    exact⟨trivial,⟨rfl,rfl,rfl,rfl,rfl,rfl,rfl⟩,.refl _⟩
   ·refine wf ?_
    rw[show fP3 g a2=a2 by rw[fP3,if_neg h]]
    exact⟨trivial,⟨rfl,rfl,rfl,rfl,rfl,rfl,rfl⟩,.refl _⟩
  have o3:(fP3 g a2).over.length≤40:=by unfold fP3;split<;>exact o2
  generalize hg3:fP3 g a2=a3 at o3 ⊢
  refine wf ?_
  refine pwp_join True [(4,.raw (.slice (some ⟨r,0,none⟩) l.length cc)),(8,.clo 238 [.pt (eDig g) 0]),(9,.raw (.int .i64 k)),(10,.raw (.pointer (some ⟨b10,0,none⟩))),(32,.raw (.slice (some ⟨r,0,none⟩) l.length cc)),(33,.raw (.int .i64 l.length)),(34,.raw (.int .i64 k))] (.box b10 130 (eAtm (fP4 g a3)):: .box r 130 (xs.flatten++rest)::LF) ?_ fun _=>?_
  ·refine pwp_condD (fun h=>?_) (fun h=>?_)
   ·rw[show fP4 g a3= { a3 with src:=rWhole a3.src g,dst:=rWhole a3.dst g } by rw[fP4,if_pos h]]
    refine wn ?_
    refine pwp_drawA [2,6,9,11] (by decide+kernel) ?_
    refine pAny_quiet 0 rfl (by decide+kernel) rfl (fun L'=>q_of_pops (N:=97) rfl rfl (by refine wo ?_;refine pops_nil ?_;exact⟨upd_self _ _ _,rfl⟩)) ?_
    refine pAny_quiet 1 rfl (by decide+kernel) rfl (fun L'=>q_of_pops (N:=97) rfl rfl (by refine wo ?_;refine pops_nil ?_;exact⟨upd_self _ _ _,rfl⟩)) ?_
    refine pAny_quiet 4 rfl (by decide+kernel) rfl (fun L'=>q_of_pops (N:=97) rfl rfl (by refine wo ?_;refine pops_nil ?_;exact⟨upd_self _ _ _,rfl⟩)) ?_
    refine pAny_quiet 5 rfl (by decide+kernel) rfl (fun L'=>q_of_pops (N:=97) rfl rfl (by refine wo ?_;refine pops_nil ?_;exact⟨upd_self _ _ _,rfl⟩)) ?_
    refine pAny_next (fuel:=7) [2,6] (by decide+kernel) (by simp) fun i hi=>?_
    simp only[List.mem_cons,List.not_mem_nil,or_false]at hi
    rcases hi with rfl|rfl
    ·refine⟨_,rfl,?_⟩
     refine wf ?_
     refine pAny_quiet 3 rfl (by decide+kernel) rfl (fun L'=>q_of_pops (N:=97) rfl rfl (by refine wo ?_;refine pops_nil ?_;exact⟨upd_self _ _ _,rfl⟩)) ?_
     refine pAny_next (fuel:=5) [6] (by decide+kernel) (by simp) fun i hi=>?_
     simp only[List.mem_cons,List.not_mem_nil,or_false]at hi
     subst hi
     refine⟨_,rfl,?_⟩
     refine wf ?_
     refine pAny_quiet 7 rfl (by decide+kernel) rfl (fun L'=>q_of_pops (N:=97) rfl rfl (by refine wo ?_;refine pops_nil ?_;exact⟨upd_self _ _ _,rfl⟩)) ?_
     refine pAny_quiet 8 rfl (by decide+kernel) rfl (fun L'=>q_of_pops (N:=97) rfl rfl (by refine wo ?_;refine pops_nil ?_;exact⟨upd_self _ _ _,rfl⟩)) ?_
     refine pAny_next (fuel:=2) [9] (by decide+kernel) (by simp) fun i hi=>?_
     simp only[List.mem_cons,List.not_mem_nil,or_false]at hi
     subst hi
     refine⟨_,rfl,?_⟩
     refine wf ?_
     refine pAny_quiet 10 rfl (by decide+kernel) rfl (fun L'=>q_of_pops (N:=97) rfl rfl (by refine wo ?_;refine pops_nil ?_;exact⟨upd_self _ _ _,rfl⟩)) ?_
     refine pAny_next (fuel:=0) [11] (by decide+kernel) (by simp) fun i hi=>?_
     simp only[List.mem_cons,List.not_mem_nil,or_false]at hi
     subst hi
     refine⟨_,rfl,?_⟩
     refine wf ?_
     refine pAny_end (by decide+kernel) ?_
     refine wf ?_
     exact⟨trivial,⟨rfl,rfl,rfl,rfl,rfl,rfl,rfl⟩,.refl _⟩
    ·refine⟨_,rfl,?_⟩
     refine wf ?_
     refine pAny_next (fuel:=6) [2] (by decide+kernel) (by simp) fun i hi=>?_
     simp only[List.mem_cons,List.not_mem_nil,or_false]at hi
     subst hi
     refine⟨_,rfl,?_⟩
     refine wf ?_
     refine pAny_quiet 3 rfl (by decide+kernel) rfl (fun L'=>q_of_pops (N:=97) rfl rfl (by refine wo ?_;refine pops_nil ?_;exact⟨upd_self _ _ _,rfl⟩)) ?_
     refine pAny_quiet 7 rfl (by decide+kernel) rfl (fun L'=>q_of_pops (N:=97) rfl rfl (by refine wo ?_;refine pops_nil ?_;exact⟨upd_self _ _ _,rfl⟩)) ?_
     refine pAny_quiet 8 rfl (by decide+kernel) rfl (fun L'=>q_of_pops (N:=97) rfl rfl (by refine wo ?_;refine pops_nil ?_;exact⟨upd_self _ _ _,rfl⟩)) ?_
     refine pAny_next (fuel:=2) [9] (by decide+kernel) (by simp) fun i hi=>?_
     simp only[List.mem_cons,List.not_mem_nil,or_false]at hi
     subst hi
     refine⟨_,rfl,?_⟩
     refine wf ?_
     refine pAny_quiet 10 rfl (by decide+kernel) rfl (fun L'=>q_of_pops (N:=97) rfl rfl (by refine wo ?_;refine pops_nil ?_;exact⟨upd_self _ _ _,rfl⟩)) ?_
     refine pAny_next (fuel:=0) [11] (by decide+kernel) (by simp) fun i hi=>?_
     simp only[List.mem_cons,List.not_mem_nil,or_false]at hi
     subst hi
     refine⟨_,rfl,?_⟩
     refine wf ?_
     refine pAny_end (by decide+kernel) ?_
     refine wf ?_
     exact⟨trivial,⟨rfl,rfl,rfl,rfl,rfl,rfl,rfl⟩,.refl _⟩
   ·refine wf ?_
    rw[show fP4 g a3=a3 by rw[fP4,if_neg h]]
    exact⟨trivial,⟨rfl,rfl,rfl,rfl,rfl,rfl,rfl⟩,.refl _⟩
  have o4:(fP4 g a3).over.length≤40:=by unfold fP4;split<;>exact o3
  generalize hg4:fP4 g a3=a4 at o4 ⊢
  repeat(refine pwp_seq ?_)
  refine pwp_region (by kernel_rfl) ?_
  refine s_assign ?_
  refine pops_nil ?_
  rw[show Env.ev _ (Operand.const (Value.slice none 0 0))= .raw (.slice none 0 0) from rfl]
  refine wf ?_
  refine pwp_loopS (σ:=Nat × Value × List Res) (fun j=>j.1≤a4.over.length∧IRow j.2.1 ((a4.over.take j.1).map fun y=>rWhole y g) j.2.2) (fun j=>a4.over.length - j.1) (fun j=> [(4,.raw (.slice (some ⟨r,0,none⟩) l.length cc)),(8,.clo 238 [.pt (eDig g) 0]),(9,.raw (.int .i64 k)),(10,.raw (.pointer (some ⟨b10,0,none⟩))),(11,.raw j.2.1),(32,.raw (.slice (some ⟨r,0,none⟩) l.length cc)),(33,.raw (.int .i64 l.length)),(34,.raw (.int .i64 k)),(74,.slice (a4.over.map eIdent) .ro),(75,.raw (.int .i64 a4.over.length)),(76,.raw (.int .i64 j.1))]) (fun j=>j.2.2++(.box b10 130 (eAtm a4):: .box r 130 (xs.flatten++rest)::LF)) (0,.slice none 0 0,[]) ⟨by simp,.nil none (by simp)⟩ ⟨rfl,rfl,rfl,rfl,rfl,rfl,rfl,rfl,rfl,rfl,rfl⟩ (.refl _) ?_
  rintro⟨j,v2,R2⟩ ⟨hj,hI⟩
  dsimp only at hj hI ⊢
  refine wf ?_
  refine pwp_condD (fun hc2=>?_) (fun hc2=>?_)
  ·have hjl:j < a4.over.length:=by omega
   refine wz fun b13=>?_
   refine pwp_freezeD 13 ?_
   refine wf ?_
   refine s_appRow (f:=eIdent) (m:= [rWhole a4.over[j] g]) (R:=R2) (LF:= .box b10 130 (eAtm a4):: .box r 130 (xs.flatten++rest)::LF) (fun R'=>R'++(.box b10 130 (eAtm a4):: .box r 130 (xs.flatten++rest)::LF)) rfl rfl hI (.refl _) (fun R'=> .refl _) (by simp only[List.length_map,List.length_take,List.length_cons,List.length_nil];omega) (by simp only[List.length_map,List.length_take,List.length_cons,List.length_nil];omega) fun v3 R3 h3=>?_
   refine wf ?_
   refine wf ?_
   refine⟨(j+1,v3,R3),⟨by dsimp only;omega,?_⟩,by dsimp only;omega,⟨rfl,rfl,rfl,rfl,rfl,rfl,rfl,rfl,rfl,rfl,rfl⟩,.refl _⟩
   dsimp only
   rw[List.take_succ_eq_append_getElem hjl,List.map_append]
   exact h3
  ·rw[List.take_of_length_le (by omega)]at hI
   refine wf ?_
   refine s_callR (xs:= [.tmp 87,.func 167]) R2 (.box b10 130 (eAtm a4):: .box r 130 (xs.flatten++rest)::LF) (f:=239) (cs:= []) (le_func _) rfl rfl (.refl _) _ (sortI_fn _ _ R2 hI (by simp only[List.length_map];omega)) fun r' L3 ⟨v3,e3,h3⟩=>?_
   subst e3
   refine wo ?_
   refine pops_nil ?_
   repeat(refine pwp_seq ?_)
   have hms:(sortI (a4.over.map fun y=>rWhole y g)).length≤maxN∧(sortI (a4.over.map fun y=>rWhole y g)).length*33≤maxN:=by
    have h1:maxN=140737488355328:=rfl
    have h2:(sortI (a4.over.map fun y=>rWhole y g)).length=a4.over.length:=by rw[sortI,List.length_mergeSort,List.length_map]
    omega
   refine pwp_freezeRow (f:=eIdent) 11 h3 hms (.refl _) rfl ?_
   refine wf ?_
   have iput:Put (xs.flatten++rest) (0+k*172) (eAtm { a4 with over:=sortI (a4.over.map fun y=>rWhole y g) }) ((xs.set k (eAtm (fP5 g a4))).flatten++rest):=flat_put hsz (by omega) (by simp)
   refine s_ixRow (k:=k) rfl rfl hlt ?_
   refine wf ?_
   have hset:xs.set k (eAtm (fP5 g a4))=((l.take (k+1)).map (fP g)++l.drop (k+1)).map eAtm:=by
    have hf:fP5 g a4=fP g l[k]:=by rw[fP,hg2,hg3,hg4]
    rw[hf,hxs]
    refine List.ext_getElem (by simp;omega) fun i k1 k2=>?_
    rw[List.getElem_set]
    split
    ·rename_i e
     subst e
     rw[List.getElem_map,List.getElem_append_left (by simp;omega)]
     simp
    ·rename_i e
     rw[List.getElem_map,List.getElem_map]
     congr 1
     rcases Nat.lt_or_ge i k with h'|h'
     ·rw[List.getElem_append_left (by simp;omega),List.getElem_append_left (by simp;omega)]
      simp
     ·rw[List.getElem_append_right (by simp;omega),List.getElem_append_right (by simp;omega)]
      simp only[List.getElem_drop,List.length_map,List.length_take]
      congr 1
      omega
   have hnew: ∀ e∈xs.set k (eAtm (fP5 g a4)),e.length=172:=fun e he=>by
    rw[hset]at he
    obtain⟨a,_,rfl⟩:=List.mem_map.1 he
    simp
   refine⟨(k+1,[.box r 130 ((xs.set k (eAtm (fP5 g a4))).flatten++rest)]),⟨by dsimp only;omega,?_⟩,by dsimp only;omega,⟨rfl,rfl,rfl,rfl,rfl⟩,.cons _ (.refl _)⟩
   dsimp only
   rw[←hset]
   refine .row (by rw[List.length_set,hlk]) hcl hnew ?_
   have h1:=flatten_len hnew
   have h2:=flatten_len hsz
   rw[List.length_set]at h1
   omega
 ·have hkk:k=l.length:=by omega
  subst hkk
  rw[List.take_length,List.drop_length,List.append_nil]at hR
  have hmx:((l.map (fP g)).map eAtm).length≤maxN∧((l.map (fP g)).map eAtm).length*172≤maxN:=by
   have:maxN=140737488355328:=rfl
   simp only[List.length_map];omega
  refine pwp_freezeB 4 hR hmx (.refl _) rfl ?_
  refine wf ?_
  exact end2 (.tuple2 (.ros rfl) (.refl _))⟩
end Go.Proofs
namespace Go.Proofs
open Go Go.Q
attribute [local irreducible] pwp pops PCalls OpN
instance atomsP_ct (p:Pat) [hs:Small (rBig p=false)]:FnC Tryz.prog 154 [.agg (ePat p)] (.tuple [.slice ((atomsP p).1.map eAtm) .ro,.raw (.int .i64 (atomsP p).2)]):=⟨by
 have i1:FnC Tryz.prog 196 [.agg (ePat p)] (.tuple [.slice ((atomsP p).1.map eAtm) .ro,.raw (.int .i64 (atomsP p).2)]):=complete_fn p hs.out
 refine fn_of Tryz.func154 Tryz.ntmps154 rfl (rs:= [.tmp 2,.tmp 3]) rfl rfl fun hb LF=>?_
 refine wf ?_
 exact end2 (.refl _)⟩
end Go.Proofs
namespace Go.Proofs
open Go Go.Q
attribute [local irreducible] pwp pops PCalls OpN
instance zr_res:ZeroE Tryz.prog 142 [.slice [] .ro,.raw (.map none)]:=ZeroE.of (us:= [PV.slice [] .ro,.raw (.map none)].map zv) (by kernel_rfl) (by kernel_rfl)
def eRsv (s:List Sto) (m:Nat):List PV:= [.slice (s.map eSto) .ro,.raw (.map (some m))]
def knownR (m:Nat) (known:List (Dig × List Atm)):List Res:= [.map m (eMap kDig (vSl eAtm) known)]
theorem newResolver_fn (s:List Sto) (t:Tag):PCalls Tryz.prog 70 [.slice (s.map eSto) t] [] (fun r L'=> ∃ m,r= .pt (eRsv s m) 0∧L'=knownR m []):=by
 refine pcalls_bd Tryz.func70 rfl Tryz.ntmps70 (rs:= [.tmp 2]) rfl rfl fun hb LF=>?_
 refine wf ?_
 refine s_makeMap fun m=>?_
 refine wf ?_
 exact⟨trivial,_,knownR m [],.cons (.tmp 2) .nil,.refl _,m,rfl,rfl⟩
end Go.Proofs
namespace Go.Proofs
open Go Go.Q
attribute [local irreducible] pwp pops PCalls OpN
theorem getS_idx (s:List Sto) (d:Dig):(idxF (fun x=>decide (x.id=d)) s < 0→getS s d=none)∧(∀ k:Nat,idxF (fun x=>decide (x.id=d)) s=(k:Int)→ ∃ h:k < s.length,getS s d=some s[k].patch):=by
 have key: ∀ l:List Sto,(l.any (fun x=>decide (x.id=d))=false→getS l d=none)∧(l.any (fun x=>decide (x.id=d))=true→ ∃ h:l.findIdx (fun x=>decide (x.id=d)) < l.length,getS l d=some (l[l.findIdx fun x=>decide (x.id=d)]).patch):=fun l=>by
  induction l with
  |nil=>exact⟨fun _=>rfl,fun h=>by cases h⟩
  |cons x l ih=>
   by_cases hx:x.id=d
   ·refine⟨fun h=>by simp[hx]at h,fun _=>?_⟩
    have e:(x::l).findIdx (fun x=>decide (x.id=d))=0:=by simp[List.findIdx_cons,hx]
    refine⟨by rw[e];simp,?_⟩
    simp only[e,List.getElem_cons_zero]
    rw[getS,if_pos hx]
   ·have eg:getS (x::l) d=getS l d:=by rw[getS,if_neg hx]
    refine⟨fun h=>by rw[eg];exact ih.1 (by simpa [hx]using h),fun h=>?_⟩
    obtain⟨h1,h2⟩:=ih.2 (by simpa [hx]using h)
    have e:(x::l).findIdx (fun x=>decide (x.id=d))=l.findIdx (fun x=>decide (x.id=d))+1:=by simp[List.findIdx_cons,hx]
    refine⟨by rw[e,List.length_cons];omega,?_⟩
    simp only[e,List.getElem_cons_succ]
    rw[eg,h2]
 obtain⟨k1,k2⟩:=key s
 refine⟨fun h=>k1 ?_,fun k h=>?_⟩
 ·unfold idxF at h
  by_cases ha:s.any (fun x=>decide (x.id=d))=true
  ·rw[if_pos ha]at h;omega
  ·simpa using ha
 ·unfold idxF at h
  by_cases ha:s.any (fun x=>decide (x.id=d))=true
  ·rw[if_pos ha]at h
   have hk:s.findIdx (fun x=>decide (x.id=d))=k:=by omega
   obtain⟨h1,h2⟩:=k2 ha
   subst hk
   exact⟨h1,h2⟩
  ·rw[if_neg ha]at h;omega
instance get1_ct (x:Sto) (d:Dig):FnC Tryz.prog 55 [.agg (eSto x),.pt (eDig d) 0] (.raw (.bool (decide (x.id=d)))):=⟨by
 refine fn_of Tryz.func55 Tryz.ntmps55 rfl (rs:= [.tmp 3]) rfl rfl fun hb LF=>?_
 refine wf ?_
 exact end1 (.refl _)⟩
instance GetP_ct (s:List Sto) (t:Tag) (d:Dig):FnC Tryz.prog 16 [.slice (s.map eSto) t,.agg (eDig d)] (.tuple [.agg (ePat ((getS s d).getD Pat.zero)),.raw (.bool (getS s d).isSome)]):=⟨by
 have i1: ∀ t,FnC Tryz.prog 51 [.slice (s.map eSto) t,.clo 55 [.pt (eDig d) 0]] (.raw (.int .i64 (idxF (fun x=>decide (x.id=d)) s))):=fun t=>indexS_fn _ _ _ s t
 obtain⟨g1,g2⟩:=getS_idx s d
 refine fn_of Tryz.func16 Tryz.ntmps16 rfl (rs:= [.cell 4 32,.tmp 5]) rfl rfl fun hb LF=>?_
 refine wf ?_
 refine s_alloc fun b4=>?_
 refine wf ?_
 refine pwp_condD (fun h=>?_) (fun h=>?_)
 ·rw[g1 h]
  rw[Option.isSome_none,Option.getD_none]
  refine wf ?_
  exact endC1 rfl (.refl _)
 ·obtain⟨k,hk⟩: ∃ k:Nat,idxF (fun x=>decide (x.id=d)) s=(k:Int):=⟨(idxF (fun x=>decide (x.id=d)) s).toNat,by omega⟩
  obtain⟨hlt,hg⟩:=g2 k hk
  rw[hk,hg,Option.isSome_some,Option.getD_some]
  refine wf ?_
  exact endC1 rfl (.refl _)⟩
end Go.Proofs
