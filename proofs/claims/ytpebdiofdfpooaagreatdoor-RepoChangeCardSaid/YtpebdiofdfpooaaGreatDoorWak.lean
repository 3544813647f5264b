/- Contracts of the program: what a change refers to. -/
import Derived.Test.YtpebdiofdfpooaaGreatDoorWaj
import Derived.Test.YtpebdiofdfpooaaGreatDoorProg
import Derived.Shelf.LaysM
import Derived.Shelf.Strconv.Itoa3
import Derived.Shelf.SlSortCmp.NoneTotal
import Derived.Shelf.SlGeneric
import Derived.Ground.SlsfProg
import Derived.Test.YtpebdiofdfpooaaGreatDoorWai
import Derived.Test.YtpebdiofdfpooaaGreatDoorWaf
set_option linter.unusedSimpArgs false
set_option linter.unusedVariables false
set_option maxHeartbeats 8000000
namespace Go.Proofs
open Go Go.Q
attribute [local irreducible] EB AW B2 FW
structure Rfc where
 id:Ident
 f:Nat
 cs:List PV
def eRfc (r:Rfc):List PV:=eIdent r.id++ [.clo r.f r.cs]
@[simp] theorem jC (r:Rfc):(eRfc r).length=34:=by unfold eRfc;simp
instance :KY eRfc 34:=⟨jC⟩
instance (r:Rfc):EH (eRfc r):=by unfold eRfc;infer_instance
instance :Gd eRfc:=⟨fun r=>(inferInstance:EH (eRfc r)).out⟩
instance (x:Ident) (f:Nat) (cs:List PV):Fg (.agg (eIdent x++ [.clo f cs])) eRfc ⟨x,f,cs⟩:=⟨Dv.agg _⟩
instance (x y:Ident) (z:PV):Ek (eIdent x++ [z]) 0 (eIdent y) (eIdent y++ [z]):=Cw (by simp)
instance (x:Ident) (y z:PV):Ek (eIdent x++ [y]) 33 [z] (eIdent x++ [z]):=Ad (n:=33) (off:=0) (by simp) (IJ (by simp))
instance (r:Rfc):Ib (eRfc r) 0 (eIdent r.id):=by unfold eRfc;exact Cr
instance (r:Rfc):Ib (eRfc r) 33 [.clo r.f r.cs]:=by unfold eRfc;exact Ah (n:=33) (off:=0) (by simp) IM
instance :Cz (eIdent Ident.zero++ [.raw .nilFunc]) 34:=⟨by simp⟩
instance :Cu Tryz.prog 190 (eIdent Ident.zero++ [.raw .nilFunc]):=Cu.of (us:=(eIdent Ident.zero++ [PV.raw .nilFunc]).map zv) (by kernel_rfl) (by kernel_rfl)
instance :Cu Tryz.prog 178 (eIdent Ident.zero++ [.raw .nilFunc]):=Cu.of (us:=(eIdent Ident.zero++ [PV.raw .nilFunc]).map zv) (by kernel_rfl) (by kernel_rfl)
instance :Cu Tryz.prog 174 [.slice [] .nil]:=Mv (v:= .slice none 0 0) (by kernel_rfl) rfl fun _=> .nilN none (by simp)
structure vT (P:Program) (r:Rfc) (p:Atm→Bool):Prop where
 fn:Av P r.f
 out: ∀ a:Atm,Q.Fn P r.f (.agg (eAtm a)::r.cs) (.raw (.bool (p a)))
def fJ (k:Int):Int:=if k=2∨k=3∨k=4∨k=6 then k else 0
instance oq (k:Int):Bj Tryz.prog 206 [.raw (.int .i64 k)] (.raw (.int .i64 (fJ k))):=⟨by
 refine Aj Tryz.func206 Tryz.ntmps206 rfl (rs:= [.tmp 2]) rfl rfl fun hb LF=>?_
 refine tj fun b=>?_
 refine Al (.of_eq ?_)
 simp only[fJ]
 simp[HJ,Dr]
 grind⟩
def uG (a:Atm):Bool:=decide (a.kind=1)
def sl (a:Atm):Bool:=decide (a.kind=1)&&(decide (a.type=2)||decide (a.type=3))
def sk (a:Atm):Bool:=decide (a.kind=1)&&decide (a.type=1)
def mX (a:Atm):Bool:=decide (a.kind=1)&&decide (a.type=4)
def uF (c:Chg) (a:Atm):Bool:=decide (a.id=c.file)||(decide (a.kind=5)&&decide (a.file=c.file))
def uE (c:Chg) (a:Atm):Bool:=decide (c.kind=7)||(decide (a.kind=fJ c.kind)&&decide (a.file=c.file))
instance qv (a:Atm):Bj Tryz.prog 199 [.agg (eAtm a)] (.raw (.bool (uG a))):=⟨by
 refine Aj Tryz.func199 Tryz.ntmps199 rfl (rs:= [.tmp 2]) rfl rfl fun hb LF=>?_
 refine wf ?_
 refine Al (.of_eq ?_)
 rfl⟩
instance qu (a:Atm):Bj Tryz.prog 200 [.agg (eAtm a)] (.raw (.bool (sl a))):=⟨by
 refine Aj Tryz.func200 Tryz.ntmps200 rfl (rs:= [.tmp 2]) rfl rfl fun hb LF=>?_
 refine wf ?_
 repeat' (first|(refine A1 (fun h=>?_) (fun h=>?_)<;>refine wf ?_)|(refine AN (fun h=>?_) (fun h=>?_)<;>refine wf ?_)|(refine AU (fun h=>?_) (fun h=>?_)<;>refine wf ?_)|(refine Aw (fun h=>?_) (fun h=>?_)<;>(have h2:=h;(try simp only[AJ,A8,AQ,AR]at h2);refine wf ?_)))
 all_goals (refine Al (.of_eq ?_);simp only[sl];first|(simp_all;done)|grind)⟩
instance qt (a:Atm):Bj Tryz.prog 201 [.agg (eAtm a)] (.raw (.bool (sk a))):=⟨by
 refine Aj Tryz.func201 Tryz.ntmps201 rfl (rs:= [.tmp 2]) rfl rfl fun hb LF=>?_
 refine wf ?_
 repeat' (first|(refine A1 (fun h=>?_) (fun h=>?_)<;>refine wf ?_)|(refine AN (fun h=>?_) (fun h=>?_)<;>refine wf ?_)|(refine AU (fun h=>?_) (fun h=>?_)<;>refine wf ?_)|(refine Aw (fun h=>?_) (fun h=>?_)<;>(have h2:=h;(try simp only[AJ,A8,AQ,AR]at h2);refine wf ?_)))
 all_goals (refine Al (.of_eq ?_);simp only[sk];first|(simp_all;done)|grind)⟩
instance qs (a:Atm):Bj Tryz.prog 203 [.agg (eAtm a)] (.raw (.bool (mX a))):=⟨by
 refine Aj Tryz.func203 Tryz.ntmps203 rfl (rs:= [.tmp 2]) rfl rfl fun hb LF=>?_
 refine wf ?_
 repeat' (first|(refine A1 (fun h=>?_) (fun h=>?_)<;>refine wf ?_)|(refine AN (fun h=>?_) (fun h=>?_)<;>refine wf ?_)|(refine AU (fun h=>?_) (fun h=>?_)<;>refine wf ?_)|(refine Aw (fun h=>?_) (fun h=>?_)<;>(have h2:=h;(try simp only[AJ,A8,AQ,AR]at h2);refine wf ?_)))
 all_goals (refine Al (.of_eq ?_);simp only[mX];first|(simp_all;done)|grind)⟩
instance qq (c:Chg) (a:Atm):Bj Tryz.prog 204 [.agg (eAtm a),.pt (BG c) 0] (.raw (.bool (uF c a))):=⟨by
 refine Aj Tryz.func204 Tryz.ntmps204 rfl (rs:= [.tmp 3]) rfl rfl fun hb LF=>?_
 refine wf ?_
 repeat' (first|(refine A1 (fun h=>?_) (fun h=>?_)<;>refine wf ?_)|(refine AN (fun h=>?_) (fun h=>?_)<;>refine wf ?_)|(refine AU (fun h=>?_) (fun h=>?_)<;>refine wf ?_)|(refine Aw (fun h=>?_) (fun h=>?_)<;>(have h2:=h;(try simp only[AJ,A8,AQ,AR]at h2);refine wf ?_)))
 all_goals (refine Al (.of_eq ?_);simp only[uF];first|(simp_all;done)|grind)⟩
instance qp (c:Chg) (a:Atm):Bj Tryz.prog 205 [.agg (eAtm a),.pt (BG c) 0] (.raw (.bool (uE c a))):=⟨by
 refine Aj Tryz.func205 Tryz.ntmps205 rfl (rs:= [.tmp 3]) rfl rfl fun hb LF=>?_
 refine wf ?_
 repeat' (first|(refine A1 (fun h=>?_) (fun h=>?_)<;>refine wf ?_)|(refine AN (fun h=>?_) (fun h=>?_)<;>refine wf ?_)|(refine AU (fun h=>?_) (fun h=>?_)<;>refine wf ?_)|(refine Aw (fun h=>?_) (fun h=>?_)<;>(have h2:=h;(try simp only[AJ,A8,AQ,AR]at h2);refine wf ?_)))
 all_goals (refine Al (.of_eq ?_);simp only[uE];first|(simp_all;done)|grind)⟩
def ez (b:Nat) (l:List Rfc) (t:CZ):List Res:= [.box b 187 [.slice (l.map eRfc) t],.tok t l.length 34]
theorem sA (x:Ident) (f:Nat) (cs:List PV) (b:Nat) (l:List Rfc) (t:CZ) (hl:l.length≤1000000):
  B2 Tryz.prog 198 [.agg (eIdent x),.clo f cs,.raw (.pointer (some ⟨b,0,none⟩))] (ez b l t) (fun _ L'=> ∃ t',L'=ez b (l++ [⟨x,f,cs⟩]) t'):=by
 refine Bt Tryz.func198 rfl Tryz.ntmps198 (rs:= []) rfl rfl fun hb LF=>?_
 rw[show ez b l t++LF= .box b 187 [.slice (l.map eRfc) t]:: .tok t l.length 34::LF from rfl]
 refine QL fun t'=>?_
 exact⟨trivial,[],ez b (l++ [⟨x,f,cs⟩]) t',.nil,.refl _,t',rfl⟩
section
variable {N:Nat} {all:Array Oper} {K:Env→List Res→Prop} {fl:List Bool} {os:List Oper} {ρ:Env} {L:List Res} {Q:PPost} {c:Code} {d:Nat} {ty:TypeId} {pos:String} {af:Array Edge}
theorem Sq {x x0 x1:Operand} {ats:Array TypeId} {b f:Nat} {l:List Rfc} {t:CZ} {id:Ident} {cs:List PV} {a1:PV} {LF:List Res}
  (qx:ρ.ev x= .clo 198 [.raw (.pointer (some ⟨b,0,none⟩))]) (q0:ρ.ev x0= .agg (eIdent id)) (q1:ρ.ev x1=a1) [h1:VT a1 f cs] (hl:l.length≤1000000)
  (k: ∀ t' u,AW Tryz.prog N all K fl.tail os (CT ρ d u) (.box b 187 [.slice ((l++ [Rfc.mk id f cs]).map eRfc) t']:: .tok t' (l++ [Rfc.mk id f cs]).length 34::LF)) (hd:Nat.blt d N=true:=by rfl) (hfl:fl.headD true=true:=by rfl):
  AW Tryz.prog N all K fl (⟨some d,.call { callee:= .value x,args:= #[x0,x1],argTypes:=ats },ty,pos,af,none⟩::os) ρ (.box b 187 [.slice (l.map eRfc) t]:: .tok t l.length 34::LF):=
 Bn (xs:= [x0,x1]) (ez b l t) LF (.of_eq qx) rfl rfl (.refl _) (fun _ L'=> ∃ t',L'=ez b (l++ [⟨id,f,cs⟩]) t')
  (B2.args (bs:= [.agg (eIdent id),.clo f cs,.raw (.pointer (some ⟨b,0,none⟩))]) rfl (fun i g1 g2=>by
   match i,g1,g2 with
   |0,_,_=>exact .of_eq q0
   |1,_,_=>show Le (ρ.ev x1) _;rw[q1];exact h1.out
   |2,_,_=>exact .refl _
   |m+3,g1,_=>exact absurd g1 (by simp)) (sA id f cs b l t hl)) (fun r L' ⟨t',e⟩=>by subst e;exact k t' r) hd hfl
end
def HS (c:Chg):List Rfc:=
 if c.kind=2∨c.kind=3 then [⟨c.file,199,[]⟩]else if c.kind=4 then [⟨c.file,200,[]⟩]else
 if c.kind=5∨c.kind=6 then [⟨c.file,201,[]⟩]else []
def K9 (c:Chg):List Rfc:=if c.kind=2∧c.parent≠⟨Dig.zero,-1⟩then [⟨c.parent,203,[]⟩]else []
def OJ (c:Chg):List Rfc:=if c.kind=5∨c.kind=6 then [⟨c.after,204,[.pt (BG c) 0]⟩,⟨c.before,204,[.pt (BG c) 0]⟩]else []
def Mb (c:Chg) (l:List Ident):List Rfc:=l.map fun x=>⟨x,205,[.pt (BG c) 0]⟩
def Eb (c:Chg):List Rfc:=HS c++K9 c++OJ c++Mb c c.over
theorem UZ (c:Chg):(HS c).length≤1:=by unfold HS;split<;>(try split)<;>(try split)<;>simp
theorem UY (c:Chg):(K9 c).length≤1:=by unfold K9;split<;>simp
theorem UX (c:Chg):(OJ c).length≤2:=by unfold OJ;split<;>simp
instance iX (c:Chg) [hs:B0 (c.over.length≤400)]:Bj Tryz.prog 163 [.agg (BG c)] (.slice ((Eb c).map eRfc) .ro):=⟨by
 have hover:=hs.out
 have r1:=UZ c
 have r2:=UY c
 have r3:=UX c
 refine Aj Tryz.func163 Tryz.ntmps163 rfl (rs:= [.tmp 2]) rfl rfl fun hb LF=>?_
 refine wf ?_
 refine BN fun b3=>?_
 refine wo ?_
 refine AE ?_
 refine Dw 34 ?_
 refine Fy (.swap _ _ _) ?_
 refine ws ?_
 refine DD (σ:=List Rfc × CZ) (fun s=>s.1=HS c) (fun s=> [(1,.pt (BG c) 0),(3,.raw (.pointer (some ⟨b3,0,none⟩))),(4,.clo 198 [.raw (.pointer (some ⟨b3,0,none⟩))])]) (fun s=> .box b3 187 [.slice (s.1.map eRfc) s.2]:: .tok s.2 s.1.length 34::LF) ?_ ?_
 ·refine wf ?_
  refine DD (σ:=Unit) (fun _=>True) (fun _=> [(1,.pt (BG c) 0),(3,.raw (.pointer (some ⟨b3,0,none⟩))),(4,.clo 198 [.raw (.pointer (some ⟨b3,0,none⟩))]),(10,.raw (.int .i64 c.kind)),(11,.raw (.bool (decide (c.kind=2∨c.kind=3))))]) (fun _=> .box b3 187 [.slice [] .nil]:: .tok .nil 0 34::LF) ?_ ?_
  ·refine A1 (fun h=>?_) (fun h=>?_)
   ·refine wf ?_
    exact⟨(),trivial,⟨rfl,rfl,rfl,rfl,BW (by rfl) (by simp[h])⟩,.refl _⟩
   ·refine wf ?_
    exact⟨(),trivial,⟨rfl,rfl,rfl,rfl,BW (by rfl) (by simp[h])⟩,.refl _⟩
  intro _ _
  refine A1 (fun h=>?_) (fun h=>?_)
  ·refine wf ?_
   refine Sq (l:= []) rfl rfl (by(conv=>lhs;whnf);done) (h1:=(by first|infer_instance|fail)) (by simp) fun t' u=>?_
   refine wf ?_
   exact⟨([⟨c.file,199,[]⟩],t'),by rw[HS,if_pos h],⟨rfl,rfl,rfl⟩,.refl _⟩
  have e1:HS c=if c.kind=4 then [⟨c.file,200,[]⟩]else if c.kind=5∨c.kind=6 then [⟨c.file,201,[]⟩]else []:=by rw[HS,if_neg h]
  refine wf ?_
  refine A1 (fun h4=>?_) (fun h4=>?_)
  ·refine wf ?_
   refine Sq (l:= []) rfl rfl (by(conv=>lhs;whnf);done) (h1:=(by first|infer_instance|fail)) (by simp) fun t' u=>?_
   refine wf ?_
   exact⟨([⟨c.file,200,[]⟩],t'),by rw[e1,if_pos h4],⟨rfl,rfl,rfl⟩,.refl _⟩
  rw[if_neg h4]at e1
  refine wf ?_
  refine DD (σ:=Unit) (fun _=>True) (fun _=> [(1,.pt (BG c) 0),(3,.raw (.pointer (some ⟨b3,0,none⟩))),(4,.clo 198 [.raw (.pointer (some ⟨b3,0,none⟩))]),(24,.raw (.bool (decide (c.kind=5∨c.kind=6))))]) (fun _=> .box b3 187 [.slice [] .nil]:: .tok .nil 0 34::LF) ?_ ?_
  ·refine A1 (fun h=>?_) (fun h=>?_)
   ·refine wf ?_
    exact⟨(),trivial,⟨rfl,rfl,rfl,BW (by rfl) (by simp[h])⟩,.refl _⟩
   ·refine wf ?_
    exact⟨(),trivial,⟨rfl,rfl,rfl,BW (by rfl) (by simp[h])⟩,.refl _⟩
  intro _ _
  refine A1 (fun h5=>?_) (fun h5=>?_)
  ·refine wf ?_
   refine Sq (l:= []) rfl rfl (by(conv=>lhs;whnf);done) (h1:=(by first|infer_instance|fail)) (by simp) fun t' u=>?_
   refine wf ?_
   exact⟨([⟨c.file,201,[]⟩],t'),by rw[e1,if_pos h5],⟨rfl,rfl,rfl⟩,.refl _⟩
  ·refine wf ?_
   exact⟨([],.nil),by rw[e1,if_neg h5],⟨rfl,rfl,rfl⟩,.refl _⟩
 rintro⟨l1,t1⟩ hl1
 dsimp only at hl1 ⊢
 subst hl1
 refine ws ?_
 refine BB [(39,.raw (.bool (decide (c.kind=2∧c.parent≠⟨Dig.zero,-1⟩)))),(1,.pt (BG c) 0),(3,.raw (.pointer (some ⟨b3,0,none⟩))),(4,.clo 198 [.raw (.pointer (some ⟨b3,0,none⟩))])] (.box b3 187 [.slice ((HS c).map eRfc) t1]:: .tok t1 (HS c).length 34::LF) ?_ ?_
 ·repeat' (first|(refine A1 (fun h=>?_) (fun h=>?_)<;>refine wf ?_)|(refine AN (fun h=>?_) (fun h=>?_)<;>refine wf ?_)|(refine AU (fun h=>?_) (fun h=>?_)<;>refine wf ?_)|(refine Aw (fun h=>?_) (fun h=>?_)<;>(have h2:=h;(try simp only[AJ,A8,AQ,AR]at h2);refine wf ?_)))
  all_goals (refine⟨⟨BW (by rfl) ?_,rfl,rfl,rfl⟩,.refl _⟩;first|(simp_all;done)|grind)
 refine DD (σ:=List Rfc × CZ) (fun s=>s.1=HS c++K9 c) (fun s=> [(1,.pt (BG c) 0),(3,.raw (.pointer (some ⟨b3,0,none⟩))),(4,.clo 198 [.raw (.pointer (some ⟨b3,0,none⟩))])]) (fun s=> .box b3 187 [.slice (s.1.map eRfc) s.2]:: .tok s.2 s.1.length 34::LF) ?_ ?_
 ·refine A1 (fun h=>?_) (fun h=>?_)
  ·refine wf ?_
   refine Sq rfl rfl (by(conv=>lhs;whnf);done) (h1:=(by first|infer_instance|fail)) (by omega) fun t' u=>?_
   refine wf ?_
   exact⟨(HS c++ [⟨c.parent,203,[]⟩],t'),by rw[K9,if_pos h],⟨rfl,rfl,rfl⟩,.refl _⟩
  ·refine wf ?_
   exact⟨(HS c,t1),by rw[K9,if_neg h];simp,⟨rfl,rfl,rfl⟩,.refl _⟩
 rintro⟨l1,t2⟩ hl1
 dsimp only at hl1 ⊢
 subst hl1
 refine ws ?_
 refine BB [(51,.raw (.bool (decide (c.kind=5∨c.kind=6)))),(1,.pt (BG c) 0),(3,.raw (.pointer (some ⟨b3,0,none⟩))),(4,.clo 198 [.raw (.pointer (some ⟨b3,0,none⟩))])] (.box b3 187 [.slice ((HS c++K9 c).map eRfc) t2]:: .tok t2 (HS c++K9 c).length 34::LF) ?_ ?_
 ·repeat' (first|(refine A1 (fun h=>?_) (fun h=>?_)<;>refine wf ?_)|(refine AN (fun h=>?_) (fun h=>?_)<;>refine wf ?_)|(refine AU (fun h=>?_) (fun h=>?_)<;>refine wf ?_)|(refine Aw (fun h=>?_) (fun h=>?_)<;>(have h2:=h;(try simp only[AJ,A8,AQ,AR]at h2);refine wf ?_)))
  all_goals (refine⟨⟨BW (by rfl) ?_,rfl,rfl,rfl⟩,.refl _⟩;first|(simp_all;done)|grind)
 refine DD (σ:=List Rfc × CZ) (fun s=>s.1=HS c++K9 c++OJ c) (fun s=> [(1,.pt (BG c) 0),(3,.raw (.pointer (some ⟨b3,0,none⟩))),(4,.clo 198 [.raw (.pointer (some ⟨b3,0,none⟩))])]) (fun s=> .box b3 187 [.slice (s.1.map eRfc) s.2]:: .tok s.2 s.1.length 34::LF) ?_ ?_
 ·refine A1 (fun h=>?_) (fun h=>?_)
  ·refine wf ?_
   refine Sq rfl rfl (by(conv=>lhs;whnf);done) (h1:=(by first|infer_instance|fail)) (by simp only[A7];omega) fun t' u=>?_
   refine wf ?_
   refine Sq rfl rfl (by(conv=>lhs;whnf);done) (h1:=(by first|infer_instance|fail)) (by simp only[A7,AH,Aa];omega) fun t' u=>?_
   refine wf ?_
   exact⟨(HS c++K9 c++ [⟨c.after,204,[.pt (BG c) 0]⟩]++ [⟨c.before,204,[.pt (BG c) 0]⟩],t'),by rw[OJ,if_pos h];simp,⟨rfl,rfl,rfl⟩,.refl _⟩
  ·refine wf ?_
   exact⟨(HS c++K9 c,t2),by rw[OJ,if_neg h];simp,⟨rfl,rfl,rfl⟩,.refl _⟩
 rintro⟨l1,t3⟩ hl1
 dsimp only at hl1 ⊢
 have hl3:l1.length≤4:=by rw[hl1];simp only[A7];omega
 refine wf ?_
 refine AV (σ:=Nat × List Rfc × CZ) (fun k=>k.1≤c.over.length∧k.2.1=l1++Mb c (c.over.take k.1)) (fun k=>c.over.length - k.1) (fun k=> [(1,.pt (BG c) 0),(3,.raw (.pointer (some ⟨b3,0,none⟩))),(4,.clo 198 [.raw (.pointer (some ⟨b3,0,none⟩))]),(64,.slice (c.over.map eIdent) .ro),(65,.raw (.int .i64 c.over.length)),(66,.raw (.int .i64 k.1))]) (fun k=> .box b3 187 [.slice (k.2.1.map eRfc) k.2.2]:: .tok k.2.2 k.2.1.length 34::LF) (0,l1,t3) ⟨by simp,by simp[Mb]⟩ ⟨rfl,rfl,rfl,rfl,rfl,rfl⟩ (.refl _) ?_
 rintro⟨k,m,t4⟩ ⟨hk,hm⟩
 dsimp only at hk hm ⊢
 have hml:m.length≤404:=by rw[hm,Mb];simp only[A7,AF,AG];omega
 refine wf ?_
 refine A1 (fun hc=>?_) (fun hc=>?_)
 ·have hlt:k < c.over.length:=by omega
  refine wz fun b7=>?_
  refine Ag 7 ?_
  refine wf ?_
  refine Sq rfl rfl (by(conv=>lhs;whnf);done) (h1:=(by first|infer_instance|fail)) (by omega) fun t' u=>?_
  refine wf ?_
  refine⟨(k+1,m++ [⟨c.over[k],205,[.pt (BG c) 0]⟩],t'),⟨by dsimp only;omega,?_⟩,by dsimp only;omega,⟨rfl,rfl,rfl,rfl,rfl,rfl⟩,.refl _⟩
  dsimp only
  rw[hm,Mb,Mb,A6 hlt,Az,AL];rfl
 ·rw[AA (by omega)]at hm
  refine wf ?_
  refine Al (.ros ?_)
  rw[hm,hl1];rfl⟩
theorem Gb {α:Type} (f:α→Int): ∀ a b:List α,Aq f (a++b)=if Aq f a≠0 then Aq f a else Aq f b
 | [],b=>by simp[Aq]
 |x::a,b=>by
  simp only[BM,Aq,Gb f a b]
  by_cases h:f x=0<;>simp[h]
theorem Q3 {α β:Type} (f:β→Int) (g:α→β): ∀ l:List α,Aq f (l.map g)=Aq (fun x=>f (g x)) l
 | []=>rfl
 |x::l=>by simp only[BH,Aq,Q3 f g l]
theorem GB {α:Type} {f g:α→Int}: ∀ {l:List α},(∀ x∈l,f x=g x)→Aq f l=Aq g l
 | [],_=>rfl
 |x::l,h=>by
  rw[Aq,Aq,h x (by simp),GB (fun y hy=>h y (AD _ hy))]
def Mi (c:Chg) (f:Nat):Atm→Bool:=
 if f=199 then uG else if f=200 then sl else if f=201 then sk else if f=203 then mX else if f=204 then uF c else uE c
theorem jW (c:Chg) (r:Rfc) (h:r∈Eb c):vT Tryz.prog r (Mi c r.f):=by
 simp only[Eb,Ay]at h
 rcases h with ((h|h)|h)|h
 ·unfold HS at h
  split at h
  ·simp at h;subst h;exact⟨inferInstance,fun a=>(qv a).out⟩
  ·split at h
   ·simp at h;subst h;exact⟨inferInstance,fun a=>(qu a).out⟩
   ·split at h
    ·simp at h;subst h;exact⟨inferInstance,fun a=>(qt a).out⟩
    ·simp at h
 ·unfold K9 at h
  split at h
  ·simp at h;subst h;exact⟨inferInstance,fun a=>(qs a).out⟩
  ·simp at h
 ·unfold OJ at h
  split at h
  ·simp at h
   rcases h with h|h<;>subst h<;>exact⟨inferInstance,fun a=>(qq c a).out⟩
  ·simp at h
 ·unfold Mb at h
  obtain⟨x,_,rfl⟩:=AX.1 h
  exact⟨inferInstance,fun a=>(qp c a).out⟩
def N3 (c:Chg) (own:List Atm) (r:Rfc):Int:=
 if r.id.n < 0∨(r.id.patch=Dig.zero∧(own.length:Int)≤r.id.n)∨100000≤r.id.n then 7 else if r.id.patch=Dig.zero∧Mi c r.f (own.getD r.id.n.toNat Atm.zero)=false then 8 else 0
def Qc (c:Chg) (own:List Atm):Int:=
 if Aq (N3 c own) (Eb c)≠0 then Aq (N3 c own) (Eb c)else if c.kind=2∧c.parent=c.file then 20 else
 if(c.kind=6∧c.after=c.before)∨(c.kind=5∧c.after=c.before∧c.after≠c.file)then 1 else 0
def Mj (own:List Atm):Prop:= ∀ i (h:i < own.length),own[i].id=⟨Dig.zero,i⟩
theorem LJ (c:Chg) (own:List Atm) (hl:own.length≤100000) (x:Ident) (f:Nat) (cs:List PV):N3 c own ⟨x,f,cs⟩=JL x own (Mi c f (LN own x)):=by
 by_cases h:x.patch=Dig.zero
 ·by_cases h1:0≤x.n∧x.n < own.length
  ·have n1: ¬(x.n < 0∨(x.patch=Dig.zero∧(own.length:Int)≤x.n)∨100000≤x.n):=by rintro(h2|⟨_,h2⟩|h2)<;>omega
   have ha:Dn x own.length=true:=by unfold Dn;rw[if_pos h];simp[h1]
   unfold N3 JL LN
   dsimp only
   rw[if_neg n1,ha,if_pos (show x.patch=Dig.zero∧0≤x.n from⟨h,h1.1⟩)]
   simp only[Bool.true_eq_false,if_false]
  ·have n1:x.n < 0∨(x.patch=Dig.zero∧(own.length:Int)≤x.n)∨100000≤x.n:=by
    by_cases h2:x.n < 0
    ·exact .inl h2
    ·exact .inr (.inl ⟨h,by omega⟩)
   have ha:Dn x own.length=false:=by
    unfold Dn;rw[if_pos h]
    by_cases h2:0≤x.n
    ·have: ¬x.n < own.length:=fun h3=>h1 ⟨h2,h3⟩
     simp[this]
    ·simp[h2]
   unfold N3 JL
   dsimp only
   rw[if_pos n1,if_pos ha]
 ·by_cases h1:0≤x.n∧x.n < 100000
  ·have n1: ¬(x.n < 0∨(x.patch=Dig.zero∧(own.length:Int)≤x.n)∨100000≤x.n):=by
    rintro(h2|⟨h2,_⟩|h2)
    ·omega
    ·exact h h2
    ·omega
   have ha:Dn x own.length=true:=by unfold Dn;rw[if_neg h];simp[h1]
   unfold N3 JL
   dsimp only
   rw[if_neg n1,ha]
   simp only[Bool.true_eq_false,if_false,h,false_and]
  ·have n1:x.n < 0∨(x.patch=Dig.zero∧(own.length:Int)≤x.n)∨100000≤x.n:=by omega
   have ha:Dn x own.length=false:=by
    unfold Dn;rw[if_neg h]
    by_cases h2:0≤x.n
    ·have: ¬x.n < 100000:=fun h3=>h1 ⟨h2,h3⟩
     simp[this]
    ·simp[h2]
   unfold N3 JL
   dsimp only
   rw[if_pos n1,if_pos ha]
theorem SO {x:Ident} {own:List Atm} {a b:Bool} (h:x.patch=Dig.zero→0≤x.n→x.n < own.length→a=b):JL x own a=JL x own b:=by
 unfold JL
 by_cases h1:Dn x own.length=false
 ·rw[if_pos h1,if_pos h1]
 rw[if_neg h1,if_neg h1]
 by_cases h2:x.patch=Dig.zero
 ·have h3:Dn x own.length=true:=by simpa using h1
  unfold Dn at h3
  simp only[h2,if_true,Bx,AJ]at h3
  rw[h h2 h3.1 h3.2]
 ·rw[if_neg (fun h3=>h2 h3.1),if_neg (fun h3=>h2 h3.1)]
theorem JW {c:Chg} (h:C0 c=0):1≤c.kind∧c.kind≤7:=by
 unfold C0 at h
 by_cases h1:c.kind < 1∨7 < c.kind
 ·rw[if_pos h1]at h;omega
 ·omega
theorem Jt {c:Chg} (h:C0 c=0):Fw (Ih c)=true:=by
 have hk:=JW h
 unfold C0 at h
 rw[if_neg (by omega)]at h
 by_cases h1:Fw (Ih c)=false
 ·rw[if_pos h1]at h;omega
 ·simpa using h1
theorem JV {c:Chg} (h:C0 c=0) (hk:c.kind=1∨c.kind=5):c.over= []:=by
 have h2:=Jt h
 unfold Fw Ih at h2
 simp only[Bx,AJ]at h2
 have h3:=h2.2
 rw[if_neg (by omega)]at h3
 exact BU (by omega)
theorem RZ {c:Chg} (h:C0 c=0):c.over.length≤400:=by
 have h0:=JV h
 have hk:c.kind=5∨c.kind≠5:=by omega
 rcases hk with hk|hk
 ·rw[h0 (.inr hk)];simp
 clear h0
 unfold C0 at h
 generalize Fw (Ih c)=a1 at h
 generalize EN c.name=a2 at h
 generalize Qf c.over=a3 at h
 generalize Lr c.lines=a4 at h
 rcases BC 400 c.over.length with hc|hc
 ·exfalso
  have hc':400 < (c.over.length:Int):=by omega
  rw[if_pos hc',if_neg hk]at h
  by_cases g1:c.kind < 1∨7 < c.kind
  ·rw[if_pos g1]at h;exact absurd h (by decide)
  rw[if_neg g1]at h
  by_cases g2:a1=false
  ·rw[if_pos g2]at h;exact absurd h (by decide)
  rw[if_neg g2]at h
  by_cases g3:c.kind=1∧(c.type < 1∨4 < c.type)
  ·rw[if_pos g3]at h;exact absurd h (by decide)
  rw[if_neg g3]at h
  by_cases g4:c.kind=2∧a2=false
  ·rw[if_pos g4]at h;exact absurd h (by decide)
  rw[if_neg g4]at h
  by_cases g5:c.kind=3∧(c.mode < 0∨511 < c.mode)
  ·rw[if_pos g5]at h;exact absurd h (by decide)
  rw[if_neg g5]at h
  by_cases g6:65536 < (c.data.length:Int)
  ·rw[if_pos g6]at h;exact absurd h (by decide)
  rw[if_neg g6]at h
  by_cases g7:c.kind=7∧(c.over.length:Int)=0
  ·rw[if_pos g7]at h;exact absurd h (by decide)
  rw[if_neg g7]at h
  exact absurd h (by decide)
 ·exact hc
theorem gy {c:Chg} {own:List Atm} (hf:C0 c=0) (hl:own.length≤100000) (hi:Mj own):Qc c own=FT c own:=by
 have hk:=JW hf
 have e1:Aq (N3 c own) (HS c)=KB c own:=by
  unfold HS KB
  by_cases h1:c.kind=2∨c.kind=3
  ·have:uG=EE c.kind:=by
    funext a;unfold uG EE Ig
    rcases h1 with h|h<;>simp[h]
   rw[if_pos h1,if_pos (by omega),Aq,Aq,LJ c own hl,show Mi c 199=uG from rfl,this]
   split<;>simp_all
  by_cases h2:c.kind=4
  ·have:sl=EE c.kind:=by
    funext a;unfold sl EE Ig
    simp[h2]<;>(by_cases ha:a.kind=1<;>simp[ha])
   rw[if_neg h1,if_pos h2,if_pos (by omega),Aq,Aq,LJ c own hl,show Mi c 200=sl from rfl,this]
   split<;>simp_all
  by_cases h3:c.kind=5∨c.kind=6
  ·have:sk=EE c.kind:=by
    funext a;unfold sk EE Ig
    rcases h3 with h|h<;>simp[h]<;>by_cases ha:a.kind=1<;>simp[ha]
   rw[if_neg h1,if_neg h2,if_pos h3,if_pos (by omega),Aq,Aq,LJ c own hl,show Mi c 201=sk from rfl,this]
   split<;>simp_all
  ·rw[if_neg h1,if_neg h2,if_neg h3,if_neg (by omega)];rfl
 have e2:Aq (N3 c own) (K9 c)=Me c own:=by
  unfold K9 Me Xq
  by_cases h1:c.kind=2∧c.parent≠⟨Dig.zero,-1⟩
  ·rw[if_pos h1,if_pos h1,Aq,Aq,LJ c own hl,show Mi c 203=mX from rfl,show mX=rDirectory from rfl]
   split<;>simp_all
  ·rw[if_neg h1,if_neg h1];rfl
 have e6: ∀ x:Ident,N3 c own ⟨x,204,[.pt (BG c) 0]⟩=PX c own x:=fun x=>by
  rw[LJ c own hl,show Mi c 204=uF c from rfl,PX]
  refine SO fun h1 h2 h3=>?_
  have h4:x.n.toNat < own.length:=by omega
  have e:(LN own x).id=x:=by
   unfold LN
   rw[if_pos ⟨h1,h2⟩]
   have:own.getD x.n.toNat Atm.zero=own[x.n.toNat]:=by simp[List.getD,h4]
   rw[this,hi _ h4]
   obtain⟨p,n⟩:=x
   simp only at h1 h2 ⊢
   subst h1
   congr 1
   omega
  unfold uF
  rw[e];rfl
 have e3:Aq (N3 c own) (OJ c)=IH c own:=by
  unfold OJ IH
  by_cases h1:c.kind=5∨c.kind=6
  ·have:Ig c.kind=true:=by unfold Ig;rcases h1 with h|h<;>simp[h]
   rw[if_pos h1,if_pos this]
   simp only[Aq,e6]
  ·have: ¬Ig c.kind=true:=by unfold Ig;intro h;simp at h;exact h1 h
   rw[if_neg h1,if_neg this];rfl
 have e4:Aq (N3 c own) (Mb c c.over)=Aq (N9 c own) c.over:=by
  unfold Mb
  rw[Q3]
  refine GB fun x hx=>?_
  rw[LJ c own hl,show Mi c 205=uE c from rfl,N9]
  refine SO fun _ _ _=>?_
  have h15:c.kind≠1∧c.kind≠5:=⟨fun h=>(by rw[JV hf (.inl h)]at hx;simp at hx),fun h=>(by rw[JV hf (.inr h)]at hx;simp at hx)⟩
  unfold uE H8 SG fJ
  by_cases h7:c.kind=7
  ·simp[h7]
  ·have:c.kind=2∨c.kind=3∨c.kind=4∨c.kind=6:=by omega
   rw[if_pos this,if_neg h7]
   simp[h7]
   omega
 unfold Qc FT
 rw[Eb,Gb,Gb,Gb,e1,e2,e3,e4]
 have e5:((c.kind=6∧c.after=c.before)∨(c.kind=5∧c.after=c.before∧c.after≠c.file))↔((Ig c.kind=true∧c.after=c.before)∧(c.kind=6∨c.after≠c.file)):=by
  unfold Ig
  simp only[Th,AJ]
  constructor
  ·rintro(⟨h1,h2⟩|⟨h1,h2,h3⟩)
   ·exact⟨⟨.inr h1,h2⟩,.inl h1⟩
   ·exact⟨⟨.inl h1,h2⟩,.inr h3⟩
  ·rintro⟨⟨h1|h1,h2⟩,h3⟩
   ·rcases h3 with h3|h3
    ·omega
    ·exact .inr ⟨h1,h2,h3⟩
   ·exact .inl ⟨h1,h2⟩
 simp only[e5]
 by_cases a1:KB c own=0<;>by_cases a2:Me c own=0<;>by_cases a3:IH c own=0<;>by_cases a4:Aq (N9 c own) c.over=0<;>simp[a1,a2,a3,a4]
theorem UW {c:Chg} (h:c.over.length≤400):(Eb c).length≤404:=by
 have r1:=UZ c
 have r2:=UY c
 have r3:=UX c
 rw[Eb,Mb];simp only[A7,AF];omega
theorem Wy (c:Chg) (own:List Atm) (t:CZ) (hov:c.over.length≤400) (hol:own.length≤100000):Q.Fn Tryz.prog 223 [.agg (BG c),.slice (own.map eAtm) t] (.raw (.int .i64 (Qc c own))):=by
 have i0:B0 (c.over.length≤400):=⟨hov⟩
 have hrl:=UW hov
 refine Aj Tryz.func223 Tryz.ntmps223 rfl (rs:= [.tmp 4]) rfl rfl fun hb LF=>?_
 refine wf ?_
 refine AV (σ:=Nat) (fun k=>k≤(Eb c).length∧ ∀ i (h:i < (Eb c).length),i < k→N3 c own (Eb c)[i]=0) (fun k=>(Eb c).length - k) (fun k=> [(1,.slice (own.map eAtm) t),(2,.pt (BG c) 0),(8,.slice ((Eb c).map eRfc) .ro),(9,.raw (.int .i64 (Eb c).length)),(10,.raw (.int .i64 k))]) (fun _=>LF) 0 ⟨by simp,by simp⟩ ⟨rfl,rfl,rfl,rfl,rfl⟩ (.refl _) ?_
 rintro k ⟨hk,he⟩
 refine wf ?_
 refine A1 (fun hc=>?_) (fun hc=>?_)
 ·have hlt:k < (Eb c).length:=by omega
  have hat:=CV (f:=N3 c own) hlt he
  have hsu:=fun h=>DT (f:=N3 c own) he hlt h
  have hfit:=jW c _ (AO hlt)
  refine wz fun b6=>?_
  generalize (Eb c)[k]=r at hat hsu hfit ⊢
  refine Ag 6 ?_
  have i1:Av Tryz.prog r.f:=hfit.fn
  have i2: ∀ a:Atm,Bj Tryz.prog r.f (.agg (eAtm a)::r.cs) (.raw (.bool (Mi c r.f a))):=fun a=>⟨hfit.out a⟩
  have er:N3 c own r=if r.id.n < 0∨(r.id.patch=Dig.zero∧(own.length:Int)≤r.id.n)∨100000≤r.id.n then 7 else if r.id.patch=Dig.zero∧Mi c r.f (own.getD r.id.n.toNat Atm.zero)=false then 8 else 0:=rfl
  refine wf ?_
  refine DD (σ:=Unit) (fun _=>True) (fun _=> [(1,.slice (own.map eAtm) t),(2,.pt (BG c) 0),(6,.pt (eRfc r) 0),(8,.slice ((Eb c).map eRfc) .ro),(9,.raw (.int .i64 (Eb c).length)),(10,.raw (.int .i64 k)),(14,.raw (.bool (decide (r.id.n < 0∨(r.id.patch=Dig.zero∧(own.length:Int)≤r.id.n)∨100000≤r.id.n))))]) (fun _=>LF) ?_ ?_
  ·refine A1 (fun h=>?_) (fun h=>?_)
   ·refine wf ?_
    exact⟨(),trivial,⟨rfl,rfl,rfl,rfl,rfl,rfl,BW (by rfl) (by simp[h])⟩,.refl _⟩
   ·refine wf ?_
    refine BB [(14,.raw (.bool (decide (r.id.patch=Dig.zero∧(own.length:Int)≤r.id.n)))),(1,.slice (own.map eAtm) t),(2,.pt (BG c) 0),(6,.pt (eRfc r) 0),(8,.slice ((Eb c).map eRfc) .ro),(9,.raw (.int .i64 (Eb c).length)),(10,.raw (.int .i64 k))] (LF) ?_ ?_
    ·repeat' (first|(refine A1 (fun h=>?_) (fun h=>?_)<;>refine wf ?_)|(refine AN (fun h=>?_) (fun h=>?_)<;>refine wf ?_)|(refine AU (fun h=>?_) (fun h=>?_)<;>refine wf ?_)|(refine Aw (fun h=>?_) (fun h=>?_)<;>(have h2:=h;(try simp only[AJ,A8,AQ,AR]at h2);refine wf ?_)))
     all_goals (refine⟨⟨BW (by rfl) ?_,rfl,rfl,rfl,rfl,rfl,rfl⟩,.refl _⟩;first|(simp_all;done)|(clear hat hsu hfit er he;grind))
    refine wf ?_
    refine A1 (fun h2=>?_) (fun h2=>?_)
    ·refine wf ?_
     exact⟨(),trivial,⟨rfl,rfl,rfl,rfl,rfl,rfl,BW (by rfl) (by simp[h2])⟩,.refl _⟩
    ·refine wf ?_
     have e8:(100000≤r.id.n)↔(r.id.n < 0∨(r.id.patch=Dig.zero∧(own.length:Int)≤r.id.n)∨100000≤r.id.n):=⟨fun h=> .inr (.inr h),fun h3=>by
      rcases h3 with h3|h3|h3
      ·exact absurd h3 h
      ·exact absurd h3 h2
      ·exact h3⟩
     exact⟨(),trivial,⟨rfl,rfl,rfl,rfl,rfl,rfl,BW (by rfl) (by rw[decide_eq_decide];exact e8)⟩,.refl _⟩
  intro _ _
  refine A1 (fun h=>?_) (fun h=>?_)
  ·refine wf ?_
   refine Al (.of_eq ?_)
   rw[if_pos h]at er
   rw[Qc,hat (by rw[er];decide),er];rfl
  rw[if_neg h]at er
  refine wf ?_
  refine BB [(34,.raw (.bool (decide (r.id.patch=Dig.zero∧Mi c r.f (own.getD r.id.n.toNat Atm.zero)=false)))),(1,.slice (own.map eAtm) t),(2,.pt (BG c) 0),(8,.slice ((Eb c).map eRfc) .ro),(9,.raw (.int .i64 (Eb c).length)),(10,.raw (.int .i64 k))] LF ?_ ?_
  ·refine Aw (fun hp=>?_) (fun hp=>?_)
   ·have hp2:=An hp
    have g1:0≤r.id.n:=by
     rcases Tg r.id.n 0 with h'|h'
     ·exact absurd (.inl h') h
     ·exact h'
    have g2:r.id.n < own.length:=by
     rcases Tg r.id.n own.length with h'|h'
     ·exact h'
     ·exact absurd (.inr (.inl ⟨hp2,h'⟩)) h
    have g3:own.getD r.id.n.toNat Atm.zero=own[r.id.n.toNat]'(by omega):=by
     have:r.id.n.toNat < own.length:=by omega
     simp[List.getD,this]
    refine wf ?_
    exact⟨⟨BW (by rfl) (by rw[g3];simp[hp2]),rfl,rfl,rfl,rfl,rfl⟩,.refl _⟩
   ·have hp2:=B6 hp
    refine wf ?_
    exact⟨⟨BW (by rfl) (by simp[hp2]),rfl,rfl,rfl,rfl,rfl⟩,.refl _⟩
  refine wf ?_
  refine A1 (fun h2=>?_) (fun h2=>?_)
  ·refine wf ?_
   refine Al (.of_eq ?_)
   rw[if_pos h2]at er
   rw[Qc,hat (by rw[er];decide),er];rfl
  ·rw[if_neg h2]at er
   refine wf ?_
   exact⟨k+1,⟨by omega,hsu er⟩,by dsimp only;omega,⟨rfl,rfl,rfl,rfl,rfl⟩,.refl _⟩
 have e0:Aq (N3 c own) (Eb c)=0:=CN fun i h=>he i h (by omega)
 rw[Qc,if_neg (by simp[e0])]
 clear e0 he hk hc
 refine wf ?_
 refine BB [(51,.raw (.bool (decide (c.kind=2∧c.parent=c.file)))),(2,.pt (BG c) 0)] (LF) ?_ ?_
 ·repeat' (first|(refine A1 (fun h=>?_) (fun h=>?_)<;>refine wf ?_)|(refine AN (fun h=>?_) (fun h=>?_)<;>refine wf ?_)|(refine AU (fun h=>?_) (fun h=>?_)<;>refine wf ?_)|(refine Aw (fun h=>?_) (fun h=>?_)<;>(have h2:=h;(try simp only[AJ,A8,AQ,AR]at h2);refine wf ?_)))
  all_goals (refine⟨⟨BW (by rfl) ?_,rfl⟩,.refl _⟩;first|(simp_all;done)|grind)
 refine wf ?_
 refine A1 (fun h=>?_) (fun h=>?_)
 ·refine wf ?_
  refine Al (.of_eq ?_)
  rw[if_pos h]
 rw[if_neg h]
 refine wf ?_
 refine BB [(62,.raw (.bool (decide (c.kind=6∧c.after=c.before)))),(2,.pt (BG c) 0)] (LF) ?_ ?_
 ·repeat' (first|(refine A1 (fun h=>?_) (fun h=>?_)<;>refine wf ?_)|(refine AN (fun h=>?_) (fun h=>?_)<;>refine wf ?_)|(refine AU (fun h=>?_) (fun h=>?_)<;>refine wf ?_)|(refine Aw (fun h=>?_) (fun h=>?_)<;>(have h2:=h;(try simp only[AJ,A8,AQ,AR]at h2);refine wf ?_)))
  all_goals (refine⟨⟨BW (by rfl) ?_,rfl⟩,.refl _⟩;first|(simp_all;done)|grind)
 refine wf ?_
 refine DD (σ:=Unit) (fun _=>True) (fun _=> [(62,.raw (.bool (decide ((c.kind=6∧c.after=c.before)∨(c.kind=5∧c.after=c.before∧c.after≠c.file)))))]) (fun _=>LF) ?_ ?_
 ·refine A1 (fun h=>?_) (fun h=>?_)
  ·refine wf ?_
   exact⟨(),trivial,BW (by rfl) (by simp[h]),.refl _⟩
  ·refine wf ?_
   repeat' (first|(refine A1 (fun h=>?_) (fun h=>?_)<;>refine wf ?_)|(refine AN (fun h=>?_) (fun h=>?_)<;>refine wf ?_)|(refine AU (fun h=>?_) (fun h=>?_)<;>refine wf ?_)|(refine Aw (fun h=>?_) (fun h=>?_)<;>(have h2:=h;(try simp only[AJ,A8,AQ,AR]at h2);refine wf ?_)))
   all_goals (refine⟨(),trivial,BW (by rfl) ?_,.refl _⟩;first|(simp_all;done)|grind)
 intro _ _
 refine A1 (fun h=>?_) (fun h=>?_)
 ·refine wf ?_
  refine Al (.of_eq ?_)
  rw[if_pos h]
 ·refine wf ?_
  refine Al (.of_eq ?_)
  rw[if_neg h]
instance al (c:Chg) (own:List Atm) (t:CZ) [hs:B0 (C0 c=0∧own.length≤100000∧Mj own)]:Bj Tryz.prog 223 [.agg (BG c),.slice (own.map eAtm) t] (.raw (.int .i64 (FT c own))):=⟨by
 obtain⟨h1,h2,h3⟩:=hs.out
 rw[←gy h1 h2 h3]
 exact Wy c own t (RZ h1) h2⟩
attribute [local irreducible] MV
instance su (first n:Int) [hs:B0 (0≤first∧first≤1000000000∧0≤n∧n≤100000)]:Bj Tryz.prog 266 [.raw (.int .i64 n),.pt [.raw (.int .i64 first)] 0] (.agg (eIdent ⟨Dig.zero,first+n⟩)):=⟨by
 obtain⟨h1,h2,h3,h4⟩:=hs.out
 refine Aj Tryz.func266 Tryz.ntmps266 rfl (rs:= [.cell 3 98]) rfl rfl fun hb LF=>?_
 refine ZO fun b=>?_
 exact FK rfl (.refl _)⟩
theorem Iz {c:Chg} {first:Int} {x:Atm} (e:EJ c first= [x]):([]++ [x]) <+:EJ c first:=by rw[e];exact⟨[],rfl⟩
theorem PS {k n:Nat} (h:k≤n):List.range k <+:List.range n:=by
 have:=List.take_prefix k (List.range n)
 rwa [List.take_range,DE h]at this
theorem Y7 {a b:Res} {L LF:List Res}:(a::b::(L++LF)).Perm (L++(a::b::LF)):=((BA (l₁:=L)).trans (.cons a BA)).symm
def ow (c:Chg) (first:Int):List PV:= [.pt [.raw (.int .i64 first)] 0,.pt (BG c) 0]
def uy (a:Atm):List PV:= [.agg (eAtm a)]
theorem Ug (c:Chg) (first:Int) (hk:1≤c.kind∧c.kind≤7) (hl:c.lines.length≤2000∧0≤first∧first≤1000000000):ZA Tryz.prog 265 (ow c first) uy (EJ c first):=by
 intro l J Jx hY L hJ
 obtain⟨hl,hf0,hf1⟩:=hl
 have hz:B0 (0≤first∧first≤1000000000∧(0:Int)≤0∧(0:Int)≤100000):=⟨by omega⟩
 refine Bt Tryz.func265 rfl Tryz.ntmps265 (rs:= []) rfl rfl fun hb LF=>?_
 refine wn ?_
 refine A1 (fun h1=>?_) (fun h1=>?_)
 ·have e:EJ c first= [{ Atm.zero with id:=⟨Dig.zero,first+0⟩,kind:=1,file:=⟨Dig.zero,first+0⟩,type:=c.type }]:=by rw[EJ,if_pos h1,OD]
  refine BR 8 ?_ ?_
  ·decide+kernel
  refine wf ?_
  refine Hc L LF rfl rfl rfl (.refl _) _ (hY [] _ L (Iz e) hJ) fun b L' hR=>?_
  refine wf ?_
  refine⟨trivial,[],L',.nil,.refl _,?_⟩
  rcases hR with ⟨_,h⟩|⟨_,h⟩
  ·exact .inl (by rw[e];exact h)
  ·exact .inr ⟨_,h⟩
 refine wn ?_
 refine A1 (fun h2=>?_) (fun h2=>?_)
 ·have e:EJ c first= [{ Atm.zero with id:=⟨Dig.zero,first+0⟩,kind:=2,file:=c.file,parent:=c.parent,name:=c.name,over:=c.over }]:=by rw[EJ,if_neg h1,if_pos h2,OD]
  refine BR 12 ?_ ?_
  ·decide+kernel
  refine wf ?_
  refine Hc L LF rfl rfl rfl (.refl _) _ (hY [] _ L (Iz e) hJ) fun b L' hR=>?_
  refine wf ?_
  refine⟨trivial,[],L',.nil,.refl _,?_⟩
  rcases hR with ⟨_,h⟩|⟨_,h⟩
  ·exact .inl (by rw[e];exact h)
  ·exact .inr ⟨_,h⟩
 refine wn ?_
 refine A1 (fun h3=>?_) (fun h3=>?_)
 ·have e:EJ c first= [{ Atm.zero with id:=⟨Dig.zero,first+0⟩,kind:=3,file:=c.file,mode:=c.mode,over:=c.over }]:=by rw[EJ,if_neg h1,if_neg h2,if_pos h3,OD]
  refine BR 10 ?_ ?_
  ·decide+kernel
  refine wf ?_
  refine Hc L LF rfl rfl rfl (.refl _) _ (hY [] _ L (Iz e) hJ) fun b L' hR=>?_
  refine wf ?_
  refine⟨trivial,[],L',.nil,.refl _,?_⟩
  rcases hR with ⟨_,h⟩|⟨_,h⟩
  ·exact .inl (by rw[e];exact h)
  ·exact .inr ⟨_,h⟩
 refine wn ?_
 refine A1 (fun h4=>?_) (fun h4=>?_)
 ·have e:EJ c first= [{ Atm.zero with id:=⟨Dig.zero,first+0⟩,kind:=4,file:=c.file,data:=c.data,over:=c.over }]:=by rw[EJ,if_neg h1,if_neg h2,if_neg h3,if_pos h4,OD]
  refine BR 10 ?_ ?_
  ·decide+kernel
  refine wf ?_
  refine Hc L LF rfl rfl rfl (.refl _) _ (hY [] _ L (Iz e) hJ) fun b L' hR=>?_
  refine wf ?_
  refine⟨trivial,[],L',.nil,.refl _,?_⟩
  rcases hR with ⟨_,h⟩|⟨_,h⟩
  ·exact .inl (by rw[e];exact h)
  ·exact .inr ⟨_,h⟩
 refine wn ?_
 refine A1 (fun h6=>?_) (fun h6=>?_)
 ·have e:EJ c first= [{ Atm.zero with id:=⟨Dig.zero,first+0⟩,kind:=6,file:=c.file,src:=c.after,dst:=c.before,over:=c.over }]:=by rw[EJ,if_neg h1,if_neg h2,if_neg h3,if_neg h4,if_pos h6,OD]
  refine BR 12 ?_ ?_
  ·decide+kernel
  refine wf ?_
  refine Hc L LF rfl rfl rfl (.refl _) _ (hY [] _ L (Iz e) hJ) fun b L' hR=>?_
  refine wf ?_
  refine⟨trivial,[],L',.nil,.refl _,?_⟩
  rcases hR with ⟨_,h⟩|⟨_,h⟩
  ·exact .inl (by rw[e];exact h)
  ·exact .inr ⟨_,h⟩
 refine wn ?_
 refine A1 (fun h7=>?_) (fun h7=>?_)
 ·have e:EJ c first= [{ Atm.zero with id:=⟨Dig.zero,first+0⟩,kind:=7,over:=c.over }]:=by rw[EJ,if_neg h1,if_neg h2,if_neg h3,if_neg h4,if_neg h6,if_pos h7,OD]
  refine BR 6 ?_ ?_
  ·decide+kernel
  refine wf ?_
  refine Hc L LF rfl rfl rfl (.refl _) _ (hY [] _ L (Iz e) hJ) fun b L' hR=>?_
  refine wf ?_
  refine⟨trivial,[],L',.nil,.refl _,?_⟩
  rcases hR with ⟨_,h⟩|⟨_,h⟩
  ·exact .inl (by rw[e];exact h)
  ·exact .inr ⟨_,h⟩
 refine wn ?_
 refine A1 (fun h5=>?_) (fun h5=>?_)
 ·have e:EJ c first=(List.range c.lines.length).map (FU c first)++(List.range (c.lines.length+1)).map (Eh c first):=by rw[EJ,if_neg h1,if_neg h2,if_neg h3,if_neg h4,if_neg h6,if_neg h7]
  have hc209: ∀ n:Nat,n≤4001→B0 (0≤first∧first≤1000000000∧(0:Int)≤n∧(n:Int)≤100000):=fun n hn=>⟨by omega⟩
  refine wf ?_
  refine AV (σ:=Nat × List Res) (fun k=>k.1≤c.lines.length∧J ((List.range k.1).map (FU c first)) k.2) (fun k=>c.lines.length - k.1) (fun k=> [(0,.raw (.func (.yield l) #[] #[])),(1,.pt [.raw (.int .i64 first)] 0),(2,.pt (BG c) 0),(4,.clo 266 [.pt [.raw (.int .i64 first)] 0]),(93,.slice (c.lines.map eS) .ro),(94,.raw (.int .i64 c.lines.length)),(95,.raw (.int .i64 k.1))]) (fun k=>k.2++LF) (0,L) ⟨by simp,hJ⟩ ⟨rfl,rfl,rfl,rfl,rfl,rfl,rfl⟩ (.refl _) ?_
  rintro⟨k,L1⟩ ⟨hk,hJ1⟩
  dsimp only at hk hJ1 ⊢
  refine wn ?_
  refine A1 (fun hc=>?_) (fun hc=>?_)
  ·have hlt:k < c.lines.length:=by omega
   have hsk:=hc209 k (by omega)
   refine wn ?_
   refine BR 8 ?_ ?_
   ·decide+kernel
   refine wf ?_
   have hx:FU c first k= { Atm.zero with id:=⟨Dig.zero,first+k⟩,kind:=5,file:=c.file,text:=c.lines[k] }:=by simp[FU,List.getD,hlt]
   have hr:(List.range (k+1)).map (FU c first)=(List.range k).map (FU c first)++ [FU c first k]:=by rw[Hz,Az];rfl
   refine Hc L1 LF rfl rfl rfl (.refl _) _ (hY ((List.range k).map (FU c first)) { Atm.zero with id:=⟨Dig.zero,first+k⟩,kind:=5,file:=c.file,text:=c.lines[k] } L1 ?_ hJ1) fun b L' hR=>?_
   ·rw[←hx,←hr,e]
    exact((PS (by omega)).map _).trans (List.prefix_append _ _)
   rw[←hx,←hr]at hR
   refine wf ?_
   rcases hR with ⟨rfl,h⟩|⟨rfl,h⟩
   ·refine AU (t:=false) (fun h'=>by cases h') (fun _=>?_)
    refine wf ?_
    exact⟨(k+1,L'),⟨by dsimp only;omega,h⟩,by dsimp only;omega,⟨rfl,rfl,rfl,rfl,rfl,rfl,rfl⟩,.refl _⟩
   ·refine AU (t:=true) (fun _=>?_) (fun h'=>by cases h')
    refine wf ?_
    exact⟨trivial,[],L',.nil,.refl _,.inr ⟨_,h⟩⟩
  have hkk:k=c.lines.length:=by omega
  subst hkk
  generalize hA:(List.range c.lines.length).map (FU c first)=A at e hJ1
  refine ZO fun b8=>?_
  refine AV (σ:=Nat × Ident × List Res) (fun k=>k.1≤c.lines.length+1∧(k.1≤c.lines.length→k.2.1=(if 0 < (k.1:Int)then⟨Dig.zero,first+k.1 - 1⟩else c.after))∧J (A++(List.range k.1).map (Eh c first)) k.2.2) (fun k=>c.lines.length+1 - k.1) (fun k=> [(0,.raw (.func (.yield l) #[] #[])),(1,.pt [.raw (.int .i64 first)] 0),(2,.pt (BG c) 0),(4,.clo 266 [.pt [.raw (.int .i64 first)] 0]),(7,.raw (.int .i64 c.lines.length)),(8,.raw (.pointer (some ⟨b8,0,none⟩))),(117,.raw (.int .i64 (c.lines.length+1))),(118,.raw (.int .i64 k.1))]) (fun k=> .box b8 98 (eIdent k.2.1)::(k.2.2++LF)) (0,c.after,L1) ⟨by simp,fun _=>rfl,by simpa using hJ1⟩ ⟨rfl,rfl,rfl,rfl,rfl,rfl,rfl,rfl⟩ (.refl _) ?_
  rintro⟨k,fr,L1⟩ ⟨hk,hfr,hJ1⟩
  dsimp only at hk hfr hJ1 ⊢
  refine wf ?_
  refine A1 (fun hc=>?_) (fun hc=>?_)
  ·have hfr:=hfr (by omega)
   have hsk:=hc209 k (by omega)
   have hsk2:B0 (0≤first∧first≤1000000000∧(0:Int)≤c.lines.length+k∧(c.lines.length+k:Int)≤100000):=⟨by omega⟩
   refine ZO fun b10=>?_
   refine DD (σ:=Ident) (fun s=>s=if(k:Int) < c.lines.length then⟨Dig.zero,first+k⟩else c.before) (fun s=> [(0,.raw (.func (.yield l) #[] #[])),(1,.pt [.raw (.int .i64 first)] 0),(2,.pt (BG c) 0),(4,.clo 266 [.pt [.raw (.int .i64 first)] 0]),(7,.raw (.int .i64 c.lines.length)),(8,.raw (.pointer (some ⟨b8,0,none⟩))),(9,.raw (.int .i64 k)),(10,.raw (.pointer (some ⟨b10,0,none⟩))),(117,.raw (.int .i64 (c.lines.length+1))),(118,.raw (.int .i64 k))]) (fun s=> .box b10 98 (eIdent s):: .box b8 98 (eIdent fr)::(L1++LF)) ?_ ?_
   ·refine A1 (fun h=>?_) (fun h=>?_)
    ·refine wf ?_
     exact⟨⟨Dig.zero,first+k⟩,by rw[if_pos h],⟨rfl,rfl,rfl,rfl,rfl,rfl,rfl,rfl,rfl,rfl⟩,.refl _⟩
    ·refine wf ?_
     exact⟨c.before,by rw[if_neg h],⟨rfl,rfl,rfl,rfl,rfl,rfl,rfl,rfl,rfl,rfl⟩,.refl _⟩
   rintro to hto
   refine wn ?_
   refine BR 11 ?_ ?_
   ·decide+kernel
   refine wf ?_
   have hx:Eh c first k= { Atm.zero with id:=⟨Dig.zero,first+(c.lines.length+k)⟩,kind:=6,file:=c.file,src:=fr,dst:=to }:=by rw[Eh,hfr,hto,Int.add_assoc]
   have hr:A++(List.range (k+1)).map (Eh c first)=(A++(List.range k).map (Eh c first))++ [Eh c first k]:=by rw[Hz,Az,AL];rfl
   refine Hc L1 (.box b10 98 (eIdent to):: .box b8 98 (eIdent fr)::LF) rfl rfl rfl Y7 _ (hY (A++(List.range k).map (Eh c first)) { Atm.zero with id:=⟨Dig.zero,first+(c.lines.length+k)⟩,kind:=6,file:=c.file,src:=fr,dst:=to } L1 ?_ hJ1) fun b L' hR=>?_
   ·rw[←hx,←hr,e]
    exact(List.prefix_append_right_inj _).2 ((PS (by omega)).map _)
   rw[←hx,←hr]at hR
   refine wf ?_
   rcases hR with ⟨rfl,h⟩|⟨rfl,h⟩
   ·refine AU (t:=false) (fun h'=>by cases h') (fun _=>?_)
    refine Fy Y7.symm ?_
    refine wf ?_
    refine⟨(k+1,to,L'),⟨by dsimp only;omega,?_,h⟩,by dsimp only;omega,⟨rfl,rfl,rfl,rfl,rfl,rfl,rfl,rfl⟩,.cons _ (.refl _)⟩
    intro h'
    dsimp only at h' ⊢
    rw[hto,if_pos (by omega),if_pos (by omega)]
    congr 1
    push_cast;omega
   ·refine AU (t:=true) (fun _=>?_) (fun h'=>by cases h')
    refine wf ?_
    exact⟨trivial,[],L',.nil,(Dh _).append (.cons _ (.cons _ (.refl _))),.inr ⟨_,h⟩⟩
  refine wf ?_
  have hkk:k=c.lines.length+1:=by omega
  subst hkk
  exact⟨trivial,[],L1,.nil,.cons _ (.refl _),.inl (by rw[e];exact hJ1)⟩
 ·exact absurd h5 (by omega)
instance wB (c:Chg) (first:Int):Bj Tryz.prog 224 [.agg (BG c),.raw (.int .i64 first)] (.clo 265 (ow c first)):=⟨by
 refine Aj Tryz.func224 Tryz.ntmps224 rfl (rs:= [.tmp 4]) rfl rfl fun hb LF=>?_
 refine wf ?_
 refine Al (.of_eq ?_)
 rfl⟩
end Go.Proofs
namespace Go.Proofs
open Go.Shelf
def Tryz.laysItoa_ren:Go.Shelf.Ren:=⟨fun|171=>326|243=>343|246=>349|283=>352|284=>353|285=>354|286=>355|129=>243|317=>356|318=>357|319=>358|320=>359|337=>360|338=>361|n=>n,fun|3=>3|9=>9|2=>2|4=>4|171=>337|0=>0|53=>235|37=>159|5=>5|173=>339|212=>342|51=>206|20=>20|213=>343|46=>224|232=>44|233=>344|n=>n,fun|17=>1|18=>2|19=>3|n=>n⟩
theorem Tryz.laysItoa:Go.Proofs.LaysM.n171 Tryz.prog Tryz.laysItoa_ren:={
 mixed:=by kernel_rfl
 f129:=Tryz.func243.trans (congrArg some (by kernel_rfl))
 f171:=Tryz.func326.trans (congrArg some (by kernel_rfl))
 f243:=Tryz.func343.trans (congrArg some (by kernel_rfl))
 f246:=Tryz.func349.trans (congrArg some (by kernel_rfl))
 f283:=Tryz.func352.trans (congrArg some (by kernel_rfl))
 f284:=Tryz.func353.trans (congrArg some (by kernel_rfl))
 f285:=Tryz.func354.trans (congrArg some (by kernel_rfl))
 f286:=Tryz.func355.trans (congrArg some (by kernel_rfl))
 f317:=Tryz.func356.trans (congrArg some (by kernel_rfl))
 f318:=Tryz.func357.trans (congrArg some (by kernel_rfl))
 f319:=Tryz.func358.trans (congrArg some (by kernel_rfl))
 f320:=Tryz.func359.trans (congrArg some (by kernel_rfl))
 f337:=Tryz.func360.trans (congrArg some (by kernel_rfl))
 f338:=Tryz.func361.trans (congrArg some (by kernel_rfl))
 t0:=Tryz.underlying0
 a0:=Tryz.isAgg0
 z0:=Tryz.sizeOf0
 v0:=Tryz.zeroValue0
 t2:=Tryz.underlying2
 a2:=Tryz.isAgg2
 z2:=Tryz.sizeOf2
 v2:=Tryz.zeroValue2
 t3:=Tryz.underlying3
 a3:=Tryz.isAgg3
 z3:=Tryz.sizeOf3
 v3:=Tryz.zeroValue3
 t4:=Tryz.underlying4
 a4:=Tryz.isAgg4
 z4:=Tryz.sizeOf4
 v4:=Tryz.zeroValue4
 t5:=Tryz.underlying5
 a5:=Tryz.isAgg5
 z5:=Tryz.sizeOf5
 v5:=Tryz.zeroValue5
 t9:=Tryz.underlying9
 a9:=Tryz.isAgg9
 z9:=Tryz.sizeOf9
 v9:=Tryz.zeroValue9
 t20:=Tryz.underlying20
 a20:=Tryz.isAgg20
 z20:=Tryz.sizeOf20
 v20:=Tryz.zeroValue20
 t37:=Tryz.underlying159
 a37:=Tryz.isAgg159
 z37:=Tryz.sizeOf159
 v37:=Tryz.zeroValue159
 t46:=Tryz.underlying224
 a46:=Tryz.isAgg224
 z46:=Tryz.sizeOf224
 v46:=Tryz.zeroValue224
 t51:=Tryz.underlying206
 a51:=Tryz.isAgg206
 z51:=Tryz.sizeOf206
 v51:=Tryz.zeroValue206
 t53:=Tryz.underlying235
 a53:=Tryz.isAgg235
 z53:=Tryz.sizeOf235
 v53:=Tryz.zeroValue235
 t171:=Tryz.underlying337
 a171:=Tryz.isAgg337
 z171:=Tryz.sizeOf337
 v171:=Tryz.zeroValue337
 t173:=Tryz.underlying339
 a173:=Tryz.isAgg339
 z173:=Tryz.sizeOf339
 v173:=Tryz.zeroValue339
 t212:=Tryz.underlying342
 a212:=Tryz.isAgg342
 z212:=Tryz.sizeOf342
 v212:=Tryz.zeroValue342
 t213:=Tryz.underlying343
 a213:=Tryz.isAgg343
 z213:=Tryz.sizeOf343
 t232:=Tryz.underlying44
 a232:=Tryz.isAgg44
 z232:=Tryz.sizeOf44
 v232:=Tryz.zeroValue44
 t233:=Tryz.underlying344
 a233:=Tryz.isAgg344
 z233:=Tryz.sizeOf344
 v233:=Tryz.zeroValue344
 g17:=by kernel_rfl
 g18:=by kernel_rfl
 g19:=by kernel_rfl
 i0:=by kernel_rfl
 i2:=by kernel_rfl
 i3:=by kernel_rfl
 i4:=by kernel_rfl
 i5:=by kernel_rfl
 i9:=by kernel_rfl
 i20:=by kernel_rfl
 i37:=by kernel_rfl
 i46:=by kernel_rfl
 i51:=by kernel_rfl
 i53:=by kernel_rfl
 i171:=by kernel_rfl
 i173:=by kernel_rfl
 i212:=by kernel_rfl
 i232:=by kernel_rfl
 i233:=by kernel_rfl
 m17:=by kernel_rfl
 m18:=by kernel_rfl
 m19:=by kernel_rfl }
def Tryz.sortD_ren:Go.Shelf.Ren:=⟨fun|6=>165|15=>208|14=>207|28=>242|29=>243|20=>234|21=>235|22=>236|23=>237|24=>238|25=>239|26=>240|27=>241|46=>277|47=>278|48=>279|49=>280|50=>281|57=>312|n=>n,fun|22=>39|24=>45|25=>114|3=>3|39=>224|0=>0|53=>206|55=>235|4=>4|46=>243|45=>242|50=>148|5=>5|9=>9|66=>277|70=>281|76=>304|77=>305|n=>n,fun|n=>n⟩
theorem Tryz.sortD:Go.Proofs.SlLaysF0.n6 Tryz.prog Tryz.sortD_ren:={
 mixed:=by kernel_rfl
 f6:=⟨Tryz.f165.name,by decide,Tryz.func165.trans (congrArg some (by kernel_rfl))⟩
 f14:=⟨Tryz.f207.name,by decide,Tryz.func207.trans (congrArg some (by kernel_rfl))⟩
 f15:=Tryz.func208.trans (congrArg some (by kernel_rfl))
 f20:=⟨Tryz.f234.name,by decide,Tryz.func234.trans (congrArg some (by kernel_rfl))⟩
 f21:=⟨Tryz.f235.name,by decide,Tryz.func235.trans (congrArg some (by kernel_rfl))⟩
 f22:=⟨Tryz.f236.name,by decide,Tryz.func236.trans (congrArg some (by kernel_rfl))⟩
 f23:=⟨Tryz.f237.name,by decide,Tryz.func237.trans (congrArg some (by kernel_rfl))⟩
 f24:=⟨Tryz.f238.name,by decide,Tryz.func238.trans (congrArg some (by kernel_rfl))⟩
 f25:=⟨Tryz.f239.name,by decide,Tryz.func239.trans (congrArg some (by kernel_rfl))⟩
 f26:=⟨Tryz.f240.name,by decide,Tryz.func240.trans (congrArg some (by kernel_rfl))⟩
 f27:=⟨Tryz.f241.name,by decide,Tryz.func241.trans (congrArg some (by kernel_rfl))⟩
 f28:=Tryz.func242.trans (congrArg some (by kernel_rfl))
 f29:=Tryz.func243.trans (congrArg some (by kernel_rfl))
 f46:=⟨Tryz.f277.name,by decide,Tryz.func277.trans (congrArg some (by kernel_rfl))⟩
 f47:=Tryz.func278.trans (congrArg some (by kernel_rfl))
 f48:=Tryz.func279.trans (congrArg some (by kernel_rfl))
 f49:=⟨Tryz.f280.name,by decide,Tryz.func280.trans (congrArg some (by kernel_rfl))⟩
 f50:=⟨Tryz.f281.name,by decide,Tryz.func281.trans (congrArg some (by kernel_rfl))⟩
 f57:=⟨Tryz.f312.name,by decide,Tryz.func312.trans (congrArg some (by kernel_rfl))⟩
 t0:=Tryz.underlying0
 a0:=Tryz.isAgg0
 z0:=Tryz.sizeOf0
 v0:=Tryz.zeroValue0
 t3:=Tryz.underlying3
 a3:=Tryz.isAgg3
 z3:=Tryz.sizeOf3
 v3:=Tryz.zeroValue3
 t4:=Tryz.underlying4
 a4:=Tryz.isAgg4
 z4:=Tryz.sizeOf4
 v4:=Tryz.zeroValue4
 t5:=Tryz.underlying5
 a5:=Tryz.isAgg5
 z5:=Tryz.sizeOf5
 v5:=Tryz.zeroValue5
 t9:=Tryz.underlying9
 a9:=Tryz.isAgg9
 z9:=Tryz.sizeOf9
 v9:=Tryz.zeroValue9
 t22:=Tryz.underlying39
 a22:=Tryz.isAgg39
 z22:=Tryz.sizeOf39
 v22:=Tryz.zeroValue39
 t25:=Tryz.underlying114
 a25:=Tryz.isAgg114
 z25:=Tryz.sizeOf114
 v25:=Tryz.zeroValue114
 t39:=Tryz.underlying224
 a39:=Tryz.isAgg224
 z39:=Tryz.sizeOf224
 v39:=Tryz.zeroValue224
 t45:=Tryz.underlying242
 a45:=Tryz.isAgg242
 z45:=Tryz.sizeOf242
 v45:=Tryz.zeroValue242
 t46:=Tryz.underlying243
 a46:=Tryz.isAgg243
 z46:=Tryz.sizeOf243
 v46:=Tryz.zeroValue243
 t50:=Tryz.underlying148
 a50:=Tryz.isAgg148
 z50:=Tryz.sizeOf148
 v50:=Tryz.zeroValue148
 t53:=Tryz.underlying206
 a53:=Tryz.isAgg206
 z53:=Tryz.sizeOf206
 v53:=Tryz.zeroValue206
 t55:=Tryz.underlying235
 a55:=Tryz.isAgg235
 z55:=Tryz.sizeOf235
 v55:=Tryz.zeroValue235
 t66:=Tryz.underlying277
 a66:=Tryz.isAgg277
 z66:=Tryz.sizeOf277
 v66:=Tryz.zeroValue277
 t70:=Tryz.underlying281
 a70:=Tryz.isAgg281
 z70:=Tryz.sizeOf281
 v70:=Tryz.zeroValue281
 t76:=Tryz.underlying304
 a76:=Tryz.isAgg304
 z76:=Tryz.sizeOf304
 v76:=Tryz.zeroValue304
 t77:=Tryz.underlying305
 a77:=Tryz.isAgg305
 z77:=Tryz.sizeOf305
 v77:=Tryz.zeroValue305 }
end Go.Proofs
namespace Go.Proofs
open Go Go.Q Go.Shelf
attribute [local irreducible] EB AW B2 FW
theorem Q6 (n:Nat):Lib.decDigits n=HV n:=by
 induction n using Nat.strongRecOn with
 |_ n ih=>
  unfold Lib.decDigits
  by_cases h:n < 10
  ·rw[dif_pos h,Hj h]
  ·rw[dif_neg h,LO h,ih (n / 10) (by omega)]
theorem mr (n:Int):Lib.itoa n=Ik n:=by
 unfold Lib.itoa Ik
 by_cases h:n < 0
 ·rw[if_pos h,if_pos h,Q6,show n.natAbs=(-n).toNat by omega]
 ·rw[if_neg h,if_neg h,Q6]
theorem qI {w:World} {g:Gh} {L:List Res} (hi:DM w g L):Lib.TabIs Tryz.prog w "internal/strconv.uint64pow10" .u64 Lib.pow10Tab:=by
 obtain⟨T,p,h⟩:=hi.satM _ _ hi.glob.tab
 unfold Lib.TabIs World.var?
 rw[show Tryz.prog.globalNamed "internal/strconv.uint64pow10" =some globAt by kernel_rfl]
 simp only[HL,h]
 rfl
instance wv (n:Int) [hs:B0 (-140737488355328≤n∧n≤140737488355328)]:Bj Tryz.prog 326 [.raw (.int .i64 n)] (.str (Ik n)):=⟨rY fun vs w g LF hv hi=>by
 obtain⟨h0,h1⟩:=hs.out
 obtain⟨v,rfl⟩: ∃ v,vs= [v]:=by
  have:=hv.len
  match vs,this with
  | [v],_=>exact⟨v,rfl⟩
 rw[hv.uncons.1.raw_inv]
 refine(Any.strconv_Itoa Tryz.laysItoa n (by omega) (by omega) w (qI hi)).mono ?_
 rintro e w' ⟨rfl,k,os,rfl⟩
 refine⟨_,rfl,fun g=>by rw[mr];exact .str (by have:=Nn (n:=n) ⟨h0,h1⟩;show _≤2 ^ 47;omega),rfl,rfl,rfl,kZ _ _,?_,fun j hj=>?_⟩
 ·show w.heap.size≤(w.heap++os).size
  simp
 ·show(w.heap++os)[j]? =_
  rw[Ey hj]⟩
def NW (b:Nat) (p v:Value):Res:= .box b 300 [.raw p,.raw v]
def IE (b:Nat):Value:= .pointer (some ⟨b,0,none⟩)
instance :sD Tryz.prog 298 300 2:= .of (by kernel_rfl) (by kernel_rfl)
instance (v:Value):ZC Tryz.prog 350 [.raw v] (.raw v):=eb Tryz.func350 (by kernel_rfl) (by kernel_rfl) (by kernel_rfl) (by kernel_rfl) v
theorem Q7 (b:Nat) (p v:Value) (hp:p= .pointer none∨p=IE b):B2 Tryz.prog 344 [.raw (IE b)] [NW b p v] (fun _ L'=>L'= [NW b (IE b) v]):=by
 refine Bt Tryz.func344 rfl Tryz.ntmps344 (rs:= []) rfl rfl fun hb LF=>?_
 rw[show [NW b p v]++LF= .box b 300 [.raw p,.raw v]::LF from rfl]
 obtain⟨q,rfl,hq⟩: ∃ q,p= .pointer q∧(q=none∨q=some ⟨b,0,none⟩):=by
  rcases hp with rfl|rfl
  ·exact⟨none,rfl,.inl rfl⟩
  ·exact⟨_,rfl,.inr rfl⟩
 refine wf ?_
 refine qU rfl rfl ?_
 refine wf ?_
 rcases hq with rfl|rfl
 ·refine AU (t:=true) (fun _=>?_) (fun h=>by cases h)
  refine wf ?_
  refine Zb (by kernel_rfl) (by decide) rfl AK (by simp) ?_
  refine oX (xs:= [.tmp 9]) (args:= [.raw (IE b)]) rfl (fun i h1 h2=>by
   match i,h1,h2 with
   |0,_,_=>exact .refl _
   |m+1,h1,_=>exact absurd h1 (by simp)) rfl ?_
  refine Ve (by kernel_rfl) rfl AK (by kernel_rfl) ?_
  refine wf ?_
  refine K7 [.raw (IE b),.raw v] rfl rfl rfl rfl (by simp) ?_
  refine wf ?_
  exact⟨trivial,[],[NW b (IE b) v],.nil,.refl _,rfl⟩
 ·refine AU (t:=false) (fun h=>by cases h) (fun _=>?_)
  refine wf ?_
  refine qQ rfl rfl ?_
  refine wf ?_
  exact⟨trivial,[],[NW b (IE b) v],.nil,.refl _,rfl⟩
instance :fA Tryz.prog 159 5:= .of (by kernel_rfl) (by kernel_rfl) (by kernel_rfl)
def qA (b:Nat) (l:List UInt8) (L:List Res):Prop:= ∃ p v R,(p= .pointer none∨p=IE b)∧Km 5 v l R∧L=NW b p v::R
theorem Mw (b:Nat) (l s:List UInt8) (L:List Res) (hL:qA b l L) (hl:l.length+s.length≤140737488355328):B2 Tryz.prog 329 [.raw (IE b),.str s] L (fun _ L'=>qA b (l++s) L'):=by
 obtain⟨p,v,R,hp,hv,rfl⟩:=hL
 refine Bt Tryz.func329 rfl Tryz.ntmps329 (rs:= [.tmp 4,.tmp 5]) rfl rfl fun hb LF=>?_
 rw[show(NW b p v::R)++LF= [NW b p v]++(R++LF) from rfl]
 refine ws ?_
 refine Bn (xs:= [.tmp 6]) [NW b p v] (R++LF) (f:=344) (cs:= []) (Bu _) rfl rfl (.refl _) _ (Q7 b p v hp) fun r L' e=>?_
 subst e
 refine wf ?_
 refine gk (R:=R) (LF:= .box b 300 [.raw (IE b),.raw v]::LF) (fun R'=> .box b 300 [.raw (IE b),.raw v]::(R'++LF)) (ay:= .str s) rfl rfl hv (BA (l₁:=R)).symm (fun R'=>BA) hl fun v' R' hv'=>?_
 refine wf ?_
 refine K7 [.raw (IE b),.raw v'] rfl rfl hv'.one rfl (by simp) ?_
 refine wf ?_
 refine wf ?_
 exact⟨trivial,_,NW b (IE b) v'::R',.cons (.tmp 4) (.cons (.tmp 5) .nil),.refl _,_,v',R',.inr rfl,hv',rfl⟩
theorem La (b:Nat) (l:List UInt8) (c:UInt8) (L:List Res) (hL:qA b l L) (hl:l.length+1≤140737488355328):B2 Tryz.prog 330 [.raw (IE b),.raw (.int .u8 c.toNat)] L (fun _ L'=>qA b (l++ [c]) L'):=by
 obtain⟨p,v,R,hp,hv,rfl⟩:=hL
 refine Bt Tryz.func330 rfl Tryz.ntmps330 (rs:= [.tmp 4]) rfl rfl fun hb LF=>?_
 rw[show(NW b p v::R)++LF= [NW b p v]++(R++LF) from rfl]
 refine ws ?_
 refine Bn (xs:= [.tmp 5]) [NW b p v] (R++LF) (f:=344) (cs:= []) (Bu _) rfl rfl (.refl _) _ (Q7 b p v hp) fun r L' e=>?_
 subst e
 refine wf ?_
 refine dU (R:=R) (LF:= .box b 300 [.raw (IE b),.raw v]::LF) (fun R'=> .box b 300 [.raw (IE b),.raw v]::(R'++LF)) (t:= .ro) rfl rfl hv (BA (l₁:=R)).symm (fun R'=>BA) hl fun v' R' hv'=>?_
 refine wf ?_
 refine K7 [.raw (IE b),.raw v'] rfl rfl hv'.one rfl (by simp) ?_
 refine wf ?_
 refine wf ?_
 exact⟨trivial,_,NW b (IE b) v'::R',.cons (.tmp 4) .nil,.refl _,_,v',R',.inr rfl,hv',rfl⟩
theorem dH (b:Nat) (l:List UInt8) (L:List Res) (hL:qA b l L) (h0:l≠ []) (hl:l.length≤140737488355328):B2 Tryz.prog 310 [.raw (IE b)] L (fun r L'=>r= .str l∧L'= []):=by
 obtain⟨p,v,R,hp,hv,rfl⟩:=hL
 cases hv with
 |nil=>exact absurd rfl h0
 |row h1 h2 h3=>
  rename_i r cap cur
  refine Bt Tryz.func310 rfl Tryz.ntmps310 (rs:= [.tmp 2]) rfl rfl fun hb LF=>?_
  have hcap:cap≠0:=by have:=ZF.2 h0;omega
  rw[show(NW b p (.slice (some ⟨r,0,none⟩) l.length cap):: [.raw r (.cells cur 5 (0,0))])++LF= .box b 300 [.raw p,.raw (.slice (some ⟨r,0,none⟩) l.length cap)]:: .raw r (.cells cur 5 (0,0))::LF from rfl]
  refine wn ?_
  refine BR 10 ?_ ?_
  ·decide+kernel
  refine wf ?_
  refine XR rfl hcap ?_
  refine wf ?_
  refine FO rfl ?_
  refine wf ?_
  refine S0 (E:=5) (by kernel_rfl) (by kernel_rfl) rfl rfl (.swap _ _ _) h0 (by omega) h3 hl ?_
  refine wf ?_
  exact⟨trivial,_,[],.cons (.tmp 2) .nil,.cons _ (.refl _),rfl,rfl⟩
end Go.Proofs
namespace Go.Proofs
open Go Go.Q
attribute [local irreducible] EB AW B2 FW
theorem cT: ∀ (d:Nat) (x:Sx),O4 d x→ ∀ (b:Nat) (l:List UInt8) (L:List Res),qA b l L→l.length+(Dc d x).length≤1000000000→B2 Tryz.prog 309 [.raw (IE b),.agg (eSx x)] L (fun _ L'=>qA b (l++Dc d x) L')
 |0,x,hw,_,_,_,_,_=>hw.elim
 |d+1,x,hw,b,l,L,hL,hl=>by
  have ih:=cT d
  refine Bt Tryz.func309 rfl Tryz.ntmps309 (rs:= []) rfl rfl fun hb LF=>?_
  have hlen:x.list.length≤140737488355328:=by
   have:=(hb (.agg (eSx x)) (by simp)).agg_at (c:= .slice (x.list.map eSx) .ro) (by rw[FV];simp)
   exact this.slice_map
  refine wf ?_
  refine AU (fun h2=>?_) (fun h2=>?_)
  ·have hB:x.isList=false:=by simpa using h2
   rcases hw with ⟨_,h3,h4⟩|⟨h3,_⟩
   ·have:B0 (-140737488355328≤(x.atom.length:Int)∧(x.atom.length:Int)≤140737488355328):=⟨by omega,by omega⟩
    have e:Ik (x.atom.length:Int)=HV x.atom.length:=by
     rw[Ik,if_neg (by omega)];rfl
    have he:Dc (d+1) x=HV x.atom.length++58::x.atom:=by simp[Dc,hB]
    rw[he]at hl ⊢
    simp only[A7,AH]at hl
    refine wf ?_
    refine Bn (xs:= [.tmp 9,.tmp 13]) L LF (f:=329) (cs:= []) (Bu _) rfl rfl (.refl _) _ (Mw b l (Ik (x.atom.length:Int)) L hL (by rw[e];omega)) fun r L1 hL1=>?_
    rw[e]at hL1
    refine wf ?_
    refine wf ?_
    refine Bn (xs:= [.tmp 15,.const (.int .u8 58)]) L1 LF (f:=330) (cs:= []) (Bu _) rfl rfl (.refl _) _ (La b (l++HV x.atom.length) 58 L1 hL1 (by simp only[A7];omega)) fun r L2 hL2=>?_
    refine wf ?_
    refine wf ?_
    refine Bn (xs:= [.tmp 17,.tmp 19]) L2 LF (f:=329) (cs:= []) (Bu _) rfl rfl (.refl _) _ (Mw b (l++HV x.atom.length++ [58]) x.atom L2 hL2 (by simp only[A7,AH,Aa];omega)) fun r L3 hL3=>?_
    refine wf ?_
    refine wf ?_
    exact⟨trivial,_,L3,.nil,.refl _,by simpa using hL3⟩
   ·rw[hB]at h3;cases h3
  have hB:x.isList=true:=by simpa using h2
  rcases hw with ⟨h3,_⟩|⟨_,ha,hw⟩
  ·rw[hB]at h3;cases h3
  have he:Dc (d+1) x=40::(x.list.flatMap (Dc d)++ [41]):=by simp[Dc,hB]
  rw[he]at hl ⊢
  simp only[AH,A7,Aa]at hl
  refine wf ?_
  refine Bn (xs:= [.tmp 21,.const (.int .u8 40)]) L LF (f:=330) (cs:= []) (Bu _) rfl rfl (.refl _) _ (La b l 40 L hL (by omega)) fun r L1 hL1=>?_
  refine wf ?_
  refine wf ?_
  refine AV (σ:=Nat × List Res) (fun k=>k.1≤x.list.length∧qA b (l++40::(x.list.take k.1).flatMap (Dc d)) k.2) (fun k=>x.list.length - k.1) (fun k=> [(0,.raw (IE b)),(24,.slice (x.list.map eSx) .ro),(25,.raw (.int .i64 x.list.length)),(26,.raw (.int .i64 k.1))]) (fun k=>k.2++LF) (0,L1) ⟨by simp,by simpa using hL1⟩ ⟨rfl,rfl,rfl,rfl⟩ (.refl _) ?_
  rintro⟨k,L2⟩ ⟨hk,hL2⟩
  dsimp only at hk hL2 ⊢
  have hsl:=J5 (l:=x.list) (f:=Dc d) (k:=k)
  refine wf ?_
  refine A1 (fun hc=>?_) (fun hc=>?_)
  ·have hlt:k < x.list.length:=by omega
   have hel:=J5 (l:=x.list) (f:=Dc d) (k:=k+1)
   rw[IQ hlt,A7]at hel
   refine wz fun b5=>?_
   refine Ag 5 ?_
   refine wf ?_
   refine Bn (xs:= [.tmp 30,.tmp 31]) L2 LF (f:=309) (cs:= []) (Bu _) rfl rfl (.refl _) _ (ih x.list[k] (hw _ (AO hlt)) b _ L2 hL2 (by simp only[A7,AH];omega)) fun r L3 hL3=>?_
   refine wf ?_
   refine wf ?_
   refine⟨(k+1,L3),⟨by dsimp only;omega,?_⟩,by dsimp only;omega,⟨rfl,rfl,rfl,rfl⟩,.refl _⟩
   dsimp only
   rw[IQ hlt]
   simpa using hL3
  ·rw[AA (by omega)]at hL2
   refine wf ?_
   refine Bn (xs:= [.tmp 34,.const (.int .u8 41)]) L2 LF (f:=330) (cs:= []) (Bu _) rfl rfl (.refl _) _ (La b _ 41 L2 hL2 (by simp only[A7,AH];omega)) fun r L3 hL3=>?_
   refine wf ?_
   refine wf ?_
   exact⟨trivial,_,L3,.nil,.refl _,by simpa using hL3⟩
def Sj (b:Nat) (n:Int):Res:= .box b 316 [.raw (.int .i64 n),.raw (.bool false)]
theorem cu: ∀ (d:Nat) (x:Sx),O4 d x→ ∀ (b:Nat) (n lv:Int),0≤n→n+Hs d x≤20000→1≤lv→lv+d≤13→B2 Tryz.prog 327 [.raw (IE b),.agg (eSx x),.raw (.int .i64 lv)] [Sj b n] (fun _ L'=>L'= [Sj b (n+Hs d x)])
 |0,x,hw,_,_,_,_,_,_,_=>hw.elim
 |d+1,x,hw,b,n,lv,hn0,hn,hl0,hl=>by
  have ih:=cu d
  have hpos:1≤Hs (d+1) x:=by unfold Hs;split<;>omega
  refine Bt Tryz.func327 rfl Tryz.ntmps327 (rs:= []) rfl rfl fun hb LF=>?_
  have hlen:x.list.length≤140737488355328:=by
   have:=(hb (.agg (eSx x)) (by simp)).agg_at (c:= .slice (x.list.map eSx) .ro) (by rw[FV];simp)
   exact this.slice_map
  rw[show [Sj b n]++LF= .box b 316 [.raw (.int .i64 n),.raw (.bool false)]::LF from rfl]
  refine wf ?_
  refine K7 [.raw (.int .i64 (n+1)),.raw (.bool false)] rfl rfl rfl rfl (by simp) ?_
  refine wf ?_
  refine wf ?_
  refine Aw (fun hp=>?_) (fun hp=>?_)
  ·have:=An hp;omega
  refine wf ?_
  refine A1 (fun h1=>?_) (fun h1=>?_)
  ·omega
  refine wf ?_
  refine AU (fun h2=>?_) (fun h2=>?_)
  ·refine wf ?_
   have:x.isList=false:=by simpa using h2
   exact⟨trivial,_,[Sj b (n+1)],.nil,.refl _,by simp[Hs,this]⟩
  have hB:x.isList=true:=by simpa using h2
  rcases hw with ⟨h3,_⟩|⟨_,_,hw⟩
  ·rw[hB]at h3;cases h3
  have hnd:Hs (d+1) x=1+(x.list.map (Hs d)).sum:=by simp[Hs,hB]
  rw[hnd]at hn ⊢
  refine wf ?_
  refine AV (σ:=Nat) (fun k=>k≤x.list.length) (fun k=>x.list.length - k) (fun k=> [(0,.raw (IE b)),(2,.raw (.int .i64 lv)),(31,.slice (x.list.map eSx) .ro),(32,.raw (.int .i64 x.list.length)),(33,.raw (.int .i64 k))]) (fun k=>Sj b (n+(1+((x.list.map (Hs d)).take k).sum:Nat))::LF) 0 (by simp) ⟨rfl,rfl,rfl,rfl,rfl⟩ (by simp;exact .refl _) ?_
  intro k hk
  have hsk:=Ka (l:=x.list.map (Hs d)) (k:=k)
  have hsk1:=Ka (l:=x.list.map (Hs d)) (k:=k+1)
  refine wf ?_
  refine A1 (fun hc=>?_) (fun hc=>?_)
  ·have hlt:k < x.list.length:=by omega
   have e:((x.list.map (Hs d)).take (k+1)).sum=((x.list.map (Hs d)).take k).sum+Hs d x.list[k]:=by
    rw[A6 (by simpa using hlt),K5];simp
   refine wz fun b7=>?_
   refine Ag 7 ?_
   rw[show Sj b (n+(1+((x.list.map (Hs d)).take k).sum:Nat))::LF= .box b 316 [.raw (.int .i64 (n+(1+((x.list.map (Hs d)).take k).sum:Nat))),.raw (.bool false)]::LF from rfl]
   refine wf ?_
   refine Bn (xs:= [.tmp 41,.tmp 42,.tmp 44]) [Sj b (n+(1+((x.list.map (Hs d)).take k).sum:Nat))] LF (f:=327) (cs:= []) (Bu _) rfl rfl (.refl _) _ (ih x.list[k] (hw _ (AO hlt)) b _ (lv+1) (by omega) (by omega) (by omega) (by omega)) fun r L3 hL3=>?_
   subst hL3
   refine wf ?_
   refine wf ?_
   refine⟨k+1,by omega,by dsimp only;omega,⟨rfl,rfl,rfl,rfl,rfl⟩,?_⟩
   show(Sj b (n+((1+((x.list.map (Hs d)).take (k+1)).sum:Nat):Int))::LF).Sublist _
   rw[e,show n+((1+(((x.list.map (Hs d)).take k).sum+Hs d x.list[k]):Nat):Int)=n+((1+((x.list.map (Hs d)).take k).sum:Nat):Int)+(Hs d x.list[k]:Int) by omega]
   exact .refl _
  ·refine wf ?_
   rw[AA (by simp;omega)]
   exact⟨trivial,_,[Sj b (n+(1+(x.list.map (Hs d)).sum:Nat))],.nil,.refl _,rfl⟩
theorem UI: ∀ (d:Nat) (x:Sx),O4 d x→Q.Fn Tryz.prog 328 [.agg (eSx x)] (.raw (.int .i64 0))
 |0,x,hw=>hw.elim
 |d+1,x,hw=>by
  have ih: ∀ (y:Sx),[B0 (O4 d y)]→Bj Tryz.prog 328 [.agg (eSx y)] (.raw (.int .i64 0)):=fun y h=>⟨UI d y h.out⟩
  refine Aj Tryz.func328 Tryz.ntmps328 rfl (rs:= [.tmp 2]) rfl rfl fun hb LF=>?_
  have hlen:x.list.length≤140737488355328:=by
   have:=(hb (.agg (eSx x)) (by simp)).agg_at (c:= .slice (x.list.map eSx) .ro) (by rw[FV];simp)
   exact this.slice_map
  have hsh:(x.isList=true→x.atom= [])∧(x.isList=false→x.list= [])∧x.atom.length≤65536∧ ∀ y∈x.list,O4 d y:=by
   rcases hw with ⟨h1,h2,h3⟩|⟨h1,h2,h3⟩
   ·exact⟨fun h=>(by rw[h1]at h;cases h),fun _=>h2,h3,fun y hy=>(by rw[h2]at hy;cases hy)⟩
   ·exact⟨fun _=>h2,fun h=>(by rw[h1]at h;cases h),by rw[h2];simp,h3⟩
  refine wf ?_
  refine BB [(6,.raw (.bool (false))),(1,.pt (eSx x) 0)] (LF) ?_ ?_
  ·repeat' (first|(refine A1 (fun h=>?_) (fun h=>?_)<;>refine wf ?_)|(refine AN (fun h=>?_) (fun h=>?_)<;>refine wf ?_)|(refine AU (fun h=>?_) (fun h=>?_)<;>refine wf ?_)|(refine Aw (fun h=>?_) (fun h=>?_)<;>(have h2:=h;(try simp only[AJ,A8,AQ,AR]at h2);refine wf ?_)))
   all_goals (refine⟨⟨BW (by rfl) ?_,rfl⟩,.refl _⟩;(have:=hsh.1;have:=hsh.2.1;cases hB:x.isList<;>simp_all))
  refine wf ?_
  refine A1 (fun h5=>?_) (fun h5=>?_)
  ·have:=hsh.2.2.1;omega
  refine wf ?_
  refine AV (σ:=Nat) (fun k=>k≤x.list.length) (fun k=>x.list.length - k) (fun k=> [(31,.slice (x.list.map eSx) .ro),(32,.raw (.int .i64 x.list.length)),(33,.raw (.int .i64 k))]) (fun _=>LF) 0 (by simp) ⟨rfl,rfl,rfl⟩ (.refl _) ?_
  intro k hk
  refine wf ?_
  refine A1 (fun hc=>?_) (fun hc=>?_)
  ·have hlt:k < x.list.length:=by omega
   have:B0 (O4 d x.list[k]):=⟨hsh.2.2.2 _ (AO hlt)⟩
   refine wz fun b4=>?_
   refine Ag 4 ?_
   refine wf ?_
   exact⟨k+1,by omega,by dsimp only;omega,⟨rfl,rfl,rfl⟩,.refl _⟩
  ·refine wf ?_
   exact Al (.refl _)
instance :Cu Tryz.prog 316 [.raw (.int .i64 0),.raw (.bool false)]:=Cu.of (us:= [PV.raw (.int .i64 0),.raw (.bool false)].map zv) (by kernel_rfl) (by kernel_rfl)
instance sS (x:Sx) [hs:B0 (mb x)]:Bj Tryz.prog 308 [.agg (eSx x)] (.raw (.int .i64 0)):=⟨by
 obtain⟨h1,h2⟩:=hs.out
 have i2:Bj Tryz.prog 328 [.agg (eSx x)] (.raw (.int .i64 0)):=⟨UI 8 x h1⟩
 refine Aj Tryz.func308 Tryz.ntmps308 rfl (rs:= [.tmp 2]) rfl rfl fun hb LF=>?_
 refine X8 fun b1=>?_
 refine X8 fun b5=>?_
 refine Bn (xs:= [.tmp 6,.tmp 7,.const (.int .i64 1)]) [Sj b5 0] (.box b1 254 (eSx x)::LF) (f:=327) (cs:= []) (Bu _) rfl rfl (.refl _) _ (cu 8 x h1 b5 0 1 (by omega) (by omega) (by omega) (by omega)) fun r L3 hL3=>?_
 subst hL3
 rw[show [Sj b5 (0+Hs 8 x)]++(.box b1 254 (eSx x)::LF)= .box b5 316 [.raw (.int .i64 (0+Hs 8 x)),.raw (.bool false)]:: .box b1 254 (eSx x)::LF from rfl]
 refine wk ?_
 refine wk ?_
 exact Al (.refl _)⟩
instance :Cu Tryz.prog 300 [.raw (.pointer none),.raw (.slice none 0 0)]:=Cu.of (us:= [PV.raw (.pointer none),.raw (.slice none 0 0)].map zv) (by kernel_rfl) (by kernel_rfl)
theorem nM {d:Nat} {x:Sx} (h:O4 d x):Dc d x≠ []:=by
 cases d with
 |zero=>exact h.elim
 |succ d=>unfold Dc;split<;>simp
instance px (x:Sx) [hs:B0 (mb x∧(Dc 8 x).length≤1000000000)]:Bj Tryz.prog 271 [.agg (eSx x)] (.tuple [.str (Dc 8 x),.raw (.int .i64 0)]):=⟨by
 obtain⟨h1,h2⟩:=hs.out
 have:B0 (mb x):=⟨h1⟩
 refine Aj Tryz.func271 Tryz.ntmps271 rfl (rs:= [.tmp 2,.tmp 3]) rfl rfl fun hb LF=>?_
 refine ZO fun b=>?_
 rw[show Res.box b 300 [.raw (.pointer none),.raw (.slice none 0 0)]::LF= [NW b (.pointer none) (.slice none 0 0)]++LF from rfl]
 refine Bn (xs:= [.tmp 5,.tmp 11]) [NW b (.pointer none) (.slice none 0 0)] LF (f:=309) (cs:= []) (Bu _) rfl rfl (.refl _) _ (cT 8 x h1.1 b [] _ ⟨.pointer none,.slice none 0 0,[],.inl rfl,.nil,rfl⟩ (by simpa using h2)) fun r L1 hL1=>?_
 rw[BL]at hL1
 refine wf ?_
 refine wf ?_
 refine Bn (xs:= [.tmp 5]) L1 LF (f:=310) (cs:= []) (Bu _) rfl rfl (.refl _) _ (dH b (Dc 8 x) L1 hL1 (nM h1.1) (by omega)) fun r L2 ⟨hr,hL2⟩=>?_
 subst hr
 subst hL2
 refine wf ?_
 refine wf ?_
 refine Ei ?_
 exact .refl _⟩
instance wx (n:Int):Bj Tryz.prog 307 [.raw (.int .i64 n)] (.tuple [.agg (eSx (Qd n).1),.raw (.int .i64 (Qd n).2)]):=⟨by
 refine Aj Tryz.func307 Tryz.ntmps307 rfl (rs:= [.cell 2 254,.tmp 3]) rfl rfl fun hb LF=>?_
 refine ZO fun b=>?_
 refine BB [(9,.raw (.bool (decide (n < -1099511627776∨1099511627776 < n)))),(0,.raw (.int .i64 n)),(2,.raw (.pointer (some ⟨b,0,none⟩)))] (.box b 254 (eSx Sx.zero)::LF) ?_ ?_
 ·repeat' (first|(refine A1 (fun h=>?_) (fun h=>?_)<;>refine wf ?_)|(refine AN (fun h=>?_) (fun h=>?_)<;>refine wf ?_)|(refine AU (fun h=>?_) (fun h=>?_)<;>refine wf ?_)|(refine Aw (fun h=>?_) (fun h=>?_)<;>(have h2:=h;(try simp only[AJ,A8,AQ,AR]at h2);refine wf ?_)))
  all_goals (refine⟨⟨BW (by rfl) ?_,rfl,rfl⟩,.refl _⟩;first|(simp_all;done)|grind)
 refine wf ?_
 refine A1 (fun h=>?_) (fun h=>?_)
 ·refine wf ?_
  refine CJ rfl (.of_eq ?_)
  rw[Qd,if_pos h]
 ·have:B0 (-140737488355328≤n∧n≤140737488355328):=⟨by omega⟩
  refine wf ?_
  refine CJ rfl (.of_eq ?_)
  rw[Qd,if_neg h];rfl⟩
instance vC (s:Str):Bj Tryz.prog 268 [.str s] (.agg (eSx (Ch s))):=⟨by
 refine Aj Tryz.func268 Tryz.ntmps268 rfl (rs:= [.cell 2 254]) rfl rfl fun hb LF=>?_
 refine ZO fun b=>?_
 refine FK rfl (.of_eq ?_)
 rfl⟩
@[reducible] def RU (l:List Sx) (t:CZ):List PV:= [.raw (.bool true),.str [],.slice (l.map eSx) t]
theorem iy (l:List Sx):RU l .ro=eSx (Du l):=by rw[FV];rfl
theorem aK (l:List Sx) (t:CZ):Le (.agg (RU l t)) (.agg (eSx (Du l))):=fun g v hv=>by
 obtain⟨vs,rfl,h⟩:=hv.agg_inv
 match vs,h with
 | [a,b,c],h=>
   rw[←iy]
   exact E5.agg (.cons h.uncons.1 (.cons h.uncons.2.uncons.1 (.cons h.uncons.2.uncons.2.uncons.1.ro (.nil g))))
 | [],h=>have:=h.len;simp at this
 | [_],h=>have:=h.len;simp at this
 | [_,_],h=>have:=h.len;simp at this
 |_::_::_::_::_,h=>have:=h.len;simp at this
instance (l:List Sx) (t:CZ):Fg (.agg (RU l t)) eSx (Du l):=⟨fun g v hv=>Dv.agg _ g v (aK l t g v hv)⟩
instance {x y z:PV}:At [x,y,z] 2 z:=⟨rfl⟩
instance (c:Sx) (l:List Sx) (t:CZ):Ek (eSx c) 0 (RU l t) (RU l t):=⟨by rw[FV];simp⟩
instance (l:List Sx) (t:CZ):Cz (RU l t) 3:=⟨rfl⟩
instance (l:List Sx) (t:CZ):EH (RU l t):=by unfold RU;infer_instance
theorem Sn (l:List Sx) (t:CZ):Q.Fn Tryz.prog 267 [.slice (l.map eSx) t] (.agg (RU l t)):=by
 refine Aj Tryz.func267 Tryz.ntmps267 rfl (rs:= [.cell 2 254]) rfl rfl fun hb LF=>?_
 refine DU ?_
 refine CD (by kernel_rfl) ?_
 refine BN fun b=>?_
 refine AE ?_
 refine DU ?_
 refine CD (by kernel_rfl) ?_
 refine Jm (by(conv=>lhs;whnf);done) ?_
 refine Xg (z:=eSx Sx.zero) (c0:= [.raw (.bool true)]) (c1:= [.slice (l.map eSx) t]) (r1:=RU l t) (hP0:=⟨rfl,by simp⟩) (hP1:=⟨rfl,by simp⟩) ?_ ?_ rfl rfl ?_
 ·exact Dv.one (c:= .raw (.bool true)) EH.out
 ·exact Dv.one (c:= .slice (l.map eSx) t) EH.out
 refine wf ?_
 exact FK rfl (.refl _)
instance uZ (l:List Sx):Bj Tryz.prog 267 [.slice (l.map eSx) .ro] (.agg (eSx (Du l))):=⟨iy l ▸ Sn l .ro⟩
instance (priority:=low) uX (l:List Sx) (t:CZ):Bj Tryz.prog 267 [.slice (l.map eSx) t] (.agg (RU l t)):=⟨Sn l t⟩
instance ua:Bj Tryz.prog 267 [.slice [] .nil] (.agg (RU [] .nil)):=⟨Sn [] .nil⟩
instance r9 (n:Int):Bj Tryz.prog 270 [.raw (.int .i64 n)] (.agg (eSx (Fo n))):=⟨by
 refine Aj Tryz.func270 Tryz.ntmps270 rfl (rs:= [.cell 2 254]) rfl rfl fun hb LF=>?_
 refine ZO fun b=>?_
 refine ZO fun b2=>?_
 refine FK rfl (.of_eq ?_)
 rfl⟩
instance nL (x:Ident):Bj Tryz.prog 299 [.agg (eIdent x)] (.agg (eSx (Fl x))):=⟨by
 refine Aj Tryz.func299 Tryz.ntmps299 rfl (rs:= [.cell 2 254]) rfl rfl fun hb LF=>?_
 refine wf ?_
 refine BN fun b=>?_
 refine wn ?_
 refine A1 (fun h=>?_) (fun h=>?_)
 ·refine wn ?_
  refine BR 6 ?_ ?_
  ·decide+kernel
  refine wf ?_
  refine FK rfl (.of_eq ?_)
  rw[Fl,Jn,if_pos h]
 ·refine wn ?_
  refine BR 9 ?_ ?_
  ·decide+kernel
  refine wf ?_
  refine FK rfl (.of_eq ?_)
  rw[Fl,Jn,if_neg h]⟩
instance uJ (l:List Ident) (t:CZ) [hs:B0 (l.length≤1000000)]:Bj Tryz.prog 300 [.slice (l.map eIdent) t] (.agg (eSx (Ie l))):=⟨by
 refine Aj Tryz.func300 Tryz.ntmps300 rfl (rs:= [.cell 2 254]) rfl rfl fun hb LF=>?_
 have hlen:=hs.out
 refine ZO fun b=>?_
 refine ZO fun b3=>?_
 refine Dw 3 ?_
 refine AV (σ:=Nat × CZ × List Sx) (fun k=>k.1≤l.length∧k.2.2=(l.take k.1).map Fl) (fun k=>l.length - k.1) (fun k=> [(2,.raw (.pointer (some ⟨b,0,none⟩))),(3,.raw (.pointer (some ⟨b3,0,none⟩))),(7,.slice (l.map eIdent) t),(8,.raw (.int .i64 l.length)),(9,.raw (.int .i64 k.1))]) (fun k=> .tok k.2.1 k.2.2.length 3:: .box b3 254 (RU k.2.2 k.2.1):: .box b 254 (eSx Sx.zero)::LF) (0,.nil,[]) ⟨by simp,by simp⟩ ⟨rfl,rfl,rfl,rfl,rfl⟩ (.refl _) ?_
 rintro⟨k,v,out⟩ ⟨hk,he⟩
 dsimp only at hk he
 have hol:out.length=k:=by rw[he];simp;omega
 refine wf ?_
 refine A1 (fun hc=>?_) (fun hc=>?_)
 ·have hlt:k < l.length:=by omega
  have ee:(l.take (k+1)).map Fl=out++ [Fl l[k]]:=by rw[A6 hlt,Az,he];rfl
  refine wz fun b5=>?_
  refine Ag 5 ?_
  refine wn ?_
  refine BR 5 ?_ ?_
  ·decide+kernel
  refine QL fun v'=>?_
  refine LG (ay:= .slice ((out++ [Fl l[k]]).map eSx) v') (RU (out++ [Fl l[k]]) v') rfl rfl EH.out rfl (by simp) ?_
  refine wf ?_
  refine wf ?_
  exact⟨(k+1,v',out++ [Fl l[k]]),⟨by dsimp only;omega,ee.symm⟩,by dsimp only;omega,⟨rfl,rfl,rfl,rfl,rfl⟩,.refl _⟩
 ·rw[AA (by omega)]at he
  refine wf ?_
  refine FK rfl ?_
  rw[Ie,←he]
  exact aK _ _⟩
instance fM (l:List Str) (t:CZ) [hs:B0 (l.length≤1000000)]:Bj Tryz.prog 304 [.slice (l.map eS) t] (.agg (eSx (Du (l.map Ch)))):=⟨by
 refine Aj Tryz.func304 Tryz.ntmps304 rfl (rs:= [.cell 2 254]) rfl rfl fun hb LF=>?_
 have hlen:=hs.out
 refine ZO fun b=>?_
 refine ZO fun b3=>?_
 refine Dw 3 ?_
 refine AV (σ:=Nat × CZ × List Sx) (fun k=>k.1≤l.length∧k.2.2=(l.take k.1).map Ch) (fun k=>l.length - k.1) (fun k=> [(2,.raw (.pointer (some ⟨b,0,none⟩))),(3,.raw (.pointer (some ⟨b3,0,none⟩))),(7,.slice (l.map eS) t),(8,.raw (.int .i64 l.length)),(9,.raw (.int .i64 k.1))]) (fun k=> .tok k.2.1 k.2.2.length 3:: .box b3 254 (RU k.2.2 k.2.1):: .box b 254 (eSx Sx.zero)::LF) (0,.nil,[]) ⟨by simp,by simp⟩ ⟨rfl,rfl,rfl,rfl,rfl⟩ (.refl _) ?_
 rintro⟨k,v,out⟩ ⟨hk,he⟩
 dsimp only at hk he
 have hol:out.length=k:=by rw[he];simp;omega
 refine wf ?_
 refine A1 (fun hc=>?_) (fun hc=>?_)
 ·have hlt:k < l.length:=by omega
  have ee:(l.take (k+1)).map Ch=out++ [Ch l[k]]:=by rw[A6 hlt,Az,he];rfl
  refine wn ?_
  refine BR 5 ?_ ?_
  ·decide+kernel
  refine QL fun v'=>?_
  refine LG (ay:= .slice ((out++ [Ch l[k]]).map eSx) v') (RU (out++ [Ch l[k]]) v') rfl rfl EH.out rfl (by simp) ?_
  refine wf ?_
  refine wf ?_
  exact⟨(k+1,v',out++ [Ch l[k]]),⟨by dsimp only;omega,ee.symm⟩,by dsimp only;omega,⟨rfl,rfl,rfl,rfl,rfl⟩,.refl _⟩
 ·rw[AA (by omega)]at he
  refine wf ?_
  refine FK rfl ?_
  rw[←he]
  exact aK _ _⟩
def wa (c:Chg):List Sx:= [Fo c.type]
def wY (c:Chg):List Sx:= [Fl c.file,Fl c.parent,Ch c.name,Ie c.over]
def wX (c:Chg):List Sx:= [Fl c.file,Fo c.mode,Ie c.over]
def wV (c:Chg):List Sx:= [Fl c.file,Ch c.data,Ie c.over]
def wU (c:Chg):List Sx:= [Fl c.file,Fl c.after,Fl c.before,Du (c.lines.map Ch)]
def wT (c:Chg):List Sx:= [Fl c.file,Fl c.after,Fl c.before,Ie c.over]
def wM (c:Chg):List Sx:= [Ie c.over]
instance rk (c:Chg) [hs:B0 (c.lines.length≤100000∧c.over.length≤100000)]:Bj Tryz.prog 297 [.agg (BG c)] (.slice ((wa c).map eSx) .ro):=⟨by
 obtain⟨h1,h2⟩:=hs.out
 have i1:B0 (c.over.length≤1000000):=⟨by omega⟩
 have i2:B0 (c.lines.length≤1000000):=⟨by omega⟩
 refine Aj Tryz.func297 Tryz.ntmps297 rfl (rs:= [.tmp 2]) rfl rfl fun hb LF=>?_
 refine wf ?_
 refine Al (.of_eq ?_)
 rfl⟩
instance rj (c:Chg) [hs:B0 (c.lines.length≤100000∧c.over.length≤100000)]:Bj Tryz.prog 298 [.agg (BG c)] (.slice ((wY c).map eSx) .ro):=⟨by
 obtain⟨h1,h2⟩:=hs.out
 have i1:B0 (c.over.length≤1000000):=⟨by omega⟩
 have i2:B0 (c.lines.length≤1000000):=⟨by omega⟩
 refine Aj Tryz.func298 Tryz.ntmps298 rfl (rs:= [.tmp 2]) rfl rfl fun hb LF=>?_
 refine wn ?_
 refine BR 14 ?_ ?_
 ·decide+kernel
 refine wf ?_
 refine Al (.of_eq ?_)
 rfl⟩
instance ri (c:Chg) [hs:B0 (c.lines.length≤100000∧c.over.length≤100000)]:Bj Tryz.prog 301 [.agg (BG c)] (.slice ((wX c).map eSx) .ro):=⟨by
 obtain⟨h1,h2⟩:=hs.out
 have i1:B0 (c.over.length≤1000000):=⟨by omega⟩
 have i2:B0 (c.lines.length≤1000000):=⟨by omega⟩
 refine Aj Tryz.func301 Tryz.ntmps301 rfl (rs:= [.tmp 2]) rfl rfl fun hb LF=>?_
 refine wn ?_
 refine BR 11 ?_ ?_
 ·decide+kernel
 refine wf ?_
 refine Al (.of_eq ?_)
 rfl⟩
instance rh (c:Chg) [hs:B0 (c.lines.length≤100000∧c.over.length≤100000)]:Bj Tryz.prog 302 [.agg (BG c)] (.slice ((wV c).map eSx) .ro):=⟨by
 obtain⟨h1,h2⟩:=hs.out
 have i1:B0 (c.over.length≤1000000):=⟨by omega⟩
 have i2:B0 (c.lines.length≤1000000):=⟨by omega⟩
 refine Aj Tryz.func302 Tryz.ntmps302 rfl (rs:= [.tmp 2]) rfl rfl fun hb LF=>?_
 refine wn ?_
 refine BR 11 ?_ ?_
 ·decide+kernel
 refine wf ?_
 refine Al (.of_eq ?_)
 rfl⟩
instance rf (c:Chg) [hs:B0 (c.lines.length≤100000∧c.over.length≤100000)]:Bj Tryz.prog 303 [.agg (BG c)] (.slice ((wU c).map eSx) .ro):=⟨by
 obtain⟨h1,h2⟩:=hs.out
 have i1:B0 (c.over.length≤1000000):=⟨by omega⟩
 have i2:B0 (c.lines.length≤1000000):=⟨by omega⟩
 refine Aj Tryz.func303 Tryz.ntmps303 rfl (rs:= [.tmp 2]) rfl rfl fun hb LF=>?_
 refine wn ?_
 refine BR 14 ?_ ?_
 ·decide+kernel
 refine wf ?_
 refine Al (.of_eq ?_)
 rfl⟩
instance re (c:Chg) [hs:B0 (c.lines.length≤100000∧c.over.length≤100000)]:Bj Tryz.prog 305 [.agg (BG c)] (.slice ((wT c).map eSx) .ro):=⟨by
 obtain⟨h1,h2⟩:=hs.out
 have i1:B0 (c.over.length≤1000000):=⟨by omega⟩
 have i2:B0 (c.lines.length≤1000000):=⟨by omega⟩
 refine Aj Tryz.func305 Tryz.ntmps305 rfl (rs:= [.tmp 2]) rfl rfl fun hb LF=>?_
 refine wn ?_
 refine BR 14 ?_ ?_
 ·decide+kernel
 refine wf ?_
 refine Al (.of_eq ?_)
 rfl⟩
instance ra (c:Chg) [hs:B0 (c.lines.length≤100000∧c.over.length≤100000)]:Bj Tryz.prog 306 [.agg (BG c)] (.slice ((wM c).map eSx) .ro):=⟨by
 obtain⟨h1,h2⟩:=hs.out
 have i1:B0 (c.over.length≤1000000):=⟨by omega⟩
 have i2:B0 (c.lines.length≤1000000):=⟨by omega⟩
 refine Aj Tryz.func306 Tryz.ntmps306 rfl (rs:= [.tmp 2]) rfl rfl fun hb LF=>?_
 refine wf ?_
 refine Al (.of_eq ?_)
 rfl⟩
def ea:List (Int × PV):= [(1,.raw (.func (.func 297) #[] #[])),(2,.raw (.func (.func 298) #[] #[])),(3,.raw (.func (.func 301) #[] #[])),(4,.raw (.func (.func 302) #[] #[])),(5,.raw (.func (.func 303) #[] #[])),(6,.raw (.func (.func 305) #[] #[])),(7,.raw (.func (.func 306) #[] #[]))]
theorem We:B2 Tryz.prog 269 [] [] (fun r L'=> ∃ b,r= .raw (.map (some b))∧L'= [.map b (Cq kInt vId ea)]):=by
 refine Bt Tryz.func269 rfl Tryz.ntmps269 (rs:= [.tmp 0]) rfl rfl fun hb LF=>?_
 rw[BL]
 refine tj fun b=>?_
 exact⟨trivial,_,[.map b (Cq kInt vId ea)],.cons (.tmp 0) .nil,.refl _,b,rfl,rfl⟩
def tG (k:Int):Nat:=if k=1 then 297 else if k=2 then 298 else if k=3 then 301 else if k=4 then 302 else if k=5 then 303 else if k=6 then 305 else 306
def Ym (c:Chg):List Sx:=if c.kind=1 then wa c else if c.kind=2 then wY c else if c.kind=3 then wX c else if c.kind=4 then wV c else if c.kind=5 then wU c else if c.kind=6 then wT c else wM c
theorem jb (c:Chg):(Ym c).length≤4:=by
 unfold Ym
 repeat' split
 all_goals simp[wa,wY,wX,wV,wU,wT,wM]
theorem kinds {k:Int} (h:1≤k∧k≤7):k=1∨k=2∨k=3∨k=4∨k=5∨k=6∨k=7:=by omega
theorem jc {k:Int} (h:1≤k∧k≤7):vId ((Dr k ea).getD (.raw .nilFunc))= .raw (.func (.func (tG k)) #[] #[]):=by
 rcases kinds h with h|h|h|h|h|h|h<;>(subst h;rfl)
theorem nK {k:Int} (h:1≤k∧k≤7):Av Tryz.prog (tG k):=by
 rcases kinds h with h|h|h|h|h|h|h<;>(subst h;simp only[tG];first|exact(inferInstance:Av Tryz.prog 297)|exact(inferInstance:Av Tryz.prog 298)|exact(inferInstance:Av Tryz.prog 301)|exact(inferInstance:Av Tryz.prog 302)|exact(inferInstance:Av Tryz.prog 303)|exact(inferInstance:Av Tryz.prog 305)|exact(inferInstance:Av Tryz.prog 306))
theorem nF (c:Chg) (h:1≤c.kind∧c.kind≤7) [hs:B0 (c.lines.length≤100000∧c.over.length≤100000)]:Q.Fn Tryz.prog (tG c.kind) [.agg (BG c)] (.slice ((Ym c).map eSx) .ro):=by
 unfold tG Ym
 by_cases h1:c.kind=1
 ·rw[if_pos h1,if_pos h1];exact(rk c).out
 by_cases h2:c.kind=2
 ·rw[if_neg h1,if_neg h1,if_pos h2,if_pos h2];exact(rj c).out
 by_cases h3:c.kind=3
 ·rw[if_neg h1,if_neg h1,if_neg h2,if_neg h2,if_pos h3,if_pos h3];exact(ri c).out
 by_cases h4:c.kind=4
 ·rw[if_neg h1,if_neg h1,if_neg h2,if_neg h2,if_neg h3,if_neg h3,if_pos h4,if_pos h4];exact(rh c).out
 by_cases h5:c.kind=5
 ·rw[if_neg h1,if_neg h1,if_neg h2,if_neg h2,if_neg h3,if_neg h3,if_neg h4,if_neg h4,if_pos h5,if_pos h5];exact(rf c).out
 by_cases h6:c.kind=6
 ·rw[if_neg h1,if_neg h1,if_neg h2,if_neg h2,if_neg h3,if_neg h3,if_neg h4,if_neg h4,if_neg h5,if_neg h5,if_pos h6,if_pos h6];exact(re c).out
 rw[if_neg h1,if_neg h1,if_neg h2,if_neg h2,if_neg h3,if_neg h3,if_neg h4,if_neg h4,if_neg h5,if_neg h5,if_neg h6,if_neg h6];exact(ra c).out
def OI (c:Chg):Sx:=Du ([Fo c.kind]++Ym c)
def gu (p:Pat):Sx:=Du [Ch [113,117,105,108,116,49],Ch p.author,Ch p.message,Fo p.time,Du (p.deps.map fun d=>Ch d.bs),Du (p.changes.map OI)]
theorem gw {c:Chg} (h:1≤c.kind∧c.kind≤7):OI c=KX c:=by
 unfold OI KX Jh Ho Kb Ym
 rcases kinds h with h|h|h|h|h|h|h<;>simp[h,wa,wY,wX,wV,wU,wT,wM]
theorem gn {p:Pat} (hd: ∀ d∈p.deps,d≠Dig.zero) (hk: ∀ c∈p.changes,1≤c.kind∧c.kind≤7):gu p=Vj p:=by
 unfold gu Vj
 rw[O2 (f:=fun d:Dig=>Ch d.bs) (g:=Jn) (fun d h=>by rw[Jn,if_neg (hd d h)]),O2 (f:=OI) (g:=KX) (fun c h=>gw (hk c h))]
structure ae (p:Pat):Prop where
 ok:VA p
 deps: ∀ d∈p.deps,d≠Dig.zero
 kinds: ∀ c∈p.changes,1≤c.kind∧c.kind≤7
instance pN (p:Pat) [hs:B0 (ae p)]:Bj Tryz.prog 225 [.agg (Cc p)] (.tuple [.str (Mn p),.raw (.int .i64 0)]):=⟨by
 refine Aj Tryz.func225 Tryz.ntmps225 rfl (rs:= [.tmp 2,.tmp 3]) rfl rfl fun hb LF=>?_
 have hd:=hs.out.ok.deps
 have hch:=hs.out.ok.chgs
 refine ZO fun b4=>?_
 refine BN fun b5=>?_
 refine wf ?_
 refine Dw 3 ?_
 refine AV (σ:=Nat × CZ × List Sx) (fun k=>k.1≤p.deps.length∧k.2.2=(p.deps.take k.1).map fun d=>Ch d.bs) (fun k=>p.deps.length - k.1) (fun k=> [(1,.pt (Cc p) 0),(4,.raw (.pointer (some ⟨b4,0,none⟩))),(5,.raw (.pointer (some ⟨b5,0,none⟩))),(15,.slice (p.deps.map eDig) .ro),(16,.raw (.int .i64 p.deps.length)),(17,.raw (.int .i64 k.1))]) (fun k=> .tok k.2.1 k.2.2.length 3:: .box b5 254 (RU [] .nil):: .box b4 254 (RU k.2.2 k.2.1)::LF) (0,.nil,[]) ⟨by simp,by simp⟩ ⟨rfl,rfl,rfl,rfl,rfl,rfl⟩ (.refl _) ?_
 rintro⟨k,v,l⟩ ⟨hk,he⟩
 dsimp only at hk he
 have hll:l.length=k:=by rw[he];simp;omega
 refine wf ?_
 refine A1 (fun hc=>?_) (fun hc=>?_)
 ·have hlt:k < p.deps.length:=by omega
  have ee:(p.deps.take (k+1)).map (fun d=>Ch d.bs)=l++ [Ch p.deps[k].bs]:=by rw[A6 hlt,Az,he];rfl
  refine wz fun b7=>?_
  refine Ag 7 ?_
  refine wn ?_
  refine BR 6 ?_ ?_
  ·decide+kernel
  refine QL fun v'=>?_
  refine LG (ay:= .slice ((l++ [Ch p.deps[k].bs]).map eSx) v') (RU (l++ [Ch p.deps[k].bs]) v') rfl rfl EH.out rfl (by simp) ?_
  refine wf ?_
  refine wf ?_
  exact⟨(k+1,v',l++ [Ch p.deps[k].bs]),⟨by dsimp only;omega,ee.symm⟩,by dsimp only;omega,⟨rfl,rfl,rfl,rfl,rfl,rfl⟩,.refl _⟩
 rw[AA (by omega)]at he
 clear hll
 refine wf ?_
 refine Bn (xs:= []) [] (.tok v l.length 3:: .box b5 254 (RU [] .nil):: .box b4 254 (RU l v)::LF) (f:=269) (cs:= []) (Bu _) rfl rfl (.refl _) _ We fun r L1 ⟨bm,hr,hL1⟩=>?_
 subst hr
 subst hL1
 refine wo ?_
 refine AE ?_
 refine R9 [(1,.pt (Cc p) 0),(4,.raw (.pointer (some ⟨b4,0,none⟩))),(5,.raw (.pointer (some ⟨b5,0,none⟩))),(8,.fmap (Cq kInt vId ea))] ⟨.inl rfl,.inl rfl,.inl rfl,.inr ⟨rfl,rfl⟩⟩ (.refl _) ?_
 refine wf ?_
 refine Dw 3 ?_
 refine AV (σ:=Nat × CZ × List Sx) (fun k=>k.1≤p.changes.length∧k.2.2=(p.changes.take k.1).map OI) (fun k=>p.changes.length - k.1) (fun k=> [(1,.pt (Cc p) 0),(4,.raw (.pointer (some ⟨b4,0,none⟩))),(5,.raw (.pointer (some ⟨b5,0,none⟩))),(8,.fmap (Cq kInt vId ea)),(32,.slice (p.changes.map BG) .ro),(33,.raw (.int .i64 p.changes.length)),(34,.raw (.int .i64 k.1))]) (fun k=> .tok k.2.1 k.2.2.length 3:: .box b5 254 (RU k.2.2 k.2.1):: .box b4 254 (RU l v)::LF) (0,.nil,[]) ⟨by simp,by simp⟩ ⟨rfl,rfl,rfl,rfl,rfl,rfl,rfl⟩ (.cons_cons _ (.cons _ (.refl _))) ?_
 rintro⟨k,u,m⟩ ⟨hk,hm⟩
 dsimp only at hk hm
 have hml:m.length=k:=by rw[hm];simp;omega
 refine wf ?_
 refine A1 (fun hc=>?_) (fun hc=>?_)
 ·have hlt:k < p.changes.length:=by omega
  have ee:(p.changes.take (k+1)).map OI=m++ [OI p.changes[k]]:=by rw[A6 hlt,Az,hm];rfl
  have hcc:=hs.out.ok.chg _ (AO hlt)
  have hkc:=hs.out.kinds _ (AO hlt)
  have:B0 (p.changes[k].lines.length≤100000∧p.changes[k].over.length≤100000):=⟨hcc⟩
  have hfun:=nK hkc
  have hfl:=jb p.changes[k]
  refine wz fun b10=>?_
  refine Ag 10 ?_
  refine DU ?_
  refine CD (by kernel_rfl) ?_
  refine Zd (by rfl) (hr:=(by first|infer_instance|fail)) ?_
  refine bP (by rfl) rfl ?_
  refine W7 (by(conv=>lhs;whnf);done) (hN0:=(by first|infer_instance|fail)) (hc:=(by first|infer_instance|fail)) ?_
  refine gj (by(conv=>lhs;whnf);done) (hC0:=(by first|infer_instance|fail)) (hf:=(by first|infer_instance|fail)) (by decide) fun t=>?_
  refine wz fun b11=>?_
  refine wn ?_
  refine BR 8 ?_ ?_
  ·decide+kernel
  refine wf ?_
  refine Vh (xs:= [.tmp 49]) (f:=tG p.changes[k].kind) (cs:= []) (by show Le (vId ((Dr p.changes[k].kind ea).getD (.raw .nilFunc))) _;rw[jc hkc];exact Bu _) rfl rfl (nF p.changes[k] hkc) ?_
  refine QL fun v'=>?_
  refine LG (ay:= .slice (([Fo p.changes[k].kind]++Ym p.changes[k]).map eSx) v') (RU ([Fo p.changes[k].kind]++Ym p.changes[k]) v') rfl rfl EH.out rfl (by simp) ?_
  refine wf ?_
  refine QL fun u'=>?_
  refine LG (ay:= .slice ((m++ [OI p.changes[k]]).map eSx) u') (RU (m++ [OI p.changes[k]]) u') rfl rfl EH.out rfl (by simp) ?_
  refine wf ?_
  exact⟨(k+1,u',m++ [OI p.changes[k]]),⟨by dsimp only;omega,ee.symm⟩,by dsimp only;omega,⟨rfl,rfl,rfl,rfl,rfl,rfl,rfl⟩,by dsimp only;repeat(first|exact Dh _|apply List.Sublist.cons_cons|apply List.Sublist.cons)⟩
 rw[AA (by omega)]at hm
 have e:Vj p=Du [Ch [113,117,105,108,116,49],Ch p.author,Ch p.message,Fo p.time,Du l,Du m]:=by rw[←gn hs.out.deps hs.out.kinds,gu,←he,←hm]
 have i1:B0 (mb (Du [Ch [113,117,105,108,116,49],Ch p.author,Ch p.message,Fo p.time,Du l,Du m])∧(Dc 8 (Du [Ch [113,117,105,108,116,49],Ch p.author,Ch p.message,Fo p.time,Du l,Du m])).length≤1000000000):=by
  rw[←e];exact⟨hs.out.ok.ok,hs.out.ok.len⟩
 refine wf ?_
 refine Ei ?_
 rw[Mn,e]
 exact .refl _⟩
end Go.Proofs
