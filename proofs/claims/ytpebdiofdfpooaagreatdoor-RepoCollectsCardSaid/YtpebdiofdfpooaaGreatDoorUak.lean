/- Contracts of the program: what a change refers to. -/
import Derived.Test.YtpebdiofdfpooaaGreatDoorUaj
import Derived.Test.YtpebdiofdfpooaaGreatDoorProg
import Derived.Shelf.LaysM
import Derived.Shelf.Strconv.Itoa3
import Derived.Shelf.SlSortCmp.NoneTotal
import Derived.Shelf.SlGeneric
import Derived.Ground.SlsfProg
import Derived.Test.YtpebdiofdfpooaaGreatDoorUai
import Derived.Test.YtpebdiofdfpooaaGreatDoorUaf
set_option linter.unusedSimpArgs false
set_option linter.unusedVariables false
set_option maxHeartbeats 8000000
namespace Go.Proofs
open Go Go.Q
attribute [local irreducible] EG AY B2 FZ
structure Rfc where
 id:Ident
 f:Nat
 cs:List PV
def eRfc (r:Rfc):List PV:=eIdent r.id++ [.clo r.f r.cs]
@[simp] theorem kN (r:Rfc):(eRfc r).length=34:=by unfold eRfc;simp
instance :Kz eRfc 34:=⟨kN⟩
instance (r:Rfc):EU (eRfc r):=by unfold eRfc;infer_instance
instance :Gw eRfc:=⟨fun r=>(inferInstance:EU (eRfc r)).out⟩
instance (x:Ident) (f:Nat) (cs:List PV):Fx (.agg (eIdent x++ [.clo f cs])) eRfc ⟨x,f,cs⟩:=⟨E4.agg _⟩
instance (x y:Ident) (z:PV):Et (eIdent x++ [z]) 0 (eIdent y) (eIdent y++ [z]):=Cr (by simp)
instance (x:Ident) (y z:PV):Et (eIdent x++ [y]) 33 [z] (eIdent x++ [z]):=Ae (n:=33) (off:=0) (by simp) (Ij (by simp))
instance (r:Rfc):J1 (eRfc r) 0 (eIdent r.id):=by unfold eRfc;exact Cd
instance (r:Rfc):J1 (eRfc r) 33 [.clo r.f r.cs]:=by unfold eRfc;exact Af (n:=33) (off:=0) (by simp) Ir
instance :Cw (eIdent Ident.zero++ [.raw .nilFunc]) 34:=⟨by simp⟩
instance :Ch Tryz.prog 190 (eIdent Ident.zero++ [.raw .nilFunc]):=Ch.of (us:=(eIdent Ident.zero++ [PV.raw .nilFunc]).map zv) (by kernel_rfl) (by kernel_rfl)
instance :Ch Tryz.prog 178 (eIdent Ident.zero++ [.raw .nilFunc]):=Ch.of (us:=(eIdent Ident.zero++ [PV.raw .nilFunc]).map zv) (by kernel_rfl) (by kernel_rfl)
instance :Ch Tryz.prog 174 [.slice [] .nil]:=NS (v:= .slice none 0 0) (by kernel_rfl) rfl fun _=> .nilN none (by simp)
structure xV (P:Program) (r:Rfc) (p:Atm→Bool):Prop where
 fn:Ax P r.f
 out: ∀ a:Atm,Q.Fn P r.f (.agg (eAtm a)::r.cs) (.raw (.bool (p a)))
def gY (k:Int):Int:=if k=2∨k=3∨k=4∨k=6 then k else 0
instance qi (k:Int):Bl Tryz.prog 206 [.raw (.int .i64 k)] (.raw (.int .i64 (gY k))):=⟨by
 refine Ak Tryz.func206 Tryz.ntmps206 rfl (rs:= [.tmp 2]) rfl rfl fun hb LF=>?_
 refine vS fun b=>?_
 refine Ah (.of_eq ?_)
 simp only[gY]
 simp[Hb,Dv]
 grind⟩
def w8 (a:Atm):Bool:=decide (a.kind=1)
def uY (a:Atm):Bool:=decide (a.kind=1)&&(decide (a.type=2)||decide (a.type=3))
def uX (a:Atm):Bool:=decide (a.kind=1)&&decide (a.type=1)
def oC (a:Atm):Bool:=decide (a.kind=1)&&decide (a.type=4)
def w7 (c:Chg) (a:Atm):Bool:=decide (a.id=c.file)||(decide (a.kind=5)&&decide (a.file=c.file))
def w6 (c:Chg) (a:Atm):Bool:=decide (c.kind=7)||(decide (a.kind=gY c.kind)&&decide (a.file=c.file))
instance sf (a:Atm):Bl Tryz.prog 199 [.agg (eAtm a)] (.raw (.bool (w8 a))):=⟨by
 refine Ak Tryz.func199 Tryz.ntmps199 rfl (rs:= [.tmp 2]) rfl rfl fun hb LF=>?_
 refine wf ?_
 refine Ah (.of_eq ?_)
 rfl⟩
instance se (a:Atm):Bl Tryz.prog 200 [.agg (eAtm a)] (.raw (.bool (uY a))):=⟨by
 refine Ak Tryz.func200 Tryz.ntmps200 rfl (rs:= [.tmp 2]) rfl rfl fun hb LF=>?_
 refine wf ?_
 repeat' (first|(refine A1 (fun h=>?_) (fun h=>?_)<;>refine wf ?_)|(refine AL (fun h=>?_) (fun h=>?_)<;>refine wf ?_)|(refine AO (fun h=>?_) (fun h=>?_)<;>refine wf ?_)|(refine An (fun h=>?_) (fun h=>?_)<;>(have h2:=h;(try simp only[AB,A7,AG,AF]at h2);refine wf ?_)))
 all_goals (refine Ah (.of_eq ?_);simp only[uY];first|(simp_all;done)|grind)⟩
instance sd (a:Atm):Bl Tryz.prog 201 [.agg (eAtm a)] (.raw (.bool (uX a))):=⟨by
 refine Ak Tryz.func201 Tryz.ntmps201 rfl (rs:= [.tmp 2]) rfl rfl fun hb LF=>?_
 refine wf ?_
 repeat' (first|(refine A1 (fun h=>?_) (fun h=>?_)<;>refine wf ?_)|(refine AL (fun h=>?_) (fun h=>?_)<;>refine wf ?_)|(refine AO (fun h=>?_) (fun h=>?_)<;>refine wf ?_)|(refine An (fun h=>?_) (fun h=>?_)<;>(have h2:=h;(try simp only[AB,A7,AG,AF]at h2);refine wf ?_)))
 all_goals (refine Ah (.of_eq ?_);simp only[uX];first|(simp_all;done)|grind)⟩
instance sb (a:Atm):Bl Tryz.prog 203 [.agg (eAtm a)] (.raw (.bool (oC a))):=⟨by
 refine Ak Tryz.func203 Tryz.ntmps203 rfl (rs:= [.tmp 2]) rfl rfl fun hb LF=>?_
 refine wf ?_
 repeat' (first|(refine A1 (fun h=>?_) (fun h=>?_)<;>refine wf ?_)|(refine AL (fun h=>?_) (fun h=>?_)<;>refine wf ?_)|(refine AO (fun h=>?_) (fun h=>?_)<;>refine wf ?_)|(refine An (fun h=>?_) (fun h=>?_)<;>(have h2:=h;(try simp only[AB,A7,AG,AF]at h2);refine wf ?_)))
 all_goals (refine Ah (.of_eq ?_);simp only[oC];first|(simp_all;done)|grind)⟩
instance sa (c:Chg) (a:Atm):Bl Tryz.prog 204 [.agg (eAtm a),.pt (BC c) 0] (.raw (.bool (w7 c a))):=⟨by
 refine Ak Tryz.func204 Tryz.ntmps204 rfl (rs:= [.tmp 3]) rfl rfl fun hb LF=>?_
 refine wf ?_
 repeat' (first|(refine A1 (fun h=>?_) (fun h=>?_)<;>refine wf ?_)|(refine AL (fun h=>?_) (fun h=>?_)<;>refine wf ?_)|(refine AO (fun h=>?_) (fun h=>?_)<;>refine wf ?_)|(refine An (fun h=>?_) (fun h=>?_)<;>(have h2:=h;(try simp only[AB,A7,AG,AF]at h2);refine wf ?_)))
 all_goals (refine Ah (.of_eq ?_);simp only[w7];first|(simp_all;done)|grind)⟩
instance sZ (c:Chg) (a:Atm):Bl Tryz.prog 205 [.agg (eAtm a),.pt (BC c) 0] (.raw (.bool (w6 c a))):=⟨by
 refine Ak Tryz.func205 Tryz.ntmps205 rfl (rs:= [.tmp 3]) rfl rfl fun hb LF=>?_
 refine wf ?_
 repeat' (first|(refine A1 (fun h=>?_) (fun h=>?_)<;>refine wf ?_)|(refine AL (fun h=>?_) (fun h=>?_)<;>refine wf ?_)|(refine AO (fun h=>?_) (fun h=>?_)<;>refine wf ?_)|(refine An (fun h=>?_) (fun h=>?_)<;>(have h2:=h;(try simp only[AB,A7,AG,AF]at h2);refine wf ?_)))
 all_goals (refine Ah (.of_eq ?_);simp only[w6];first|(simp_all;done)|grind)⟩
def gI (b:Nat) (l:List Rfc) (t:CW):List Res:= [.box b 187 [.slice (l.map eRfc) t],.tok t l.length 34]
theorem tp (x:Ident) (f:Nat) (cs:List PV) (b:Nat) (l:List Rfc) (t:CW) (hl:l.length≤1000000):
  B2 Tryz.prog 198 [.agg (eIdent x),.clo f cs,.raw (.pointer (some ⟨b,0,none⟩))] (gI b l t) (fun _ L'=> ∃ t',L'=gI b (l++ [⟨x,f,cs⟩]) t'):=by
 refine Bw Tryz.func198 rfl Tryz.ntmps198 (rs:= []) rfl rfl fun hb LF=>?_
 rw[show gI b l t++LF= .box b 187 [.slice (l.map eRfc) t]:: .tok t l.length 34::LF from rfl]
 refine Xw fun t'=>?_
 exact⟨trivial,[],gI b (l++ [⟨x,f,cs⟩]) t',.nil,.refl _,t',rfl⟩
section
variable {N:Nat} {all:Array Oper} {K:Env→List Res→Prop} {fl:List Bool} {os:List Oper} {ρ:Env} {L:List Res} {Q:PPost} {c:Code} {d:Nat} {ty:TypeId} {pos:String} {af:Array Edge}
theorem Te {x x0 x1:Operand} {ats:Array TypeId} {b f:Nat} {l:List Rfc} {t:CW} {id:Ident} {cs:List PV} {a1:PV} {LF:List Res}
  (qx:ρ.ev x= .clo 198 [.raw (.pointer (some ⟨b,0,none⟩))]) (q0:ρ.ev x0= .agg (eIdent id)) (q1:ρ.ev x1=a1) [h1:WM a1 f cs] (hl:l.length≤1000000)
  (k: ∀ t' u,AY Tryz.prog N all K fl.tail os (CN ρ d u) (.box b 187 [.slice ((l++ [Rfc.mk id f cs]).map eRfc) t']:: .tok t' (l++ [Rfc.mk id f cs]).length 34::LF)) (hd:Nat.blt d N=true:=by rfl) (hfl:fl.headD true=true:=by rfl):
  AY Tryz.prog N all K fl (⟨some d,.call { callee:= .value x,args:= #[x0,x1],argTypes:=ats },ty,pos,af,none⟩::os) ρ (.box b 187 [.slice (l.map eRfc) t]:: .tok t l.length 34::LF):=
 Bo (xs:= [x0,x1]) (gI b l t) LF (.of_eq qx) rfl rfl (.refl _) (fun _ L'=> ∃ t',L'=gI b (l++ [⟨id,f,cs⟩]) t')
  (B2.args (bs:= [.agg (eIdent id),.clo f cs,.raw (.pointer (some ⟨b,0,none⟩))]) rfl (fun i g1 g2=>by
   match i,g1,g2 with
   |0,_,_=>exact .of_eq q0
   |1,_,_=>show Le (ρ.ev x1) _;rw[q1];exact h1.out
   |2,_,_=>exact .refl _
   |m+3,g1,_=>exact absurd g1 (by simp)) (tp id f cs b l t hl)) (fun r L' ⟨t',e⟩=>by subst e;exact k t' r) hd hfl
end
def Hl (c:Chg):List Rfc:=
 if c.kind=2∨c.kind=3 then [⟨c.file,199,[]⟩]else if c.kind=4 then [⟨c.file,200,[]⟩]else
 if c.kind=5∨c.kind=6 then [⟨c.file,201,[]⟩]else []
def Kb (c:Chg):List Rfc:=if c.kind=2∧c.parent≠⟨Dig.zero,-1⟩then [⟨c.parent,203,[]⟩]else []
def P0 (c:Chg):List Rfc:=if c.kind=5∨c.kind=6 then [⟨c.after,204,[.pt (BC c) 0]⟩,⟨c.before,204,[.pt (BC c) 0]⟩]else []
def N9 (c:Chg) (l:List Ident):List Rfc:=l.map fun x=>⟨x,205,[.pt (BC c) 0]⟩
def Ei (c:Chg):List Rfc:=Hl c++Kb c++P0 c++N9 c c.over
theorem VZ (c:Chg):(Hl c).length≤1:=by unfold Hl;split<;>(try split)<;>(try split)<;>simp
theorem VY (c:Chg):(Kb c).length≤1:=by unfold Kb;split<;>simp
theorem VX (c:Chg):(P0 c).length≤2:=by unfold P0;split<;>simp
instance jq (c:Chg) [hs:B3 (c.over.length≤400)]:Bl Tryz.prog 163 [.agg (BC c)] (.slice ((Ei c).map eRfc) .ro):=⟨by
 have hover:=hs.out
 have r1:=VZ c
 have r2:=VY c
 have r3:=VX c
 refine Ak Tryz.func163 Tryz.ntmps163 rfl (rs:= [.tmp 2]) rfl rfl fun hb LF=>?_
 refine wf ?_
 refine BR fun b3=>?_
 refine wo ?_
 refine AN ?_
 refine Ee 34 ?_
 refine GI (.swap _ _ _) ?_
 refine ws ?_
 refine Cz (σ:=List Rfc × CW) (fun s=>s.1=Hl c) (fun s=> [(1,.pt (BC c) 0),(3,.raw (.pointer (some ⟨b3,0,none⟩))),(4,.clo 198 [.raw (.pointer (some ⟨b3,0,none⟩))])]) (fun s=> .box b3 187 [.slice (s.1.map eRfc) s.2]:: .tok s.2 s.1.length 34::LF) ?_ ?_
 ·refine wf ?_
  refine Cz (σ:=Unit) (fun _=>True) (fun _=> [(1,.pt (BC c) 0),(3,.raw (.pointer (some ⟨b3,0,none⟩))),(4,.clo 198 [.raw (.pointer (some ⟨b3,0,none⟩))]),(10,.raw (.int .i64 c.kind)),(11,.raw (.bool (decide (c.kind=2∨c.kind=3))))]) (fun _=> .box b3 187 [.slice [] .nil]:: .tok .nil 0 34::LF) ?_ ?_
  ·refine A1 (fun h=>?_) (fun h=>?_)
   ·refine wf ?_
    exact⟨(),trivial,⟨rfl,rfl,rfl,rfl,BO (by rfl) (by simp[h])⟩,.refl _⟩
   ·refine wf ?_
    exact⟨(),trivial,⟨rfl,rfl,rfl,rfl,BO (by rfl) (by simp[h])⟩,.refl _⟩
  intro _ _
  refine A1 (fun h=>?_) (fun h=>?_)
  ·refine wf ?_
   refine Te (l:= []) rfl rfl (by(conv=>lhs;whnf);done) (h1:=(by first|infer_instance|fail)) (by simp) fun t' u=>?_
   refine wf ?_
   exact⟨([⟨c.file,199,[]⟩],t'),by rw[Hl,if_pos h],⟨rfl,rfl,rfl⟩,.refl _⟩
  have e1:Hl c=if c.kind=4 then [⟨c.file,200,[]⟩]else if c.kind=5∨c.kind=6 then [⟨c.file,201,[]⟩]else []:=by rw[Hl,if_neg h]
  refine wf ?_
  refine A1 (fun h4=>?_) (fun h4=>?_)
  ·refine wf ?_
   refine Te (l:= []) rfl rfl (by(conv=>lhs;whnf);done) (h1:=(by first|infer_instance|fail)) (by simp) fun t' u=>?_
   refine wf ?_
   exact⟨([⟨c.file,200,[]⟩],t'),by rw[e1,if_pos h4],⟨rfl,rfl,rfl⟩,.refl _⟩
  rw[if_neg h4]at e1
  refine wf ?_
  refine Cz (σ:=Unit) (fun _=>True) (fun _=> [(1,.pt (BC c) 0),(3,.raw (.pointer (some ⟨b3,0,none⟩))),(4,.clo 198 [.raw (.pointer (some ⟨b3,0,none⟩))]),(24,.raw (.bool (decide (c.kind=5∨c.kind=6))))]) (fun _=> .box b3 187 [.slice [] .nil]:: .tok .nil 0 34::LF) ?_ ?_
  ·refine A1 (fun h=>?_) (fun h=>?_)
   ·refine wf ?_
    exact⟨(),trivial,⟨rfl,rfl,rfl,BO (by rfl) (by simp[h])⟩,.refl _⟩
   ·refine wf ?_
    exact⟨(),trivial,⟨rfl,rfl,rfl,BO (by rfl) (by simp[h])⟩,.refl _⟩
  intro _ _
  refine A1 (fun h5=>?_) (fun h5=>?_)
  ·refine wf ?_
   refine Te (l:= []) rfl rfl (by(conv=>lhs;whnf);done) (h1:=(by first|infer_instance|fail)) (by simp) fun t' u=>?_
   refine wf ?_
   exact⟨([⟨c.file,201,[]⟩],t'),by rw[e1,if_pos h5],⟨rfl,rfl,rfl⟩,.refl _⟩
  ·refine wf ?_
   exact⟨([],.nil),by rw[e1,if_neg h5],⟨rfl,rfl,rfl⟩,.refl _⟩
 rintro⟨l1,t1⟩ hl1
 dsimp only at hl1 ⊢
 subst hl1
 refine ws ?_
 refine B0 [(39,.raw (.bool (decide (c.kind=2∧c.parent≠⟨Dig.zero,-1⟩)))),(1,.pt (BC c) 0),(3,.raw (.pointer (some ⟨b3,0,none⟩))),(4,.clo 198 [.raw (.pointer (some ⟨b3,0,none⟩))])] (.box b3 187 [.slice ((Hl c).map eRfc) t1]:: .tok t1 (Hl c).length 34::LF) ?_ ?_
 ·repeat' (first|(refine A1 (fun h=>?_) (fun h=>?_)<;>refine wf ?_)|(refine AL (fun h=>?_) (fun h=>?_)<;>refine wf ?_)|(refine AO (fun h=>?_) (fun h=>?_)<;>refine wf ?_)|(refine An (fun h=>?_) (fun h=>?_)<;>(have h2:=h;(try simp only[AB,A7,AG,AF]at h2);refine wf ?_)))
  all_goals (refine⟨⟨BO (by rfl) ?_,rfl,rfl,rfl⟩,.refl _⟩;first|(simp_all;done)|grind)
 refine Cz (σ:=List Rfc × CW) (fun s=>s.1=Hl c++Kb c) (fun s=> [(1,.pt (BC c) 0),(3,.raw (.pointer (some ⟨b3,0,none⟩))),(4,.clo 198 [.raw (.pointer (some ⟨b3,0,none⟩))])]) (fun s=> .box b3 187 [.slice (s.1.map eRfc) s.2]:: .tok s.2 s.1.length 34::LF) ?_ ?_
 ·refine A1 (fun h=>?_) (fun h=>?_)
  ·refine wf ?_
   refine Te rfl rfl (by(conv=>lhs;whnf);done) (h1:=(by first|infer_instance|fail)) (by omega) fun t' u=>?_
   refine wf ?_
   exact⟨(Hl c++ [⟨c.parent,203,[]⟩],t'),by rw[Kb,if_pos h],⟨rfl,rfl,rfl⟩,.refl _⟩
  ·refine wf ?_
   exact⟨(Hl c,t1),by rw[Kb,if_neg h];simp,⟨rfl,rfl,rfl⟩,.refl _⟩
 rintro⟨l1,t2⟩ hl1
 dsimp only at hl1 ⊢
 subst hl1
 refine ws ?_
 refine B0 [(51,.raw (.bool (decide (c.kind=5∨c.kind=6)))),(1,.pt (BC c) 0),(3,.raw (.pointer (some ⟨b3,0,none⟩))),(4,.clo 198 [.raw (.pointer (some ⟨b3,0,none⟩))])] (.box b3 187 [.slice ((Hl c++Kb c).map eRfc) t2]:: .tok t2 (Hl c++Kb c).length 34::LF) ?_ ?_
 ·repeat' (first|(refine A1 (fun h=>?_) (fun h=>?_)<;>refine wf ?_)|(refine AL (fun h=>?_) (fun h=>?_)<;>refine wf ?_)|(refine AO (fun h=>?_) (fun h=>?_)<;>refine wf ?_)|(refine An (fun h=>?_) (fun h=>?_)<;>(have h2:=h;(try simp only[AB,A7,AG,AF]at h2);refine wf ?_)))
  all_goals (refine⟨⟨BO (by rfl) ?_,rfl,rfl,rfl⟩,.refl _⟩;first|(simp_all;done)|grind)
 refine Cz (σ:=List Rfc × CW) (fun s=>s.1=Hl c++Kb c++P0 c) (fun s=> [(1,.pt (BC c) 0),(3,.raw (.pointer (some ⟨b3,0,none⟩))),(4,.clo 198 [.raw (.pointer (some ⟨b3,0,none⟩))])]) (fun s=> .box b3 187 [.slice (s.1.map eRfc) s.2]:: .tok s.2 s.1.length 34::LF) ?_ ?_
 ·refine A1 (fun h=>?_) (fun h=>?_)
  ·refine wf ?_
   refine Te rfl rfl (by(conv=>lhs;whnf);done) (h1:=(by first|infer_instance|fail)) (by simp only[A8];omega) fun t' u=>?_
   refine wf ?_
   refine Te rfl rfl (by(conv=>lhs;whnf);done) (h1:=(by first|infer_instance|fail)) (by simp only[A8,AH,Aa];omega) fun t' u=>?_
   refine wf ?_
   exact⟨(Hl c++Kb c++ [⟨c.after,204,[.pt (BC c) 0]⟩]++ [⟨c.before,204,[.pt (BC c) 0]⟩],t'),by rw[P0,if_pos h];simp,⟨rfl,rfl,rfl⟩,.refl _⟩
  ·refine wf ?_
   exact⟨(Hl c++Kb c,t2),by rw[P0,if_neg h];simp,⟨rfl,rfl,rfl⟩,.refl _⟩
 rintro⟨l1,t3⟩ hl1
 dsimp only at hl1 ⊢
 have hl3:l1.length≤4:=by rw[hl1];simp only[A8];omega
 refine wf ?_
 refine AW (σ:=Nat × List Rfc × CW) (fun k=>k.1≤c.over.length∧k.2.1=l1++N9 c (c.over.take k.1)) (fun k=>c.over.length - k.1) (fun k=> [(1,.pt (BC c) 0),(3,.raw (.pointer (some ⟨b3,0,none⟩))),(4,.clo 198 [.raw (.pointer (some ⟨b3,0,none⟩))]),(64,.slice (c.over.map eIdent) .ro),(65,.raw (.int .i64 c.over.length)),(66,.raw (.int .i64 k.1))]) (fun k=> .box b3 187 [.slice (k.2.1.map eRfc) k.2.2]:: .tok k.2.2 k.2.1.length 34::LF) (0,l1,t3) ⟨by simp,by simp[N9]⟩ ⟨rfl,rfl,rfl,rfl,rfl,rfl⟩ (.refl _) ?_
 rintro⟨k,m,t4⟩ ⟨hk,hm⟩
 dsimp only at hk hm ⊢
 have hml:m.length≤404:=by rw[hm,N9];simp only[A8,AR,AV];omega
 refine wf ?_
 refine A1 (fun hc=>?_) (fun hc=>?_)
 ·have hlt:k < c.over.length:=by omega
  refine wz fun b7=>?_
  refine Ag 7 ?_
  refine wf ?_
  refine Te rfl rfl (by(conv=>lhs;whnf);done) (h1:=(by first|infer_instance|fail)) (by omega) fun t' u=>?_
  refine wf ?_
  refine⟨(k+1,m++ [⟨c.over[k],205,[.pt (BC c) 0]⟩],t'),⟨by dsimp only;omega,?_⟩,by dsimp only;omega,⟨rfl,rfl,rfl,rfl,rfl,rfl⟩,.refl _⟩
  dsimp only
  rw[hm,N9,N9,A6 hlt,Az,AJ];rfl
 ·rw[AA (by omega)]at hm
  refine wf ?_
  refine Ah (.ros ?_)
  rw[hm,hl1];rfl⟩
theorem Gv {α:Type} (f:α→Int): ∀ a b:List α,Aq f (a++b)=if Aq f a≠0 then Aq f a else Aq f b
 | [],b=>by simp[Aq]
 |x::a,b=>by
  simp only[BM,Aq,Gv f a b]
  by_cases h:f x=0<;>simp[h]
theorem Qb {α β:Type} (f:β→Int) (g:α→β): ∀ l:List α,Aq f (l.map g)=Aq (fun x=>f (g x)) l
 | []=>rfl
 |x::l=>by simp only[BG,Aq,Qb f g l]
theorem GL {α:Type} {f g:α→Int}: ∀ {l:List α},(∀ x∈l,f x=g x)→Aq f l=Aq g l
 | [],_=>rfl
 |x::l,h=>by
  rw[Aq,Aq,h x (by simp),GL (fun y hy=>h y (AD _ hy))]
def NH (c:Chg) (f:Nat):Atm→Bool:=
 if f=199 then w8 else if f=200 then uY else if f=201 then uX else if f=203 then oC else if f=204 then w7 c else w6 c
theorem ko (c:Chg) (r:Rfc) (h:r∈Ei c):xV Tryz.prog r (NH c r.f):=by
 simp only[Ei,Ai]at h
 rcases h with ((h|h)|h)|h
 ·unfold Hl at h
  split at h
  ·simp at h;subst h;exact⟨inferInstance,fun a=>(sf a).out⟩
  ·split at h
   ·simp at h;subst h;exact⟨inferInstance,fun a=>(se a).out⟩
   ·split at h
    ·simp at h;subst h;exact⟨inferInstance,fun a=>(sd a).out⟩
    ·simp at h
 ·unfold Kb at h
  split at h
  ·simp at h;subst h;exact⟨inferInstance,fun a=>(sb a).out⟩
  ·simp at h
 ·unfold P0 at h
  split at h
  ·simp at h
   rcases h with h|h<;>subst h<;>exact⟨inferInstance,fun a=>(sa c a).out⟩
  ·simp at h
 ·unfold N9 at h
  obtain⟨x,_,rfl⟩:=AU.1 h
  exact⟨inferInstance,fun a=>(sZ c a).out⟩
def Nh (c:Chg) (own:List Atm) (r:Rfc):Int:=
 if r.id.n < 0∨(r.id.patch=Dig.zero∧(own.length:Int)≤r.id.n)∨100000≤r.id.n then 7 else if r.id.patch=Dig.zero∧NH c r.f (own.getD r.id.n.toNat Atm.zero)=false then 8 else 0
def R9 (c:Chg) (own:List Atm):Int:=
 if Aq (Nh c own) (Ei c)≠0 then Aq (Nh c own) (Ei c)else if c.kind=2∧c.parent=c.file then 20 else
 if(c.kind=6∧c.after=c.before)∨(c.kind=5∧c.after=c.before∧c.after≠c.file)then 1 else 0
def NI (own:List Atm):Prop:= ∀ i (h:i < own.length),own[i].id=⟨Dig.zero,i⟩
theorem Lp (c:Chg) (own:List Atm) (hl:own.length≤100000) (x:Ident) (f:Nat) (cs:List PV):Nh c own ⟨x,f,cs⟩=Jf x own (NH c f (Lr own x)):=by
 by_cases h:x.patch=Dig.zero
 ·by_cases h1:0≤x.n∧x.n < own.length
  ·have n1: ¬(x.n < 0∨(x.patch=Dig.zero∧(own.length:Int)≤x.n)∨100000≤x.n):=by rintro(h2|⟨_,h2⟩|h2)<;>omega
   have ha:Dq x own.length=true:=by unfold Dq;rw[if_pos h];simp[h1]
   unfold Nh Jf Lr
   dsimp only
   rw[if_neg n1,ha,if_pos (show x.patch=Dig.zero∧0≤x.n from⟨h,h1.1⟩)]
   simp only[Bool.true_eq_false,if_false]
  ·have n1:x.n < 0∨(x.patch=Dig.zero∧(own.length:Int)≤x.n)∨100000≤x.n:=by
    by_cases h2:x.n < 0
    ·exact .inl h2
    ·exact .inr (.inl ⟨h,by omega⟩)
   have ha:Dq x own.length=false:=by
    unfold Dq;rw[if_pos h]
    by_cases h2:0≤x.n
    ·have: ¬x.n < own.length:=fun h3=>h1 ⟨h2,h3⟩
     simp[this]
    ·simp[h2]
   unfold Nh Jf
   dsimp only
   rw[if_pos n1,if_pos ha]
 ·by_cases h1:0≤x.n∧x.n < 100000
  ·have n1: ¬(x.n < 0∨(x.patch=Dig.zero∧(own.length:Int)≤x.n)∨100000≤x.n):=by
    rintro(h2|⟨h2,_⟩|h2)
    ·omega
    ·exact h h2
    ·omega
   have ha:Dq x own.length=true:=by unfold Dq;rw[if_neg h];simp[h1]
   unfold Nh Jf
   dsimp only
   rw[if_neg n1,ha]
   simp only[Bool.true_eq_false,if_false,h,false_and]
  ·have n1:x.n < 0∨(x.patch=Dig.zero∧(own.length:Int)≤x.n)∨100000≤x.n:=by omega
   have ha:Dq x own.length=false:=by
    unfold Dq;rw[if_neg h]
    by_cases h2:0≤x.n
    ·have: ¬x.n < 100000:=fun h3=>h1 ⟨h2,h3⟩
     simp[this]
    ·simp[h2]
   unfold Nh Jf
   dsimp only
   rw[if_pos n1,if_pos ha]
theorem TE {x:Ident} {own:List Atm} {a b:Bool} (h:x.patch=Dig.zero→0≤x.n→x.n < own.length→a=b):Jf x own a=Jf x own b:=by
 unfold Jf
 by_cases h1:Dq x own.length=false
 ·rw[if_pos h1,if_pos h1]
 rw[if_neg h1,if_neg h1]
 by_cases h2:x.patch=Dig.zero
 ·have h3:Dq x own.length=true:=by simpa using h1
  unfold Dq at h3
  simp only[h2,if_true,Bu,AB]at h3
  rw[h h2 h3.1 h3.2]
 ·rw[if_neg (fun h3=>h2 h3.1),if_neg (fun h3=>h2 h3.1)]
theorem Jn {c:Chg} (h:C0 c=0):1≤c.kind∧c.kind≤7:=by
 unfold C0 at h
 by_cases h1:c.kind < 1∨7 < c.kind
 ·rw[if_pos h1]at h;omega
 ·omega
theorem KF {c:Chg} (h:C0 c=0):GG (J8 c)=true:=by
 have hk:=Jn h
 unfold C0 at h
 rw[if_neg (by omega)]at h
 by_cases h1:GG (J8 c)=false
 ·rw[if_pos h1]at h;omega
 ·simpa using h1
theorem Jm {c:Chg} (h:C0 c=0) (hk:c.kind=1∨c.kind=5):c.over= []:=by
 have h2:=KF h
 unfold GG J8 at h2
 simp only[Bu,AB]at h2
 have h3:=h2.2
 rw[if_neg (by omega)]at h3
 exact BU (by omega)
theorem SI {c:Chg} (h:C0 c=0):c.over.length≤400:=by
 have h0:=Jm h
 have hk:c.kind=5∨c.kind≠5:=by omega
 rcases hk with hk|hk
 ·rw[h0 (.inr hk)];simp
 clear h0
 unfold C0 at h
 generalize GG (J8 c)=a1 at h
 generalize EK c.name=a2 at h
 generalize RE c.over=a3 at h
 generalize MY c.lines=a4 at h
 rcases BB 400 c.over.length with hc|hc
 ·exfalso
  have hc':400 < (c.over.length:Int):=by omega
  rw[if_pos hc',if_neg hk]at h
  by_cases g1:c.kind < 1∨7 < c.kind
  ·rw[if_pos g1]at h;exact absurd h (by decide)
  rw[if_neg g1]at h
  by_cases g2:a1=false
  ·rw[if_pos g2]at h;exact absurd h (by decide)
  rw[if_neg g2]at h
  by_cases g3:c.kind=1∧(c.type < 1∨4 < c.type)
  ·rw[if_pos g3]at h;exact absurd h (by decide)
  rw[if_neg g3]at h
  by_cases g4:c.kind=2∧a2=false
  ·rw[if_pos g4]at h;exact absurd h (by decide)
  rw[if_neg g4]at h
  by_cases g5:c.kind=3∧(c.mode < 0∨511 < c.mode)
  ·rw[if_pos g5]at h;exact absurd h (by decide)
  rw[if_neg g5]at h
  by_cases g6:65536 < (c.data.length:Int)
  ·rw[if_pos g6]at h;exact absurd h (by decide)
  rw[if_neg g6]at h
  by_cases g7:c.kind=7∧(c.over.length:Int)=0
  ·rw[if_pos g7]at h;exact absurd h (by decide)
  rw[if_neg g7]at h
  exact absurd h (by decide)
 ·exact hc
theorem jY {c:Chg} {own:List Atm} (hf:C0 c=0) (hl:own.length≤100000) (hi:NI own):R9 c own=FY c own:=by
 have hk:=Jn hf
 have e1:Aq (Nh c own) (Hl c)=Kd c own:=by
  unfold Hl Kd
  by_cases h1:c.kind=2∨c.kind=3
  ·have:w8=EL c.kind:=by
    funext a;unfold w8 EL J7
    rcases h1 with h|h<;>simp[h]
   rw[if_pos h1,if_pos (by omega),Aq,Aq,Lp c own hl,show NH c 199=w8 from rfl,this]
   split<;>simp_all
  by_cases h2:c.kind=4
  ·have:uY=EL c.kind:=by
    funext a;unfold uY EL J7
    simp[h2]<;>(by_cases ha:a.kind=1<;>simp[ha])
   rw[if_neg h1,if_pos h2,if_pos (by omega),Aq,Aq,Lp c own hl,show NH c 200=uY from rfl,this]
   split<;>simp_all
  by_cases h3:c.kind=5∨c.kind=6
  ·have:uX=EL c.kind:=by
    funext a;unfold uX EL J7
    rcases h3 with h|h<;>simp[h]<;>by_cases ha:a.kind=1<;>simp[ha]
   rw[if_neg h1,if_neg h2,if_pos h3,if_pos (by omega),Aq,Aq,Lp c own hl,show NH c 201=uX from rfl,this]
   split<;>simp_all
  ·rw[if_neg h1,if_neg h2,if_neg h3,if_neg (by omega)];rfl
 have e2:Aq (Nh c own) (Kb c)=NB c own:=by
  unfold Kb NB YW
  by_cases h1:c.kind=2∧c.parent≠⟨Dig.zero,-1⟩
  ·rw[if_pos h1,if_pos h1,Aq,Aq,Lp c own hl,show NH c 203=oC from rfl,show oC=rDirectory from rfl]
   split<;>simp_all
  ·rw[if_neg h1,if_neg h1];rfl
 have e6: ∀ x:Ident,Nh c own ⟨x,204,[.pt (BC c) 0]⟩=QC c own x:=fun x=>by
  rw[Lp c own hl,show NH c 204=w7 c from rfl,QC]
  refine TE fun h1 h2 h3=>?_
  have h4:x.n.toNat < own.length:=by omega
  have e:(Lr own x).id=x:=by
   unfold Lr
   rw[if_pos ⟨h1,h2⟩]
   have:own.getD x.n.toNat Atm.zero=own[x.n.toNat]:=by simp[List.getD,h4]
   rw[this,hi _ h4]
   obtain⟨p,n⟩:=x
   simp only at h1 h2 ⊢
   subst h1
   congr 1
   omega
  unfold w7
  rw[e];rfl
 have e3:Aq (Nh c own) (P0 c)=Ih c own:=by
  unfold P0 Ih
  by_cases h1:c.kind=5∨c.kind=6
  ·have:J7 c.kind=true:=by unfold J7;rcases h1 with h|h<;>simp[h]
   rw[if_pos h1,if_pos this]
   simp only[Aq,e6]
  ·have: ¬J7 c.kind=true:=by unfold J7;intro h;simp at h;exact h1 h
   rw[if_neg h1,if_neg this];rfl
 have e4:Aq (Nh c own) (N9 c c.over)=Aq (Nk c own) c.over:=by
  unfold N9
  rw[Qb]
  refine GL fun x hx=>?_
  rw[Lp c own hl,show NH c 205=w6 c from rfl,Nk]
  refine TE fun _ _ _=>?_
  have h15:c.kind≠1∧c.kind≠5:=⟨fun h=>(by rw[Jm hf (.inl h)]at hx;simp at hx),fun h=>(by rw[Jm hf (.inr h)]at hx;simp at hx)⟩
  unfold w6 HL Sw gY
  by_cases h7:c.kind=7
  ·simp[h7]
  ·have:c.kind=2∨c.kind=3∨c.kind=4∨c.kind=6:=by omega
   rw[if_pos this,if_neg h7]
   simp[h7]
   omega
 unfold R9 FY
 rw[Ei,Gv,Gv,Gv,e1,e2,e3,e4]
 have e5:((c.kind=6∧c.after=c.before)∨(c.kind=5∧c.after=c.before∧c.after≠c.file))↔((J7 c.kind=true∧c.after=c.before)∧(c.kind=6∨c.after≠c.file)):=by
  unfold J7
  simp only[UM,AB]
  constructor
  ·rintro(⟨h1,h2⟩|⟨h1,h2,h3⟩)
   ·exact⟨⟨.inr h1,h2⟩,.inl h1⟩
   ·exact⟨⟨.inl h1,h2⟩,.inr h3⟩
  ·rintro⟨⟨h1|h1,h2⟩,h3⟩
   ·rcases h3 with h3|h3
    ·omega
    ·exact .inr ⟨h1,h2,h3⟩
   ·exact .inl ⟨h1,h2⟩
 simp only[e5]
 by_cases a1:Kd c own=0<;>by_cases a2:NB c own=0<;>by_cases a3:Ih c own=0<;>by_cases a4:Aq (Nk c own) c.over=0<;>simp[a1,a2,a3,a4]
theorem VW {c:Chg} (h:c.over.length≤400):(Ei c).length≤404:=by
 have r1:=VZ c
 have r2:=VY c
 have r3:=VX c
 rw[Ei,N9];simp only[A8,AR];omega
theorem Xj (c:Chg) (own:List Atm) (t:CW) (hov:c.over.length≤400) (hol:own.length≤100000):Q.Fn Tryz.prog 223 [.agg (BC c),.slice (own.map eAtm) t] (.raw (.int .i64 (R9 c own))):=by
 have i0:B3 (c.over.length≤400):=⟨hov⟩
 have hrl:=VW hov
 refine Ak Tryz.func223 Tryz.ntmps223 rfl (rs:= [.tmp 4]) rfl rfl fun hb LF=>?_
 refine wf ?_
 refine AW (σ:=Nat) (fun k=>k≤(Ei c).length∧ ∀ i (h:i < (Ei c).length),i < k→Nh c own (Ei c)[i]=0) (fun k=>(Ei c).length - k) (fun k=> [(1,.slice (own.map eAtm) t),(2,.pt (BC c) 0),(8,.slice ((Ei c).map eRfc) .ro),(9,.raw (.int .i64 (Ei c).length)),(10,.raw (.int .i64 k))]) (fun _=>LF) 0 ⟨by simp,by simp⟩ ⟨rfl,rfl,rfl,rfl,rfl⟩ (.refl _) ?_
 rintro k ⟨hk,he⟩
 refine wf ?_
 refine A1 (fun hc=>?_) (fun hc=>?_)
 ·have hlt:k < (Ei c).length:=by omega
  have hat:=CQ (f:=Nh c own) hlt he
  have hsu:=fun h=>DT (f:=Nh c own) he hlt h
  have hfit:=ko c _ (AK hlt)
  refine wz fun b6=>?_
  generalize (Ei c)[k]=r at hat hsu hfit ⊢
  refine Ag 6 ?_
  have i1:Ax Tryz.prog r.f:=hfit.fn
  have i2: ∀ a:Atm,Bl Tryz.prog r.f (.agg (eAtm a)::r.cs) (.raw (.bool (NH c r.f a))):=fun a=>⟨hfit.out a⟩
  have er:Nh c own r=if r.id.n < 0∨(r.id.patch=Dig.zero∧(own.length:Int)≤r.id.n)∨100000≤r.id.n then 7 else if r.id.patch=Dig.zero∧NH c r.f (own.getD r.id.n.toNat Atm.zero)=false then 8 else 0:=rfl
  refine wf ?_
  refine Cz (σ:=Unit) (fun _=>True) (fun _=> [(1,.slice (own.map eAtm) t),(2,.pt (BC c) 0),(6,.pt (eRfc r) 0),(8,.slice ((Ei c).map eRfc) .ro),(9,.raw (.int .i64 (Ei c).length)),(10,.raw (.int .i64 k)),(14,.raw (.bool (decide (r.id.n < 0∨(r.id.patch=Dig.zero∧(own.length:Int)≤r.id.n)∨100000≤r.id.n))))]) (fun _=>LF) ?_ ?_
  ·refine A1 (fun h=>?_) (fun h=>?_)
   ·refine wf ?_
    exact⟨(),trivial,⟨rfl,rfl,rfl,rfl,rfl,rfl,BO (by rfl) (by simp[h])⟩,.refl _⟩
   ·refine wf ?_
    refine B0 [(14,.raw (.bool (decide (r.id.patch=Dig.zero∧(own.length:Int)≤r.id.n)))),(1,.slice (own.map eAtm) t),(2,.pt (BC c) 0),(6,.pt (eRfc r) 0),(8,.slice ((Ei c).map eRfc) .ro),(9,.raw (.int .i64 (Ei c).length)),(10,.raw (.int .i64 k))] (LF) ?_ ?_
    ·repeat' (first|(refine A1 (fun h=>?_) (fun h=>?_)<;>refine wf ?_)|(refine AL (fun h=>?_) (fun h=>?_)<;>refine wf ?_)|(refine AO (fun h=>?_) (fun h=>?_)<;>refine wf ?_)|(refine An (fun h=>?_) (fun h=>?_)<;>(have h2:=h;(try simp only[AB,A7,AG,AF]at h2);refine wf ?_)))
     all_goals (refine⟨⟨BO (by rfl) ?_,rfl,rfl,rfl,rfl,rfl,rfl⟩,.refl _⟩;first|(simp_all;done)|(clear hat hsu hfit er he;grind))
    refine wf ?_
    refine A1 (fun h2=>?_) (fun h2=>?_)
    ·refine wf ?_
     exact⟨(),trivial,⟨rfl,rfl,rfl,rfl,rfl,rfl,BO (by rfl) (by simp[h2])⟩,.refl _⟩
    ·refine wf ?_
     have e8:(100000≤r.id.n)↔(r.id.n < 0∨(r.id.patch=Dig.zero∧(own.length:Int)≤r.id.n)∨100000≤r.id.n):=⟨fun h=> .inr (.inr h),fun h3=>by
      rcases h3 with h3|h3|h3
      ·exact absurd h3 h
      ·exact absurd h3 h2
      ·exact h3⟩
     exact⟨(),trivial,⟨rfl,rfl,rfl,rfl,rfl,rfl,BO (by rfl) (by rw[decide_eq_decide];exact e8)⟩,.refl _⟩
  intro _ _
  refine A1 (fun h=>?_) (fun h=>?_)
  ·refine wf ?_
   refine Ah (.of_eq ?_)
   rw[if_pos h]at er
   rw[R9,hat (by rw[er];decide),er];rfl
  rw[if_neg h]at er
  refine wf ?_
  refine B0 [(34,.raw (.bool (decide (r.id.patch=Dig.zero∧NH c r.f (own.getD r.id.n.toNat Atm.zero)=false)))),(1,.slice (own.map eAtm) t),(2,.pt (BC c) 0),(8,.slice ((Ei c).map eRfc) .ro),(9,.raw (.int .i64 (Ei c).length)),(10,.raw (.int .i64 k))] LF ?_ ?_
  ·refine An (fun hp=>?_) (fun hp=>?_)
   ·have hp2:=Ab hp
    have g1:0≤r.id.n:=by
     rcases UK r.id.n 0 with h'|h'
     ·exact absurd (.inl h') h
     ·exact h'
    have g2:r.id.n < own.length:=by
     rcases UK r.id.n own.length with h'|h'
     ·exact h'
     ·exact absurd (.inr (.inl ⟨hp2,h'⟩)) h
    have g3:own.getD r.id.n.toNat Atm.zero=own[r.id.n.toNat]'(by omega):=by
     have:r.id.n.toNat < own.length:=by omega
     simp[List.getD,this]
    refine wf ?_
    exact⟨⟨BO (by rfl) (by rw[g3];simp[hp2]),rfl,rfl,rfl,rfl,rfl⟩,.refl _⟩
   ·have hp2:=BJ hp
    refine wf ?_
    exact⟨⟨BO (by rfl) (by simp[hp2]),rfl,rfl,rfl,rfl,rfl⟩,.refl _⟩
  refine wf ?_
  refine A1 (fun h2=>?_) (fun h2=>?_)
  ·refine wf ?_
   refine Ah (.of_eq ?_)
   rw[if_pos h2]at er
   rw[R9,hat (by rw[er];decide),er];rfl
  ·rw[if_neg h2]at er
   refine wf ?_
   exact⟨k+1,⟨by omega,hsu er⟩,by dsimp only;omega,⟨rfl,rfl,rfl,rfl,rfl⟩,.refl _⟩
 have e0:Aq (Nh c own) (Ei c)=0:=CG fun i h=>he i h (by omega)
 rw[R9,if_neg (by simp[e0])]
 clear e0 he hk hc
 refine wf ?_
 refine B0 [(51,.raw (.bool (decide (c.kind=2∧c.parent=c.file)))),(2,.pt (BC c) 0)] (LF) ?_ ?_
 ·repeat' (first|(refine A1 (fun h=>?_) (fun h=>?_)<;>refine wf ?_)|(refine AL (fun h=>?_) (fun h=>?_)<;>refine wf ?_)|(refine AO (fun h=>?_) (fun h=>?_)<;>refine wf ?_)|(refine An (fun h=>?_) (fun h=>?_)<;>(have h2:=h;(try simp only[AB,A7,AG,AF]at h2);refine wf ?_)))
  all_goals (refine⟨⟨BO (by rfl) ?_,rfl⟩,.refl _⟩;first|(simp_all;done)|grind)
 refine wf ?_
 refine A1 (fun h=>?_) (fun h=>?_)
 ·refine wf ?_
  refine Ah (.of_eq ?_)
  rw[if_pos h]
 rw[if_neg h]
 refine wf ?_
 refine B0 [(62,.raw (.bool (decide (c.kind=6∧c.after=c.before)))),(2,.pt (BC c) 0)] (LF) ?_ ?_
 ·repeat' (first|(refine A1 (fun h=>?_) (fun h=>?_)<;>refine wf ?_)|(refine AL (fun h=>?_) (fun h=>?_)<;>refine wf ?_)|(refine AO (fun h=>?_) (fun h=>?_)<;>refine wf ?_)|(refine An (fun h=>?_) (fun h=>?_)<;>(have h2:=h;(try simp only[AB,A7,AG,AF]at h2);refine wf ?_)))
  all_goals (refine⟨⟨BO (by rfl) ?_,rfl⟩,.refl _⟩;first|(simp_all;done)|grind)
 refine wf ?_
 refine Cz (σ:=Unit) (fun _=>True) (fun _=> [(62,.raw (.bool (decide ((c.kind=6∧c.after=c.before)∨(c.kind=5∧c.after=c.before∧c.after≠c.file)))))]) (fun _=>LF) ?_ ?_
 ·refine A1 (fun h=>?_) (fun h=>?_)
  ·refine wf ?_
   exact⟨(),trivial,BO (by rfl) (by simp[h]),.refl _⟩
  ·refine wf ?_
   repeat' (first|(refine A1 (fun h=>?_) (fun h=>?_)<;>refine wf ?_)|(refine AL (fun h=>?_) (fun h=>?_)<;>refine wf ?_)|(refine AO (fun h=>?_) (fun h=>?_)<;>refine wf ?_)|(refine An (fun h=>?_) (fun h=>?_)<;>(have h2:=h;(try simp only[AB,A7,AG,AF]at h2);refine wf ?_)))
   all_goals (refine⟨(),trivial,BO (by rfl) ?_,.refl _⟩;first|(simp_all;done)|grind)
 intro _ _
 refine A1 (fun h=>?_) (fun h=>?_)
 ·refine wf ?_
  refine Ah (.of_eq ?_)
  rw[if_pos h]
 ·refine wf ?_
  refine Ah (.of_eq ?_)
  rw[if_neg h]
instance bk (c:Chg) (own:List Atm) (t:CW) [hs:B3 (C0 c=0∧own.length≤100000∧NI own)]:Bl Tryz.prog 223 [.agg (BC c),.slice (own.map eAtm) t] (.raw (.int .i64 (FY c own))):=⟨by
 obtain⟨h1,h2,h3⟩:=hs.out
 rw[←jY h1 h2 h3]
 exact Xj c own t (SI h1) h2⟩
attribute [local irreducible] Mz
instance ud (first n:Int) [hs:B3 (0≤first∧first≤1000000000∧0≤n∧n≤100000)]:Bl Tryz.prog 266 [.raw (.int .i64 n),.pt [.raw (.int .i64 first)] 0] (.agg (eIdent ⟨Dig.zero,first+n⟩)):=⟨by
 obtain⟨h1,h2,h3,h4⟩:=hs.out
 refine Ak Tryz.func266 Tryz.ntmps266 rfl (rs:= [.cell 3 98]) rfl rfl fun hb LF=>?_
 refine aE fun b=>?_
 exact FW rfl (.refl _)⟩
theorem JH {c:Chg} {first:Int} {x:Atm} (e:EZ c first= [x]):([]++ [x]) <+:EZ c first:=by rw[e];exact⟨[],rfl⟩
theorem QA {k n:Nat} (h:k≤n):List.range k <+:List.range n:=by
 have:=List.take_prefix k (List.range n)
 rwa [List.take_range,DD h]at this
theorem Ym {a b:Res} {L LF:List Res}:(a::b::(L++LF)).Perm (L++(a::b::LF)):=((B8 (l₁:=L)).trans (.cons a B8)).symm
def qk (c:Chg) (first:Int):List PV:= [.pt [.raw (.int .i64 first)] 0,.pt (BC c) 0]
def xB (a:Atm):List PV:= [.agg (eAtm a)]
theorem Vj (c:Chg) (first:Int) (hk:1≤c.kind∧c.kind≤7) (hl:c.lines.length≤2000∧0≤first∧first≤1000000000):Zp Tryz.prog 265 (qk c first) xB (EZ c first):=by
 intro l J Jx hY L hJ
 obtain⟨hl,hf0,hf1⟩:=hl
 have hz:B3 (0≤first∧first≤1000000000∧(0:Int)≤0∧(0:Int)≤100000):=⟨by omega⟩
 refine Bw Tryz.func265 rfl Tryz.ntmps265 (rs:= []) rfl rfl fun hb LF=>?_
 refine wn ?_
 refine A1 (fun h1=>?_) (fun h1=>?_)
 ·have e:EZ c first= [{ Atm.zero with id:=⟨Dig.zero,first+0⟩,kind:=1,file:=⟨Dig.zero,first+0⟩,type:=c.type }]:=by rw[EZ,if_pos h1,Ov]
  refine BZ 8 ?_ ?_
  ·decide+kernel
  refine wf ?_
  refine Ht L LF rfl rfl rfl (.refl _) _ (hY [] _ L (JH e) hJ) fun b L' hR=>?_
  refine wf ?_
  refine⟨trivial,[],L',.nil,.refl _,?_⟩
  rcases hR with ⟨_,h⟩|⟨_,h⟩
  ·exact .inl (by rw[e];exact h)
  ·exact .inr ⟨_,h⟩
 refine wn ?_
 refine A1 (fun h2=>?_) (fun h2=>?_)
 ·have e:EZ c first= [{ Atm.zero with id:=⟨Dig.zero,first+0⟩,kind:=2,file:=c.file,parent:=c.parent,name:=c.name,over:=c.over }]:=by rw[EZ,if_neg h1,if_pos h2,Ov]
  refine BZ 12 ?_ ?_
  ·decide+kernel
  refine wf ?_
  refine Ht L LF rfl rfl rfl (.refl _) _ (hY [] _ L (JH e) hJ) fun b L' hR=>?_
  refine wf ?_
  refine⟨trivial,[],L',.nil,.refl _,?_⟩
  rcases hR with ⟨_,h⟩|⟨_,h⟩
  ·exact .inl (by rw[e];exact h)
  ·exact .inr ⟨_,h⟩
 refine wn ?_
 refine A1 (fun h3=>?_) (fun h3=>?_)
 ·have e:EZ c first= [{ Atm.zero with id:=⟨Dig.zero,first+0⟩,kind:=3,file:=c.file,mode:=c.mode,over:=c.over }]:=by rw[EZ,if_neg h1,if_neg h2,if_pos h3,Ov]
  refine BZ 10 ?_ ?_
  ·decide+kernel
  refine wf ?_
  refine Ht L LF rfl rfl rfl (.refl _) _ (hY [] _ L (JH e) hJ) fun b L' hR=>?_
  refine wf ?_
  refine⟨trivial,[],L',.nil,.refl _,?_⟩
  rcases hR with ⟨_,h⟩|⟨_,h⟩
  ·exact .inl (by rw[e];exact h)
  ·exact .inr ⟨_,h⟩
 refine wn ?_
 refine A1 (fun h4=>?_) (fun h4=>?_)
 ·have e:EZ c first= [{ Atm.zero with id:=⟨Dig.zero,first+0⟩,kind:=4,file:=c.file,data:=c.data,over:=c.over }]:=by rw[EZ,if_neg h1,if_neg h2,if_neg h3,if_pos h4,Ov]
  refine BZ 10 ?_ ?_
  ·decide+kernel
  refine wf ?_
  refine Ht L LF rfl rfl rfl (.refl _) _ (hY [] _ L (JH e) hJ) fun b L' hR=>?_
  refine wf ?_
  refine⟨trivial,[],L',.nil,.refl _,?_⟩
  rcases hR with ⟨_,h⟩|⟨_,h⟩
  ·exact .inl (by rw[e];exact h)
  ·exact .inr ⟨_,h⟩
 refine wn ?_
 refine A1 (fun h6=>?_) (fun h6=>?_)
 ·have e:EZ c first= [{ Atm.zero with id:=⟨Dig.zero,first+0⟩,kind:=6,file:=c.file,src:=c.after,dst:=c.before,over:=c.over }]:=by rw[EZ,if_neg h1,if_neg h2,if_neg h3,if_neg h4,if_pos h6,Ov]
  refine BZ 12 ?_ ?_
  ·decide+kernel
  refine wf ?_
  refine Ht L LF rfl rfl rfl (.refl _) _ (hY [] _ L (JH e) hJ) fun b L' hR=>?_
  refine wf ?_
  refine⟨trivial,[],L',.nil,.refl _,?_⟩
  rcases hR with ⟨_,h⟩|⟨_,h⟩
  ·exact .inl (by rw[e];exact h)
  ·exact .inr ⟨_,h⟩
 refine wn ?_
 refine A1 (fun h7=>?_) (fun h7=>?_)
 ·have e:EZ c first= [{ Atm.zero with id:=⟨Dig.zero,first+0⟩,kind:=7,over:=c.over }]:=by rw[EZ,if_neg h1,if_neg h2,if_neg h3,if_neg h4,if_neg h6,if_pos h7,Ov]
  refine BZ 6 ?_ ?_
  ·decide+kernel
  refine wf ?_
  refine Ht L LF rfl rfl rfl (.refl _) _ (hY [] _ L (JH e) hJ) fun b L' hR=>?_
  refine wf ?_
  refine⟨trivial,[],L',.nil,.refl _,?_⟩
  rcases hR with ⟨_,h⟩|⟨_,h⟩
  ·exact .inl (by rw[e];exact h)
  ·exact .inr ⟨_,h⟩
 refine wn ?_
 refine A1 (fun h5=>?_) (fun h5=>?_)
 ·have e:EZ c first=(List.range c.lines.length).map (Fa c first)++(List.range (c.lines.length+1)).map (Ep c first):=by rw[EZ,if_neg h1,if_neg h2,if_neg h3,if_neg h4,if_neg h6,if_neg h7]
  have hc209: ∀ n:Nat,n≤4001→B3 (0≤first∧first≤1000000000∧(0:Int)≤n∧(n:Int)≤100000):=fun n hn=>⟨by omega⟩
  refine wf ?_
  refine AW (σ:=Nat × List Res) (fun k=>k.1≤c.lines.length∧J ((List.range k.1).map (Fa c first)) k.2) (fun k=>c.lines.length - k.1) (fun k=> [(0,.raw (.func (.yield l) #[] #[])),(1,.pt [.raw (.int .i64 first)] 0),(2,.pt (BC c) 0),(4,.clo 266 [.pt [.raw (.int .i64 first)] 0]),(93,.slice (c.lines.map eS) .ro),(94,.raw (.int .i64 c.lines.length)),(95,.raw (.int .i64 k.1))]) (fun k=>k.2++LF) (0,L) ⟨by simp,hJ⟩ ⟨rfl,rfl,rfl,rfl,rfl,rfl,rfl⟩ (.refl _) ?_
  rintro⟨k,L1⟩ ⟨hk,hJ1⟩
  dsimp only at hk hJ1 ⊢
  refine wn ?_
  refine A1 (fun hc=>?_) (fun hc=>?_)
  ·have hlt:k < c.lines.length:=by omega
   have hsk:=hc209 k (by omega)
   refine wn ?_
   refine BZ 8 ?_ ?_
   ·decide+kernel
   refine wf ?_
   have hx:Fa c first k= { Atm.zero with id:=⟨Dig.zero,first+k⟩,kind:=5,file:=c.file,text:=c.lines[k] }:=by simp[Fa,List.getD,hlt]
   have hr:(List.range (k+1)).map (Fa c first)=(List.range k).map (Fa c first)++ [Fa c first k]:=by rw[Ib,Az];rfl
   refine Ht L1 LF rfl rfl rfl (.refl _) _ (hY ((List.range k).map (Fa c first)) { Atm.zero with id:=⟨Dig.zero,first+k⟩,kind:=5,file:=c.file,text:=c.lines[k] } L1 ?_ hJ1) fun b L' hR=>?_
   ·rw[←hx,←hr,e]
    exact((QA (by omega)).map _).trans (List.prefix_append _ _)
   rw[←hx,←hr]at hR
   refine wf ?_
   rcases hR with ⟨rfl,h⟩|⟨rfl,h⟩
   ·refine AO (t:=false) (fun h'=>by cases h') (fun _=>?_)
    refine wf ?_
    exact⟨(k+1,L'),⟨by dsimp only;omega,h⟩,by dsimp only;omega,⟨rfl,rfl,rfl,rfl,rfl,rfl,rfl⟩,.refl _⟩
   ·refine AO (t:=true) (fun _=>?_) (fun h'=>by cases h')
    refine wf ?_
    exact⟨trivial,[],L',.nil,.refl _,.inr ⟨_,h⟩⟩
  have hkk:k=c.lines.length:=by omega
  subst hkk
  generalize hA:(List.range c.lines.length).map (Fa c first)=A at e hJ1
  refine aE fun b8=>?_
  refine AW (σ:=Nat × Ident × List Res) (fun k=>k.1≤c.lines.length+1∧(k.1≤c.lines.length→k.2.1=(if 0 < (k.1:Int)then⟨Dig.zero,first+k.1 - 1⟩else c.after))∧J (A++(List.range k.1).map (Ep c first)) k.2.2) (fun k=>c.lines.length+1 - k.1) (fun k=> [(0,.raw (.func (.yield l) #[] #[])),(1,.pt [.raw (.int .i64 first)] 0),(2,.pt (BC c) 0),(4,.clo 266 [.pt [.raw (.int .i64 first)] 0]),(7,.raw (.int .i64 c.lines.length)),(8,.raw (.pointer (some ⟨b8,0,none⟩))),(117,.raw (.int .i64 (c.lines.length+1))),(118,.raw (.int .i64 k.1))]) (fun k=> .box b8 98 (eIdent k.2.1)::(k.2.2++LF)) (0,c.after,L1) ⟨by simp,fun _=>rfl,by simpa using hJ1⟩ ⟨rfl,rfl,rfl,rfl,rfl,rfl,rfl,rfl⟩ (.refl _) ?_
  rintro⟨k,fr,L1⟩ ⟨hk,hfr,hJ1⟩
  dsimp only at hk hfr hJ1 ⊢
  refine wf ?_
  refine A1 (fun hc=>?_) (fun hc=>?_)
  ·have hfr:=hfr (by omega)
   have hsk:=hc209 k (by omega)
   have hsk2:B3 (0≤first∧first≤1000000000∧(0:Int)≤c.lines.length+k∧(c.lines.length+k:Int)≤100000):=⟨by omega⟩
   refine aE fun b10=>?_
   refine Cz (σ:=Ident) (fun s=>s=if(k:Int) < c.lines.length then⟨Dig.zero,first+k⟩else c.before) (fun s=> [(0,.raw (.func (.yield l) #[] #[])),(1,.pt [.raw (.int .i64 first)] 0),(2,.pt (BC c) 0),(4,.clo 266 [.pt [.raw (.int .i64 first)] 0]),(7,.raw (.int .i64 c.lines.length)),(8,.raw (.pointer (some ⟨b8,0,none⟩))),(9,.raw (.int .i64 k)),(10,.raw (.pointer (some ⟨b10,0,none⟩))),(117,.raw (.int .i64 (c.lines.length+1))),(118,.raw (.int .i64 k))]) (fun s=> .box b10 98 (eIdent s):: .box b8 98 (eIdent fr)::(L1++LF)) ?_ ?_
   ·refine A1 (fun h=>?_) (fun h=>?_)
    ·refine wf ?_
     exact⟨⟨Dig.zero,first+k⟩,by rw[if_pos h],⟨rfl,rfl,rfl,rfl,rfl,rfl,rfl,rfl,rfl,rfl⟩,.refl _⟩
    ·refine wf ?_
     exact⟨c.before,by rw[if_neg h],⟨rfl,rfl,rfl,rfl,rfl,rfl,rfl,rfl,rfl,rfl⟩,.refl _⟩
   rintro to hto
   refine wn ?_
   refine BZ 11 ?_ ?_
   ·decide+kernel
   refine wf ?_
   have hx:Ep c first k= { Atm.zero with id:=⟨Dig.zero,first+(c.lines.length+k)⟩,kind:=6,file:=c.file,src:=fr,dst:=to }:=by rw[Ep,hfr,hto,Int.add_assoc]
   have hr:A++(List.range (k+1)).map (Ep c first)=(A++(List.range k).map (Ep c first))++ [Ep c first k]:=by rw[Ib,Az,AJ];rfl
   refine Ht L1 (.box b10 98 (eIdent to):: .box b8 98 (eIdent fr)::LF) rfl rfl rfl Ym _ (hY (A++(List.range k).map (Ep c first)) { Atm.zero with id:=⟨Dig.zero,first+(c.lines.length+k)⟩,kind:=6,file:=c.file,src:=fr,dst:=to } L1 ?_ hJ1) fun b L' hR=>?_
   ·rw[←hx,←hr,e]
    exact(List.prefix_append_right_inj _).2 ((QA (by omega)).map _)
   rw[←hx,←hr]at hR
   refine wf ?_
   rcases hR with ⟨rfl,h⟩|⟨rfl,h⟩
   ·refine AO (t:=false) (fun h'=>by cases h') (fun _=>?_)
    refine GI Ym.symm ?_
    refine wf ?_
    refine⟨(k+1,to,L'),⟨by dsimp only;omega,?_,h⟩,by dsimp only;omega,⟨rfl,rfl,rfl,rfl,rfl,rfl,rfl,rfl⟩,.cons _ (.refl _)⟩
    intro h'
    dsimp only at h' ⊢
    rw[hto,if_pos (by omega),if_pos (by omega)]
    congr 1
    push_cast;omega
   ·refine AO (t:=true) (fun _=>?_) (fun h'=>by cases h')
    refine wf ?_
    exact⟨trivial,[],L',.nil,(Dd _).append (.cons _ (.cons _ (.refl _))),.inr ⟨_,h⟩⟩
  refine wf ?_
  have hkk:k=c.lines.length+1:=by omega
  subst hkk
  exact⟨trivial,[],L1,.nil,.cons _ (.refl _),.inl (by rw[e];exact hJ1)⟩
 ·exact absurd h5 (by omega)
instance y2 (c:Chg) (first:Int):Bl Tryz.prog 224 [.agg (BC c),.raw (.int .i64 first)] (.clo 265 (qk c first)):=⟨by
 refine Ak Tryz.func224 Tryz.ntmps224 rfl (rs:= [.tmp 4]) rfl rfl fun hb LF=>?_
 refine wf ?_
 refine Ah (.of_eq ?_)
 rfl⟩
end Go.Proofs
namespace Go.Proofs
open Go.Shelf
def Tryz.laysItoa_ren:Go.Shelf.Ren:=⟨fun|171=>326|243=>343|246=>349|283=>352|284=>353|285=>354|286=>355|129=>243|317=>356|318=>357|319=>358|320=>359|337=>360|338=>361|n=>n,fun|3=>3|9=>9|2=>2|4=>4|171=>337|0=>0|53=>235|37=>159|5=>5|173=>339|212=>342|51=>206|20=>20|213=>343|46=>224|232=>44|233=>344|n=>n,fun|17=>1|18=>2|19=>3|n=>n⟩
theorem Tryz.laysItoa:Go.Proofs.LaysM.n171 Tryz.prog Tryz.laysItoa_ren:={
 mixed:=by kernel_rfl
 f129:=Tryz.func243.trans (congrArg some (by kernel_rfl))
 f171:=Tryz.func326.trans (congrArg some (by kernel_rfl))
 f243:=Tryz.func343.trans (congrArg some (by kernel_rfl))
 f246:=Tryz.func349.trans (congrArg some (by kernel_rfl))
 f283:=Tryz.func352.trans (congrArg some (by kernel_rfl))
 f284:=Tryz.func353.trans (congrArg some (by kernel_rfl))
 f285:=Tryz.func354.trans (congrArg some (by kernel_rfl))
 f286:=Tryz.func355.trans (congrArg some (by kernel_rfl))
 f317:=Tryz.func356.trans (congrArg some (by kernel_rfl))
 f318:=Tryz.func357.trans (congrArg some (by kernel_rfl))
 f319:=Tryz.func358.trans (congrArg some (by kernel_rfl))
 f320:=Tryz.func359.trans (congrArg some (by kernel_rfl))
 f337:=Tryz.func360.trans (congrArg some (by kernel_rfl))
 f338:=Tryz.func361.trans (congrArg some (by kernel_rfl))
 t0:=Tryz.underlying0
 a0:=Tryz.isAgg0
 z0:=Tryz.sizeOf0
 v0:=Tryz.zeroValue0
 t2:=Tryz.underlying2
 a2:=Tryz.isAgg2
 z2:=Tryz.sizeOf2
 v2:=Tryz.zeroValue2
 t3:=Tryz.underlying3
 a3:=Tryz.isAgg3
 z3:=Tryz.sizeOf3
 v3:=Tryz.zeroValue3
 t4:=Tryz.underlying4
 a4:=Tryz.isAgg4
 z4:=Tryz.sizeOf4
 v4:=Tryz.zeroValue4
 t5:=Tryz.underlying5
 a5:=Tryz.isAgg5
 z5:=Tryz.sizeOf5
 v5:=Tryz.zeroValue5
 t9:=Tryz.underlying9
 a9:=Tryz.isAgg9
 z9:=Tryz.sizeOf9
 v9:=Tryz.zeroValue9
 t20:=Tryz.underlying20
 a20:=Tryz.isAgg20
 z20:=Tryz.sizeOf20
 v20:=Tryz.zeroValue20
 t37:=Tryz.underlying159
 a37:=Tryz.isAgg159
 z37:=Tryz.sizeOf159
 v37:=Tryz.zeroValue159
 t46:=Tryz.underlying224
 a46:=Tryz.isAgg224
 z46:=Tryz.sizeOf224
 v46:=Tryz.zeroValue224
 t51:=Tryz.underlying206
 a51:=Tryz.isAgg206
 z51:=Tryz.sizeOf206
 v51:=Tryz.zeroValue206
 t53:=Tryz.underlying235
 a53:=Tryz.isAgg235
 z53:=Tryz.sizeOf235
 v53:=Tryz.zeroValue235
 t171:=Tryz.underlying337
 a171:=Tryz.isAgg337
 z171:=Tryz.sizeOf337
 v171:=Tryz.zeroValue337
 t173:=Tryz.underlying339
 a173:=Tryz.isAgg339
 z173:=Tryz.sizeOf339
 v173:=Tryz.zeroValue339
 t212:=Tryz.underlying342
 a212:=Tryz.isAgg342
 z212:=Tryz.sizeOf342
 v212:=Tryz.zeroValue342
 t213:=Tryz.underlying343
 a213:=Tryz.isAgg343
 z213:=Tryz.sizeOf343
 t232:=Tryz.underlying44
 a232:=Tryz.isAgg44
 z232:=Tryz.sizeOf44
 v232:=Tryz.zeroValue44
 t233:=Tryz.underlying344
 a233:=Tryz.isAgg344
 z233:=Tryz.sizeOf344
 v233:=Tryz.zeroValue344
 g17:=by kernel_rfl
 g18:=by kernel_rfl
 g19:=by kernel_rfl
 i0:=by kernel_rfl
 i2:=by kernel_rfl
 i3:=by kernel_rfl
 i4:=by kernel_rfl
 i5:=by kernel_rfl
 i9:=by kernel_rfl
 i20:=by kernel_rfl
 i37:=by kernel_rfl
 i46:=by kernel_rfl
 i51:=by kernel_rfl
 i53:=by kernel_rfl
 i171:=by kernel_rfl
 i173:=by kernel_rfl
 i212:=by kernel_rfl
 i232:=by kernel_rfl
 i233:=by kernel_rfl
 m17:=by kernel_rfl
 m18:=by kernel_rfl
 m19:=by kernel_rfl }
def Tryz.sortD_ren:Go.Shelf.Ren:=⟨fun|6=>165|15=>208|14=>207|28=>242|29=>243|20=>234|21=>235|22=>236|23=>237|24=>238|25=>239|26=>240|27=>241|46=>277|47=>278|48=>279|49=>280|50=>281|57=>312|n=>n,fun|22=>39|24=>45|25=>114|3=>3|39=>224|0=>0|53=>206|55=>235|4=>4|46=>243|45=>242|50=>148|5=>5|9=>9|66=>277|70=>281|76=>304|77=>305|n=>n,fun|n=>n⟩
theorem Tryz.sortD:Go.Proofs.SlLaysF0.n6 Tryz.prog Tryz.sortD_ren:={
 mixed:=by kernel_rfl
 f6:=⟨Tryz.f165.name,by decide,Tryz.func165.trans (congrArg some (by kernel_rfl))⟩
 f14:=⟨Tryz.f207.name,by decide,Tryz.func207.trans (congrArg some (by kernel_rfl))⟩
 f15:=Tryz.func208.trans (congrArg some (by kernel_rfl))
 f20:=⟨Tryz.f234.name,by decide,Tryz.func234.trans (congrArg some (by kernel_rfl))⟩
 f21:=⟨Tryz.f235.name,by decide,Tryz.func235.trans (congrArg some (by kernel_rfl))⟩
 f22:=⟨Tryz.f236.name,by decide,Tryz.func236.trans (congrArg some (by kernel_rfl))⟩
 f23:=⟨Tryz.f237.name,by decide,Tryz.func237.trans (congrArg some (by kernel_rfl))⟩
 f24:=⟨Tryz.f238.name,by decide,Tryz.func238.trans (congrArg some (by kernel_rfl))⟩
 f25:=⟨Tryz.f239.name,by decide,Tryz.func239.trans (congrArg some (by kernel_rfl))⟩
 f26:=⟨Tryz.f240.name,by decide,Tryz.func240.trans (congrArg some (by kernel_rfl))⟩
 f27:=⟨Tryz.f241.name,by decide,Tryz.func241.trans (congrArg some (by kernel_rfl))⟩
 f28:=Tryz.func242.trans (congrArg some (by kernel_rfl))
 f29:=Tryz.func243.trans (congrArg some (by kernel_rfl))
 f46:=⟨Tryz.f277.name,by decide,Tryz.func277.trans (congrArg some (by kernel_rfl))⟩
 f47:=Tryz.func278.trans (congrArg some (by kernel_rfl))
 f48:=Tryz.func279.trans (congrArg some (by kernel_rfl))
 f49:=⟨Tryz.f280.name,by decide,Tryz.func280.trans (congrArg some (by kernel_rfl))⟩
 f50:=⟨Tryz.f281.name,by decide,Tryz.func281.trans (congrArg some (by kernel_rfl))⟩
 f57:=⟨Tryz.f312.name,by decide,Tryz.func312.trans (congrArg some (by kernel_rfl))⟩
 t0:=Tryz.underlying0
 a0:=Tryz.isAgg0
 z0:=Tryz.sizeOf0
 v0:=Tryz.zeroValue0
 t3:=Tryz.underlying3
 a3:=Tryz.isAgg3
 z3:=Tryz.sizeOf3
 v3:=Tryz.zeroValue3
 t4:=Tryz.underlying4
 a4:=Tryz.isAgg4
 z4:=Tryz.sizeOf4
 v4:=Tryz.zeroValue4
 t5:=Tryz.underlying5
 a5:=Tryz.isAgg5
 z5:=Tryz.sizeOf5
 v5:=Tryz.zeroValue5
 t9:=Tryz.underlying9
 a9:=Tryz.isAgg9
 z9:=Tryz.sizeOf9
 v9:=Tryz.zeroValue9
 t22:=Tryz.underlying39
 a22:=Tryz.isAgg39
 z22:=Tryz.sizeOf39
 v22:=Tryz.zeroValue39
 t25:=Tryz.underlying114
 a25:=Tryz.isAgg114
 z25:=Tryz.sizeOf114
 v25:=Tryz.zeroValue114
 t39:=Tryz.underlying224
 a39:=Tryz.isAgg224
 z39:=Tryz.sizeOf224
 v39:=Tryz.zeroValue224
 t45:=Tryz.underlying242
 a45:=Tryz.isAgg242
 z45:=Tryz.sizeOf242
 v45:=Tryz.zeroValue242
 t46:=Tryz.underlying243
 a46:=Tryz.isAgg243
 z46:=Tryz.sizeOf243
 v46:=Tryz.zeroValue243
 t50:=Tryz.underlying148
 a50:=Tryz.isAgg148
 z50:=Tryz.sizeOf148
 v50:=Tryz.zeroValue148
 t53:=Tryz.underlying206
 a53:=Tryz.isAgg206
 z53:=Tryz.sizeOf206
 v53:=Tryz.zeroValue206
 t55:=Tryz.underlying235
 a55:=Tryz.isAgg235
 z55:=Tryz.sizeOf235
 v55:=Tryz.zeroValue235
 t66:=Tryz.underlying277
 a66:=Tryz.isAgg277
 z66:=Tryz.sizeOf277
 v66:=Tryz.zeroValue277
 t70:=Tryz.underlying281
 a70:=Tryz.isAgg281
 z70:=Tryz.sizeOf281
 v70:=Tryz.zeroValue281
 t76:=Tryz.underlying304
 a76:=Tryz.isAgg304
 z76:=Tryz.sizeOf304
 v76:=Tryz.zeroValue304
 t77:=Tryz.underlying305
 a77:=Tryz.isAgg305
 z77:=Tryz.sizeOf305
 v77:=Tryz.zeroValue305 }
end Go.Proofs
namespace Go.Proofs
open Go Go.Q Go.Shelf
attribute [local irreducible] EG AY B2 FZ
theorem Qe (n:Nat):Lib.decDigits n=Ho n:=by
 induction n using Nat.strongRecOn with
 |_ n ih=>
  unfold Lib.decDigits
  by_cases h:n < 10
  ·rw[dif_pos h,IC h]
  ·rw[dif_neg h,Lu h,ih (n / 10) (by omega)]
theorem oa (n:Int):Lib.itoa n=JA n:=by
 unfold Lib.itoa JA
 by_cases h:n < 0
 ·rw[if_pos h,if_pos h,Qe,show n.natAbs=(-n).toNat by omega]
 ·rw[if_neg h,if_neg h,Qe]
theorem rq {w:World} {g:Gh} {L:List Res} (hi:DJ w g L):Lib.TabIs Tryz.prog w "internal/strconv.uint64pow10" .u64 Lib.pow10Tab:=by
 obtain⟨T,p,h⟩:=hi.satM _ _ hi.glob.tab
 unfold Lib.TabIs World.var?
 rw[show Tryz.prog.globalNamed "internal/strconv.uint64pow10" =some globAt by kernel_rfl]
 simp only[Hc,h]
 rfl
instance yN (n:Int) [hs:B3 (-140737488355328≤n∧n≤140737488355328)]:Bl Tryz.prog 326 [.raw (.int .i64 n)] (.str (JA n)):=⟨tK fun vs w g LF hv hi=>by
 obtain⟨h0,h1⟩:=hs.out
 obtain⟨v,rfl⟩: ∃ v,vs= [v]:=by
  have:=hv.len
  match vs,this with
  | [v],_=>exact⟨v,rfl⟩
 rw[hv.uncons.1.raw_inv]
 refine(Any.strconv_Itoa Tryz.laysItoa n (by omega) (by omega) w (rq hi)).mono ?_
 rintro e w' ⟨rfl,k,os,rfl⟩
 refine⟨_,rfl,fun g=>by rw[oa];exact .str (by have:=OM (n:=n) ⟨h0,h1⟩;show _≤2 ^ 47;omega),rfl,rfl,rfl,mE _ _,?_,fun j hj=>?_⟩
 ·show w.heap.size≤(w.heap++os).size
  simp
 ·show(w.heap++os)[j]? =_
  rw[FF hj]⟩
def O2 (b:Nat) (p v:Value):Res:= .box b 300 [.raw p,.raw v]
def self (b:Nat):Value:= .pointer (some ⟨b,0,none⟩)
instance :ts Tryz.prog 298 300 2:= .of (by kernel_rfl) (by kernel_rfl)
instance (v:Value):Zr Tryz.prog 350 [.raw v] (.raw v):=fu Tryz.func350 (by kernel_rfl) (by kernel_rfl) (by kernel_rfl) (by kernel_rfl) v
theorem Qf (b:Nat) (p v:Value) (hp:p= .pointer none∨p=self b):B2 Tryz.prog 344 [.raw (self b)] [O2 b p v] (fun _ L'=>L'= [O2 b (self b) v]):=by
 refine Bw Tryz.func344 rfl Tryz.ntmps344 (rs:= []) rfl rfl fun hb LF=>?_
 rw[show [O2 b p v]++LF= .box b 300 [.raw p,.raw v]::LF from rfl]
 obtain⟨q,rfl,hq⟩: ∃ q,p= .pointer q∧(q=none∨q=some ⟨b,0,none⟩):=by
  rcases hp with rfl|rfl
  ·exact⟨none,rfl,.inl rfl⟩
  ·exact⟨_,rfl,.inr rfl⟩
 refine wf ?_
 refine sC rfl rfl ?_
 refine wf ?_
 rcases hq with rfl|rfl
 ·refine AO (t:=true) (fun _=>?_) (fun h=>by cases h)
  refine wf ?_
  refine aN (by kernel_rfl) (by decide) rfl AI (by simp) ?_
  refine qW (xs:= [.tmp 9]) (args:= [.raw (self b)]) rfl (fun i h1 h2=>by
   match i,h1,h2 with
   |0,_,_=>exact .refl _
   |m+1,h1,_=>exact absurd h1 (by simp)) rfl ?_
  refine Wg (by kernel_rfl) rfl AI (by kernel_rfl) ?_
  refine wf ?_
  refine KY [.raw (self b),.raw v] rfl rfl rfl rfl (by simp) ?_
  refine wf ?_
  exact⟨trivial,[],[O2 b (self b) v],.nil,.refl _,rfl⟩
 ·refine AO (t:=false) (fun h=>by cases h) (fun _=>?_)
  refine wf ?_
  refine s8 rfl rfl ?_
  refine wf ?_
  exact⟨trivial,[],[O2 b (self b) v],.nil,.refl _,rfl⟩
instance :gJ Tryz.prog 159 5:= .of (by kernel_rfl) (by kernel_rfl) (by kernel_rfl)
def rh (b:Nat) (l:List UInt8) (L:List Res):Prop:= ∃ p v R,(p= .pointer none∨p=self b)∧LN 5 v l R∧L=O2 b p v::R
theorem NT (b:Nat) (l s:List UInt8) (L:List Res) (hL:rh b l L) (hl:l.length+s.length≤140737488355328):B2 Tryz.prog 329 [.raw (self b),.str s] L (fun _ L'=>rh b (l++s) L'):=by
 obtain⟨p,v,R,hp,hv,rfl⟩:=hL
 refine Bw Tryz.func329 rfl Tryz.ntmps329 (rs:= [.tmp 4,.tmp 5]) rfl rfl fun hb LF=>?_
 rw[show(O2 b p v::R)++LF= [O2 b p v]++(R++LF) from rfl]
 refine ws ?_
 refine Bo (xs:= [.tmp 6]) [O2 b p v] (R++LF) (f:=344) (cs:= []) (Bx _) rfl rfl (.refl _) _ (Qf b p v hp) fun r L' e=>?_
 subst e
 refine wf ?_
 refine jQ (R:=R) (LF:= .box b 300 [.raw (self b),.raw v]::LF) (fun R'=> .box b 300 [.raw (self b),.raw v]::(R'++LF)) (ay:= .str s) rfl rfl hv (B8 (l₁:=R)).symm (fun R'=>B8) hl fun v' R' hv'=>?_
 refine wf ?_
 refine KY [.raw (self b),.raw v'] rfl rfl hv'.one rfl (by simp) ?_
 refine wf ?_
 refine wf ?_
 exact⟨trivial,_,O2 b (self b) v'::R',.cons (.tmp 4) (.cons (.tmp 5) .nil),.refl _,_,v',R',.inr rfl,hv',rfl⟩
theorem MI (b:Nat) (l:List UInt8) (c:UInt8) (L:List Res) (hL:rh b l L) (hl:l.length+1≤140737488355328):B2 Tryz.prog 330 [.raw (self b),.raw (.int .u8 c.toNat)] L (fun _ L'=>rh b (l++ [c]) L'):=by
 obtain⟨p,v,R,hp,hv,rfl⟩:=hL
 refine Bw Tryz.func330 rfl Tryz.ntmps330 (rs:= [.tmp 4]) rfl rfl fun hb LF=>?_
 rw[show(O2 b p v::R)++LF= [O2 b p v]++(R++LF) from rfl]
 refine ws ?_
 refine Bo (xs:= [.tmp 5]) [O2 b p v] (R++LF) (f:=344) (cs:= []) (Bx _) rfl rfl (.refl _) _ (Qf b p v hp) fun r L' e=>?_
 subst e
 refine wf ?_
 refine eo (R:=R) (LF:= .box b 300 [.raw (self b),.raw v]::LF) (fun R'=> .box b 300 [.raw (self b),.raw v]::(R'++LF)) (t:= .ro) rfl rfl hv (B8 (l₁:=R)).symm (fun R'=>B8) hl fun v' R' hv'=>?_
 refine wf ?_
 refine KY [.raw (self b),.raw v'] rfl rfl hv'.one rfl (by simp) ?_
 refine wf ?_
 refine wf ?_
 exact⟨trivial,_,O2 b (self b) v'::R',.cons (.tmp 4) .nil,.refl _,_,v',R',.inr rfl,hv',rfl⟩
theorem eK (b:Nat) (l:List UInt8) (L:List Res) (hL:rh b l L) (h0:l≠ []) (hl:l.length≤140737488355328):B2 Tryz.prog 310 [.raw (self b)] L (fun r L'=>r= .str l∧L'= []):=by
 obtain⟨p,v,R,hp,hv,rfl⟩:=hL
 cases hv with
 |nil=>exact absurd rfl h0
 |row h1 h2 h3=>
  rename_i r cap cur
  refine Bw Tryz.func310 rfl Tryz.ntmps310 (rs:= [.tmp 2]) rfl rfl fun hb LF=>?_
  have hcap:cap≠0:=by have:=Zu.2 h0;omega
  rw[show(O2 b p (.slice (some ⟨r,0,none⟩) l.length cap):: [.raw r (.cells cur 5 (0,0))])++LF= .box b 300 [.raw p,.raw (.slice (some ⟨r,0,none⟩) l.length cap)]:: .raw r (.cells cur 5 (0,0))::LF from rfl]
  refine wn ?_
  refine BZ 10 ?_ ?_
  ·decide+kernel
  refine wf ?_
  refine Y8 rfl hcap ?_
  refine wf ?_
  refine FS rfl ?_
  refine wf ?_
  refine Si (E:=5) (by kernel_rfl) (by kernel_rfl) rfl rfl (.swap _ _ _) h0 (by omega) h3 hl ?_
  refine wf ?_
  exact⟨trivial,_,[],.cons (.tmp 2) .nil,.cons _ (.refl _),rfl,rfl⟩
end Go.Proofs
namespace Go.Proofs
open Go Go.Q
attribute [local irreducible] EG AY B2 FZ
theorem df: ∀ (d:Nat) (x:Sx),Oh d x→ ∀ (b:Nat) (l:List UInt8) (L:List Res),rh b l L→l.length+(Da d x).length≤1000000000→B2 Tryz.prog 309 [.raw (self b),.agg (eSx x)] L (fun _ L'=>rh b (l++Da d x) L')
 |0,x,hw,_,_,_,_,_=>hw.elim
 |d+1,x,hw,b,l,L,hL,hl=>by
  have ih:=df d
  refine Bw Tryz.func309 rfl Tryz.ntmps309 (rs:= []) rfl rfl fun hb LF=>?_
  have hlen:x.list.length≤140737488355328:=by
   have:=(hb (.agg (eSx x)) (by simp)).agg_at (c:= .slice (x.list.map eSx) .ro) (by rw[Fb];simp)
   exact this.slice_map
  refine wf ?_
  refine AO (fun h2=>?_) (fun h2=>?_)
  ·have hB:x.isList=false:=by simpa using h2
   rcases hw with ⟨_,h3,h4⟩|⟨h3,_⟩
   ·have:B3 (-140737488355328≤(x.atom.length:Int)∧(x.atom.length:Int)≤140737488355328):=⟨by omega,by omega⟩
    have e:JA (x.atom.length:Int)=Ho x.atom.length:=by
     rw[JA,if_neg (by omega)];rfl
    have he:Da (d+1) x=Ho x.atom.length++58::x.atom:=by simp[Da,hB]
    rw[he]at hl ⊢
    simp only[A8,AH]at hl
    refine wf ?_
    refine Bo (xs:= [.tmp 9,.tmp 13]) L LF (f:=329) (cs:= []) (Bx _) rfl rfl (.refl _) _ (NT b l (JA (x.atom.length:Int)) L hL (by rw[e];omega)) fun r L1 hL1=>?_
    rw[e]at hL1
    refine wf ?_
    refine wf ?_
    refine Bo (xs:= [.tmp 15,.const (.int .u8 58)]) L1 LF (f:=330) (cs:= []) (Bx _) rfl rfl (.refl _) _ (MI b (l++Ho x.atom.length) 58 L1 hL1 (by simp only[A8];omega)) fun r L2 hL2=>?_
    refine wf ?_
    refine wf ?_
    refine Bo (xs:= [.tmp 17,.tmp 19]) L2 LF (f:=329) (cs:= []) (Bx _) rfl rfl (.refl _) _ (NT b (l++Ho x.atom.length++ [58]) x.atom L2 hL2 (by simp only[A8,AH,Aa];omega)) fun r L3 hL3=>?_
    refine wf ?_
    refine wf ?_
    exact⟨trivial,_,L3,.nil,.refl _,by simpa using hL3⟩
   ·rw[hB]at h3;cases h3
  have hB:x.isList=true:=by simpa using h2
  rcases hw with ⟨h3,_⟩|⟨_,ha,hw⟩
  ·rw[hB]at h3;cases h3
  have he:Da (d+1) x=40::(x.list.flatMap (Da d)++ [41]):=by simp[Da,hB]
  rw[he]at hl ⊢
  simp only[AH,A8,Aa]at hl
  refine wf ?_
  refine Bo (xs:= [.tmp 21,.const (.int .u8 40)]) L LF (f:=330) (cs:= []) (Bx _) rfl rfl (.refl _) _ (MI b l 40 L hL (by omega)) fun r L1 hL1=>?_
  refine wf ?_
  refine wf ?_
  refine AW (σ:=Nat × List Res) (fun k=>k.1≤x.list.length∧rh b (l++40::(x.list.take k.1).flatMap (Da d)) k.2) (fun k=>x.list.length - k.1) (fun k=> [(0,.raw (self b)),(24,.slice (x.list.map eSx) .ro),(25,.raw (.int .i64 x.list.length)),(26,.raw (.int .i64 k.1))]) (fun k=>k.2++LF) (0,L1) ⟨by simp,by simpa using hL1⟩ ⟨rfl,rfl,rfl,rfl⟩ (.refl _) ?_
  rintro⟨k,L2⟩ ⟨hk,hL2⟩
  dsimp only at hk hL2 ⊢
  have hsl:=JN (l:=x.list) (f:=Da d) (k:=k)
  refine wf ?_
  refine A1 (fun hc=>?_) (fun hc=>?_)
  ·have hlt:k < x.list.length:=by omega
   have hel:=JN (l:=x.list) (f:=Da d) (k:=k+1)
   rw[Iu hlt,A8]at hel
   refine wz fun b5=>?_
   refine Ag 5 ?_
   refine wf ?_
   refine Bo (xs:= [.tmp 30,.tmp 31]) L2 LF (f:=309) (cs:= []) (Bx _) rfl rfl (.refl _) _ (ih x.list[k] (hw _ (AK hlt)) b _ L2 hL2 (by simp only[A8,AH];omega)) fun r L3 hL3=>?_
   refine wf ?_
   refine wf ?_
   refine⟨(k+1,L3),⟨by dsimp only;omega,?_⟩,by dsimp only;omega,⟨rfl,rfl,rfl,rfl⟩,.refl _⟩
   dsimp only
   rw[Iu hlt]
   simpa using hL3
  ·rw[AA (by omega)]at hL2
   refine wf ?_
   refine Bo (xs:= [.tmp 34,.const (.int .u8 41)]) L2 LF (f:=330) (cs:= []) (Bx _) rfl rfl (.refl _) _ (MI b _ 41 L2 hL2 (by simp only[A8,AH];omega)) fun r L3 hL3=>?_
   refine wf ?_
   refine wf ?_
   exact⟨trivial,_,L3,.nil,.refl _,by simpa using hL3⟩
def TZ (b:Nat) (n:Int):Res:= .box b 316 [.raw (.int .i64 n),.raw (.bool false)]
theorem dx: ∀ (d:Nat) (x:Sx),Oh d x→ ∀ (b:Nat) (n lv:Int),0≤n→n+IQ d x≤20000→1≤lv→lv+d≤13→B2 Tryz.prog 327 [.raw (self b),.agg (eSx x),.raw (.int .i64 lv)] [TZ b n] (fun _ L'=>L'= [TZ b (n+IQ d x)])
 |0,x,hw,_,_,_,_,_,_,_=>hw.elim
 |d+1,x,hw,b,n,lv,hn0,hn,hl0,hl=>by
  have ih:=dx d
  have hpos:1≤IQ (d+1) x:=by unfold IQ;split<;>omega
  refine Bw Tryz.func327 rfl Tryz.ntmps327 (rs:= []) rfl rfl fun hb LF=>?_
  have hlen:x.list.length≤140737488355328:=by
   have:=(hb (.agg (eSx x)) (by simp)).agg_at (c:= .slice (x.list.map eSx) .ro) (by rw[Fb];simp)
   exact this.slice_map
  rw[show [TZ b n]++LF= .box b 316 [.raw (.int .i64 n),.raw (.bool false)]::LF from rfl]
  refine wf ?_
  refine KY [.raw (.int .i64 (n+1)),.raw (.bool false)] rfl rfl rfl rfl (by simp) ?_
  refine wf ?_
  refine wf ?_
  refine An (fun hp=>?_) (fun hp=>?_)
  ·have:=Ab hp;omega
  refine wf ?_
  refine A1 (fun h1=>?_) (fun h1=>?_)
  ·omega
  refine wf ?_
  refine AO (fun h2=>?_) (fun h2=>?_)
  ·refine wf ?_
   have:x.isList=false:=by simpa using h2
   exact⟨trivial,_,[TZ b (n+1)],.nil,.refl _,by simp[IQ,this]⟩
  have hB:x.isList=true:=by simpa using h2
  rcases hw with ⟨h3,_⟩|⟨_,_,hw⟩
  ·rw[hB]at h3;cases h3
  have hnd:IQ (d+1) x=1+(x.list.map (IQ d)).sum:=by simp[IQ,hB]
  rw[hnd]at hn ⊢
  refine wf ?_
  refine AW (σ:=Nat) (fun k=>k≤x.list.length) (fun k=>x.list.length - k) (fun k=> [(0,.raw (self b)),(2,.raw (.int .i64 lv)),(31,.slice (x.list.map eSx) .ro),(32,.raw (.int .i64 x.list.length)),(33,.raw (.int .i64 k))]) (fun k=>TZ b (n+(1+((x.list.map (IQ d)).take k).sum:Nat))::LF) 0 (by simp) ⟨rfl,rfl,rfl,rfl,rfl⟩ (by simp;exact .refl _) ?_
  intro k hk
  have hsk:=L0 (l:=x.list.map (IQ d)) (k:=k)
  have hsk1:=L0 (l:=x.list.map (IQ d)) (k:=k+1)
  refine wf ?_
  refine A1 (fun hc=>?_) (fun hc=>?_)
  ·have hlt:k < x.list.length:=by omega
   have e:((x.list.map (IQ d)).take (k+1)).sum=((x.list.map (IQ d)).take k).sum+IQ d x.list[k]:=by
    rw[A6 (by simpa using hlt),KS];simp
   refine wz fun b7=>?_
   refine Ag 7 ?_
   rw[show TZ b (n+(1+((x.list.map (IQ d)).take k).sum:Nat))::LF= .box b 316 [.raw (.int .i64 (n+(1+((x.list.map (IQ d)).take k).sum:Nat))),.raw (.bool false)]::LF from rfl]
   refine wf ?_
   refine Bo (xs:= [.tmp 41,.tmp 42,.tmp 44]) [TZ b (n+(1+((x.list.map (IQ d)).take k).sum:Nat))] LF (f:=327) (cs:= []) (Bx _) rfl rfl (.refl _) _ (ih x.list[k] (hw _ (AK hlt)) b _ (lv+1) (by omega) (by omega) (by omega) (by omega)) fun r L3 hL3=>?_
   subst hL3
   refine wf ?_
   refine wf ?_
   refine⟨k+1,by omega,by dsimp only;omega,⟨rfl,rfl,rfl,rfl,rfl⟩,?_⟩
   show(TZ b (n+((1+((x.list.map (IQ d)).take (k+1)).sum:Nat):Int))::LF).Sublist _
   rw[e,show n+((1+(((x.list.map (IQ d)).take k).sum+IQ d x.list[k]):Nat):Int)=n+((1+((x.list.map (IQ d)).take k).sum:Nat):Int)+(IQ d x.list[k]:Int) by omega]
   exact .refl _
  ·refine wf ?_
   rw[AA (by simp;omega)]
   exact⟨trivial,_,[TZ b (n+(1+(x.list.map (IQ d)).sum:Nat))],.nil,.refl _,rfl⟩
theorem VJ: ∀ (d:Nat) (x:Sx),Oh d x→Q.Fn Tryz.prog 328 [.agg (eSx x)] (.raw (.int .i64 0))
 |0,x,hw=>hw.elim
 |d+1,x,hw=>by
  have ih: ∀ (y:Sx),[B3 (Oh d y)]→Bl Tryz.prog 328 [.agg (eSx y)] (.raw (.int .i64 0)):=fun y h=>⟨VJ d y h.out⟩
  refine Ak Tryz.func328 Tryz.ntmps328 rfl (rs:= [.tmp 2]) rfl rfl fun hb LF=>?_
  have hlen:x.list.length≤140737488355328:=by
   have:=(hb (.agg (eSx x)) (by simp)).agg_at (c:= .slice (x.list.map eSx) .ro) (by rw[Fb];simp)
   exact this.slice_map
  have hsh:(x.isList=true→x.atom= [])∧(x.isList=false→x.list= [])∧x.atom.length≤65536∧ ∀ y∈x.list,Oh d y:=by
   rcases hw with ⟨h1,h2,h3⟩|⟨h1,h2,h3⟩
   ·exact⟨fun h=>(by rw[h1]at h;cases h),fun _=>h2,h3,fun y hy=>(by rw[h2]at hy;cases hy)⟩
   ·exact⟨fun _=>h2,fun h=>(by rw[h1]at h;cases h),by rw[h2];simp,h3⟩
  refine wf ?_
  refine B0 [(6,.raw (.bool (false))),(1,.pt (eSx x) 0)] (LF) ?_ ?_
  ·repeat' (first|(refine A1 (fun h=>?_) (fun h=>?_)<;>refine wf ?_)|(refine AL (fun h=>?_) (fun h=>?_)<;>refine wf ?_)|(refine AO (fun h=>?_) (fun h=>?_)<;>refine wf ?_)|(refine An (fun h=>?_) (fun h=>?_)<;>(have h2:=h;(try simp only[AB,A7,AG,AF]at h2);refine wf ?_)))
   all_goals (refine⟨⟨BO (by rfl) ?_,rfl⟩,.refl _⟩;(have:=hsh.1;have:=hsh.2.1;cases hB:x.isList<;>simp_all))
  refine wf ?_
  refine A1 (fun h5=>?_) (fun h5=>?_)
  ·have:=hsh.2.2.1;omega
  refine wf ?_
  refine AW (σ:=Nat) (fun k=>k≤x.list.length) (fun k=>x.list.length - k) (fun k=> [(31,.slice (x.list.map eSx) .ro),(32,.raw (.int .i64 x.list.length)),(33,.raw (.int .i64 k))]) (fun _=>LF) 0 (by simp) ⟨rfl,rfl,rfl⟩ (.refl _) ?_
  intro k hk
  refine wf ?_
  refine A1 (fun hc=>?_) (fun hc=>?_)
  ·have hlt:k < x.list.length:=by omega
   have:B3 (Oh d x.list[k]):=⟨hsh.2.2.2 _ (AK hlt)⟩
   refine wz fun b4=>?_
   refine Ag 4 ?_
   refine wf ?_
   exact⟨k+1,by omega,by dsimp only;omega,⟨rfl,rfl,rfl⟩,.refl _⟩
  ·refine wf ?_
   exact Ah (.refl _)
instance :Ch Tryz.prog 316 [.raw (.int .i64 0),.raw (.bool false)]:=Ch.of (us:= [PV.raw (.int .i64 0),.raw (.bool false)].map zv) (by kernel_rfl) (by kernel_rfl)
instance uC (x:Sx) [hs:B3 (oI x)]:Bl Tryz.prog 308 [.agg (eSx x)] (.raw (.int .i64 0)):=⟨by
 obtain⟨h1,h2⟩:=hs.out
 have i2:Bl Tryz.prog 328 [.agg (eSx x)] (.raw (.int .i64 0)):=⟨VJ 8 x h1⟩
 refine Ak Tryz.func308 Tryz.ntmps308 rfl (rs:= [.tmp 2]) rfl rfl fun hb LF=>?_
 refine gQ fun b1=>?_
 refine gQ fun b5=>?_
 refine Bo (xs:= [.tmp 6,.tmp 7,.const (.int .i64 1)]) [TZ b5 0] (.box b1 254 (eSx x)::LF) (f:=327) (cs:= []) (Bx _) rfl rfl (.refl _) _ (dx 8 x h1 b5 0 1 (by omega) (by omega) (by omega) (by omega)) fun r L3 hL3=>?_
 subst hL3
 rw[show [TZ b5 (0+IQ 8 x)]++(.box b1 254 (eSx x)::LF)= .box b5 316 [.raw (.int .i64 (0+IQ 8 x)),.raw (.bool false)]:: .box b1 254 (eSx x)::LF from rfl]
 refine wk ?_
 refine wk ?_
 exact Ah (.refl _)⟩
instance :Ch Tryz.prog 300 [.raw (.pointer none),.raw (.slice none 0 0)]:=Ch.of (us:= [PV.raw (.pointer none),.raw (.slice none 0 0)].map zv) (by kernel_rfl) (by kernel_rfl)
theorem pE {d:Nat} {x:Sx} (h:Oh d x):Da d x≠ []:=by
 cases d with
 |zero=>exact h.elim
 |succ d=>unfold Da;split<;>simp
instance ra (x:Sx) [hs:B3 (oI x∧(Da 8 x).length≤1000000000)]:Bl Tryz.prog 271 [.agg (eSx x)] (.tuple [.str (Da 8 x),.raw (.int .i64 0)]):=⟨by
 obtain⟨h1,h2⟩:=hs.out
 have:B3 (oI x):=⟨h1⟩
 refine Ak Tryz.func271 Tryz.ntmps271 rfl (rs:= [.tmp 2,.tmp 3]) rfl rfl fun hb LF=>?_
 refine aE fun b=>?_
 rw[show Res.box b 300 [.raw (.pointer none),.raw (.slice none 0 0)]::LF= [O2 b (.pointer none) (.slice none 0 0)]++LF from rfl]
 refine Bo (xs:= [.tmp 5,.tmp 11]) [O2 b (.pointer none) (.slice none 0 0)] LF (f:=309) (cs:= []) (Bx _) rfl rfl (.refl _) _ (df 8 x h1.1 b [] _ ⟨.pointer none,.slice none 0 0,[],.inl rfl,.nil,rfl⟩ (by simpa using h2)) fun r L1 hL1=>?_
 rw[BK]at hL1
 refine wf ?_
 refine wf ?_
 refine Bo (xs:= [.tmp 5]) L1 LF (f:=310) (cs:= []) (Bx _) rfl rfl (.refl _) _ (eK b (Da 8 x) L1 hL1 (pE h1.1) (by omega)) fun r L2 ⟨hr,hL2⟩=>?_
 subst hr
 subst hL2
 refine wf ?_
 refine wf ?_
 refine GM ?_
 exact .refl _⟩
instance yO (n:Int):Bl Tryz.prog 307 [.raw (.int .i64 n)] (.tuple [.agg (eSx (RA n).1),.raw (.int .i64 (RA n).2)]):=⟨by
 refine Ak Tryz.func307 Tryz.ntmps307 rfl (rs:= [.cell 2 254,.tmp 3]) rfl rfl fun hb LF=>?_
 refine aE fun b=>?_
 refine B0 [(9,.raw (.bool (decide (n < -1099511627776∨1099511627776 < n)))),(0,.raw (.int .i64 n)),(2,.raw (.pointer (some ⟨b,0,none⟩)))] (.box b 254 (eSx Sx.zero)::LF) ?_ ?_
 ·repeat' (first|(refine A1 (fun h=>?_) (fun h=>?_)<;>refine wf ?_)|(refine AL (fun h=>?_) (fun h=>?_)<;>refine wf ?_)|(refine AO (fun h=>?_) (fun h=>?_)<;>refine wf ?_)|(refine An (fun h=>?_) (fun h=>?_)<;>(have h2:=h;(try simp only[AB,A7,AG,AF]at h2);refine wf ?_)))
  all_goals (refine⟨⟨BO (by rfl) ?_,rfl,rfl⟩,.refl _⟩;first|(simp_all;done)|grind)
 refine wf ?_
 refine A1 (fun h=>?_) (fun h=>?_)
 ·refine wf ?_
  refine DX rfl (.of_eq ?_)
  rw[RA,if_pos h]
 ·have:B3 (-140737488355328≤n∧n≤140737488355328):=⟨by omega⟩
  refine wf ?_
  refine DX rfl (.of_eq ?_)
  rw[RA,if_neg h];rfl⟩
instance xG (s:Str):Bl Tryz.prog 268 [.str s] (.agg (eSx (Cb s))):=⟨by
 refine Ak Tryz.func268 Tryz.ntmps268 rfl (rs:= [.cell 2 254]) rfl rfl fun hb LF=>?_
 refine aE fun b=>?_
 refine FW rfl (.of_eq ?_)
 rfl⟩
@[reducible] def SF (l:List Sx) (t:CW):List PV:= [.raw (.bool true),.str [],.slice (l.map eSx) t]
theorem kH (l:List Sx):SF l .ro=eSx (Dy l):=by rw[Fb];rfl
theorem bG (l:List Sx) (t:CW):Le (.agg (SF l t)) (.agg (eSx (Dy l))):=fun g v hv=>by
 obtain⟨vs,rfl,h⟩:=hv.agg_inv
 match vs,h with
 | [a,b,c],h=>
   rw[←kH]
   exact E8.agg (.cons h.uncons.1 (.cons h.uncons.2.uncons.1 (.cons h.uncons.2.uncons.2.uncons.1.ro (.nil g))))
 | [],h=>have:=h.len;simp at this
 | [_],h=>have:=h.len;simp at this
 | [_,_],h=>have:=h.len;simp at this
 |_::_::_::_::_,h=>have:=h.len;simp at this
instance (l:List Sx) (t:CW):Fx (.agg (SF l t)) eSx (Dy l):=⟨fun g v hv=>E4.agg _ g v (bG l t g v hv)⟩
instance {x y z:PV}:At [x,y,z] 2 z:=⟨rfl⟩
instance (c:Sx) (l:List Sx) (t:CW):Et (eSx c) 0 (SF l t) (SF l t):=⟨by rw[Fb];simp⟩
instance (l:List Sx) (t:CW):Cw (SF l t) 3:=⟨rfl⟩
instance (l:List Sx) (t:CW):EU (SF l t):=by unfold SF;infer_instance
theorem Tc (l:List Sx) (t:CW):Q.Fn Tryz.prog 267 [.slice (l.map eSx) t] (.agg (SF l t)):=by
 refine Ak Tryz.func267 Tryz.ntmps267 rfl (rs:= [.cell 2 254]) rfl rfl fun hb LF=>?_
 refine DU ?_
 refine CC (by kernel_rfl) ?_
 refine BR fun b=>?_
 refine AN ?_
 refine DU ?_
 refine CC (by kernel_rfl) ?_
 refine KA (by(conv=>lhs;whnf);done) ?_
 refine YM (z:=eSx Sx.zero) (c0:= [.raw (.bool true)]) (c1:= [.slice (l.map eSx) t]) (r1:=SF l t) (hP0:=⟨rfl,by simp⟩) (hP1:=⟨rfl,by simp⟩) ?_ ?_ rfl rfl ?_
 ·exact E4.one (c:= .raw (.bool true)) EU.out
 ·exact E4.one (c:= .slice (l.map eSx) t) EU.out
 refine wf ?_
 exact FW rfl (.refl _)
instance wX (l:List Sx):Bl Tryz.prog 267 [.slice (l.map eSx) .ro] (.agg (eSx (Dy l))):=⟨kH l ▸ Tc l .ro⟩
instance (priority:=low) wU (l:List Sx) (t:CW):Bl Tryz.prog 267 [.slice (l.map eSx) t] (.agg (SF l t)):=⟨Tc l t⟩
instance wY:Bl Tryz.prog 267 [.slice [] .nil] (.agg (SF [] .nil)):=⟨Tc [] .nil⟩
instance so (n:Int):Bl Tryz.prog 270 [.raw (.int .i64 n)] (.agg (eSx (Fu n))):=⟨by
 refine Ak Tryz.func270 Tryz.ntmps270 rfl (rs:= [.cell 2 254]) rfl rfl fun hb LF=>?_
 refine aE fun b=>?_
 refine aE fun b2=>?_
 refine FW rfl (.of_eq ?_)
 rfl⟩
instance pC (x:Ident):Bl Tryz.prog 299 [.agg (eIdent x)] (.agg (eSx (Ft x))):=⟨by
 refine Ak Tryz.func299 Tryz.ntmps299 rfl (rs:= [.cell 2 254]) rfl rfl fun hb LF=>?_
 refine wf ?_
 refine BR fun b=>?_
 refine wn ?_
 refine A1 (fun h=>?_) (fun h=>?_)
 ·refine wn ?_
  refine BZ 6 ?_ ?_
  ·decide+kernel
  refine wf ?_
  refine FW rfl (.of_eq ?_)
  rw[Ft,KB,if_pos h]
 ·refine wn ?_
  refine BZ 9 ?_ ?_
  ·decide+kernel
  refine wf ?_
  refine FW rfl (.of_eq ?_)
  rw[Ft,KB,if_neg h]⟩
instance wB (l:List Ident) (t:CW) [hs:B3 (l.length≤1000000)]:Bl Tryz.prog 300 [.slice (l.map eIdent) t] (.agg (eSx (J6 l))):=⟨by
 refine Ak Tryz.func300 Tryz.ntmps300 rfl (rs:= [.cell 2 254]) rfl rfl fun hb LF=>?_
 have hlen:=hs.out
 refine aE fun b=>?_
 refine aE fun b3=>?_
 refine Ee 3 ?_
 refine AW (σ:=Nat × CW × List Sx) (fun k=>k.1≤l.length∧k.2.2=(l.take k.1).map Ft) (fun k=>l.length - k.1) (fun k=> [(2,.raw (.pointer (some ⟨b,0,none⟩))),(3,.raw (.pointer (some ⟨b3,0,none⟩))),(7,.slice (l.map eIdent) t),(8,.raw (.int .i64 l.length)),(9,.raw (.int .i64 k.1))]) (fun k=> .tok k.2.1 k.2.2.length 3:: .box b3 254 (SF k.2.2 k.2.1):: .box b 254 (eSx Sx.zero)::LF) (0,.nil,[]) ⟨by simp,by simp⟩ ⟨rfl,rfl,rfl,rfl,rfl⟩ (.refl _) ?_
 rintro⟨k,v,out⟩ ⟨hk,he⟩
 dsimp only at hk he
 have hol:out.length=k:=by rw[he];simp;omega
 refine wf ?_
 refine A1 (fun hc=>?_) (fun hc=>?_)
 ·have hlt:k < l.length:=by omega
  have ee:(l.take (k+1)).map Ft=out++ [Ft l[k]]:=by rw[A6 hlt,Az,he];rfl
  refine wz fun b5=>?_
  refine Ag 5 ?_
  refine wn ?_
  refine BZ 5 ?_ ?_
  ·decide+kernel
  refine Xw fun v'=>?_
  refine Ln (ay:= .slice ((out++ [Ft l[k]]).map eSx) v') (SF (out++ [Ft l[k]]) v') rfl rfl EU.out rfl (by simp) ?_
  refine wf ?_
  refine wf ?_
  exact⟨(k+1,v',out++ [Ft l[k]]),⟨by dsimp only;omega,ee.symm⟩,by dsimp only;omega,⟨rfl,rfl,rfl,rfl,rfl⟩,.refl _⟩
 ·rw[AA (by omega)]at he
  refine wf ?_
  refine FW rfl ?_
  rw[J6,←he]
  exact bG _ _⟩
instance gg (l:List Str) (t:CW) [hs:B3 (l.length≤1000000)]:Bl Tryz.prog 304 [.slice (l.map eS) t] (.agg (eSx (Dy (l.map Cb)))):=⟨by
 refine Ak Tryz.func304 Tryz.ntmps304 rfl (rs:= [.cell 2 254]) rfl rfl fun hb LF=>?_
 have hlen:=hs.out
 refine aE fun b=>?_
 refine aE fun b3=>?_
 refine Ee 3 ?_
 refine AW (σ:=Nat × CW × List Sx) (fun k=>k.1≤l.length∧k.2.2=(l.take k.1).map Cb) (fun k=>l.length - k.1) (fun k=> [(2,.raw (.pointer (some ⟨b,0,none⟩))),(3,.raw (.pointer (some ⟨b3,0,none⟩))),(7,.slice (l.map eS) t),(8,.raw (.int .i64 l.length)),(9,.raw (.int .i64 k.1))]) (fun k=> .tok k.2.1 k.2.2.length 3:: .box b3 254 (SF k.2.2 k.2.1):: .box b 254 (eSx Sx.zero)::LF) (0,.nil,[]) ⟨by simp,by simp⟩ ⟨rfl,rfl,rfl,rfl,rfl⟩ (.refl _) ?_
 rintro⟨k,v,out⟩ ⟨hk,he⟩
 dsimp only at hk he
 have hol:out.length=k:=by rw[he];simp;omega
 refine wf ?_
 refine A1 (fun hc=>?_) (fun hc=>?_)
 ·have hlt:k < l.length:=by omega
  have ee:(l.take (k+1)).map Cb=out++ [Cb l[k]]:=by rw[A6 hlt,Az,he];rfl
  refine wn ?_
  refine BZ 5 ?_ ?_
  ·decide+kernel
  refine Xw fun v'=>?_
  refine Ln (ay:= .slice ((out++ [Cb l[k]]).map eSx) v') (SF (out++ [Cb l[k]]) v') rfl rfl EU.out rfl (by simp) ?_
  refine wf ?_
  refine wf ?_
  exact⟨(k+1,v',out++ [Cb l[k]]),⟨by dsimp only;omega,ee.symm⟩,by dsimp only;omega,⟨rfl,rfl,rfl,rfl,rfl⟩,.refl _⟩
 ·rw[AA (by omega)]at he
  refine wf ?_
  refine FW rfl ?_
  rw[←he]
  exact bG _ _⟩
def yF (c:Chg):List Sx:= [Fu c.type]
def yE (c:Chg):List Sx:= [Ft c.file,Ft c.parent,Cb c.name,J6 c.over]
def yD (c:Chg):List Sx:= [Ft c.file,Fu c.mode,J6 c.over]
def yC (c:Chg):List Sx:= [Ft c.file,Cb c.data,J6 c.over]
def yB (c:Chg):List Sx:= [Ft c.file,Ft c.after,Ft c.before,Dy (c.lines.map Cb)]
def yA (c:Chg):List Sx:= [Ft c.file,Ft c.after,Ft c.before,J6 c.over]
def y9 (c:Chg):List Sx:= [J6 c.over]
instance tV (c:Chg) [hs:B3 (c.lines.length≤100000∧c.over.length≤100000)]:Bl Tryz.prog 297 [.agg (BC c)] (.slice ((yF c).map eSx) .ro):=⟨by
 obtain⟨h1,h2⟩:=hs.out
 have i1:B3 (c.over.length≤1000000):=⟨by omega⟩
 have i2:B3 (c.lines.length≤1000000):=⟨by omega⟩
 refine Ak Tryz.func297 Tryz.ntmps297 rfl (rs:= [.tmp 2]) rfl rfl fun hb LF=>?_
 refine wf ?_
 refine Ah (.of_eq ?_)
 rfl⟩
instance tU (c:Chg) [hs:B3 (c.lines.length≤100000∧c.over.length≤100000)]:Bl Tryz.prog 298 [.agg (BC c)] (.slice ((yE c).map eSx) .ro):=⟨by
 obtain⟨h1,h2⟩:=hs.out
 have i1:B3 (c.over.length≤1000000):=⟨by omega⟩
 have i2:B3 (c.lines.length≤1000000):=⟨by omega⟩
 refine Ak Tryz.func298 Tryz.ntmps298 rfl (rs:= [.tmp 2]) rfl rfl fun hb LF=>?_
 refine wn ?_
 refine BZ 14 ?_ ?_
 ·decide+kernel
 refine wf ?_
 refine Ah (.of_eq ?_)
 rfl⟩
instance tT (c:Chg) [hs:B3 (c.lines.length≤100000∧c.over.length≤100000)]:Bl Tryz.prog 301 [.agg (BC c)] (.slice ((yD c).map eSx) .ro):=⟨by
 obtain⟨h1,h2⟩:=hs.out
 have i1:B3 (c.over.length≤1000000):=⟨by omega⟩
 have i2:B3 (c.lines.length≤1000000):=⟨by omega⟩
 refine Ak Tryz.func301 Tryz.ntmps301 rfl (rs:= [.tmp 2]) rfl rfl fun hb LF=>?_
 refine wn ?_
 refine BZ 11 ?_ ?_
 ·decide+kernel
 refine wf ?_
 refine Ah (.of_eq ?_)
 rfl⟩
instance tS (c:Chg) [hs:B3 (c.lines.length≤100000∧c.over.length≤100000)]:Bl Tryz.prog 302 [.agg (BC c)] (.slice ((yC c).map eSx) .ro):=⟨by
 obtain⟨h1,h2⟩:=hs.out
 have i1:B3 (c.over.length≤1000000):=⟨by omega⟩
 have i2:B3 (c.lines.length≤1000000):=⟨by omega⟩
 refine Ak Tryz.func302 Tryz.ntmps302 rfl (rs:= [.tmp 2]) rfl rfl fun hb LF=>?_
 refine wn ?_
 refine BZ 11 ?_ ?_
 ·decide+kernel
 refine wf ?_
 refine Ah (.of_eq ?_)
 rfl⟩
instance tR (c:Chg) [hs:B3 (c.lines.length≤100000∧c.over.length≤100000)]:Bl Tryz.prog 303 [.agg (BC c)] (.slice ((yB c).map eSx) .ro):=⟨by
 obtain⟨h1,h2⟩:=hs.out
 have i1:B3 (c.over.length≤1000000):=⟨by omega⟩
 have i2:B3 (c.lines.length≤1000000):=⟨by omega⟩
 refine Ak Tryz.func303 Tryz.ntmps303 rfl (rs:= [.tmp 2]) rfl rfl fun hb LF=>?_
 refine wn ?_
 refine BZ 14 ?_ ?_
 ·decide+kernel
 refine wf ?_
 refine Ah (.of_eq ?_)
 rfl⟩
instance tQ (c:Chg) [hs:B3 (c.lines.length≤100000∧c.over.length≤100000)]:Bl Tryz.prog 305 [.agg (BC c)] (.slice ((yA c).map eSx) .ro):=⟨by
 obtain⟨h1,h2⟩:=hs.out
 have i1:B3 (c.over.length≤1000000):=⟨by omega⟩
 have i2:B3 (c.lines.length≤1000000):=⟨by omega⟩
 refine Ak Tryz.func305 Tryz.ntmps305 rfl (rs:= [.tmp 2]) rfl rfl fun hb LF=>?_
 refine wn ?_
 refine BZ 14 ?_ ?_
 ·decide+kernel
 refine wf ?_
 refine Ah (.of_eq ?_)
 rfl⟩
instance tP (c:Chg) [hs:B3 (c.lines.length≤100000∧c.over.length≤100000)]:Bl Tryz.prog 306 [.agg (BC c)] (.slice ((y9 c).map eSx) .ro):=⟨by
 obtain⟨h1,h2⟩:=hs.out
 have i1:B3 (c.over.length≤1000000):=⟨by omega⟩
 have i2:B3 (c.lines.length≤1000000):=⟨by omega⟩
 refine Ak Tryz.func306 Tryz.ntmps306 rfl (rs:= [.tmp 2]) rfl rfl fun hb LF=>?_
 refine wf ?_
 refine Ah (.of_eq ?_)
 rfl⟩
def ft:List (Int × PV):= [(1,.raw (.func (.func 297) #[] #[])),(2,.raw (.func (.func 298) #[] #[])),(3,.raw (.func (.func 301) #[] #[])),(4,.raw (.func (.func 302) #[] #[])),(5,.raw (.func (.func 303) #[] #[])),(6,.raw (.func (.func 305) #[] #[])),(7,.raw (.func (.func 306) #[] #[]))]
theorem XY:B2 Tryz.prog 269 [] [] (fun r L'=> ∃ b,r= .raw (.map (some b))∧L'= [.map b (Cj kInt vId ft)]):=by
 refine Bw Tryz.func269 rfl Tryz.ntmps269 (rs:= [.tmp 0]) rfl rfl fun hb LF=>?_
 rw[BK]
 refine vS fun b=>?_
 exact⟨trivial,_,[.map b (Cj kInt vId ft)],.cons (.tmp 0) .nil,.refl _,b,rfl,rfl⟩
def uo (k:Int):Nat:=if k=1 then 297 else if k=2 then 298 else if k=3 then 301 else if k=4 then 302 else if k=5 then 303 else if k=6 then 305 else 306
def ZX (c:Chg):List Sx:=if c.kind=1 then yF c else if c.kind=2 then yE c else if c.kind=3 then yD c else if c.kind=4 then yC c else if c.kind=5 then yB c else if c.kind=6 then yA c else y9 c
theorem kv (c:Chg):(ZX c).length≤4:=by
 unfold ZX
 repeat' split
 all_goals simp[yF,yE,yD,yC,yB,yA,y9]
theorem kinds {k:Int} (h:1≤k∧k≤7):k=1∨k=2∨k=3∨k=4∨k=5∨k=6∨k=7:=by omega
theorem kx {k:Int} (h:1≤k∧k≤7):vId ((Dv k ft).getD (.raw .nilFunc))= .raw (.func (.func (uo k)) #[] #[]):=by
 rcases kinds h with h|h|h|h|h|h|h<;>(subst h;rfl)
theorem pB {k:Int} (h:1≤k∧k≤7):Ax Tryz.prog (uo k):=by
 rcases kinds h with h|h|h|h|h|h|h<;>(subst h;simp only[uo];first|exact(inferInstance:Ax Tryz.prog 297)|exact(inferInstance:Ax Tryz.prog 298)|exact(inferInstance:Ax Tryz.prog 301)|exact(inferInstance:Ax Tryz.prog 302)|exact(inferInstance:Ax Tryz.prog 303)|exact(inferInstance:Ax Tryz.prog 305)|exact(inferInstance:Ax Tryz.prog 306))
theorem ow (c:Chg) (h:1≤c.kind∧c.kind≤7) [hs:B3 (c.lines.length≤100000∧c.over.length≤100000)]:Q.Fn Tryz.prog (uo c.kind) [.agg (BC c)] (.slice ((ZX c).map eSx) .ro):=by
 unfold uo ZX
 by_cases h1:c.kind=1
 ·rw[if_pos h1,if_pos h1];exact(tV c).out
 by_cases h2:c.kind=2
 ·rw[if_neg h1,if_neg h1,if_pos h2,if_pos h2];exact(tU c).out
 by_cases h3:c.kind=3
 ·rw[if_neg h1,if_neg h1,if_neg h2,if_neg h2,if_pos h3,if_pos h3];exact(tT c).out
 by_cases h4:c.kind=4
 ·rw[if_neg h1,if_neg h1,if_neg h2,if_neg h2,if_neg h3,if_neg h3,if_pos h4,if_pos h4];exact(tS c).out
 by_cases h5:c.kind=5
 ·rw[if_neg h1,if_neg h1,if_neg h2,if_neg h2,if_neg h3,if_neg h3,if_neg h4,if_neg h4,if_pos h5,if_pos h5];exact(tR c).out
 by_cases h6:c.kind=6
 ·rw[if_neg h1,if_neg h1,if_neg h2,if_neg h2,if_neg h3,if_neg h3,if_neg h4,if_neg h4,if_neg h5,if_neg h5,if_pos h6,if_pos h6];exact(tQ c).out
 rw[if_neg h1,if_neg h1,if_neg h2,if_neg h2,if_neg h3,if_neg h3,if_neg h4,if_neg h4,if_neg h5,if_neg h5,if_neg h6,if_neg h6];exact(tP c).out
def Oz (c:Chg):Sx:=Dy ([Fu c.kind]++ZX c)
def jU (p:Pat):Sx:=Dy [Cb [113,117,105,108,116,49],Cb p.author,Cb p.message,Fu p.time,Dy (p.deps.map fun d=>Cb d.bs),Dy (p.changes.map Oz)]
theorem jW {c:Chg} (h:1≤c.kind∧c.kind≤7):Oz c=Ky c:=by
 unfold Oz Ky K3 IH L5 ZX
 rcases kinds h with h|h|h|h|h|h|h<;>simp[h,yF,yE,yD,yC,yB,yA,y9]
theorem jT {p:Pat} (hd: ∀ d∈p.deps,d≠Dig.zero) (hk: ∀ c∈p.changes,1≤c.kind∧c.kind≤7):jU p=Wt p:=by
 unfold jU Wt
 rw[Og (f:=fun d:Dig=>Cb d.bs) (g:=KB) (fun d h=>by rw[KB,if_neg (hd d h)]),Og (f:=Oz) (g:=Ky) (fun c h=>jW (hk c h))]
structure bZ (p:Pat):Prop where
 ok:W3 p
 deps: ∀ d∈p.deps,d≠Dig.zero
 kinds: ∀ c∈p.changes,1≤c.kind∧c.kind≤7
instance qz (p:Pat) [hs:B3 (bZ p)]:Bl Tryz.prog 225 [.agg (CP p)] (.tuple [.str (NN p),.raw (.int .i64 0)]):=⟨by
 refine Ak Tryz.func225 Tryz.ntmps225 rfl (rs:= [.tmp 2,.tmp 3]) rfl rfl fun hb LF=>?_
 have hd:=hs.out.ok.deps
 have hch:=hs.out.ok.chgs
 refine aE fun b4=>?_
 refine BR fun b5=>?_
 refine wf ?_
 refine Ee 3 ?_
 refine AW (σ:=Nat × CW × List Sx) (fun k=>k.1≤p.deps.length∧k.2.2=(p.deps.take k.1).map fun d=>Cb d.bs) (fun k=>p.deps.length - k.1) (fun k=> [(1,.pt (CP p) 0),(4,.raw (.pointer (some ⟨b4,0,none⟩))),(5,.raw (.pointer (some ⟨b5,0,none⟩))),(15,.slice (p.deps.map eDig) .ro),(16,.raw (.int .i64 p.deps.length)),(17,.raw (.int .i64 k.1))]) (fun k=> .tok k.2.1 k.2.2.length 3:: .box b5 254 (SF [] .nil):: .box b4 254 (SF k.2.2 k.2.1)::LF) (0,.nil,[]) ⟨by simp,by simp⟩ ⟨rfl,rfl,rfl,rfl,rfl,rfl⟩ (.refl _) ?_
 rintro⟨k,v,l⟩ ⟨hk,he⟩
 dsimp only at hk he
 have hll:l.length=k:=by rw[he];simp;omega
 refine wf ?_
 refine A1 (fun hc=>?_) (fun hc=>?_)
 ·have hlt:k < p.deps.length:=by omega
  have ee:(p.deps.take (k+1)).map (fun d=>Cb d.bs)=l++ [Cb p.deps[k].bs]:=by rw[A6 hlt,Az,he];rfl
  refine wz fun b7=>?_
  refine Ag 7 ?_
  refine wn ?_
  refine BZ 6 ?_ ?_
  ·decide+kernel
  refine Xw fun v'=>?_
  refine Ln (ay:= .slice ((l++ [Cb p.deps[k].bs]).map eSx) v') (SF (l++ [Cb p.deps[k].bs]) v') rfl rfl EU.out rfl (by simp) ?_
  refine wf ?_
  refine wf ?_
  exact⟨(k+1,v',l++ [Cb p.deps[k].bs]),⟨by dsimp only;omega,ee.symm⟩,by dsimp only;omega,⟨rfl,rfl,rfl,rfl,rfl,rfl⟩,.refl _⟩
 rw[AA (by omega)]at he
 clear hll
 refine wf ?_
 refine Bo (xs:= []) [] (.tok v l.length 3:: .box b5 254 (SF [] .nil):: .box b4 254 (SF l v)::LF) (f:=269) (cs:= []) (Bx _) rfl rfl (.refl _) _ XY fun r L1 ⟨bm,hr,hL1⟩=>?_
 subst hr
 subst hL1
 refine wo ?_
 refine AN ?_
 refine Rm [(1,.pt (CP p) 0),(4,.raw (.pointer (some ⟨b4,0,none⟩))),(5,.raw (.pointer (some ⟨b5,0,none⟩))),(8,.fmap (Cj kInt vId ft))] ⟨.inl rfl,.inl rfl,.inl rfl,.inr ⟨rfl,rfl⟩⟩ (.refl _) ?_
 refine wf ?_
 refine Ee 3 ?_
 refine AW (σ:=Nat × CW × List Sx) (fun k=>k.1≤p.changes.length∧k.2.2=(p.changes.take k.1).map Oz) (fun k=>p.changes.length - k.1) (fun k=> [(1,.pt (CP p) 0),(4,.raw (.pointer (some ⟨b4,0,none⟩))),(5,.raw (.pointer (some ⟨b5,0,none⟩))),(8,.fmap (Cj kInt vId ft)),(32,.slice (p.changes.map BC) .ro),(33,.raw (.int .i64 p.changes.length)),(34,.raw (.int .i64 k.1))]) (fun k=> .tok k.2.1 k.2.2.length 3:: .box b5 254 (SF k.2.2 k.2.1):: .box b4 254 (SF l v)::LF) (0,.nil,[]) ⟨by simp,by simp⟩ ⟨rfl,rfl,rfl,rfl,rfl,rfl,rfl⟩ (.cons_cons _ (.cons _ (.refl _))) ?_
 rintro⟨k,u,m⟩ ⟨hk,hm⟩
 dsimp only at hk hm
 have hml:m.length=k:=by rw[hm];simp;omega
 refine wf ?_
 refine A1 (fun hc=>?_) (fun hc=>?_)
 ·have hlt:k < p.changes.length:=by omega
  have ee:(p.changes.take (k+1)).map Oz=m++ [Oz p.changes[k]]:=by rw[A6 hlt,Az,hm];rfl
  have hcc:=hs.out.ok.chg _ (AK hlt)
  have hkc:=hs.out.kinds _ (AK hlt)
  have:B3 (p.changes[k].lines.length≤100000∧p.changes[k].over.length≤100000):=⟨hcc⟩
  have hfun:=pB hkc
  have hfl:=kv p.changes[k]
  refine wz fun b10=>?_
  refine Ag 10 ?_
  refine DU ?_
  refine CC (by kernel_rfl) ?_
  refine aQ (by rfl) (hr:=(by first|infer_instance|fail)) ?_
  refine cX (by rfl) rfl ?_
  refine XE (by(conv=>lhs;whnf);done) (hN0:=(by first|infer_instance|fail)) (hc:=(by first|infer_instance|fail)) ?_
  refine jO (by(conv=>lhs;whnf);done) (hC0:=(by first|infer_instance|fail)) (hf:=(by first|infer_instance|fail)) (by decide) fun t=>?_
  refine wz fun b11=>?_
  refine wn ?_
  refine BZ 8 ?_ ?_
  ·decide+kernel
  refine wf ?_
  refine Wj (xs:= [.tmp 49]) (f:=uo p.changes[k].kind) (cs:= []) (by show Le (vId ((Dv p.changes[k].kind ft).getD (.raw .nilFunc))) _;rw[kx hkc];exact Bx _) rfl rfl (ow p.changes[k] hkc) ?_
  refine Xw fun v'=>?_
  refine Ln (ay:= .slice (([Fu p.changes[k].kind]++ZX p.changes[k]).map eSx) v') (SF ([Fu p.changes[k].kind]++ZX p.changes[k]) v') rfl rfl EU.out rfl (by simp) ?_
  refine wf ?_
  refine Xw fun u'=>?_
  refine Ln (ay:= .slice ((m++ [Oz p.changes[k]]).map eSx) u') (SF (m++ [Oz p.changes[k]]) u') rfl rfl EU.out rfl (by simp) ?_
  refine wf ?_
  exact⟨(k+1,u',m++ [Oz p.changes[k]]),⟨by dsimp only;omega,ee.symm⟩,by dsimp only;omega,⟨rfl,rfl,rfl,rfl,rfl,rfl,rfl⟩,by dsimp only;repeat(first|exact Dd _|apply List.Sublist.cons_cons|apply List.Sublist.cons)⟩
 rw[AA (by omega)]at hm
 have e:Wt p=Dy [Cb [113,117,105,108,116,49],Cb p.author,Cb p.message,Fu p.time,Dy l,Dy m]:=by rw[←jT hs.out.deps hs.out.kinds,jU,←he,←hm]
 have i1:B3 (oI (Dy [Cb [113,117,105,108,116,49],Cb p.author,Cb p.message,Fu p.time,Dy l,Dy m])∧(Da 8 (Dy [Cb [113,117,105,108,116,49],Cb p.author,Cb p.message,Fu p.time,Dy l,Dy m])).length≤1000000000):=by
  rw[←e];exact⟨hs.out.ok.ok,hs.out.ok.len⟩
 refine wf ?_
 refine GM ?_
 rw[NN,e]
 exact .refl _⟩
end Go.Proofs
