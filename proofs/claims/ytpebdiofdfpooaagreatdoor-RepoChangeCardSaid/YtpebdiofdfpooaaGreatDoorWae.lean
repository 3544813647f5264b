/- The small logic: a walk that goes by itself (printed by a program). Library, no statement of its own. -/
import Derived.Test.YtpebdiofdfpooaaGreatDoorWad
import Derived.RangeFuncNested
set_option linter.unusedSimpArgs false
set_option linter.unusedVariables false
namespace Go.Q
open Go
section
variable {P:Program} {N:Nat} {all:Array Oper} {K:Env→List Res→Prop} {fl:List Bool} {os:List Oper} {ρ:Env} {L:List Res} {Q:PPost} {c:Code} {ty:TypeId} {pos:String} {af:Array Edge}
theorem my {j:Nat} {b:Bool} {o:Op} {dst:Option Nat} (k:AW P N all K fl (⟨dst,o,ty,pos,af,some (j,b)⟩::os) ρ L):AW P N all K fl (⟨dst,o,ty,pos,af,some (j,b)⟩::os) ρ L:=k
theorem jQ {x:Operand} {dst:Option Nat} (k:AW P N all K fl (⟨dst,.move x,ty,pos,af,none⟩::os) ρ L):AW P N all K fl (⟨dst,.move x,ty,pos,af,none⟩::os) ρ L:=k
theorem YX {x:Operand} {dst:Option Nat} (k:AW P N all K fl (⟨dst,.assign x,ty,pos,af,none⟩::os) ρ L):AW P N all K fl (⟨dst,.assign x,ty,pos,af,none⟩::os) ρ L:=k
theorem jR {T:TypeId} {x:Operand} {dst:Option Nat} (k:AW P N all K fl (⟨dst,.load T x,ty,pos,af,none⟩::os) ρ L):AW P N all K fl (⟨dst,.load T x,ty,pos,af,none⟩::os) ρ L:=k
theorem pA {S f:Nat} {x:Operand} {dst:Option Nat} (k:AW P N all K fl (⟨dst,.fieldAddr S x f,ty,pos,af,none⟩::os) ρ L):AW P N all K fl (⟨dst,.fieldAddr S x f,ty,pos,af,none⟩::os) ρ L:=k
theorem oz {x:Operand} {T:TypeId} {dst:Option Nat} (k:AW P N all K fl (⟨dst,.call { callee:= .builtin .len,args:= #[x],argTypes:= #[T] },ty,pos,af,none⟩::os) ρ L):AW P N all K fl (⟨dst,.call { callee:= .builtin .len,args:= #[x],argTypes:= #[T] },ty,pos,af,none⟩::os) ρ L:=k
theorem aU {f:Nat} {xs:Array Operand} {ats:Array TypeId} {dst:Option Nat} (k:AW P N all K fl (⟨dst,.call { callee:= .value (.func f),args:=xs,argTypes:=ats },ty,pos,af,none⟩::os) ρ L):AW P N all K fl (⟨dst,.call { callee:= .value (.func f),args:=xs,argTypes:=ats },ty,pos,af,none⟩::os) ρ L:=k
theorem cP {o:BinOp} {T T₂:TypeId} {x y:Operand} {dst:Option Nat} (k:AW P N all K fl (⟨dst,.binOp o T x y T₂,ty,pos,af,none⟩::os) ρ L):AW P N all K fl (⟨dst,.binOp o T x y T₂,ty,pos,af,none⟩::os) ρ L:=k
theorem ui {T:TypeId} {x y:Operand} {dst:Option Nat} (k:AW P N all K fl (⟨dst,.indexAddr T x y,ty,pos,af,none⟩::os) ρ L):AW P N all K fl (⟨dst,.indexAddr T x y,ty,pos,af,none⟩::os) ρ L:=k
theorem uj {i:Nat} {x:Operand} {dst:Option Nat} (k:AW P N all K fl (⟨dst,.extract x i,ty,pos,af,none⟩::os) ρ L):AW P N all K fl (⟨dst,.extract x i,ty,pos,af,none⟩::os) ρ L:=k
theorem rR {c x y:Operand} {dst:Option Nat} (k:AW P N all K fl (⟨dst,.pick c x y,ty,pos,af,none⟩::os) ρ L):AW P N all K fl (⟨dst,.pick c x y,ty,pos,af,none⟩::os) ρ L:=k
theorem ug {o:UnOp} {T:TypeId} {x:Operand} {dst:Option Nat} (k:AW P N all K fl (⟨dst,.unOp o T x,ty,pos,af,none⟩::os) ρ L):AW P N all K fl (⟨dst,.unOp o T x,ty,pos,af,none⟩::os) ρ L:=k
theorem WC {T:TypeId} {x y:Operand} {dst:Option Nat} (k:AW P N all K fl (⟨dst,.store T x y,ty,pos,af,none⟩::os) ρ L):AW P N all K fl (⟨dst,.store T x y,ty,pos,af,none⟩::os) ρ L:=k
theorem uk {T n:Nat} {ps:Array (Nat × Operand)} {dst:Option Nat} (k:AW P N all K fl (⟨dst,.buildSlice T n ps,ty,pos,af,none⟩::os) ρ L):AW P N all K fl (⟨dst,.buildSlice T n ps,ty,pos,af,none⟩::os) ρ L:=k
theorem cN {T:Nat} {ps:Array (Nat × Operand)} {dst:Option Nat} (k:AW P N all K fl (⟨dst,.build T ps,ty,pos,af,none⟩::os) ρ L):AW P N all K fl (⟨dst,.build T ps,ty,pos,af,none⟩::os) ρ L:=k
theorem WE {T:TypeId} {x:Operand} {lo hi mx:Option Operand} {dst:Option Nat} (k:AW P N all K fl (⟨dst,.slice T x lo hi mx,ty,pos,af,none⟩::os) ρ L):AW P N all K fl (⟨dst,.slice T x lo hi mx,ty,pos,af,none⟩::os) ρ L:=k
theorem jS {S T:TypeId} {x:Operand} {dst:Option Nat} (k:AW P N all K fl (⟨dst,.convert S T x,ty,pos,af,none⟩::os) ρ L):AW P N all K fl (⟨dst,.convert S T x,ty,pos,af,none⟩::os) ρ L:=k
theorem cK {T:TypeId} {x y:Operand} {dst:Option Nat} (k:AW P N all K fl (⟨dst,.index T x y,ty,pos,af,none⟩::os) ρ L):AW P N all K fl (⟨dst,.index T x y,ty,pos,af,none⟩::os) ρ L:=k
theorem uh {x:Operand} {dst:Option Nat} (k:AW P N all K fl (⟨dst,.nilCheck x,ty,pos,af,none⟩::os) ρ L):AW P N all K fl (⟨dst,.nilCheck x,ty,pos,af,none⟩::os) ρ L:=k
structure NZ (B:Prop):Prop where
 out:B
structure KQ {α:Type} (B:α→Prop):Prop where
 out: ∀ a,B a
theorem ma {A B:Prop} (k:B) (h:NZ B→A:=by
  intro hB
  first
   |(refine my ?_;first|refine Y4 rfl (by rfl) ?_|refine dm rfl (by first|((conv=>lhs;whnf);done)|fail) (by assumption) ?_|refine Y5 rfl (by first|((conv=>lhs;whnf);done)|fail) (by assumption) ?_|refine Y6 rfl (by first|((conv=>lhs;whnf);done)|fail) (by assumption) ?_|refine iW rfl (by rfl) ?_|refine Y5 rfl (by rfl) rfl ?_|refine Y6 rfl (by rfl) rfl ?_)
   |(refine jQ ?_;first|refine Jm (by(conv=>lhs;whnf);done) ?_)
   |(refine YX ?_;first|refine UR (by(conv=>lhs;whnf);done) ?_)
   |(refine jR ?_;first|refine Xc (by rfl) (hl:=(by first|infer_instance|fail)) ?_|refine bP (by rfl) rfl ?_|refine Xa (by rfl) (by repeat(first|exact AK|apply AD)) (hl:=(by first|infer_instance|fail)) ?_|refine S5 (by rfl) (by repeat(first|exact AK|apply AD)) (hs:=(by first|infer_instance|fail)) ?_|refine gL (by rfl) (by repeat(first|exact AK|apply AD)) (hs:=(by first|infer_instance|fail)) ?_|refine bQ (by rfl) (by repeat(first|exact AK|apply AD)) (by omega) ?_|refine bO (by rfl) (by repeat(first|exact AK|apply AD)) (by omega) ?_)
   |(refine pA ?_;first|refine Zd (by rfl) (hr:=(by first|infer_instance|fail)) ?_|refine bU (by rfl) (by(conv=>lhs;whnf);done) ?_)
   |(refine oz ?_;first|refine gP (by rfl) ?_|refine gN (by(conv=>lhs;whnf);done) (jx:=(by first|infer_instance|fail)) ?_|refine gQ (by rfl) ?_)
   |(refine aU ?_;first|refine W7 (by(conv=>lhs;whnf);done) (hN0:=(by first|infer_instance|fail)) (hc:=(by first|infer_instance|fail)) ?_|refine cD (by(conv=>lhs;whnf);done) (by(conv=>lhs;whnf);done) (hN0:=(by first|infer_instance|fail)) (hN1:=(by first|infer_instance|fail)) (hc:=(by first|infer_instance|fail)) ?_|refine cC (by(conv=>lhs;whnf);done) (by(conv=>lhs;whnf);done) (by(conv=>lhs;whnf);done) (hN0:=(by first|infer_instance|fail)) (hN1:=(by first|infer_instance|fail)) (hN2:=(by first|infer_instance|fail)) (hc:=(by first|infer_instance|fail)) ?_|refine cF (hc:=(by first|infer_instance|fail)) ?_|refine cB (by(conv=>lhs;whnf);done) (by(conv=>lhs;whnf);done) (by(conv=>lhs;whnf);done) (by(conv=>lhs;whnf);done) (hN0:=(by first|infer_instance|fail)) (hN1:=(by first|infer_instance|fail)) (hN2:=(by first|infer_instance|fail)) (hN3:=(by first|infer_instance|fail)) (hc:=(by first|infer_instance|fail)) ?_|refine j_call5 (by(conv=>lhs;whnf);done) (by(conv=>lhs;whnf);done) (by(conv=>lhs;whnf);done) (by(conv=>lhs;whnf);done) (by(conv=>lhs;whnf);done) (hN0:=(by first|infer_instance|fail)) (hN1:=(by first|infer_instance|fail)) (hN2:=(by first|infer_instance|fail)) (hN3:=(by first|infer_instance|fail)) (hN4:=(by first|infer_instance|fail)) (hc:=(by first|infer_instance|fail)) ?_|refine j_call6 (by(conv=>lhs;whnf);done) (by(conv=>lhs;whnf);done) (by(conv=>lhs;whnf);done) (by(conv=>lhs;whnf);done) (by(conv=>lhs;whnf);done) (by(conv=>lhs;whnf);done) (hN0:=(by first|infer_instance|fail)) (hN1:=(by first|infer_instance|fail)) (hN2:=(by first|infer_instance|fail)) (hN3:=(by first|infer_instance|fail)) (hN4:=(by first|infer_instance|fail)) (hN5:=(by first|infer_instance|fail)) (hc:=(by first|infer_instance|fail)) ?_)
   |(refine g_bi ?_;first|refine s_min (by rfl) (by rfl) ?_|refine s_max (by rfl) (by rfl) ?_)
   |(refine cP ?_;first|refine oT (by rfl) (by rfl) ?_|refine oU (by rfl) (by rfl) ?_|refine tt (by rfl) (by rfl) ?_|refine oW (by rfl) (by rfl) ?_|refine tu (by rfl) (by rfl) ?_|refine tq (by rfl) (by rfl) ?_|refine oc (by rfl) (by rfl) (by constructor<;>omega) ?_|refine oH (by rfl) (by rfl) (by constructor<;>omega) ?_|refine lj (by rfl) (by rfl) ?_|refine lg (by rfl) (by rfl) ?_|refine qV (by rfl) (by rfl) ?_|refine qS (by rfl) (by rfl) ?_|refine tv (by(conv=>lhs;whnf);done) (by(conv=>lhs;whnf);done) (jx:=(by first|infer_instance|fail)) (jy:=(by first|infer_instance|fail)) ?_|refine tr (by(conv=>lhs;whnf);done) (by(conv=>lhs;whnf);done) (jx:=(by first|infer_instance|fail)) (jy:=(by first|infer_instance|fail)) ?_|refine s_eqB (by rfl) (by rfl) ?_|refine s_neB (by rfl) (by rfl) ?_|refine oY (by(conv=>lhs;whnf);done) (by(conv=>lhs;whnf);done) (jx:=(by first|infer_instance|fail)) (jy:=(by first|infer_instance|fail)) (by first|omega|(simp only[A7,AH,Aa,B3];omega)) ?_|refine oO (by rfl) (by rfl) (by constructor<;>omega) ?_|refine XV (by rfl) (by rfl) (by omega) (by omega) ?_|refine XU (by rfl) (by rfl) (by omega) ?_|refine gm (by rfl) (by rfl) ?_|refine fv (by rfl) (by rfl) ?_|refine gl (by rfl) (by rfl) ?_|refine oI (by rfl) (by rfl) ?_|refine gD (by rfl) (by rfl) ?_|refine gG (by rfl) (by rfl) ?_|refine gF (by rfl) (by rfl) ?_|refine Vc (by rfl) (by rfl) (by omega) (by omega) ?_|refine Vd (by rfl) (by rfl) (by omega) ?_)
   |(refine ui ?_;first|refine gW (by rfl) (by rfl) (by omega) ?_|refine PN (by rfl) (by rfl) (by omega) ?_|refine gU (by rfl) (by rfl) (by omega) (by omega) ?_)
   |(refine uj ?_;first|refine dS (by rfl) rfl ?_)
   |(refine rR ?_;first|refine XW (by rfl) rfl (by(conv=>lhs;whnf);done) ?_|refine XX (by rfl) rfl (by(conv=>lhs;whnf);done) ?_|refine XW (by first|((conv=>lhs;whnf);done)|fail) (by assumption) (by(conv=>lhs;whnf);done) ?_|refine XX (by first|((conv=>lhs;whnf);done)|fail) (by assumption) (by(conv=>lhs;whnf);done) ?_)
   |(refine ug ?_;first|refine oJ (by rfl) ?_|refine oM (by rfl) (by constructor<;>omega) ?_|refine gI (by rfl) ?_)
   |(refine WC ?_;first|refine fz (by rfl) (by(conv=>lhs;whnf);done) (hC:=(by first|infer_instance|fail)) (hB:=(by first|infer_instance|fail)) (hp:=(by first|infer_instance|fail)) (hu:=(by first|infer_instance|fail)) (hf:=(by first|infer_instance|fail)) (hlen:=(by first|infer_instance|fail)) ?_|refine XP (by rfl) (by rfl) (hB:=(by first|infer_instance|fail)) (hu:=(by first|infer_instance|fail)) (hf:=(by first|infer_instance|fail)) (hlen:=(by first|infer_instance|fail)) (hcs:=(by first|infer_instance|fail)) ?_|refine S3 (by rfl) (by rfl) (by repeat(first|exact AK|apply AD)) (by omega) (hu:=(by first|infer_instance|fail)) ?_|refine XQ (by rfl) (by rfl) (by repeat(first|exact AK|apply AD)) (by omega) (hu:=(by first|infer_instance|fail)) ?_)
   |(refine cN ?_;first|refine Xh ?_|refine UQ ?_|refine kD (by(conv=>lhs;whnf);done) (hC0:=(by first|infer_instance|fail)) (hP0:=(by first|infer_instance|fail)) (hl0:=(by first|infer_instance|fail)) ?_|refine kC (by(conv=>lhs;whnf);done) (by(conv=>lhs;whnf);done) (hC0:=(by first|infer_instance|fail)) (hC1:=(by first|infer_instance|fail)) (hP0:=(by first|infer_instance|fail)) (hP1:=(by first|infer_instance|fail)) (hl0:=(by first|infer_instance|fail)) (hl1:=(by first|infer_instance|fail)) ?_|refine kB (by(conv=>lhs;whnf);done) (by(conv=>lhs;whnf);done) (by(conv=>lhs;whnf);done) (hC0:=(by first|infer_instance|fail)) (hC1:=(by first|infer_instance|fail)) (hC2:=(by first|infer_instance|fail)) (hP0:=(by first|infer_instance|fail)) (hP1:=(by first|infer_instance|fail)) (hP2:=(by first|infer_instance|fail)) (hl0:=(by first|infer_instance|fail)) (hl1:=(by first|infer_instance|fail)) (hl2:=(by first|infer_instance|fail)) ?_|refine kA (by(conv=>lhs;whnf);done) (by(conv=>lhs;whnf);done) (by(conv=>lhs;whnf);done) (by(conv=>lhs;whnf);done) (hC0:=(by first|infer_instance|fail)) (hC1:=(by first|infer_instance|fail)) (hC2:=(by first|infer_instance|fail)) (hC3:=(by first|infer_instance|fail)) (hP0:=(by first|infer_instance|fail)) (hP1:=(by first|infer_instance|fail)) (hP2:=(by first|infer_instance|fail)) (hP3:=(by first|infer_instance|fail)) (hl0:=(by first|infer_instance|fail)) (hl1:=(by first|infer_instance|fail)) (hl2:=(by first|infer_instance|fail)) (hl3:=(by first|infer_instance|fail)) ?_|refine k9 (by(conv=>lhs;whnf);done) (by(conv=>lhs;whnf);done) (by(conv=>lhs;whnf);done) (by(conv=>lhs;whnf);done) (by(conv=>lhs;whnf);done) (hC0:=(by first|infer_instance|fail)) (hC1:=(by first|infer_instance|fail)) (hC2:=(by first|infer_instance|fail)) (hC3:=(by first|infer_instance|fail)) (hC4:=(by first|infer_instance|fail)) (hP0:=(by first|infer_instance|fail)) (hP1:=(by first|infer_instance|fail)) (hP2:=(by first|infer_instance|fail)) (hP3:=(by first|infer_instance|fail)) (hP4:=(by first|infer_instance|fail)) (hl0:=(by first|infer_instance|fail)) (hl1:=(by first|infer_instance|fail)) (hl2:=(by first|infer_instance|fail)) (hl3:=(by first|infer_instance|fail)) (hl4:=(by first|infer_instance|fail)) ?_|refine jz (by(conv=>lhs;whnf);done) (by(conv=>lhs;whnf);done) (by(conv=>lhs;whnf);done) (by(conv=>lhs;whnf);done) (by(conv=>lhs;whnf);done) (by(conv=>lhs;whnf);done) (hC0:=(by first|infer_instance|fail)) (hC1:=(by first|infer_instance|fail)) (hC2:=(by first|infer_instance|fail)) (hC3:=(by first|infer_instance|fail)) (hC4:=(by first|infer_instance|fail)) (hC5:=(by first|infer_instance|fail)) (hP0:=(by first|infer_instance|fail)) (hP1:=(by first|infer_instance|fail)) (hP2:=(by first|infer_instance|fail)) (hP3:=(by first|infer_instance|fail)) (hP4:=(by first|infer_instance|fail)) (hP5:=(by first|infer_instance|fail)) (hl0:=(by first|infer_instance|fail)) (hl1:=(by first|infer_instance|fail)) (hl2:=(by first|infer_instance|fail)) (hl3:=(by first|infer_instance|fail)) (hl4:=(by first|infer_instance|fail)) (hl5:=(by first|infer_instance|fail)) ?_|refine b_build7 (by(conv=>lhs;whnf);done) (by(conv=>lhs;whnf);done) (by(conv=>lhs;whnf);done) (by(conv=>lhs;whnf);done) (by(conv=>lhs;whnf);done) (by(conv=>lhs;whnf);done) (by(conv=>lhs;whnf);done) (hC0:=(by first|infer_instance|fail)) (hC1:=(by first|infer_instance|fail)) (hC2:=(by first|infer_instance|fail)) (hC3:=(by first|infer_instance|fail)) (hC4:=(by first|infer_instance|fail)) (hC5:=(by first|infer_instance|fail)) (hC6:=(by first|infer_instance|fail)) (hP0:=(by first|infer_instance|fail)) (hP1:=(by first|infer_instance|fail)) (hP2:=(by first|infer_instance|fail)) (hP3:=(by first|infer_instance|fail)) (hP4:=(by first|infer_instance|fail)) (hP5:=(by first|infer_instance|fail)) (hP6:=(by first|infer_instance|fail)) (hl0:=(by first|infer_instance|fail)) (hl1:=(by first|infer_instance|fail)) (hl2:=(by first|infer_instance|fail)) (hl3:=(by first|infer_instance|fail)) (hl4:=(by first|infer_instance|fail)) (hl5:=(by first|infer_instance|fail)) (hl6:=(by first|infer_instance|fail)) ?_|refine b_build8 (by(conv=>lhs;whnf);done) (by(conv=>lhs;whnf);done) (by(conv=>lhs;whnf);done) (by(conv=>lhs;whnf);done) (by(conv=>lhs;whnf);done) (by(conv=>lhs;whnf);done) (by(conv=>lhs;whnf);done) (by(conv=>lhs;whnf);done) (hC0:=(by first|infer_instance|fail)) (hC1:=(by first|infer_instance|fail)) (hC2:=(by first|infer_instance|fail)) (hC3:=(by first|infer_instance|fail)) (hC4:=(by first|infer_instance|fail)) (hC5:=(by first|infer_instance|fail)) (hC6:=(by first|infer_instance|fail)) (hC7:=(by first|infer_instance|fail)) (hP0:=(by first|infer_instance|fail)) (hP1:=(by first|infer_instance|fail)) (hP2:=(by first|infer_instance|fail)) (hP3:=(by first|infer_instance|fail)) (hP4:=(by first|infer_instance|fail)) (hP5:=(by first|infer_instance|fail)) (hP6:=(by first|infer_instance|fail)) (hP7:=(by first|infer_instance|fail)) (hl0:=(by first|infer_instance|fail)) (hl1:=(by first|infer_instance|fail)) (hl2:=(by first|infer_instance|fail)) (hl3:=(by first|infer_instance|fail)) (hl4:=(by first|infer_instance|fail)) (hl5:=(by first|infer_instance|fail)) (hl6:=(by first|infer_instance|fail)) (hl7:=(by first|infer_instance|fail)) ?_)
   |(refine WE ?_;first|refine Hh (by rfl) (by rfl) (by omega) ?_|refine gY (by rfl) (by rfl) (by omega) ?_|refine Vf (by(conv=>lhs;whnf);done) (by rfl) (by rfl) (jx:=(by first|infer_instance|fail)) (by omega) (by omega) (by omega) ?_|refine bW (by(conv=>lhs;whnf);done) (by rfl) (jx:=(by first|infer_instance|fail)) (by omega) (by omega) ?_|refine XT (by rfl) ?_)
   |(refine jS ?_;first|refine bc (by rfl) ?_|refine bZ (by rfl) ?_|refine Rf (by rfl) (by omega) ?_|refine fw (by rfl) ?_|refine XO (by rfl) (by repeat(first|exact AK|apply AD)) (hs:=(by first|infer_instance|fail)) ?_)
   |(refine cK ?_;first|refine Xd (by(conv=>lhs;whnf);done) (by rfl) (jx:=(by first|infer_instance|fail)) (by omega) ?_)
   |(refine uh ?_;first|refine XY (by rfl) ?_)
  exact hB.out):A:=h ⟨k⟩
theorem qw {A B:Prop} (k:B) (h:NZ B→A:=by
  intro hB
  first
   |(refine uk ?_;first|refine oa ?_|refine oZ (by(conv=>lhs;whnf);done) (hC0:=(by first|infer_instance|fail)) (hf:=(by first|infer_instance|fail)) (by decide) ?_|refine u5 (by(conv=>lhs;whnf);done) (by(conv=>lhs;whnf);done) (hC0:=(by first|infer_instance|fail)) (hC1:=(by first|infer_instance|fail)) (hf:=(by first|infer_instance|fail)) (by decide) ?_|refine u4 (by(conv=>lhs;whnf);done) (by(conv=>lhs;whnf);done) (by(conv=>lhs;whnf);done) (hC0:=(by first|infer_instance|fail)) (hC1:=(by first|infer_instance|fail)) (hC2:=(by first|infer_instance|fail)) (hf:=(by first|infer_instance|fail)) (by decide) ?_|refine tz (by(conv=>lhs;whnf);done) (by(conv=>lhs;whnf);done) (by(conv=>lhs;whnf);done) (by(conv=>lhs;whnf);done) (hC0:=(by first|infer_instance|fail)) (hC1:=(by first|infer_instance|fail)) (hC2:=(by first|infer_instance|fail)) (hC3:=(by first|infer_instance|fail)) (hf:=(by first|infer_instance|fail)) (by decide) ?_|refine tx (by(conv=>lhs;whnf);done) (by(conv=>lhs;whnf);done) (by(conv=>lhs;whnf);done) (by(conv=>lhs;whnf);done) (by(conv=>lhs;whnf);done) (hC0:=(by first|infer_instance|fail)) (hC1:=(by first|infer_instance|fail)) (hC2:=(by first|infer_instance|fail)) (hC3:=(by first|infer_instance|fail)) (hC4:=(by first|infer_instance|fail)) (hf:=(by first|infer_instance|fail)) (by decide) ?_|refine tw (by(conv=>lhs;whnf);done) (by(conv=>lhs;whnf);done) (by(conv=>lhs;whnf);done) (by(conv=>lhs;whnf);done) (by(conv=>lhs;whnf);done) (by(conv=>lhs;whnf);done) (hC0:=(by first|infer_instance|fail)) (hC1:=(by first|infer_instance|fail)) (hC2:=(by first|infer_instance|fail)) (hC3:=(by first|infer_instance|fail)) (hC4:=(by first|infer_instance|fail)) (hC5:=(by first|infer_instance|fail)) (hf:=(by first|infer_instance|fail)) (by decide) ?_)
  exact hB.out):A:=h ⟨k⟩
theorem AY {A B:Prop} (k:B) (h:NZ B→A:=by
  intro hB
  repeat(first
   |refine AE ?_
   |refine ma ?_
   |refine qw ?_
   |refine DU ?_
   |refine CD (by kernel_rfl) ?_
   |refine Hr ?_
   |refine Fx ?_
   |refine Jq ?_
   |refine H0 ?_
   |refine Da (by decide+kernel) ?_
   |refine Hp (by rfl) ?_
   |refine Hq (by rfl) ?_)
  exact hB.out):A:=h ⟨k⟩
theorem Bp {A B:Prop} (k:B) (h:NZ B→A:=by
  intro hB
  refine AY ?_
  exact hB.out):A:=h ⟨k⟩
theorem Cx {A:Prop} {B:Nat→Prop} (k: ∀ b,B b) (h:KQ B→A:=by
  intro hB
  refine AY ?_
  first|refine Xi (by rfl) fun b=>?_|refine BN fun b=>?_
  refine AY ?_
  exact hB.out b):A:=h ⟨k⟩
theorem Ef {A:Prop} {B:Nat→Prop} (k: ∀ b,B b) (h:KQ B→A:=by
  intro hB
  refine Cx fun b=>?_
  exact hB.out b):A:=h ⟨k⟩
theorem GX {A:Prop} {B:CZ→Prop} (k: ∀ t,B t) (h:KQ B→A:=by
  intro hB
  refine AY ?_
  first|refine H6 (by rfl) (by rfl) (by simp only[A7,AH,Aa,AF,AG,Ab,B3];omega) (by simp only[A7,AH,Aa,AF,AG,Ab,B3];omega) fun t=>?_|refine FZ (by rfl) (by rfl) (by simp only[A7,AH,Aa,AF,AG,Ab,B3];omega) (by simp only[A7,AH,Aa,AF,AG,Ab,B3];omega) (fun t=>by first|exact .here|exact(.there .here)|exact(.there (.there .here))|exact(.there (.there (.there .here)))|exact(.there (.there (.there (.there .here))))|exact(.there (.there (.there (.there (.there .here)))))|exact(.there (.there (.there (.there (.there (.there .here))))))|exact(.there (.there (.there (.there (.there (.there (.there .here)))))))|exact(.there (.there (.there (.there (.there (.there (.there (.there .here))))))))) fun t=>?_
  refine AY ?_
  exact hB.out t):A:=h ⟨k⟩
theorem Fk {A:Prop} {B:CZ→Prop} (k: ∀ t,B t) (h:KQ B→A:=by
  intro hB
  refine GX fun t=>?_
  exact hB.out t):A:=h ⟨k⟩
end
section
variable {P:Program} {N:Nat} {all:Array Oper} {K:Env→List Res→Prop} {fl:List Bool} {os:List Oper} {ρ:Env} {L:List Res} {Q:PPost} {c:Code} {d:Nat} {ty:TypeId} {pos:String} {af:Array Edge}
theorem K1 {K':Env→List Res→Prop} (hk: ∀ ρ L,K' ρ L→K ρ L): ∀ {os:List Oper} {fl:List Bool} {ρ:Env} {L:List Res},AW P N all K' fl os ρ L→AW P N all K fl os ρ L
 | [],_,_,_,h=>hk _ _ h
 |o::os,fl,ρ,L,h=>by
  obtain⟨hd,h⟩:=h
  refine⟨hd,?_⟩
  rcases h with ⟨hno,h⟩|⟨hy,h⟩
  ·exact .inl ⟨hno,K1 hk h⟩
  ·refine .inr ⟨hy,?_⟩
   rcases h with ⟨x,hq,h⟩|⟨hf,h⟩
   ·exact .inl ⟨x,hq,K1 hk h⟩
   ·exact .inr ⟨hf,h.mono fun x L' h=>K1 hk h⟩
theorem BB {y:Code} (E:List (Nat × PV)) (LL:List Res) (h:AW P N all (fun ρ L=>Oc ρ E∧LL.Sublist L) fl os ρ L) (k:EB P N y Q (fL E) LL)
  (hK: ∀ ρ L,EB P N y Q ρ L→K ρ L:=by intro _ _ h;exact h):AW P N all K fl os ρ L:=
 K1 (fun ρ' L' ⟨h1,h2⟩=>hK _ _ (Ri E h1 h2 k)) h
theorem KE {c y:Code} (F:Prop) (E:List (Nat × PV)) (LL:List Res) (h:EB P N c (VN (fun ρ L=>F∧Oc ρ E∧LL.Sublist L) Q) ρ L) (k:F→EB P N y Q (fL E) LL):EB P N c (VN (EB P N y Q) Q) ρ L:=
 SX h fun e ρ' L' hq=>by
  cases e with
  |normal=>obtain⟨h1,h2,h3⟩:=hq;exact Ri E h2 h3 (k h1)
  |_=>exact hq
theorem OG {A B:Prop} (k:B) (h:NZ B→A:=by
  intro hB
  repeat(first
   |refine AE ?_
   |refine ma ?_
   |refine qw ?_
   |(refine cP ?_;first|refine XV (by rfl) (by rfl) (by decide) (by omega) ?_|refine XU (by rfl) (by rfl) (by decide) ?_)
   |refine DU ?_
   |refine CD (by kernel_rfl) ?_
   |refine Hr ?_
   |refine Fx ?_
   |refine Jq ?_
   |refine H0 ?_
   |refine Hp (by rfl) ?_
   |refine Hq (by rfl) ?_)
  exact hB.out):A:=h ⟨k⟩
theorem ZQ {A:Prop} {B:Nat→Prop} (k: ∀ b,B b) (h:KQ B→A:=by
  intro hB
  refine OG ?_
  first|refine Xi (by rfl) fun b=>?_|refine BN fun b=>?_
  refine OG ?_
  exact hB.out b):A:=h ⟨k⟩
theorem lG {A:Prop} {B:Nat→Prop} (k: ∀ b,B b) (h:KQ B→A:=by
  intro hB
  refine ZQ fun b=>?_
  exact hB.out b):A:=h ⟨k⟩
theorem bt {T n sz by_:Nat} [hE:Ff P T sz by_] {xs:List Operand} {cs:List (List PV)} {dst:Option Nat} {gd:Option (Nat × Bool)} (hn:xs.length=n) (hl:cs.length=n) (h24:n*sz≤16777216) (hm:n≤maxN)
  (hx: ∀ i (h1:i < xs.length) (h2:i < cs.length),Dv (ρ.ev xs[i]) cs[i]∧cs[i].length=sz) {Ψ:PV→List Res→Prop} (k: ∀ t',Ψ (.slice cs t') (.tok t' n sz::L)):FW P ⟨dst,.buildSlice T n ((xs.zipIdx.map fun p=>(p.2,p.1)).toArray),ty,pos,af,gd⟩ ρ L Ψ:=by
 intro a w g ha hi
 obtain⟨E,i,z,t1,t2,t3,t4,t5,t6,t7,t8⟩:=hE.out
 have hcell: ∀ i,i < n→ ∃ us:List Value,(∀ (h1:i < xs.length),(a.eval xs[i]).cells=us.toArray)∧(∀ (h2:i < cs.length),E5 g us cs[i]):=fun i h1=>by
  obtain⟨us,e1,e2⟩:=(hx i (by omega) (by omega)).1 g _ (ha xs[i] (TW (by omega)))
  exact⟨us,fun _=>e1,fun _=>e2⟩
 let F:Nat→List Value:=fun i=>by classical exact if h:i < n then Classical.choose (hcell i h)else []
 have hF: ∀ i (h:i < n),(∀ (h1:i < xs.length),(a.eval xs[i]).cells=(F i).toArray)∧(∀ (h2:i < cs.length),E5 g (F i) cs[i]):=fun i h=>by
  have:=LV (hcell i h)
  simp only[F,dif_pos h];exact this
 let vs:List (List Value):=(List.range n).map F
 have hvl:vs.length=n:=by simp[vs]
 have hvi: ∀ i (h:i < vs.length),vs[i]=F i:=fun i h=>by simp[vs]
 have hFl: ∀ i,i < n→(F i).length=sz:=fun i h=>by rw[((hF i h).2 (by omega)).len,(hx i (by omega) (by omega)).2]
 have hflat:E5 g vs.flatten cs.flatten:=by
  have: ∀ m,m≤n→E5 g (vs.take m).flatten (cs.take m).flatten:=by
   intro m
   induction m with
   |zero=>intro _;simp;exact .nil g
   |succ m ih=>
    intro hm'
    rw[A6 (by omega:m < vs.length),A6 (by omega:m < cs.length),C7,C7]
    refine(ih (by omega)).append ?_
    simp only[CH,MX,B1,hvi]
    exact(hF m (by omega)).2 (by omega)
  have:=this n (B4 _)
  rwa [AA (by omega),AA (by omega)]at this
 have hcs: ∀ e∈cs,e.length=sz:=fun e he=>by
  obtain⟨j,hj,rfl⟩:=Ak.1 he
  exact(hx j (by omega) hj).2
 have hparts:(((xs.zipIdx.map fun p=>(p.2,p.1)).toArray).map fun(p:Nat × Operand)=>(p.1,a.eval p.2)).toList=((xs.map a.eval).zipIdx 0).map fun p=>(p.2,p.1):=by
  simp only[HO,DK]
  rw[ny,DK]
  rfl
 obtain⟨j1,j2,j3⟩:=hi.lay vs.flatten E
 have hr:(execOp a.eval ⟨dst,.buildSlice T n ((xs.zipIdx.map fun p=>(p.2,p.1)).toArray),ty,pos,af,gd⟩).run P w= .ok (.value (.slice (some ⟨w.heap.size,0,none⟩) n n)) { w with heap:=w.heap.push (.cells vs.flatten.toArray E (0,0)) }:=by
  have hz: ∀ (zz:Array Value),Instr.fill (fun i=>some (i*sz,sz)) ((Array.range (n*sz)).map (zz[·% zz.size]!)) (((xs.map a.eval).zipIdx 0).map fun p=>(p.2,p.1))=some vs.flatten.toArray:=fun zz=>by
   have e:(Array.range (n*sz)).map (zz[·% zz.size]!)=((List.range (n*sz)).map (zz[·% zz.size]!)).toArray:=by
    apply MY;simp
   rw[e,NM vs (xs.map a.eval) 0 _ (by simp[hvl,hn]) (fun i h1 h2=>by
    simp only[AF]at h1
    rw[hvi]
    simp only[BT]
    exact⟨(hF i (by omega)).1 h1,hFl i (by omega)⟩) (by simp[hvl])]
   simp
  show(do pure (Next.value (←Instr.buildSlice T n (((xs.zipIdx.map fun p=>(p.2,p.1)).toArray).map fun(p:Nat × Operand)=>(p.1,a.eval p.2)))):Sem Next).run P w=_
  simp only[Instr.buildSlice,Sem.run_bind,run_underlying t1,Result.andThen_ok,sizeOf,typeInfo,run_program,t2,Sem.run_pure,t3,hparts]
  rw[if_neg (by have:(2:Nat) ^ 24=16777216:=by decide
                omega)]
  have hzv:(zeroValue E).run P w= .ok z w:=by simp[zeroValue,typeInfo,t2,t5]
  split
  ·simp only[Sem.run_bind,Sem.run_pure,Result.andThen_ok,hz #[],newRow,run_newObj]
  ·simp only[Sem.run_bind,hzv,Sem.run_pure,Result.andThen_ok,hz z.cells,newRow,run_newObj]
 refine Oper.wq_of_run hr ?_
 have hH0: ∀ o,g.H w.heap.size o=none:=fun o=>by
  cases h:g.H w.heap.size o with
  |none=>rfl
  |some v=>have:=hi.sat _ _ _ h;simp[World.cell?]at this
 have hM0:g.M w.heap.size=none:=by
  cases h:g.M w.heap.size with
  |none=>rfl
  |some v=>exact absurd (hi.satM _ _ h).lt (GH _)
 have hfl:vs.flatten.length=n*sz:=by
  rw[hflat.len]
  have: ∀ (l:List (List PV)),(∀ e∈l,e.length=sz)→l.flatten.length=l.length*sz:=by
   intro l
   induction l with
   |nil=>simp
   |cons e l ih=>intro h;simp only[CH,A7,h e (by simp),ih fun e' he=>h e' (by simp[he]),AH,Bq];omega
  rw[this cs hcs,hl]
 refine⟨_,.slice cs (.own w.heap.size n),_,.tok (.own w.heap.size n) n sz::L,rfl,?_,⟨j1.sat,j1.satM,fun r hr=>?_,?_,j1.glob⟩,?_,?_,k _⟩
 ·have:=VR.of_cells (g:=g.lay w.heap.size 0 vs.flatten) (xs:=cs) (t:= .own w.heap.size n) (sz:=sz) (b:=w.heap.size) (off:=0) (cap:=n) hcs (by omega) ⟨by omega,by rw[hl];exact Cd h24 (by decide)⟩ (us:=vs.flatten) (hflat.mono j3) (fun j hj=>Gh.lay_in hj) (fun b' cap' e=>by cases e;exact⟨rfl,rfl,rfl⟩) (by simp)
  rw[hl]at this
  exact this
 ·rcases AI.1 hr with rfl|hr
  ·refine⟨vs.flatten.toArray,E,(0,0),by simp,by simp[hfl],B4 _,fun o ho=>?_,hM0,.inl (B4 _)⟩
   rw[Gh.lay_out (fun h=>by have:=h.2.2;omega)];exact hH0 o
  ·exact j1.res r hr
 ·have hb:w.heap.size∉Ao L:=fun h=>by
   obtain⟨r,hr,e⟩:=Bo.1 h
   have:=Res.holds_lt (hi.res r hr) e
   omega
  simp only[Ao,BF,Res.block]
  exact CP.2 ⟨hb,hi.nodup⟩
 ·exact j2
 ·intro b' hb' hlt
  simp only[Ao,BF,Res.block,AI]at hb'
  rcases hb' with h|h
  ·omega
  ·exact h
theorem gj {T sz by_:Nat} [hE:Ff P T sz by_] {x0:Operand} {a0:PV} {α:Type} {f:α→List PV} {e0:α} (q0:ρ.ev x0=a0) [hC0:Fg a0 f e0] [hf:KY f sz] (h24:1*sz≤16777216)
  (k: ∀ t,AW P N all K fl.tail os (CT ρ d (.slice ([e0].map f) t)) (.tok t [e0].length sz::L)) (hd:Nat.blt d N=true:=by rfl) (hfl:fl.headD true=true:=by rfl):AW P N all K fl (⟨some d,.buildSlice T 1 #[(0,x0)],ty,pos,af,none⟩::os) ρ L:=
 Dp rfl (QF hd) hfl (bt (n:=1) (xs:= [x0]) (cs:= [e0].map f) rfl rfl h24 (by decide) (fun i h1 h2=>by
  match i,h1,h2 with
  |0,_,_=>exact⟨q0 ▸ hC0.out,hf.out e0⟩
  |m+1,h1,_=>exact absurd h1 (by simp only[AH,Aa];omega)) k)
theorem fb {A B:Prop} (k:B) (h:NZ B→A:=by
  intro hB
  repeat(first
   |refine AE ?_
   |refine ma ?_
   |(refine cP ?_;first|refine XV (by rfl) (by rfl) (by decide) (by omega) ?_|refine XU (by rfl) (by rfl) (by decide) ?_)
   |refine DU ?_
   |refine CD (by kernel_rfl) ?_
   |refine Hr ?_
   |refine Fx ?_
   |refine Jq ?_
   |refine H0 ?_
   |refine Da (by decide+kernel) ?_
   |refine Hp (by rfl) ?_
   |refine Hq (by rfl) ?_)
  exact hB.out):A:=h ⟨k⟩
theorem tk {A:Prop} {B:CZ→Prop} (k: ∀ t,B t) (h:KQ B→A:=by
  intro hB
  refine fb ?_
  refine gj (by(conv=>lhs;whnf);done) (hC0:=(by first|infer_instance|fail)) (hf:=(by first|infer_instance|fail)) (by decide) fun t=>?_
  refine AY ?_
  exact hB.out t):A:=h ⟨k⟩
theorem qD {A:Prop} {B:CZ→Prop} (k: ∀ t,B t) (h:KQ B→A:=by
  intro hB
  refine tk fun t=>?_
  exact hB.out t):A:=h ⟨k⟩
theorem BW {s:Nat} {v t:Bool} (h:ρ s= .raw (.bool v)) (e:v=t):ρ s= .raw (.bool t):=e ▸ h
end
section
variable {P:Program} {N:Nat} {all:Array Oper} {K:Env→List Res→Prop} {fl:List Bool} {os:List Oper} {ρ:Env} {L:List Res} {Q:PPost} {d:Nat} {ty:TypeId} {pos:String} {af:Array Edge}
theorem DD {σ:Type} {c y:Code} {Q0:PPost} (F:σ→Prop) (E:σ→List (Nat × PV)) (LL:σ→List Res) (h:EB P N c (VN (fun ρ L=> ∃ s,F s∧Oc ρ (E s)∧(LL s).Sublist L) Q0) ρ L) (k: ∀ s,F s→EB P N y Q (fL (E s)) (LL s))
  (hQ: ∀ ρ L,EB P N y Q ρ L→Q0 .normal ρ L:=by intro _ _ h;exact h):EB P N c Q0 ρ L:=
 SX h fun e ρ' L' hq=>by
  cases e with
  |normal=>obtain⟨s,h1,h2,h3⟩:=hq;exact hQ _ _ (Ri (E s) h2 h3 (k s h1))
  |_=>exact hq
theorem qb {T T':TypeId} {x y:Operand} {m n:Int} (hx:ρ.ev x= .raw (.int .i64 m)) (hy:ρ.ev y= .raw (.int .i64 n)) (k:AW P N all K fl.tail os (CT ρ d (.raw (.int .i64 (IntKind.i64.wrap (m+n))))) L) (hd:Nat.blt d N=true:=by rfl):
  AW P N all K fl (⟨some d,.binOp .add T x y T',ty,pos,af,none⟩::os) ρ L:=GY hx hy (fun w=>by simp[binOp,Op.intArith]) k hd
theorem Zf {T T':TypeId} {x y:Operand} {m n:Int} {vx:Value} (hx:ρ.ev x= .raw vx) (hy:ρ.ev y= .raw (.int .i64 n)) (ex:vx= .int .i64 m) (k: ∀ v,v= .int .i64 (IntKind.i64.wrap (m+n))→AW P N all K fl.tail os (CT ρ d (.raw v)) L) (hd:Nat.blt d N=true:=by rfl):
  AW P N all K fl (⟨some d,.binOp .add T x y T',ty,pos,af,none⟩::os) ρ L:=qb (by rw[hx,ex]) hy (k _ rfl) hd
end
section
variable {P:Program} {N:Nat} {Q:PPost} {all:Array Oper} {K:Env→List Res→Prop}
def NH (listed:Array Bool) (k:Nat):Nat→Array Bool
 |0=>listed
 |n+1=>NH (listed.setIfInBounds k true) (k+1) n
def W5 (all:Array Oper) (bar:Nat→Bool):Nat→Nat→Array Bool→Bool
 |0,_,_=>true
 |fuel+1,k,listed=>!bar k&&(Region.ready .any all listed).contains k&&Region.free .any all listed k&&W5 all bar fuel (k+1) (listed.setIfInBounds k true)
theorem YB {bar:Nat→Bool} {m:Nat} (hsk: ∀ j oj,all[j]? =some oj→bar j=true→ZY all j=true): ∀ (l:List Oper) (k:Nat) (listed:Array Bool) (ρ:Env) (L:List Res),(∀ j,j < l.length→l[j]? =all[k+j]?)→J8 all listed→(∀ j,j < k→listed.getD j true=true)→
  W5 all bar l.length k listed=true→AW P N all (fun ρ L=>GJ P N all bar K m (NH listed k l.length) ρ L) (List.replicate l.length false) l ρ L→GJ P N all bar K (l.length+m) listed ρ L
 | [],_,_,_,_,_,_,_,_,h=>by simpa [NH,AW]using h
 |o::l,k,listed,ρ,L,hl,hc,hlow,hB,h=>by
  have h0:all[k]? =some o:=by simpa using (hl 0 (by simp)).symm
  have hl': ∀ j,j < l.length→l[j]? =all[k+1+j]?:=fun j hj=>by have:=hl (j+1) (by simpa using hj);simpa [E3,L5 1 j]using this
  simp only[AH,W5,Bx,AQ]at hB
  obtain⟨⟨⟨hb,hr⟩,hfr⟩,hB'⟩:=hB
  have hready:k∈Region.ready .any all listed:=by simpa using hr
  have hc':=hc.set hready
  have hlow': ∀ j,j < k+1→(listed.setIfInBounds k true).getD j true=true:=fun j hj=>by
   by_cases hjk:k=j
   ·subst hjk
    have hks:k < listed.size:=by rw[hc.size];exact(BK.1 h0).1
    simp[hks]
   ·rw[getD_set_ne true hjk];exact hlow j (by omega)
  obtain⟨hd,h⟩:=h
  have: ∃ x,YQ P all o ρ L x∧AW P N all (fun ρ L=>GJ P N all bar K m (NH (listed.setIfInBounds k true) (k+1) l.length) ρ L) (List.replicate l.length false) l (updo ρ o.dst x) L:=by
   rcases h with ⟨hno,h⟩|⟨hyes,h⟩
   ·exact⟨_,.inl ⟨hno,rfl⟩,h⟩
   ·rcases h with ⟨x,hq,h⟩|⟨hf,_⟩
    ·exact⟨x,.inr ⟨hyes,hq⟩,h⟩
    ·cases hf
  obtain⟨x,hy,hp⟩:=this
  have rec':=YB hsk l (k+1) _ _ L hl' hc' hlow' hB' hp
  have:=Sb (P:=P) (N:=N) (K:=K) (bar:=bar) h0 hd (fun j oj hoj _ hbj _=>hsk j oj hoj hbj) (l.length+m) listed ρ L hc hlow (Region.free_spec h0 hfr) hready hy rec'
  rwa [show(o::l).length+m=l.length+m+1 by simp;omega]
theorem C3 {bar:Nat→Bool} {fuel:Nat} {listed:Array Bool} {ρ:Env} {L:List Res} (is:List Nat) (hr:Region.ready .any all listed=is) (hne:is≠ [])
  (h: ∀ i∈is,∃ o,all[i]? =some o∧AW P N all (fun ρ L=>GJ P N all bar K fuel (listed.setIfInBounds i true) ρ L) [bar i] [o] ρ L):GJ P N all bar K (fuel+1) listed ρ L:=by
 refine⟨fun h0=>absurd (hr.symm.trans h0) hne,fun i hi=>?_⟩
 rw[hr]at hi
 obtain⟨o,h0,hd,h⟩:=h i hi
 unfold Y9
 simp only[h0]
 refine⟨hd,?_⟩
 rcases h with ⟨hno,h⟩|⟨hyes,h⟩
 ·exact .inl ⟨_,.inl ⟨hno,rfl⟩,h⟩
 ·rcases h with ⟨x,hq,h⟩|⟨hf,h⟩
  ·exact .inl ⟨x,.inr ⟨hyes,hq⟩,h⟩
  ·exact .inr ⟨hf,hyes,h⟩
theorem C5 {bar:Nat→Bool} {listed:Array Bool} {ρ:Env} {L:List Res} (hr:Region.ready .any all listed= []) (h:K ρ L):GJ P N all bar K 0 listed ρ L:=⟨hr,h⟩
theorem de {id:Nat} {l:List Oper} {ρ:Env} {L:List Res} (n:Nat) (bs:List Nat) [hm:fB P]
  (hB:(KK l.toArray N&&W5 l.toArray (fun k=>bs.contains k) n 0 (Array.replicate l.length false)&&bs.all (fun j=>ZY l.toArray j)&&decide (n≤l.length))=true)
  (h:AW P N l.toArray (fun ρ L=>GJ P N l.toArray (fun k=>bs.contains k) (Q .normal) (l.length - n) (NH (Array.replicate l.length false) 0 n) ρ L) (List.replicate n false) (l.take n) ρ L):EB P N (.region id l.toArray true) Q ρ L:=fun ro base a w g hst=>by
 simp only[Bx,AJ]at hB
 obtain⟨⟨⟨hG,hB⟩,hS⟩,hn⟩:=hB
 refine wpIn_region_any hm.out ?_
 have hi:=hst.inv
 have hst0:Ej (Ao L) w g { w with drawn:=w.drawn+1 } g:=⟨rfl,rfl,⟨rfl,QG _⟩,B4 _,fun _ _ _=>rfl,.refl g,fun _ _ _=>⟨fun _=>rfl,rfl⟩⟩
 have hi':DM { w with drawn:=w.drawn+1 } g L:=⟨hi.sat,fun b z hz=>(hi.satM b z hz).congr rfl,fun r hr=>by have:=hi.res r hr;cases r<;>first|exact this|(rename_i t _ _;cases t<;>exact this),hi.nodup,hi.glob⟩
 have hln:(l.take n).length=n:=by rw[AG];omega
 have:=YB (P:=P) (N:=N) (all:=l.toArray) (K:=Q .normal) (bar:=fun k=>bs.contains k) (m:=l.length - n) (fun j oj _ hb=>B5.1 hS j (by simpa using hb)) (l.take n) 0 (Array.replicate l.length false) ρ L
  (fun j hj=>by rw[hln]at hj;simp[hj])
  ⟨by simp,fun j oj _ hl=>by
   have:(Array.replicate l.length false).getD j false=false:=by
    rcases BC j l.length with h|h<;>simp[h]
   rw[this]at hl;cases hl⟩ (fun j hj=>absurd hj (FC _)) (by rw[hln];exact hB) (by rw[hln];exact h)
 rw[hln,show n+(l.length - n)=l.length by omega]at this
 have k:=Ko (ro:=ro) (base:=base) (Q:=Q) (w₀:=w) (g₀:=g) (L₀:=L) (fun _ _ h=>h) hG _ _ ρ L a _ g hst.agr hi' hst0 (.refl _ _) this
 simpa using k
end
theorem Ej.grow {B B':List Nat} {w w':World} {g g':Gh} (hb: ∀ b,b∈B'→b∈B) (h:Ej B' w g w' g'):Ej B w g w' g':=
 ⟨h.os,h.tape,h.output,h.size,fun k hk hn=>h.keep k hk (fun x=>hn (hb k x)),h.le,fun k hk hn=>h.new k hk (fun x=>hn (hb k x))⟩
theorem DC {L L':List Res} (h:L.Perm L'):(Ao L).Perm (Ao L'):=h.filterMap _
instance {f:Nat}:Ja (.raw (.func (.func f) #[] #[])) (.clo f []):=⟨fun g v h=>by cases h;exact .clo _ rfl (by simp)⟩
theorem jV {f:Nat} {vs cs:List PV} (h:JU cs):JU (.clo f vs::cs):=fun x hx=>by
 rcases AI.1 hx with rfl|h'
 ·exact⟨by simp,by simp,by simp,by simp⟩
 ·exact h x h'
instance {cs vs:List PV} {f:Nat} [h:EH cs]:EH (.clo f vs::cs):=⟨jV h.out⟩
instance {f:Nat} {vs:List PV}:Dq (.clo f vs) [.clo f vs]:=⟨.one (EH.out)⟩
section
variable {P:Program} {N:Nat} {all:Array Oper} {K:Env→List Res→Prop} {fl:List Bool} {os:List Oper} {ρ:Env} {L:List Res} {Q:PPost} {c:Code} {d:Nat} {ty:TypeId} {pos:String} {af:Array Edge}
theorem FW.conv {o:Oper} {L':List Res} {Ψ:PV→List Res→Prop} (hg: ∀ w g,DM w g L→ ∃ g',DM w g' L'∧Ej (Ao L) w g w g'∧DV w L L') (h:FW P o ρ L' Ψ):FW P o ρ L Ψ:=fun a w g ha hi=>by
 obtain⟨g',h1,h2,h3⟩:=hg w g hi
 exact(h a w g' (fun x hx=>(ha x hx).mono h2.le) h1).mono fun a' w' ⟨v,x,g'',L'',k1,k2,k3,k4,k5,k6⟩=>⟨v,x,g'',L'',k1,k2,k3,h2.trans h3 k4,h3.trans h2.size k5,k6⟩
theorem FW.perm {o:Oper} {L':List Res} {Ψ:PV→List Res→Prop} (hp:L.Perm L') (h:FW P o ρ L' Ψ):FW P o ρ L Ψ:=
 h.conv fun w g hi=>⟨g,hi.perm hp,.refl _ _ _,fun b hb _=>(DC hp).symm.subset hb⟩
theorem Qi {o:Oper} {L':List Res} (hp:L.Perm L') (hf:fl.headD true=true) (h:AW P N all K fl (o::os) ρ L') (hno: ¬kS all o ρ):AW P N all K fl (o::os) ρ L:=by
 obtain⟨hd,h⟩:=h
 rcases h with ⟨hn,_⟩|⟨hy,h⟩
 ·exact absurd hn hno
 ·refine⟨hd,.inr ⟨hy,.inr ⟨hf,?_⟩⟩⟩
  rcases h with ⟨x,hq,h⟩|⟨_,h⟩
  ·exact(FW.mono hq fun x' L'' ⟨e1,e2⟩=>by subst e1;subst e2;exact h).perm hp
  ·exact h.perm hp
theorem DM.freeze {w:World} {g:Gh} {L':List Res} {b T:Nat} {cs:List PV} (hi:DM w g L) (hp:L.Perm (.box b T cs::L')):
  ∃ g',DM w g' L'∧Ej (Ao L) w g w g'∧DV w L L'∧VR g' (.pointer (some ⟨b,0,none⟩)) (.pt cs 0):=by
 have hi2:=hi.perm hp
 obtain⟨vs,h1,h2,h3,h4⟩:=hi2.res _ (AK)
 have hle:=Gh.le_lay (g:=g) (b:=b) (from_:=0) (us:=vs) (fun o _=>h3 o)
 have hbl:b∈Ao L:=(DC hp).symm.subset (by simp[Ao,Res.block])
 have hnb: ∀ r∈L',r.block≠some b:=fun r hr e=>by
  have hnd:=hi2.nodup
  simp only[Ao,BF,Res.block]at hnd
  exact(CP.1 hnd).1 (Bo.2 ⟨r,hr,e⟩)
 refine⟨g.lay b 0 vs,⟨fun b' o v hv=>?_,fun b' z hz=>hi.satM b' z hz,fun r hr=>?_,?_,hi.glob.mono hle⟩,⟨rfl,rfl,⟨rfl,B4 _⟩,B4 _,fun _ _ _=>rfl,hle,fun k _ hn=>⟨fun o=>Gh.lay_out (fun h=>hn (h.1 ▸ hbl)),rfl⟩⟩,fun b' hb' _=>(DC hp).symm.subset ?_,?_⟩
 ·by_cases hin:b'=b∧0≤o∧o < 0+vs.length
  ·obtain⟨rfl,_,h6⟩:=hin
   have hj:o < vs.length:=by omega
   have:=Gh.lay_in (g:=g) (b:=b') (from_:=0) hj
   rw[B3,hv]at this
   cases this
   exact H3 h1 o hj
  ·rw[Gh.lay_out hin]at hv;exact hi.sat b' o v hv
 ·refine Res.holds_kept hle (hi2.res r (AD _ hr)) fun b' hb'=>⟨rfl,fun o=>Gh.lay_out (fun h=>hnb r hr (h.1 ▸ hb')),rfl⟩
 ·have hnd:=hi2.nodup
  simp only[Ao,BF,Res.block]at hnd
  exact(CP.1 hnd).2
 ·simp only[Ao,BF,Res.block];exact AD _ hb'
 ·refine VR.pt (g:=g.lay b 0 vs) (b:=b) (o:=0) (off:=0) (cs:=cs) (fun j=>(vs[j]?).getD undef) (fun j hj=>?_) (fun j hj=>?_)
  ·have hj':j < vs.length:=by rw[h2.len];exact hj
   rw[Gh.lay_in hj'];simp[hj']
  ·have hj':j < vs.length:=by rw[h2.len];exact hj
   have:=(h2.mono hle).at_ j hj' hj
   simpa [hj']using this
@[reducible] def av (R:PV→PV→Prop) (ρ:Env):List (Nat × PV)→Prop
 | []=>True
 | [(i,v)]=>R (ρ i) v
 |(i,v)::p::E=>R (ρ i) v∧av R ρ (p::E)
theorem cR {R:PV→PV→Prop} {ρ:Env}: ∀ {E:List (Nat × PV)},av R ρ E→ ∀ i,R (ρ i) (fL E i)∨fL E i= .junk
 | [],_,i=> .inr rfl
 | [(j,v)],h,i=>by
   by_cases e:i=j
   ·subst e;left;show R _ (CT _ _ _ _);rw[C4];exact h
   ·right;show CT _ _ _ _=_;rw[GM _ _ e]
 |(j,v)::(p::E),h,i=>by
  by_cases e:i=j
  ·subst e;left;show R _ (CT _ _ _ _);rw[C4];exact h.1
  ·show R _ (CT _ _ _ _)∨CT _ _ _ _=_;rw[GM _ _ e];exact cR h.2 i
theorem ib {T:TypeId} {x:Operand} {cs:List PV} {dst:Option Nat} {gd:Option (Nat × Bool)} (hx:Dv (ρ.ev x) cs) {Ψ:PV→List Res→Prop} (k: ∀ b,Ψ (.raw (.pointer (some ⟨b,0,none⟩))) (.box b T cs::L)):FW P ⟨dst,.box T x,ty,pos,af,gd⟩ ρ L Ψ:=fun a w g ha hi=>by
 have h1:=ha x (by simp[Op.operands])
 obtain⟨vs,h2,h3⟩:=hx g _ h1
 obtain⟨i1,i2,i3⟩:=hi.alloc h3 T
 have hr:(execOp a.eval ⟨dst,.box T x,ty,pos,af,gd⟩).run P w= .ok (.value (.pointer (some ⟨w.heap.size,0,none⟩))) { w with heap:=w.heap.push (.cells vs.toArray T (0,0)) }:=by
  simp[execOp,Instr.box,newVar,newRow,h2]
 refine Oper.wq_of_run hr ?_
 exact⟨_,_,g,_,rfl,.raw _,i1,i2,i3,k _⟩
theorem qa {T:TypeId} {x:Operand} {ax:PV} {cs:List PV} (hx:ρ.ev x=ax) [hC:Dq ax cs] (k:AW P N all K fl.tail os (CT ρ d (.pt cs 0)) L) (hd:Nat.blt d N=true:=by rfl):
  AW P N all K fl (⟨some d,.box T x,ty,pos,af,none⟩::os) ρ L:=
 Bb hd (fun a w g ha hi=>by
  have h:=ib (P:=P) (T:=T) (dst:=some d) (gd:=none) (ty:=ty) (pos:=pos) (af:=af) (L:=L) (Ψ:=fun x L'=> ∃ b,x= .raw (.pointer (some ⟨b,0,none⟩))∧L'= .box b T cs::L) (hx ▸ hC.out) (fun b=>⟨b,rfl,rfl⟩) a w g ha hi
  refine h.mono ?_
  rintro a' w' ⟨v,x,g',L',rfl,hv,hi',hs,hw,b,rfl,rfl⟩
  obtain⟨g'',k1,k2,k3,k4⟩:=hi'.freeze (.refl _)
  refine⟨v,_,g'',L,rfl,?_,k1,hs.trans hw k2,hw.trans hs.size k3,rfl,rfl⟩
  rw[hv.raw_inv];exact k4) k
theorem Xz (i:Nat) {b T:Nat} {cs:List PV} {L':List Res} (hp:L.Perm (.box b T cs::L')) (hi:ρ i= .raw (.pointer (some ⟨b,0,none⟩))) (k:EB P N c Q (CT ρ i (.pt cs 0)) L'):EB P N c Q ρ L:=
 HA (fun base a w g ha hI=>by
  obtain⟨g',h1,h2,h3,h4⟩:=hI.freeze hp
  refine⟨g',⟨ha.size,ha.defers.mono h2.le,fun j=>?_⟩,h1,h2,h3⟩
  have hj:=(ha.slot j).mono h2.le
  by_cases e:j=i
  ·subst e
   rw[hi]at hj
   show VR g' _ (CT ρ j _ j)
   rw[C4,hj.raw_inv];exact h4
  ·show VR g' _ (CT ρ i _ j)
   rw[GM _ _ e];exact hj) k
theorem Ag (i:Nat) {b T:Nat} {cs:List PV} (k:EB P N c Q (CT ρ i (.pt cs 0)) L) (hi:ρ i= .raw (.pointer (some ⟨b,0,none⟩)):=by rfl):EB P N c Q ρ (.box b T cs::L):=Xz i (.refl _) hi k
theorem Ow {f:Nat} {xs:List Operand} {dst:Option Nat} {gd:Option (Nat × Bool)} {cs:List PV} (hx:xs.map ρ.ev=cs):fC P ⟨dst,.makeFunc (.func f) #[] xs.toArray,ty,pos,af,gd⟩ ρ L (.clo f cs):=B7 fun a w g ha hi=>by
 refine⟨.func (.func f) #[] (xs.map a.eval).toArray,by simp[execOp,Instr.makeFunc],E5.clo f ?_⟩
 subst hx
 refine⟨by simp,fun i h1 h2=>?_⟩
 simp only[BT]
 exact ha _ (by simp[Op.operands])
theorem qY {f:Nat} {x0:Operand} {a0:PV} (q0:ρ.ev x0=a0) (k:AW P N all K fl.tail os (CT ρ d (.clo f [a0])) L) (hd:Nat.blt d N=true:=by rfl):AW P N all K fl (⟨some d,.makeFunc (.func f) #[] #[x0],ty,pos,af,none⟩::os) ρ L:=
 Bb hd (Ow (xs:= [x0]) (by simp[q0])) k
theorem qX {f:Nat} {x0 x1:Operand} {a0 a1:PV} (q0:ρ.ev x0=a0) (q1:ρ.ev x1=a1) (k:AW P N all K fl.tail os (CT ρ d (.clo f [a0,a1])) L) (hd:Nat.blt d N=true:=by rfl):AW P N all K fl (⟨some d,.makeFunc (.func f) #[] #[x0,x1],ty,pos,af,none⟩::os) ρ L:=
 Bb hd (Ow (xs:= [x0,x1]) (by simp[q0,q1])) k
theorem qW {f:Nat} {x0 x1 x2:Operand} {a0 a1 a2:PV} (q0:ρ.ev x0=a0) (q1:ρ.ev x1=a1) (q2:ρ.ev x2=a2) (k:AW P N all K fl.tail os (CT ρ d (.clo f [a0,a1,a2])) L) (hd:Nat.blt d N=true:=by rfl):AW P N all K fl (⟨some d,.makeFunc (.func f) #[] #[x0,x1,x2],ty,pos,af,none⟩::os) ρ L:=
 Bb hd (Ow (xs:= [x0,x1,x2]) (by simp[q0,q1,q2])) k
theorem aA (f:Nat) (cs:Array Value) (args:Array Value) (w:World):(Deferred.ofValue (.func (.func f) #[] cs) args).run P w= .ok { target:= .fn (.func f) cs,args:=args } w:=by
 simp[Deferred.ofValue]
theorem jd {dst:Option Nat} {x:Operand} {xs:List Operand} {ats:Array TypeId} {gd:Option (Nat × Bool)} {f:Nat} {cs:List Value} {ev:Operand→Value} {w:World} (hent: ∀ vs w,(callFunc f vs).run P w= .ok (.enter f vs) w) (hx:ev x= .func (.func f) #[] cs.toArray):
  (execOp ev ⟨dst,.call { callee:= .value x,args:=xs.toArray,argTypes:=ats },ty,pos,af,gd⟩).run P w= .ok (.enter f (xs.map ev++cs).toArray) w:=by
 simp only[execOp,resolve,hx,Sem.run_bind,aA,Result.andThen_ok,invoke,hent]
 simp
theorem Ud {dst:Option Nat} {x:Operand} {xs:List Operand} {ats:Array TypeId} {gd:Option (Nat × Bool)} {f:Nat} {cs:List PV} {L₁ LF:List Res} {Ψ:PV→List Res→Prop} {args:List PV} [hf:Av P f]
  (hx:Le (ρ.ev x) (.clo f cs)) (hargs:xs.map ρ.ev++cs=args) (hp:L.Perm (L₁++LF)) (hc:B2 P f args L₁ (fun r L'=>Ψ r (L'++LF))):
  FW P ⟨dst,.call { callee:= .value x,args:=xs.toArray,argTypes:=ats },ty,pos,af,gd⟩ ρ L Ψ:=by
 refine FW.perm hp fun a w g ha hi=>?_
 obtain⟨vs,h1,h2⟩:=(hx g _ (ha x (by simp[Op.operands,Call.operands]))).clo_inv
 have hvs:E5 g (xs.map a.eval++vs) args:=by
  subst hargs
  refine E5.append ⟨by simp,fun i h1 h2=>?_⟩ h2
  simp only[BT]
  exact ha _ (by simp[Op.operands,Call.operands])
 refine Oper.wq_of_run (jd hf.out h1) ?_
 refine(hc _ w g LF hvs hi).mono ?_
 rintro e w' ⟨v,x,g',L',rfl,h2,h3,h4,h5,h6⟩
 exact⟨v,x,g',L'++LF,rfl,h2,h3,h4,h5,h6⟩
theorem B2.args {f:FuncId} {ys bs:List PV} {L₁:List Res} {R:PV→List Res→Prop} (hl:ys.length=bs.length) (h: ∀ i (h1:i < ys.length) (h2:i < bs.length),Le ys[i] bs[i]) (hc:B2 P f bs L₁ R):B2 P f ys L₁ R:=
 fun vs w g LF hv hi=>hc vs w g LF ⟨hv.len.trans hl,fun i h1 h2=>h i (by omega) h2 g _ (hv.at_ i h1 (by omega))⟩ hi
theorem Bn {x:Operand} {xs:List Operand} {xa:Array Operand} {ats:Array TypeId} {f:Nat} {cs args:List PV} (L₁ LF:List Res) [hf:Av P f]
  (hx:Le (ρ.ev x) (.clo f cs)) (hxa:xa=xs.toArray) (hargs:xs.map ρ.ev++cs=args) (hp:L.Perm (L₁++LF)) (R:PV→List Res→Prop) (hc:B2 P f args L₁ R) (k: ∀ r L',R r L'→AW P N all K fl.tail os (CT ρ d r) (L'++LF)) (hd:Nat.blt d N=true:=by rfl) (hfl:fl.headD true=true:=by rfl):
  AW P N all K fl (⟨some d,.call { callee:= .value x,args:=xa,argTypes:=ats },ty,pos,af,none⟩::os) ρ L:=by
 subst hxa
 exact Dp rfl (QF hd) hfl (Ud hx hargs hp (hc.mono fun r L' h=>k r L' h))
theorem Vh {x:Operand} {xs:List Operand} {xa:Array Operand} {ats:Array TypeId} {f:Nat} {cs args:List PV} {X:PV} [hf:Av P f]
  (hx:Le (ρ.ev x) (.clo f cs)) (hxa:xa=xs.toArray) (hargs:xs.map ρ.ev++cs=args) (hc:Fn P f args X) (k:AW P N all K fl.tail os (CT ρ d X) L) (hd:Nat.blt d N=true:=by rfl):
  AW P N all K fl (⟨some d,.call { callee:= .value x,args:=xa,argTypes:=ats },ty,pos,af,none⟩::os) ρ L:=by
 subst hxa
 exact Bb hd (Ud hx hargs (.refl _) (L₁:= []) (hc.mono fun r L' ⟨e1,e2⟩=>by subst e1;subst e2;exact⟨rfl,rfl⟩)) k
end
theorem Ej.comp {B B₁:List Nat} {w w₁ w₂:World} {g g₁ g₂:Gh} (h:Ej B w g w₁ g₁) (k:Ej B₁ w₁ g₁ w₂ g₂) (hB: ∀ b∈B₁,b < w.heap.size→b∈B):Ej B w g w₂ g₂:=
 ⟨k.os.trans h.os,k.tape.trans h.tape,⟨k.output.1.trans h.output.1,Cd h.output.2 k.output.2⟩,Cd h.size k.size,
  fun b hb hn=>by rw[k.keep b (FR hb h.size) (fun hm=>hn (hB b hm hb)),h.keep b hb hn],h.le.trans k.le,
  fun b hb hn=>by
   obtain⟨a1,a2⟩:=k.new b (FR hb h.size) (fun hm=>hn (hB b hm hb))
   obtain⟨b1,b2⟩:=h.new b hb hn
   exact⟨fun o=>by rw[a1,b1],by rw[a2,b2]⟩⟩
theorem Ej.put {B:List Nat} {w:World} {g:Gh} {l:Nat} (o:Obj) (hl:l∈B):Ej B w g (w.putObj l o) g:=
 ⟨rfl,rfl,⟨rfl,B4 _⟩,Dd (by simp[World.putObj]),fun k _ hn=>World.putObj_heap_other (fun e=>hn (e ▸ hl)),.refl g,fun _ _ _=>⟨fun _=>rfl,rfl⟩⟩
theorem DM.put {w:World} {g:Gh} {L:List Res} {l:Nat} (o:Obj) (hi:DM w g L) (hH: ∀ o,g.H l o=none) (hM:g.M l=none) (hl:l∉Ao L):DM (w.putObj l o) g L:=by
 have hk: ∀ k,k≠l→(w.putObj l o).heap[k]? =w.heap[k]?:=fun k hk=>World.putObj_heap_other hk
 refine⟨fun b i v h=>?_,fun b z h=>?_,fun r hr=>?_,hi.nodup,hi.glob⟩
 ·have:b≠l:=fun e=>by subst e;rw[hH]at h;cases h
  have h0:=hi.sat b i v h
  simp only[World.cell?]at h0 ⊢
  rw[hk b this];exact h0
 ·have:b≠l:=fun e=>by subst e;rw[hM]at h;cases h
  exact(hi.satM b z h).congr (hk b this)
 ·exact Res.holds_kept (.refl g) (hi.res r hr) fun b hb=>⟨hk b (fun e=>hl (Bo.2 ⟨r,hr,by rw[hb,e]⟩)),fun _=>rfl,rfl⟩
theorem DM.putRaw {w:World} {g:Gh} {L:List Res} {l:Nat} {o:Obj} (o':Obj) (hi:DM w g (.raw l o::L)):DM (w.putObj l o') g (.raw l o'::L):=by
 obtain⟨h1,h2,h3⟩:=hi.res _ (AK)
 have hnd:=hi.nodup
 simp only[Ao,BF,Res.block]at hnd
 have hn:=(CP.1 hnd).1
 have k:=(hi.sub (L6 _ _)).put o' h2 h3 hn
 refine⟨k.sat,k.satM,fun r hr=>?_,hi.nodup,hi.glob⟩
 rcases AI.1 hr with rfl|hr
 ·exact⟨World.putObj_heap_same (BK.1 h1).1,h2,h3⟩
 ·exact k.res r hr
theorem DM.addRaw {w:World} {g:Gh} {L:List Res} {l:Nat} {o:Obj} (hi:DM w g L) (h1:w.heap[l]? =some o) (h2: ∀ o,g.H l o=none) (h3:g.M l=none) (hl:l∉Ao L):DM w g (.raw l o::L):=
 ⟨hi.sat,hi.satM,fun r hr=>by
  rcases AI.1 hr with rfl|hr
  ·exact⟨h1,h2,h3⟩
  ·exact hi.res r hr,by simp only[Ao,BF,Res.block];exact CP.2 ⟨hl,hi.nodup⟩,hi.glob⟩
theorem DM.addKnow {w:World} {g:Gh} {L:List Res} {vs:List Value} {xs:List PV} (hi:DM w g L) (h:E5 g vs xs):DM w g (.know vs xs::L):=
 ⟨hi.sat,hi.satM,fun r hr=>by
  rcases AI.1 hr with rfl|hr
  ·exact h
  ·exact hi.res r hr,hi.nodup,hi.glob⟩
theorem DM.lt {w:World} {g:Gh} {L:List Res} (hi:DM w g L) {b:Nat} (hb:b∈Ao L):b < w.heap.size:=by
 obtain⟨r,hr,e⟩:=Bo.1 hb
 exact Res.holds_lt (hi.res r hr) e
theorem DM.fresh {w:World} {g:Gh} {L:List Res} (hi:DM w g L) {b:Nat} (hb:w.heap.size≤b):(∀ o,g.H b o=none)∧g.M b=none:=by
 constructor
 ·intro o
  cases h:g.H b o with
  |none=>rfl
  |some v=>have:=hi.sat _ _ _ h;simp[World.cell?,Bl hb]at this
 ·cases h:g.M b with
  |none=>rfl
  |some z=>exact absurd (hi.satM _ _ h).lt (by omega)
theorem DM.allocO {w:World} {g:Gh} {L:List Res} (hi:DM w g L) (o:Obj):DM (w.alloc o) g L∧Ej (Ao L) w g (w.alloc o) g:=by
 have hk: ∀ k,k < w.heap.size→(w.alloc o).heap[k]? =w.heap[k]?:=fun k hk=>by
  show(w.heap.push o)[k]? =_
  rw[HH,if_neg (by omega)]
 refine⟨⟨fun b i v h=>?_,fun b z h=>(hi.satM b z h).congr (hk b (hi.satM b z h).lt),fun r hr=>?_,hi.nodup,hi.glob⟩,⟨rfl,rfl,⟨rfl,B4 _⟩,by simp,fun k hlt _=>hk k hlt,.refl g,fun _ _ _=>⟨fun _=>rfl,rfl⟩⟩⟩
 ·have h0:=hi.sat b i v h
  have hb:b < w.heap.size:=by
   rcases BC b w.heap.size with h'|h'
   ·exact h'
   ·simp[World.cell?,Bl h']at h0
  simp only[World.cell?]at h0 ⊢
  rw[hk b hb];exact h0
 ·exact Res.holds_kept (.refl g) (hi.res r hr) fun b hb=>⟨hk b (hi.lt (Bo.2 ⟨r,hr,hb⟩)),fun _=>rfl,rfl⟩
def MV (P:Program) (l:Nat) (args:List PV) (L:List Res) (R:Bool→List Res→Prop):Prop:=
 ∀ (vs:List Value) (w:World) (g:Gh) (LF:List Res),E5 g vs args→DM w g (L++LF)→
   ∃ fn tmps assign body,(Instr.yield l vs.toArray).run P w= .ok (.round l fn tmps assign body) w∧
     RoundIn Fence.wide 0 P l fn tmps assign body w (fun e w'=> ∃ b g' L',e= .returned (.bool b)∧DM w' g' (L'++LF)∧Ej (Ao (L++LF)) w g w' g'∧DV w (L++LF) (L'++LF)∧R b L')
theorem MV.mono {P:Program} {l:Nat} {args:List PV} {L:List Res} {R R':Bool→List Res→Prop} (h:MV P l args L R) (hr: ∀ b L',R b L'→R' b L'):MV P l args L R':=fun vs w g LF hv hi=>by
 obtain⟨fn,tmps,assign,body,h1,h2⟩:=h vs w g LF hv hi
 exact⟨fn,tmps,assign,body,h1,RoundIn.mono h2 fun e w' ⟨b,g',L',k1,k2,k3,k4,k5⟩=>⟨b,g',L',k1,k2,k3,k4,hr _ _ k5⟩⟩
section
variable {P:Program} {N:Nat} {all:Array Oper} {K:Env→List Res→Prop} {fl:List Bool} {os:List Oper} {ρ:Env} {L:List Res} {Q:PPost} {c:Code} {d:Nat} {ty:TypeId} {pos:String} {af:Array Edge}
theorem dw {dst:Option Nat} {x:Operand} {xs:List Operand} {ats:Array TypeId} {gd:Option (Nat × Bool)} {l:Nat} {L₁ LF:List Res} {Ψ:PV→List Res→Prop} {args:List PV}
  (hx:ρ.ev x= .raw (.func (.yield l) #[] #[])) (hargs:xs.map ρ.ev=args) (hp:L.Perm (L₁++LF)) (hc:MV P l args L₁ (fun b L'=>Ψ (.raw (.bool b)) (L'++LF))):
  FW P ⟨dst,.call { callee:= .value x,args:=xs.toArray,argTypes:=ats },ty,pos,af,gd⟩ ρ L Ψ:=by
 refine FW.perm hp fun a w g ha hi=>?_
 have h1:=CW ha (x:=x) (by simp[Op.operands,Call.operands]) hx
 have hvs:E5 g (xs.map a.eval) args:=by
  subst hargs
  refine⟨by simp,fun i h1 h2=>?_⟩
  simp only[BT]
  exact ha _ (by simp[Op.operands,Call.operands])
 obtain⟨fn,tmps,assign,body,hy,hR⟩:=hc _ w g LF hvs hi
 have hr:(execOp a.eval ⟨dst,.call { callee:= .value x,args:=xs.toArray,argTypes:=ats },ty,pos,af,gd⟩).run P w= .ok (.round l fn tmps assign body) w:=by
  simp only[execOp,resolve,h1,Deferred.ofValue,Sem.run_bind,Sem.run_pure,Result.andThen_ok,invoke]
  simpa using hy
 refine Oper.wq_of_run hr ?_
 refine RoundIn.mono (F:=Fence.wide) (n:=0) hR ?_
 rintro e w' ⟨b,g',L',rfl,h2,h3,h4,h5⟩
 exact⟨.bool b,.raw (.bool b),g',L'++LF,rfl,.raw _,h2,h3,h4,h5⟩
theorem Hc {x:Operand} {xs:List Operand} {xa:Array Operand} {ats:Array TypeId} {l:Nat} {args:List PV} (L₁ LF:List Res) (hx:ρ.ev x= .raw (.func (.yield l) #[] #[])) (hxa:xa=xs.toArray) (hargs:xs.map ρ.ev=args) (hp:L.Perm (L₁++LF))
  (R:Bool→List Res→Prop) (hc:MV P l args L₁ R) (k: ∀ b L',R b L'→AW P N all K fl.tail os (CT ρ d (.raw (.bool b))) (L'++LF)) (hd:Nat.blt d N=true:=by rfl) (hfl:fl.headD true=true:=by rfl):
  AW P N all K fl (⟨some d,.call { callee:= .value x,args:=xa,argTypes:=ats },ty,pos,af,none⟩::os) ρ L:=by
 subst hxa
 exact Dp rfl (QF hd) hfl (dw hx hargs hp (hc.mono fun b L' h=>k b L' h))
end
def ZA (P:Program) (f:Nat) (caps:List PV) {α:Type} (enc:α→List PV) (xs:List α):Prop:=
 ∀ (l:Nat) (J Jx:List α→List Res→Prop),
   (∀ pre x L,(pre++ [x]) <+:xs→J pre L→MV P l (enc x) L (fun b L'=>(b=true∧J (pre++ [x]) L')∨(b=false∧Jx (pre++ [x]) L')))→
   ∀ L,J [] L→B2 P f (.raw (.func (.yield l) #[] #[])::caps) L (fun _ L'=>J xs L'∨ ∃ pre,Jx pre L')
@[reducible] def lH:Env→List Nat→List PV→Env
 |ρ,p::ps,x::xs=>lH (CT ρ p x) ps xs
 |ρ,_,_=>ρ
@[reducible] def kN {α σ:Type} (I Ix:List α→σ→Prop) (LL:σ→List Res→List Res) (LF:List Res) (pre:List α):PPost
 | .normal,_,L=> ∃ s,I pre s∧(LL s LF).Sublist L
 | .ret,_,L=> ∃ s,Ix pre s∧(LL s LF).Sublist L
 |_,_,_=>False
theorem Rv {g:Gh}: ∀ (ps:List Nat) (vs:List Value) (xs:List PV) (t:Array Value) (ρ:Env),E5 g vs xs→(∀ p∈ps,p < t.size)→(∀ i,VR g (t.getD i undef) (ρ i))→
  ((ps.zip vs).foldl (fun t (p:Nat × Value)=>t.setIfInBounds p.1 p.2) t).size=t.size∧ ∀ i,VR g (((ps.zip vs).foldl (fun t (p:Nat × Value)=>t.setIfInBounds p.1 p.2) t).getD i undef) (lH ρ ps xs i)
 | [],_,_,t,ρ,_,_,h=>⟨rfl,h⟩
 |p::ps,[],[],t,ρ,_,_,h=>⟨rfl,h⟩
 |p::ps,[],x::xs,t,ρ,hv,_,_=>by have:=hv.len;simp at this
 |p::ps,v::vs,[],t,ρ,hv,_,_=>by have:=hv.len;simp at this
 |p::ps,v::vs,x::xs,t,ρ,hv,hp,h=>by
  obtain⟨h1,h2⟩:=hv.uncons
  have:=Rv ps vs xs (t.setIfInBounds p v) (CT ρ p x) h2 (fun q hq=>by simpa using hp q (AD _ hq)) (fun i=>by
   by_cases e:i=p
   ·subst e
    have hlt:=hp i (AK)
    rw[C4];simp[hlt];exact h1
   ·rw[GM _ _ e]
    have:=h i
    simpa [fU (Ne.symm e)]using this)
  simpa using this
theorem VR.undef_any {g g':Gh} {x:PV} (h:VR g undef x):VR g' undef x:=by
 unfold undef at*
 cases h with
 |raw v=>exact .raw _
 |junk v=>exact .junk _
 |tuple hl h=>exact .tuple hl (fun i h1=>by simp at h1)
theorem Yz {ro:Option Nat} {n:Nat} {P:Program} {f:FuncId} {args:Array Value} {w:World} {R:Ending→World→Prop} (h:Calls P f args w R):CallsIn (ZJ ro) n P f args w R:=
 (callsIn_wide (n:=n)).2 h
section
variable {P:Program} {N:Nat} {ρ:Env} {L:List Res} {Q:PPost}
theorem SF {base ll D:Nat} {ro:Option Nat} {fn:FuncId} {ps:List Nat} {assign body:Code} {f:Nat} {caps:List PV} {vcaps:List Value} {α σ:Type} {enc:α→List PV} {xs:List α}
  {I Ix:List α→σ→Prop} {LL:σ→List Res→List Res} {s0:σ} {LF:List Res} {mark:List Deferred} {a:Act} {w w1:World} {g g1:Gh}
  (hit:ZA P f caps enc xs) (henc: ∀ x,(enc x).length=ps.length) (hps: ∀ p∈ps,p < N)
  (hLL: ∀ s LF',LL s LF'=LL s []++LF') (h0:I [] s0)
  (hbody: ∀ pre x s LF',(pre++ [x]) <+:xs→I pre s→EB P N assign (VN (EB P N body (kN I Ix LL LF' (pre++ [x]))) (fun _ _ _=>False)) (lH ρ ps (enc x)) (LL s LF'))
  (hdone: ∀ s,I xs s→Q .normal ρ (LL s LF)) (hstop: ∀ pre s,Ix pre s→Q .ret ρ (LL s LF))
  (hi0:DM w g (LL s0 LF)) (hcap:E5 g1 vcaps caps)
  (c1:w1.heap[ll]? =some (.loop { state:= .ready,pending:=none,fn,tmps:=a.tmps,params:=ps.toArray,assign,body,defers:=D })) (c2:w.heap.size≤ll)
  (c3:DM w1 g1 (LL s0 LF)) (c4:Ej (Ao (LL s0 LF)) w g w1 g1) (c5:(∀ o,g1.H ll o=none)∧g1.M ll=none) (c6:U6 base g1 N { a with defers:=mark++a.defers } ρ):
  CallsIn (ZJ ro) 0 P f (#[.func (.yield ll) #[] #[]]++vcaps.toArray) w1 (rangePost (ZJ ro) 0 P ll (R5 base N w g (LL s0 LF) Q) { a with defers:=mark++a.defers }):=by
 obtain⟨rec,hrec⟩: ∃ rec:LoopState→Option Code→Loop,rec=fun st pe=>{ state:=st,pending:=pe,fn,tmps:=a.tmps,params:=ps.toArray,assign,body,defers:=D }:=⟨_,rfl⟩
 replace c1:w1.heap[ll]? =some (.loop (rec .ready none)):=by rw[hrec];exact c1
 let kn:Res:= .know a.tmps.toList ((List.range N).map ρ)
 have hsz:a.tmps.size=N:=c6.size
 have hkn:E5 g1 a.tmps.toList ((List.range N).map ρ):=⟨by simp[hsz],fun i h1 h2=>by
  have:=c6.slot i
  simp at h1 h2 ⊢
  simpa [h1]using this⟩
 have hbig: ∀ g',g1.le g'→ ∀ i,N≤i→VR g' (a.tmps.getD i undef) (ρ i):=fun g' _ i hi=>by
  have:=c6.slot i
  have e:a.tmps.getD i undef=undef:=by simp[Bl (show a.tmps.size≤i by omega)]
  change VR g1 (a.tmps.getD i undef) (ρ i)at this
  rw[e]at this ⊢
  exact this.undef_any
 have hbig': ∀ g' i,N≤i→VR g' (a.tmps.getD i undef) (ρ i):=fun g' i hi=>by
  have:=c6.slot i
  have e:a.tmps.getD i undef=undef:=by simp[Bl (show a.tmps.size≤i by omega)]
  change VR g1 (a.tmps.getD i undef) (ρ i)at this
  rw[e]at this ⊢
  exact this.undef_any
 have hln:ll∉Ao (LL s0 LF):=fun h=>by have:=hi0.lt h;omega
 have hiJ:DM w1 g1 ((.raw ll (.loop (rec .ready none))::kn::LL s0 LF)++ []):=by
  rw[B1]
  exact(c3.addKnow hkn).addRaw c1 c5.1 c5.2 hln
 have hcall:=hit ll (fun pre L'=> ∃ s,I pre s∧L'= .raw ll (.loop (rec .ready none))::kn::LL s LF) (fun pre L'=> ∃ s,Ix pre s∧L'= .raw ll (.loop (rec .done (some .ret)))::kn::LL s LF) (by
  rintro pre x L1 hpre ⟨s,hI,rfl⟩ vs' w2 g2 LF2 hv hi2
  obtain⟨hl2,hH2,hM2⟩:=hi2.res _ (AK)
  have hlt2:=(BK.1 hl2).1
  have hk2:E5 g2 a.tmps.toList ((List.range N).map ρ):=hi2.res kn (by simp)
  have hnd2:=hi2.nodup
  have hLLa: ∀ s,LL s LF++LF2=LL s (LF++LF2):=fun s=>by rw[hLL s LF,hLL s (LF++LF2),AL]
  have hi3:DM w2 g2 (LL s (LF++LF2)):=hi2.sub (by
   rw[←hLLa]
   simp only[BM]
   exact .cons _ (.cons _ (.refl _)))
  have hln2:ll∉Ao (LL s (LF++LF2)):=by
   rw[←hLLa]
   simp only[Ao,BM,BF,Res.block]at hnd2
   exact(CP.1 hnd2).1
  have hvl:vs'.length=ps.length:=by rw[hv.len,henc]
  have hy:=run_yield (P:=P) (args:=vs'.toArray) hl2 (by rw[hrec];simp[hvl])
  rw[hrec]at hy
  refine⟨fn,_,assign,body,hy,?_⟩
  have hfold:((ps.toArray.zip vs'.toArray).foldl (fun tmps (x:Nat × Value)=>tmps.setIfInBounds x.1 x.2) a.tmps)=(ps.zip vs').foldl (fun tmps (x:Nat × Value)=>tmps.setIfInBounds x.1 x.2) a.tmps:=by simp
  have hslot:=Rv ps vs' (enc x) a.tmps ρ hv (fun p hp=>by rw[hsz];exact hps p hp) (fun i=>by
   rcases BC i N with h'|h'
   ·have:=hk2.at_ i (by simpa [hsz]using h') (by simpa using h')
    simp at this
    simpa [hsz,h']using this
   ·exact hbig' g2 i h')
  refine roundIn_of_wpIn (F:=Fence.wide) trivial ?_
  have hb:=hbody pre x s (LF++LF2) hpre hI (some ll) w2.heap.size { tmps:=(ps.zip vs').foldl (fun tmps (x:Nat × Value)=>tmps.setIfInBounds x.1 x.2) a.tmps,defers:= [] } w2 g2
   ⟨fun l e=>by cases e;exact⟨hln2,_,hl2⟩,B4 _,⟨by rw[hslot.1,hsz],.nil _ _,hslot.2⟩,hi3⟩
  rw[←hfold]at hb
  refine wpIn_mono hb ?_
  have hB: ∀ b∈Ao (LL s (LF++LF2)),b∈Ao ((.raw ll (.loop (rec .ready none))::kn::LL s LF)++LF2):=fun b hb=>by
   rw[←hLLa]at hb
   simp only[Ao,BM,BF,Res.block,kn]at hb ⊢
   exact AD _ hb
  have hlB:ll∈Ao ((.raw ll (.loop (rec .ready none))::kn::LL s LF)++LF2):=by simp[Ao,Res.block]
  rintro e a1 w3 ⟨ρ3,g3,L3,k1,k2,k3,k4,k5⟩
  cases e with
  |normal=>
   have hl3:w3.heap[ll]? =some (.loop (rec .ready none)):=(k3.keep ll hlt2 hln2).trans hl2
   obtain⟨n1,n2⟩:=k3.new ll hlt2 hln2
   have hln3:ll∉Ao L3:=fun h=>hln2 (k4 ll h hlt2)
   have hH3: ∀ o,g3.H ll o=none:=fun o=>by rw[n1,hH2]
   have hM3:g3.M ll=none:=by rw[n2,hM2]
   refine⟨_,run_beginRound hl3 (by rw[hrec]),?_⟩
   obtain⟨rb,hrb⟩: ∃ rb:Loop,rb= { rec .ready none with state:= .busy }:=⟨_,rfl⟩
   rw[←hrb]
   have hlt3:=(BK.1 hl3).1
   have hl3':(w3.putObj ll (.loop rb)).heap[ll]? =some (.loop rb):=World.putObj_heap_same hlt3
   have hsz3:(w3.putObj ll (.loop rb)).heap.size=w3.heap.size:=by simp[World.putObj]
   refine wpIn_mono (k5 (some ll) w2.heap.size a1 (w3.putObj ll (.loop rb)) g3 ⟨fun l e=>by cases e;exact⟨hln3,_,hl3'⟩,by rw[hsz3];exact k3.size,k1,k2.put _ hH3 hM3 hln3⟩) ?_
   have st3:Ej (Ao ((.raw ll (.loop (rec .ready none))::kn::LL s LF)++LF2)) w2 g2 (w3.putObj ll (.loop rb)) g3:=(k3.grow hB).comp (.put (B:= [ll]) _ (by simp)) (fun b hb _=>by simp at hb;subst hb;exact hlB)
   rintro e a4 w4 ⟨ρ4,g4,L4,m1,m2,m3,m4,m5⟩
   have hl4:w4.heap[ll]? =some (.loop rb):=(m3.keep ll (by rw[hsz3];exact hlt3) hln3).trans hl3'
   obtain⟨n3,n4⟩:=m3.new ll (by rw[hsz3];exact hlt3) hln3
   have hln4:ll∉Ao L4:=fun h=>hln3 (m4 ll h (by rw[hsz3];exact hlt3))
   have hH4: ∀ o,g4.H ll o=none:=fun o=>by rw[n3,hH3]
   have hM4:g4.M ll=none:=by rw[n4,hM3]
   have hlt4:=(BK.1 hl4).1
   have fin: ∀ (o:Obj) (s':σ),(LL s' (LF++LF2)).Sublist L4→
     DM (w4.putObj ll o) g4 ((.raw ll o::kn::LL s' LF)++LF2)∧Ej (Ao ((.raw ll (.loop (rec .ready none))::kn::LL s LF)++LF2)) w2 g2 (w4.putObj ll o) g4∧DV w2 ((.raw ll (.loop (rec .ready none))::kn::LL s LF)++LF2) ((.raw ll o::kn::LL s' LF)++LF2):=fun o s' hsub=>by
    have hin: ∀ b∈Ao (LL s' (LF++LF2)),b < w2.heap.size→b∈Ao (LL s (LF++LF2)):=fun b hb hlt=>
     k4 b (m4 b ((GD hsub).subset hb) (by rw[hsz3];exact FR hlt k3.size)) hlt
    refine⟨?_,?_,?_⟩
    ·have i4:=(m2.put o hH4 hM4 hln4).sub hsub
     have i5:=(i4.addKnow ((hk2.mono k3.le).mono m3.le)).addRaw (World.putObj_heap_same hlt4) hH4 hM4 (fun h=>hln4 ((GD hsub).subset h))
     have e:(.raw ll o::kn::LL s' LF)++LF2= .raw ll o::kn::LL s' (LF++LF2):=by simp only[BM,hLLa]
     rw[e];exact i5
    ·refine(st3.comp m3 fun b hb hlt=>?_).comp (.put (B:= [ll]) _ (by simp)) (fun b hb _=>by simp at hb;subst hb;exact hlB)
     exact hB b (k4 b hb hlt)
    ·intro b hb hlt
     simp only[BM,hLLa]at hb
     simp only[Ao,BF,Res.block,kn]at hb
     rcases AI.1 hb with rfl|hb
     ·exact hlB
     ·exact hB b (hin b hb hlt)
   cases e with
   |normal=>
    obtain⟨s',hI',hsub⟩:=m5
    have hr:=run_endRound (P:=P) none hl4
    have e1:({ rb with state:=if(none:Option Code).isNone=true then .ready else .done,pending:=none }:Loop)=rec .ready none:=by rw[hrb,hrec];rfl
    rw[e1]at hr
    obtain⟨f1,f2,f3⟩:=fin (.loop (rec .ready none)) s' hsub
    exact⟨_,_,hr,true,g4,_,rfl,f1,f2,f3,.inl ⟨rfl,s',hI',rfl⟩⟩
   |ret=>
    obtain⟨s',hI',hsub⟩:=m5
    have hr:=run_endRound (P:=P) (some .ret) hl4
    have e1:({ rb with state:=if(some Code.ret:Option Code).isNone=true then .ready else .done,pending:=some .ret }:Loop)=rec .done (some .ret):=by rw[hrb,hrec];rfl
    rw[e1]at hr
    obtain⟨f1,f2,f3⟩:=fin (.loop (rec .done (some .ret))) s' hsub
    exact⟨_,_,hr,false,g4,_,rfl,f1,f2,f3,.inr ⟨rfl,s',hI',rfl⟩⟩
   |_=>exact m5.elim
  |_=>exact k5.elim) (.raw ll (.loop (rec .ready none))::kn::LL s0 LF) ⟨s0,h0,rfl⟩ (.func (.yield ll) #[] #[]::vcaps) w1 g1 [] (.cons (.raw _) hcap) hiJ
 have eargs:(#[Value.func (.yield ll) #[] #[]]++vcaps.toArray)=(Value.func (.yield ll) #[] #[]::vcaps).toArray:=by simp
 rw[eargs]
 refine CallsIn.mono (Yz hcall) ?_
 rintro e w2 ⟨v,x,g2,L2,rfl,hv,hi2,hs2,sx,hJ⟩
 rw[B1]at hi2 hs2 sx
 rw[B1]at sx
 have W1: ∀ b∈Ao (.raw ll (.loop (rec .ready none))::kn::LL s0 LF),b < w.heap.size→b∈Ao (LL s0 LF):=fun b hb hlt=>by
  simp only[Ao,BF,Res.block,kn]at hb
  rcases AI.1 hb with rfl|hb
  ·omega
  ·exact hb
 have fin: ∀ (s:σ) (o o':Obj),L2= .raw ll o::kn::LL s LF→DM (w2.putObj ll o') g2 (LL s LF)∧Ej (Ao (LL s0 LF)) w g (w2.putObj ll o') g2∧DV w (LL s0 LF) (LL s LF):=fun s o o' e=>by
  subst e
  refine⟨(hi2.putRaw o').sub (.cons _ (.cons _ (.refl _))),(c4.comp hs2 W1).comp (.put (B:= [ll]) _ (by simp)) (fun b hb hlt=>by simp at hb;omega),fun b hb hlt=>?_⟩
  exact W1 b (sx b (by simp only[Ao,BF,Res.block,kn];exact AD _ hb) (FR hlt c4.size)) hlt
 rcases hJ with ⟨s,hI,e2⟩|⟨pre,s,hIx,e2⟩
 ·obtain⟨hl2,_,_⟩:=hi2.res _ (by rw[e2];exact AK)
  obtain⟨f1,f2,f3⟩:=fin s _ (.loop { rec .ready none with state:= .exhausted }) e2
  have hr:=run_endLoop (P:=P) hl2 (by rw[hrec];simp)
  exact⟨none,_,by rw[hr,hrec],ρ,g2,_,c6.mono hs2.le,f1,f2,f3,hdone s hI⟩
 ·obtain⟨hl2,_,_⟩:=hi2.res _ (by rw[e2];exact AK)
  obtain⟨f1,f2,f3⟩:=fin s _ (.loop { rec .done (some .ret)with state:= .exhausted }) e2
  have hr:=run_endLoop (P:=P) hl2 (by rw[hrec];simp)
  exact⟨some .ret,_,by rw[hr,hrec],wpIn_ret ⟨ρ,g2,_,c6.mono hs2.le,f1,f2,f3,hstop pre s hIx⟩⟩
theorem VR.ev {base:Nat} {g:Gh} {a:Act} (h:U6 base g N a ρ) (x:Operand):VR g (a.eval x) (ρ.ev x):=by
 cases x with
 |tmp t=>exact h.slot t
 |const v=>exact .raw v
 |global k=>exact .raw _
 |func f=>exact .raw _
theorem HX {g0:Operand} {pa:Array Tmp} {assign body:Code} {f:Nat} {caps:List PV} {α σ:Type} {enc:α→List PV} {xs:List α} [hf:Av P f]
  (hit:ZA P f caps enc xs) (ps:List Nat) (I Ix:List α→σ→Prop) (LL:σ→List Res→List Res) (s0:σ) (LF:List Res)
  (hg:Le (ρ.ev g0) (.clo f caps)) (hpa:pa=ps.toArray) (henc: ∀ x,(enc x).length=ps.length) (hps: ∀ p∈ps,p < N)
  (hLL: ∀ s LF',LL s LF'=LL s []++LF') (hL:(LL s0 LF).Sublist L) (h0:I [] s0)
  (hbody: ∀ pre x s LF',(pre++ [x]) <+:xs→I pre s→EB P N assign (VN (EB P N body (kN I Ix LL LF' (pre++ [x]))) (fun _ _ _=>False)) (lH ρ ps (enc x)) (LL s LF'))
  (hdone: ∀ s,I xs s→Q .normal ρ (LL s LF)) (hstop: ∀ pre s,Ix pre s→Q .ret ρ (LL s LF)):EB P N (.rangeFunc g0 pa assign body) Q ρ L:=by
 refine MA (ρ':=ρ) (fun i=> .inl rfl) hL ?_
 subst hpa
 intro ro base a w g hs
 refine wpIn_rangeFunc (F:=ZJ ro) (n:=0) fun fn _=>?_
 obtain⟨vcaps,hv1,hv2⟩:=(hg g _ (VR.ev hs.agr g0)).clo_inv
 have hd:(ZJ ro).depth.isSome=true→1≤0:=fun h=>by simp[ZJ,Fence.wide]at h
 have hres: ∀ (e:Act) (ll:Nat) (w:World),e.tmps=a.tmps→(resolve a.eval (rangeCall g0 ll) 0).run P w= .ok { target:= .fn (.func f) vcaps.toArray,args:= #[.func (.yield ll) #[] #[]] } w:=fun e ll w _=>by
  simp only[resolve,rangeCall,hv1,Deferred.ofValue,Sem.run_pure]
  simp[Act.eval]
 cases ro with
 |none=>
  obtain⟨i1,s1⟩:=hs.inv.allocO (.deferred (some []))
  have hD:(w.alloc (.deferred (some []))).heap[w.heap.size]? =some (.deferred (some [])):=by show(w.heap.push _)[w.heap.size]? =_;simp
  obtain⟨hH0,hM0⟩:=hs.inv.fresh (b:=w.heap.size) (B4 _)
  let g1:Gh:={ g with M:=fun b=>if b=w.heap.size then some .mark else g.M b }
  have hle:g.le g1:=⟨fun _ _ _ h=>h,fun b z h=>by
   show(if b=w.heap.size then some .mark else g.M b)=_
   rw[if_neg (fun e=>by rw[e,hM0]at h;cases h)];exact h⟩
  have i2:DM (w.alloc (.deferred (some []))) g1 (LL s0 LF):=⟨i1.sat,fun b z h=>by
   change (if b=w.heap.size then some .mark else g.M b)=some z at h
   split at h
   ·rename_i e;subst e;cases h;exact hD
   ·exact i1.satM b z h,fun r hr=>Res.holds_kept hle (i1.res r hr) fun b hb=>⟨rfl,fun _=>rfl,by
     show(if b=w.heap.size then some .mark else g.M b)=_
     rw[if_neg]
     intro e
     have:=hs.inv.lt (Bo.2 ⟨r,hr,hb⟩)
     omega⟩,i1.nodup,i1.glob.mono hle⟩
  have s2:Ej (Ao (LL s0 LF)) w g (w.alloc (.deferred (some []))) g1:=⟨s1.os,s1.tape,s1.output,s1.size,s1.keep,hle,fun k hk hn=>⟨fun _=>rfl,by
   show(if k=w.heap.size then some .mark else g.M k)=_
   rw[if_neg (by omega)]⟩⟩
  let o:Obj:= .loop { state:= .ready,pending:=none,fn,tmps:=a.tmps,params:=ps.toArray,assign,body,defers:=w.heap.size }
  obtain⟨i3,s3⟩:=i2.allocO o
  have hsz1:(w.alloc (.deferred (some []))).heap.size=w.heap.size+1:=by simp
  refine⟨w.heap.size+1,[W4 w.heap.size],(w.alloc (.deferred (some []))).alloc o,_,(w.alloc (.deferred (some []))).alloc o,f,#[.func (.yield (w.heap.size+1)) #[] #[]]++vcaps.toArray,(w.alloc (.deferred (some []))).alloc o,run_enterLoop_outer _ _ _ _ _,hres a _ _ rfl,fun _ _=>trivial,?_,hd,?_⟩
  ·simp only[invoke,hf.out]
  ·refine SF (g1:=g1) (mark:= [W4 w.heap.size]) (D:=w.heap.size) (fn:=fn) (enc:=enc) hit henc hps hLL h0 hbody hdone hstop hs.inv (hv2.mono hle) ?_ (by omega) i3 (s2.comp s3 (fun b hb _=>hb)) ?_ ?_
   ·have:((w.alloc (.deferred (some []))).alloc o).heap[(w.alloc (.deferred (some []))).heap.size]? =some o:=World.alloc_heap_new _ o
    rw[hsz1]at this;exact this
   ·exact i2.fresh (by rw[hsz1];exact B4 _)
   ·refine⟨hs.agr.size,⟨?_⟩,fun i=>(hs.agr.slot i).mono hle⟩
    obtain⟨Ds,e1,e2,e3⟩:=hs.agr.defers.out
    refine⟨w.heap.size::Ds,by simp[e1],CP.2 ⟨fun hm=>?_,e2⟩,fun D hD=>?_⟩
    ·have:=(e3 _ hm).2;rw[hM0]at this;cases this
    ·rcases AI.1 hD with rfl|hD
     ·exact⟨hs.low,by show(if w.heap.size=w.heap.size then some .mark else g.M w.heap.size)=_;simp⟩
     ·exact⟨(e3 D hD).1,hle.M _ _ (e3 D hD).2⟩
 |some l₀=>
  obtain⟨hn,r₀,hr₀⟩:=hs.ro l₀ rfl
  let o:Obj:= .loop { state:= .ready,pending:=none,fn,tmps:=a.tmps,params:=ps.toArray,assign,body,defers:=r₀.defers }
  obtain⟨i3,s3⟩:=hs.inv.allocO o
  refine⟨w.heap.size,[],w.alloc o,_,w.alloc o,f,#[.func (.yield w.heap.size) #[] #[]]++vcaps.toArray,w.alloc o,run_enterLoop_inner hr₀ _ _ _ _ _,hres a _ _ rfl,fun _ _=>trivial,?_,hd,?_⟩
  ·simp only[invoke,hf.out]
  ·refine SF (g1:=g) (mark:= []) (D:=r₀.defers) (fn:=fn) (enc:=enc) hit henc hps hLL h0 hbody hdone hstop hs.inv hv2 ?_ (B4 _) i3 s3 ?_ ?_
   ·show(w.heap.push o)[_]? =_;simp[o]
   ·exact hs.inv.fresh (B4 _)
   ·exact⟨hs.agr.size,hs.agr.defers,hs.agr.slot⟩
end
end Go.Q
