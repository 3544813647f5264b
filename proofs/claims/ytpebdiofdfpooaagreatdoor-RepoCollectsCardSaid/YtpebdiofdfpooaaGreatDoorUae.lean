/- The small logic: a walk that goes by itself (printed by a program). Library, no statement of its own. -/
import Derived.Test.YtpebdiofdfpooaaGreatDoorUad
import Derived.RangeFuncNested
set_option linter.unusedSimpArgs false
set_option linter.unusedVariables false
namespace Go.Q
open Go
section
variable {P:Program} {N:Nat} {all:Array Oper} {K:Env→List Res→Prop} {fl:List Bool} {os:List Oper} {ρ:Env} {L:List Res} {Q:PPost} {c:Code} {ty:TypeId} {pos:String} {af:Array Edge}
theorem og {j:Nat} {b:Bool} {o:Op} {dst:Option Nat} (k:AY P N all K fl (⟨dst,o,ty,pos,af,some (j,b)⟩::os) ρ L):AY P N all K fl (⟨dst,o,ty,pos,af,some (j,b)⟩::os) ρ L:=k
theorem ke {x:Operand} {dst:Option Nat} (k:AY P N all K fl (⟨dst,.move x,ty,pos,af,none⟩::os) ρ L):AY P N all K fl (⟨dst,.move x,ty,pos,af,none⟩::os) ρ L:=k
theorem ZI {x:Operand} {dst:Option Nat} (k:AY P N all K fl (⟨dst,.assign x,ty,pos,af,none⟩::os) ρ L):AY P N all K fl (⟨dst,.assign x,ty,pos,af,none⟩::os) ρ L:=k
theorem kf {T:TypeId} {x:Operand} {dst:Option Nat} (k:AY P N all K fl (⟨dst,.load T x,ty,pos,af,none⟩::os) ρ L):AY P N all K fl (⟨dst,.load T x,ty,pos,af,none⟩::os) ρ L:=k
theorem qo {S f:Nat} {x:Operand} {dst:Option Nat} (k:AY P N all K fl (⟨dst,.fieldAddr S x f,ty,pos,af,none⟩::os) ρ L):AY P N all K fl (⟨dst,.fieldAddr S x f,ty,pos,af,none⟩::os) ρ L:=k
theorem qn {x:Operand} {T:TypeId} {dst:Option Nat} (k:AY P N all K fl (⟨dst,.call { callee:= .builtin .len,args:= #[x],argTypes:= #[T] },ty,pos,af,none⟩::os) ρ L):AY P N all K fl (⟨dst,.call { callee:= .builtin .len,args:= #[x],argTypes:= #[T] },ty,pos,af,none⟩::os) ρ L:=k
theorem bO {f:Nat} {xs:Array Operand} {ats:Array TypeId} {dst:Option Nat} (k:AY P N all K fl (⟨dst,.call { callee:= .value (.func f),args:=xs,argTypes:=ats },ty,pos,af,none⟩::os) ρ L):AY P N all K fl (⟨dst,.call { callee:= .value (.func f),args:=xs,argTypes:=ats },ty,pos,af,none⟩::os) ρ L:=k
theorem da {o:BinOp} {T T₂:TypeId} {x y:Operand} {dst:Option Nat} (k:AY P N all K fl (⟨dst,.binOp o T x y T₂,ty,pos,af,none⟩::os) ρ L):AY P N all K fl (⟨dst,.binOp o T x y T₂,ty,pos,af,none⟩::os) ρ L:=k
theorem wj {T:TypeId} {x y:Operand} {dst:Option Nat} (k:AY P N all K fl (⟨dst,.indexAddr T x y,ty,pos,af,none⟩::os) ρ L):AY P N all K fl (⟨dst,.indexAddr T x y,ty,pos,af,none⟩::os) ρ L:=k
theorem wm {i:Nat} {x:Operand} {dst:Option Nat} (k:AY P N all K fl (⟨dst,.extract x i,ty,pos,af,none⟩::os) ρ L):AY P N all K fl (⟨dst,.extract x i,ty,pos,af,none⟩::os) ρ L:=k
theorem tG {c x y:Operand} {dst:Option Nat} (k:AY P N all K fl (⟨dst,.pick c x y,ty,pos,af,none⟩::os) ρ L):AY P N all K fl (⟨dst,.pick c x y,ty,pos,af,none⟩::os) ρ L:=k
theorem wh {o:UnOp} {T:TypeId} {x:Operand} {dst:Option Nat} (k:AY P N all K fl (⟨dst,.unOp o T x,ty,pos,af,none⟩::os) ρ L):AY P N all K fl (⟨dst,.unOp o T x,ty,pos,af,none⟩::os) ρ L:=k
theorem XI {T:TypeId} {x y:Operand} {dst:Option Nat} (k:AY P N all K fl (⟨dst,.store T x y,ty,pos,af,none⟩::os) ρ L):AY P N all K fl (⟨dst,.store T x y,ty,pos,af,none⟩::os) ρ L:=k
theorem wt {T n:Nat} {ps:Array (Nat × Operand)} {dst:Option Nat} (k:AY P N all K fl (⟨dst,.buildSlice T n ps,ty,pos,af,none⟩::os) ρ L):AY P N all K fl (⟨dst,.buildSlice T n ps,ty,pos,af,none⟩::os) ρ L:=k
theorem dZ {T:Nat} {ps:Array (Nat × Operand)} {dst:Option Nat} (k:AY P N all K fl (⟨dst,.build T ps,ty,pos,af,none⟩::os) ρ L):AY P N all K fl (⟨dst,.build T ps,ty,pos,af,none⟩::os) ρ L:=k
theorem XJ {T:TypeId} {x:Operand} {lo hi mx:Option Operand} {dst:Option Nat} (k:AY P N all K fl (⟨dst,.slice T x lo hi mx,ty,pos,af,none⟩::os) ρ L):AY P N all K fl (⟨dst,.slice T x lo hi mx,ty,pos,af,none⟩::os) ρ L:=k
theorem kg {S T:TypeId} {x:Operand} {dst:Option Nat} (k:AY P N all K fl (⟨dst,.convert S T x,ty,pos,af,none⟩::os) ρ L):AY P N all K fl (⟨dst,.convert S T x,ty,pos,af,none⟩::os) ρ L:=k
theorem dY {T:TypeId} {x y:Operand} {dst:Option Nat} (k:AY P N all K fl (⟨dst,.index T x y,ty,pos,af,none⟩::os) ρ L):AY P N all K fl (⟨dst,.index T x y,ty,pos,af,none⟩::os) ρ L:=k
theorem wi {x:Operand} {dst:Option Nat} (k:AY P N all K fl (⟨dst,.nilCheck x,ty,pos,af,none⟩::os) ρ L):AY P N all K fl (⟨dst,.nilCheck x,ty,pos,af,none⟩::os) ρ L:=k
structure O5 (B:Prop):Prop where
 out:B
structure Ks {α:Type} (B:α→Prop):Prop where
 out: ∀ a,B a
theorem oH {A B:Prop} (k:B) (h:O5 B→A:=by
  intro hB
  first
   |(refine og ?_;first|refine Yj rfl (by rfl) ?_|refine fI rfl (by first|((conv=>lhs;whnf);done)|fail) (by assumption) ?_|refine Yk rfl (by first|((conv=>lhs;whnf);done)|fail) (by assumption) ?_|refine Yl rfl (by first|((conv=>lhs;whnf);done)|fail) (by assumption) ?_|refine jo rfl (by rfl) ?_|refine Yk rfl (by rfl) rfl ?_|refine Yl rfl (by rfl) rfl ?_)
   |(refine ke ?_;first|refine KA (by(conv=>lhs;whnf);done) ?_)
   |(refine ZI ?_;first|refine VS (by(conv=>lhs;whnf);done) ?_)
   |(refine kf ?_;first|refine YI (by rfl) (hl:=(by first|infer_instance|fail)) ?_|refine cX (by rfl) rfl ?_|refine YG (by rfl) (by repeat(first|exact AI|apply AD)) (hl:=(by first|infer_instance|fail)) ?_|refine Sl (by rfl) (by repeat(first|exact AI|apply AD)) (hs:=(by first|infer_instance|fail)) ?_|refine j0 (by rfl) (by repeat(first|exact AI|apply AD)) (hs:=(by first|infer_instance|fail)) ?_|refine cY (by rfl) (by repeat(first|exact AI|apply AD)) (by omega) ?_|refine cW (by rfl) (by repeat(first|exact AI|apply AD)) (by omega) ?_)
   |(refine qo ?_;first|refine aQ (by rfl) (hr:=(by first|infer_instance|fail)) ?_|refine cd (by rfl) (by(conv=>lhs;whnf);done) ?_)
   |(refine qn ?_;first|refine jB (by rfl) ?_|refine jA (by(conv=>lhs;whnf);done) (jx:=(by first|infer_instance|fail)) ?_|refine jC (by rfl) ?_)
   |(refine bO ?_;first|refine XE (by(conv=>lhs;whnf);done) (hN0:=(by first|infer_instance|fail)) (hc:=(by first|infer_instance|fail)) ?_|refine dU (by(conv=>lhs;whnf);done) (by(conv=>lhs;whnf);done) (hN0:=(by first|infer_instance|fail)) (hN1:=(by first|infer_instance|fail)) (hc:=(by first|infer_instance|fail)) ?_|refine dT (by(conv=>lhs;whnf);done) (by(conv=>lhs;whnf);done) (by(conv=>lhs;whnf);done) (hN0:=(by first|infer_instance|fail)) (hN1:=(by first|infer_instance|fail)) (hN2:=(by first|infer_instance|fail)) (hc:=(by first|infer_instance|fail)) ?_|refine dV (hc:=(by first|infer_instance|fail)) ?_|refine dS (by(conv=>lhs;whnf);done) (by(conv=>lhs;whnf);done) (by(conv=>lhs;whnf);done) (by(conv=>lhs;whnf);done) (hN0:=(by first|infer_instance|fail)) (hN1:=(by first|infer_instance|fail)) (hN2:=(by first|infer_instance|fail)) (hN3:=(by first|infer_instance|fail)) (hc:=(by first|infer_instance|fail)) ?_|refine j_call5 (by(conv=>lhs;whnf);done) (by(conv=>lhs;whnf);done) (by(conv=>lhs;whnf);done) (by(conv=>lhs;whnf);done) (by(conv=>lhs;whnf);done) (hN0:=(by first|infer_instance|fail)) (hN1:=(by first|infer_instance|fail)) (hN2:=(by first|infer_instance|fail)) (hN3:=(by first|infer_instance|fail)) (hN4:=(by first|infer_instance|fail)) (hc:=(by first|infer_instance|fail)) ?_|refine j_call6 (by(conv=>lhs;whnf);done) (by(conv=>lhs;whnf);done) (by(conv=>lhs;whnf);done) (by(conv=>lhs;whnf);done) (by(conv=>lhs;whnf);done) (by(conv=>lhs;whnf);done) (hN0:=(by first|infer_instance|fail)) (hN1:=(by first|infer_instance|fail)) (hN2:=(by first|infer_instance|fail)) (hN3:=(by first|infer_instance|fail)) (hN4:=(by first|infer_instance|fail)) (hN5:=(by first|infer_instance|fail)) (hc:=(by first|infer_instance|fail)) ?_)
   |(refine g_bi ?_;first|refine s_min (by rfl) (by rfl) ?_|refine s_max (by rfl) (by rfl) ?_)
   |(refine da ?_;first|refine qS (by rfl) (by rfl) ?_|refine qT (by rfl) (by rfl) ?_|refine vZ (by rfl) (by rfl) ?_|refine qV (by rfl) (by rfl) ?_|refine ve (by rfl) (by rfl) ?_|refine vW (by rfl) (by rfl) ?_|refine qb (by rfl) (by rfl) (by constructor<;>omega) ?_|refine qM (by rfl) (by rfl) (by constructor<;>omega) ?_|refine nU (by rfl) (by rfl) ?_|refine nS (by rfl) (by rfl) ?_|refine sD (by rfl) (by rfl) ?_|refine s9 (by rfl) (by rfl) ?_|refine vg (by(conv=>lhs;whnf);done) (by(conv=>lhs;whnf);done) (jx:=(by first|infer_instance|fail)) (jy:=(by first|infer_instance|fail)) ?_|refine vX (by(conv=>lhs;whnf);done) (by(conv=>lhs;whnf);done) (jx:=(by first|infer_instance|fail)) (jy:=(by first|infer_instance|fail)) ?_|refine s_eqB (by rfl) (by rfl) ?_|refine s_neB (by rfl) (by rfl) ?_|refine qX (by(conv=>lhs;whnf);done) (by(conv=>lhs;whnf);done) (jx:=(by first|infer_instance|fail)) (jy:=(by first|infer_instance|fail)) (by first|omega|(simp only[A8,AH,Aa,B4];omega)) ?_|refine qQ (by rfl) (by rfl) (by constructor<;>omega) ?_|refine YB (by rfl) (by rfl) (by omega) (by omega) ?_|refine YA (by rfl) (by rfl) (by omega) ?_|refine jS (by rfl) (by rfl) ?_|refine ib (by rfl) (by rfl) ?_|refine jR (by rfl) (by rfl) ?_|refine qN (by rfl) (by rfl) ?_|refine ir (by rfl) (by rfl) ?_|refine iw (by rfl) (by rfl) ?_|refine iu (by rfl) (by rfl) ?_|refine Wc (by rfl) (by rfl) (by omega) (by omega) ?_|refine We (by rfl) (by rfl) (by omega) ?_)
   |(refine wj ?_;first|refine jE (by rfl) (by rfl) (by omega) ?_|refine Q3 (by rfl) (by rfl) (by omega) ?_|refine jD (by rfl) (by rfl) (by omega) (by omega) ?_)
   |(refine wm ?_;first|refine ef (by rfl) rfl ?_)
   |(refine tG ?_;first|refine YC (by rfl) rfl (by(conv=>lhs;whnf);done) ?_|refine YD (by rfl) rfl (by(conv=>lhs;whnf);done) ?_|refine YC (by first|((conv=>lhs;whnf);done)|fail) (by assumption) (by(conv=>lhs;whnf);done) ?_|refine YD (by first|((conv=>lhs;whnf);done)|fail) (by assumption) (by(conv=>lhs;whnf);done) ?_)
   |(refine wh ?_;first|refine qO (by rfl) ?_|refine qP (by rfl) (by constructor<;>omega) ?_|refine iy (by rfl) ?_)
   |(refine XI ?_;first|refine im (by rfl) (by(conv=>lhs;whnf);done) (hC:=(by first|infer_instance|fail)) (hB:=(by first|infer_instance|fail)) (hp:=(by first|infer_instance|fail)) (hu:=(by first|infer_instance|fail)) (hf:=(by first|infer_instance|fail)) (hlen:=(by first|infer_instance|fail)) ?_|refine Y6 (by rfl) (by rfl) (hB:=(by first|infer_instance|fail)) (hu:=(by first|infer_instance|fail)) (hf:=(by first|infer_instance|fail)) (hlen:=(by first|infer_instance|fail)) (hcs:=(by first|infer_instance|fail)) ?_|refine Sj (by rfl) (by rfl) (by repeat(first|exact AI|apply AD)) (by omega) (hu:=(by first|infer_instance|fail)) ?_|refine Y7 (by rfl) (by rfl) (by repeat(first|exact AI|apply AD)) (by omega) (hu:=(by first|infer_instance|fail)) ?_)
   |(refine dZ ?_;first|refine YN ?_|refine VO ?_|refine lV (by(conv=>lhs;whnf);done) (hC0:=(by first|infer_instance|fail)) (hP0:=(by first|infer_instance|fail)) (hl0:=(by first|infer_instance|fail)) ?_|refine lU (by(conv=>lhs;whnf);done) (by(conv=>lhs;whnf);done) (hC0:=(by first|infer_instance|fail)) (hC1:=(by first|infer_instance|fail)) (hP0:=(by first|infer_instance|fail)) (hP1:=(by first|infer_instance|fail)) (hl0:=(by first|infer_instance|fail)) (hl1:=(by first|infer_instance|fail)) ?_|refine lS (by(conv=>lhs;whnf);done) (by(conv=>lhs;whnf);done) (by(conv=>lhs;whnf);done) (hC0:=(by first|infer_instance|fail)) (hC1:=(by first|infer_instance|fail)) (hC2:=(by first|infer_instance|fail)) (hP0:=(by first|infer_instance|fail)) (hP1:=(by first|infer_instance|fail)) (hP2:=(by first|infer_instance|fail)) (hl0:=(by first|infer_instance|fail)) (hl1:=(by first|infer_instance|fail)) (hl2:=(by first|infer_instance|fail)) ?_|refine lR (by(conv=>lhs;whnf);done) (by(conv=>lhs;whnf);done) (by(conv=>lhs;whnf);done) (by(conv=>lhs;whnf);done) (hC0:=(by first|infer_instance|fail)) (hC1:=(by first|infer_instance|fail)) (hC2:=(by first|infer_instance|fail)) (hC3:=(by first|infer_instance|fail)) (hP0:=(by first|infer_instance|fail)) (hP1:=(by first|infer_instance|fail)) (hP2:=(by first|infer_instance|fail)) (hP3:=(by first|infer_instance|fail)) (hl0:=(by first|infer_instance|fail)) (hl1:=(by first|infer_instance|fail)) (hl2:=(by first|infer_instance|fail)) (hl3:=(by first|infer_instance|fail)) ?_|refine lQ (by(conv=>lhs;whnf);done) (by(conv=>lhs;whnf);done) (by(conv=>lhs;whnf);done) (by(conv=>lhs;whnf);done) (by(conv=>lhs;whnf);done) (hC0:=(by first|infer_instance|fail)) (hC1:=(by first|infer_instance|fail)) (hC2:=(by first|infer_instance|fail)) (hC3:=(by first|infer_instance|fail)) (hC4:=(by first|infer_instance|fail)) (hP0:=(by first|infer_instance|fail)) (hP1:=(by first|infer_instance|fail)) (hP2:=(by first|infer_instance|fail)) (hP3:=(by first|infer_instance|fail)) (hP4:=(by first|infer_instance|fail)) (hl0:=(by first|infer_instance|fail)) (hl1:=(by first|infer_instance|fail)) (hl2:=(by first|infer_instance|fail)) (hl3:=(by first|infer_instance|fail)) (hl4:=(by first|infer_instance|fail)) ?_|refine lP (by(conv=>lhs;whnf);done) (by(conv=>lhs;whnf);done) (by(conv=>lhs;whnf);done) (by(conv=>lhs;whnf);done) (by(conv=>lhs;whnf);done) (by(conv=>lhs;whnf);done) (hC0:=(by first|infer_instance|fail)) (hC1:=(by first|infer_instance|fail)) (hC2:=(by first|infer_instance|fail)) (hC3:=(by first|infer_instance|fail)) (hC4:=(by first|infer_instance|fail)) (hC5:=(by first|infer_instance|fail)) (hP0:=(by first|infer_instance|fail)) (hP1:=(by first|infer_instance|fail)) (hP2:=(by first|infer_instance|fail)) (hP3:=(by first|infer_instance|fail)) (hP4:=(by first|infer_instance|fail)) (hP5:=(by first|infer_instance|fail)) (hl0:=(by first|infer_instance|fail)) (hl1:=(by first|infer_instance|fail)) (hl2:=(by first|infer_instance|fail)) (hl3:=(by first|infer_instance|fail)) (hl4:=(by first|infer_instance|fail)) (hl5:=(by first|infer_instance|fail)) ?_|refine b_build7 (by(conv=>lhs;whnf);done) (by(conv=>lhs;whnf);done) (by(conv=>lhs;whnf);done) (by(conv=>lhs;whnf);done) (by(conv=>lhs;whnf);done) (by(conv=>lhs;whnf);done) (by(conv=>lhs;whnf);done) (hC0:=(by first|infer_instance|fail)) (hC1:=(by first|infer_instance|fail)) (hC2:=(by first|infer_instance|fail)) (hC3:=(by first|infer_instance|fail)) (hC4:=(by first|infer_instance|fail)) (hC5:=(by first|infer_instance|fail)) (hC6:=(by first|infer_instance|fail)) (hP0:=(by first|infer_instance|fail)) (hP1:=(by first|infer_instance|fail)) (hP2:=(by first|infer_instance|fail)) (hP3:=(by first|infer_instance|fail)) (hP4:=(by first|infer_instance|fail)) (hP5:=(by first|infer_instance|fail)) (hP6:=(by first|infer_instance|fail)) (hl0:=(by first|infer_instance|fail)) (hl1:=(by first|infer_instance|fail)) (hl2:=(by first|infer_instance|fail)) (hl3:=(by first|infer_instance|fail)) (hl4:=(by first|infer_instance|fail)) (hl5:=(by first|infer_instance|fail)) (hl6:=(by first|infer_instance|fail)) ?_|refine b_build8 (by(conv=>lhs;whnf);done) (by(conv=>lhs;whnf);done) (by(conv=>lhs;whnf);done) (by(conv=>lhs;whnf);done) (by(conv=>lhs;whnf);done) (by(conv=>lhs;whnf);done) (by(conv=>lhs;whnf);done) (by(conv=>lhs;whnf);done) (hC0:=(by first|infer_instance|fail)) (hC1:=(by first|infer_instance|fail)) (hC2:=(by first|infer_instance|fail)) (hC3:=(by first|infer_instance|fail)) (hC4:=(by first|infer_instance|fail)) (hC5:=(by first|infer_instance|fail)) (hC6:=(by first|infer_instance|fail)) (hC7:=(by first|infer_instance|fail)) (hP0:=(by first|infer_instance|fail)) (hP1:=(by first|infer_instance|fail)) (hP2:=(by first|infer_instance|fail)) (hP3:=(by first|infer_instance|fail)) (hP4:=(by first|infer_instance|fail)) (hP5:=(by first|infer_instance|fail)) (hP6:=(by first|infer_instance|fail)) (hP7:=(by first|infer_instance|fail)) (hl0:=(by first|infer_instance|fail)) (hl1:=(by first|infer_instance|fail)) (hl2:=(by first|infer_instance|fail)) (hl3:=(by first|infer_instance|fail)) (hl4:=(by first|infer_instance|fail)) (hl5:=(by first|infer_instance|fail)) (hl6:=(by first|infer_instance|fail)) (hl7:=(by first|infer_instance|fail)) ?_)
   |(refine XJ ?_;first|refine Nb (by rfl) (by rfl) (by omega) ?_|refine jG (by rfl) (by rfl) (by omega) ?_|refine Wh (by(conv=>lhs;whnf);done) (by rfl) (by rfl) (jx:=(by first|infer_instance|fail)) (by omega) (by omega) (by omega) ?_|refine cf (by(conv=>lhs;whnf);done) (by rfl) (jx:=(by first|infer_instance|fail)) (by omega) (by omega) ?_|refine Y9 (by rfl) ?_)
   |(refine kg ?_;first|refine cu (by rfl) ?_|refine ch (by rfl) ?_|refine SK (by rfl) (by omega) ?_|refine ic (by rfl) ?_|refine Y5 (by rfl) (by repeat(first|exact AI|apply AD)) (hs:=(by first|infer_instance|fail)) ?_)
   |(refine dY ?_;first|refine YJ (by(conv=>lhs;whnf);done) (by rfl) (jx:=(by first|infer_instance|fail)) (by omega) ?_)
   |(refine wi ?_;first|refine YE (by rfl) ?_)
  exact hB.out):A:=h ⟨k⟩
theorem sg {A B:Prop} (k:B) (h:O5 B→A:=by
  intro hB
  first
   |(refine wt ?_;first|refine qZ ?_|refine qY (by(conv=>lhs;whnf);done) (hC0:=(by first|infer_instance|fail)) (hf:=(by first|infer_instance|fail)) (by decide) ?_|refine vl (by(conv=>lhs;whnf);done) (by(conv=>lhs;whnf);done) (hC0:=(by first|infer_instance|fail)) (hC1:=(by first|infer_instance|fail)) (hf:=(by first|infer_instance|fail)) (by decide) ?_|refine vk (by(conv=>lhs;whnf);done) (by(conv=>lhs;whnf);done) (by(conv=>lhs;whnf);done) (hC0:=(by first|infer_instance|fail)) (hC1:=(by first|infer_instance|fail)) (hC2:=(by first|infer_instance|fail)) (hf:=(by first|infer_instance|fail)) (by decide) ?_|refine vj (by(conv=>lhs;whnf);done) (by(conv=>lhs;whnf);done) (by(conv=>lhs;whnf);done) (by(conv=>lhs;whnf);done) (hC0:=(by first|infer_instance|fail)) (hC1:=(by first|infer_instance|fail)) (hC2:=(by first|infer_instance|fail)) (hC3:=(by first|infer_instance|fail)) (hf:=(by first|infer_instance|fail)) (by decide) ?_|refine vi (by(conv=>lhs;whnf);done) (by(conv=>lhs;whnf);done) (by(conv=>lhs;whnf);done) (by(conv=>lhs;whnf);done) (by(conv=>lhs;whnf);done) (hC0:=(by first|infer_instance|fail)) (hC1:=(by first|infer_instance|fail)) (hC2:=(by first|infer_instance|fail)) (hC3:=(by first|infer_instance|fail)) (hC4:=(by first|infer_instance|fail)) (hf:=(by first|infer_instance|fail)) (by decide) ?_|refine vh (by(conv=>lhs;whnf);done) (by(conv=>lhs;whnf);done) (by(conv=>lhs;whnf);done) (by(conv=>lhs;whnf);done) (by(conv=>lhs;whnf);done) (by(conv=>lhs;whnf);done) (hC0:=(by first|infer_instance|fail)) (hC1:=(by first|infer_instance|fail)) (hC2:=(by first|infer_instance|fail)) (hC3:=(by first|infer_instance|fail)) (hC4:=(by first|infer_instance|fail)) (hC5:=(by first|infer_instance|fail)) (hf:=(by first|infer_instance|fail)) (by decide) ?_)
  exact hB.out):A:=h ⟨k⟩
theorem Ad {A B:Prop} (k:B) (h:O5 B→A:=by
  intro hB
  repeat(first
   |refine AN ?_
   |refine oH ?_
   |refine sg ?_
   |refine DU ?_
   |refine CC (by kernel_rfl) ?_
   |refine IM ?_
   |refine GH ?_
   |refine KD ?_
   |refine HD ?_
   |refine DZ (by decide+kernel) ?_
   |refine IK (by rfl) ?_
   |refine IL (by rfl) ?_)
  exact hB.out):A:=h ⟨k⟩
theorem Bz {A B:Prop} (k:B) (h:O5 B→A:=by
  intro hB
  refine Ad ?_
  exact hB.out):A:=h ⟨k⟩
theorem DB {A:Prop} {B:Nat→Prop} (k: ∀ b,B b) (h:Ks B→A:=by
  intro hB
  refine Ad ?_
  first|refine YO (by rfl) fun b=>?_|refine BR fun b=>?_
  refine Ad ?_
  exact hB.out b):A:=h ⟨k⟩
theorem FI {A:Prop} {B:Nat→Prop} (k: ∀ b,B b) (h:Ks B→A:=by
  intro hB
  refine DB fun b=>?_
  exact hB.out b):A:=h ⟨k⟩
theorem Hh {A:Prop} {B:CW→Prop} (k: ∀ t,B t) (h:Ks B→A:=by
  intro hB
  refine Ad ?_
  first|refine VT (by rfl) (by rfl) (by simp only[A8,AH,Aa,AR,AV,Ao,B4];omega) (by simp only[A8,AH,Aa,AR,AV,Ao,B4];omega) fun t=>?_|refine Ka (by rfl) (by rfl) (by simp only[A8,AH,Aa,AR,AV,Ao,B4];omega) (by simp only[A8,AH,Aa,AR,AV,Ao,B4];omega) (fun t=>by first|exact .here|exact(.there .here)|exact(.there (.there .here))|exact(.there (.there (.there .here)))|exact(.there (.there (.there (.there .here))))|exact(.there (.there (.there (.there (.there .here)))))|exact(.there (.there (.there (.there (.there (.there .here))))))|exact(.there (.there (.there (.there (.there (.there (.there .here)))))))|exact(.there (.there (.there (.there (.there (.there (.there (.there .here))))))))) fun t=>?_
  refine Ad ?_
  exact hB.out t):A:=h ⟨k⟩
theorem IB {A:Prop} {B:CW→Prop} (k: ∀ t,B t) (h:Ks B→A:=by
  intro hB
  refine Hh fun t=>?_
  exact hB.out t):A:=h ⟨k⟩
end
section
variable {P:Program} {N:Nat} {all:Array Oper} {K:Env→List Res→Prop} {fl:List Bool} {os:List Oper} {ρ:Env} {L:List Res} {Q:PPost} {c:Code} {d:Nat} {ty:TypeId} {pos:String} {af:Array Edge}
theorem KN {K':Env→List Res→Prop} (hk: ∀ ρ L,K' ρ L→K ρ L): ∀ {os:List Oper} {fl:List Bool} {ρ:Env} {L:List Res},AY P N all K' fl os ρ L→AY P N all K fl os ρ L
 | [],_,_,_,h=>hk _ _ h
 |o::os,fl,ρ,L,h=>by
  obtain⟨hd,h⟩:=h
  refine⟨hd,?_⟩
  rcases h with ⟨hno,h⟩|⟨hy,h⟩
  ·exact .inl ⟨hno,KN hk h⟩
  ·refine .inr ⟨hy,?_⟩
   rcases h with ⟨x,hq,h⟩|⟨hf,h⟩
   ·exact .inl ⟨x,hq,KN hk h⟩
   ·exact .inr ⟨hf,h.mono fun x L' h=>KN hk h⟩
theorem B0 {y:Code} (E:List (Nat × PV)) (LL:List Res) (h:AY P N all (fun ρ L=>PC ρ E∧LL.Sublist L) fl os ρ L) (k:EG P N y Q (gf E) LL)
  (hK: ∀ ρ L,EG P N y Q ρ L→K ρ L:=by intro _ _ h;exact h):AY P N all K fl os ρ L:=
 KN (fun ρ' L' ⟨h1,h2⟩=>hK _ _ (SN E h1 h2 k)) h
theorem Kf {c y:Code} (F:Prop) (E:List (Nat × PV)) (LL:List Res) (h:EG P N c (WH (fun ρ L=>F∧PC ρ E∧LL.Sublist L) Q) ρ L) (k:F→EG P N y Q (gf E) LL):EG P N c (WH (EG P N y Q) Q) ρ L:=
 TK h fun e ρ' L' hq=>by
  cases e with
  |normal=>obtain⟨h1,h2,h3⟩:=hq;exact SN E h2 h3 (k h1)
  |_=>exact hq
theorem Ri {A B:Prop} (k:B) (h:O5 B→A:=by
  intro hB
  repeat(first
   |refine AN ?_
   |refine oH ?_
   |refine sg ?_
   |(refine da ?_;first|refine YB (by rfl) (by rfl) (by decide) (by omega) ?_|refine YA (by rfl) (by rfl) (by decide) ?_)
   |refine DU ?_
   |refine CC (by kernel_rfl) ?_
   |refine IM ?_
   |refine GH ?_
   |refine KD ?_
   |refine HD ?_
   |refine IK (by rfl) ?_
   |refine IL (by rfl) ?_)
  exact hB.out):A:=h ⟨k⟩
theorem aG {A:Prop} {B:Nat→Prop} (k: ∀ b,B b) (h:Ks B→A:=by
  intro hB
  refine Ri ?_
  first|refine YO (by rfl) fun b=>?_|refine BR fun b=>?_
  refine Ri ?_
  exact hB.out b):A:=h ⟨k⟩
theorem mz {A:Prop} {B:Nat→Prop} (k: ∀ b,B b) (h:Ks B→A:=by
  intro hB
  refine aG fun b=>?_
  exact hB.out b):A:=h ⟨k⟩
theorem dJ {T n sz by_:Nat} [hE:Fy P T sz by_] {xs:List Operand} {cs:List (List PV)} {dst:Option Nat} {gd:Option (Nat × Bool)} (hn:xs.length=n) (hl:cs.length=n) (h24:n*sz≤16777216) (hm:n≤maxN)
  (hx: ∀ i (h1:i < xs.length) (h2:i < cs.length),E4 (ρ.ev xs[i]) cs[i]∧cs[i].length=sz) {Ψ:PV→List Res→Prop} (k: ∀ t',Ψ (.slice cs t') (.tok t' n sz::L)):FZ P ⟨dst,.buildSlice T n ((xs.zipIdx.map fun p=>(p.2,p.1)).toArray),ty,pos,af,gd⟩ ρ L Ψ:=by
 intro a w g ha hi
 obtain⟨E,i,z,t1,t2,t3,t4,t5,t6,t7,t8⟩:=hE.out
 have hcell: ∀ i,i < n→ ∃ us:List Value,(∀ (h1:i < xs.length),(a.eval xs[i]).cells=us.toArray)∧(∀ (h2:i < cs.length),E8 g us cs[i]):=fun i h1=>by
  obtain⟨us,e1,e2⟩:=(hx i (by omega) (by omega)).1 g _ (ha xs[i] (UB (by omega)))
  exact⟨us,fun _=>e1,fun _=>e2⟩
 let F:Nat→List Value:=fun i=>by classical exact if h:i < n then Classical.choose (hcell i h)else []
 have hF: ∀ i (h:i < n),(∀ (h1:i < xs.length),(a.eval xs[i]).cells=(F i).toArray)∧(∀ (h2:i < cs.length),E8 g (F i) cs[i]):=fun i h=>by
  have:=MF (hcell i h)
  simp only[F,dif_pos h];exact this
 let vs:List (List Value):=(List.range n).map F
 have hvl:vs.length=n:=by simp[vs]
 have hvi: ∀ i (h:i < vs.length),vs[i]=F i:=fun i h=>by simp[vs]
 have hFl: ∀ i,i < n→(F i).length=sz:=fun i h=>by rw[((hF i h).2 (by omega)).len,(hx i (by omega) (by omega)).2]
 have hflat:E8 g vs.flatten cs.flatten:=by
  have: ∀ m,m≤n→E8 g (vs.take m).flatten (cs.take m).flatten:=by
   intro m
   induction m with
   |zero=>intro _;simp;exact .nil g
   |succ m ih=>
    intro hm'
    rw[A6 (by omega:m < vs.length),A6 (by omega:m < cs.length),C8,C8]
    refine(ih (by omega)).append ?_
    simp only[CD,N1,B6,hvi]
    exact(hF m (by omega)).2 (by omega)
  have:=this n (B5 _)
  rwa [AA (by omega),AA (by omega)]at this
 have hcs: ∀ e∈cs,e.length=sz:=fun e he=>by
  obtain⟨j,hj,rfl⟩:=AX.1 he
  exact(hx j (by omega) hj).2
 have hparts:(((xs.zipIdx.map fun p=>(p.2,p.1)).toArray).map fun(p:Nat × Operand)=>(p.1,a.eval p.2)).toList=((xs.map a.eval).zipIdx 0).map fun p=>(p.2,p.1):=by
  simp only[Hf,DI]
  rw[qB,DI]
  rfl
 obtain⟨j1,j2,j3⟩:=hi.lay vs.flatten E
 have hr:(execOp a.eval ⟨dst,.buildSlice T n ((xs.zipIdx.map fun p=>(p.2,p.1)).toArray),ty,pos,af,gd⟩).run P w= .ok (.value (.slice (some ⟨w.heap.size,0,none⟩) n n)) { w with heap:=w.heap.push (.cells vs.flatten.toArray E (0,0)) }:=by
  have hz: ∀ (zz:Array Value),Instr.fill (fun i=>some (i*sz,sz)) ((Array.range (n*sz)).map (zz[·% zz.size]!)) (((xs.map a.eval).zipIdx 0).map fun p=>(p.2,p.1))=some vs.flatten.toArray:=fun zz=>by
   have e:(Array.range (n*sz)).map (zz[·% zz.size]!)=((List.range (n*sz)).map (zz[·% zz.size]!)).toArray:=by
    apply N2;simp
   rw[e,Nu vs (xs.map a.eval) 0 _ (by simp[hvl,hn]) (fun i h1 h2=>by
    simp only[AR]at h1
    rw[hvi]
    simp only[BT]
    exact⟨(hF i (by omega)).1 h1,hFl i (by omega)⟩) (by simp[hvl])]
   simp
  show(do pure (Next.value (←Instr.buildSlice T n (((xs.zipIdx.map fun p=>(p.2,p.1)).toArray).map fun(p:Nat × Operand)=>(p.1,a.eval p.2)))):Sem Next).run P w=_
  simp only[Instr.buildSlice,Sem.run_bind,run_underlying t1,Result.andThen_ok,sizeOf,typeInfo,run_program,t2,Sem.run_pure,t3,hparts]
  rw[if_neg (by have:(2:Nat) ^ 24=16777216:=by decide
                omega)]
  have hzv:(zeroValue E).run P w= .ok z w:=by simp[zeroValue,typeInfo,t2,t5]
  split
  ·simp only[Sem.run_bind,Sem.run_pure,Result.andThen_ok,hz #[],newRow,run_newObj]
  ·simp only[Sem.run_bind,hzv,Sem.run_pure,Result.andThen_ok,hz z.cells,newRow,run_newObj]
 refine Oper.wq_of_run hr ?_
 have hH0: ∀ o,g.H w.heap.size o=none:=fun o=>by
  cases h:g.H w.heap.size o with
  |none=>rfl
  |some v=>have:=hi.sat _ _ _ h;simp[World.cell?]at this
 have hM0:g.M w.heap.size=none:=by
  cases h:g.M w.heap.size with
  |none=>rfl
  |some v=>exact absurd (hi.satM _ _ h).lt (GV _)
 have hfl:vs.flatten.length=n*sz:=by
  rw[hflat.len]
  have: ∀ (l:List (List PV)),(∀ e∈l,e.length=sz)→l.flatten.length=l.length*sz:=by
   intro l
   induction l with
   |nil=>simp
   |cons e l ih=>intro h;simp only[CD,A8,h e (by simp),ih fun e' he=>h e' (by simp[he]),AH,Bq];omega
  rw[this cs hcs,hl]
 refine⟨_,.slice cs (.own w.heap.size n),_,.tok (.own w.heap.size n) n sz::L,rfl,?_,⟨j1.sat,j1.satM,fun r hr=>?_,?_,j1.glob⟩,?_,?_,k _⟩
 ·have:=VR.of_cells (g:=g.lay w.heap.size 0 vs.flatten) (xs:=cs) (t:= .own w.heap.size n) (sz:=sz) (b:=w.heap.size) (off:=0) (cap:=n) hcs (by omega) ⟨by omega,by rw[hl];exact CX h24 (by decide)⟩ (us:=vs.flatten) (hflat.mono j3) (fun j hj=>Gh.lay_in hj) (fun b' cap' e=>by cases e;exact⟨rfl,rfl,rfl⟩) (by simp)
  rw[hl]at this
  exact this
 ·rcases AQ.1 hr with rfl|hr
  ·refine⟨vs.flatten.toArray,E,(0,0),by simp,by simp[hfl],B5 _,fun o ho=>?_,hM0,.inl (B5 _)⟩
   rw[Gh.lay_out (fun h=>by have:=h.2.2;omega)];exact hH0 o
  ·exact j1.res r hr
 ·have hb:w.heap.size∉Al L:=fun h=>by
   obtain⟨r,hr,e⟩:=Bp.1 h
   have:=Res.holds_lt (hi.res r hr) e
   omega
  simp only[Al,BA,Res.block]
  exact CH.2 ⟨hb,hi.nodup⟩
 ·exact j2
 ·intro b' hb' hlt
  simp only[Al,BA,Res.block,AQ]at hb'
  rcases hb' with h|h
  ·omega
  ·exact h
theorem jO {T sz by_:Nat} [hE:Fy P T sz by_] {x0:Operand} {a0:PV} {α:Type} {f:α→List PV} {e0:α} (q0:ρ.ev x0=a0) [hC0:Fx a0 f e0] [hf:Kz f sz] (h24:1*sz≤16777216)
  (k: ∀ t,AY P N all K fl.tail os (CN ρ d (.slice ([e0].map f) t)) (.tok t [e0].length sz::L)) (hd:Nat.blt d N=true:=by rfl) (hfl:fl.headD true=true:=by rfl):AY P N all K fl (⟨some d,.buildSlice T 1 #[(0,x0)],ty,pos,af,none⟩::os) ρ L:=
 Dr rfl (Qn hd) hfl (dJ (n:=1) (xs:= [x0]) (cs:= [e0].map f) rfl rfl h24 (by decide) (fun i h1 h2=>by
  match i,h1,h2 with
  |0,_,_=>exact⟨q0 ▸ hC0.out,hf.out e0⟩
  |m+1,h1,_=>exact absurd h1 (by simp only[AH,Aa];omega)) k)
theorem iB {A B:Prop} (k:B) (h:O5 B→A:=by
  intro hB
  repeat(first
   |refine AN ?_
   |refine oH ?_
   |(refine da ?_;first|refine YB (by rfl) (by rfl) (by decide) (by omega) ?_|refine YA (by rfl) (by rfl) (by decide) ?_)
   |refine DU ?_
   |refine CC (by kernel_rfl) ?_
   |refine IM ?_
   |refine GH ?_
   |refine KD ?_
   |refine HD ?_
   |refine DZ (by decide+kernel) ?_
   |refine IK (by rfl) ?_
   |refine IL (by rfl) ?_)
  exact hB.out):A:=h ⟨k⟩
theorem vT {A:Prop} {B:CW→Prop} (k: ∀ t,B t) (h:Ks B→A:=by
  intro hB
  refine iB ?_
  refine jO (by(conv=>lhs;whnf);done) (hC0:=(by first|infer_instance|fail)) (hf:=(by first|infer_instance|fail)) (by decide) fun t=>?_
  refine Ad ?_
  exact hB.out t):A:=h ⟨k⟩
theorem rk {A:Prop} {B:CW→Prop} (k: ∀ t,B t) (h:Ks B→A:=by
  intro hB
  refine vT fun t=>?_
  exact hB.out t):A:=h ⟨k⟩
theorem BO {s:Nat} {v t:Bool} (h:ρ s= .raw (.bool v)) (e:v=t):ρ s= .raw (.bool t):=e ▸ h
end
section
variable {P:Program} {N:Nat} {all:Array Oper} {K:Env→List Res→Prop} {fl:List Bool} {os:List Oper} {ρ:Env} {L:List Res} {Q:PPost} {d:Nat} {ty:TypeId} {pos:String} {af:Array Edge}
theorem Cz {σ:Type} {c y:Code} {Q0:PPost} (F:σ→Prop) (E:σ→List (Nat × PV)) (LL:σ→List Res) (h:EG P N c (WH (fun ρ L=> ∃ s,F s∧PC ρ (E s)∧(LL s).Sublist L) Q0) ρ L) (k: ∀ s,F s→EG P N y Q (gf (E s)) (LL s))
  (hQ: ∀ ρ L,EG P N y Q ρ L→Q0 .normal ρ L:=by intro _ _ h;exact h):EG P N c Q0 ρ L:=
 TK h fun e ρ' L' hq=>by
  cases e with
  |normal=>obtain⟨s,h1,h2,h3⟩:=hq;exact hQ _ _ (SN (E s) h2 h3 (k s h1))
  |_=>exact hq
theorem sJ {T T':TypeId} {x y:Operand} {m n:Int} (hx:ρ.ev x= .raw (.int .i64 m)) (hy:ρ.ev y= .raw (.int .i64 n)) (k:AY P N all K fl.tail os (CN ρ d (.raw (.int .i64 (IntKind.i64.wrap (m+n))))) L) (hd:Nat.blt d N=true:=by rfl):
  AY P N all K fl (⟨some d,.binOp .add T x y T',ty,pos,af,none⟩::os) ρ L:=Gp hx hy (fun w=>by simp[binOp,Op.intArith]) k hd
theorem aU {T T':TypeId} {x y:Operand} {m n:Int} {vx:Value} (hx:ρ.ev x= .raw vx) (hy:ρ.ev y= .raw (.int .i64 n)) (ex:vx= .int .i64 m) (k: ∀ v,v= .int .i64 (IntKind.i64.wrap (m+n))→AY P N all K fl.tail os (CN ρ d (.raw v)) L) (hd:Nat.blt d N=true:=by rfl):
  AY P N all K fl (⟨some d,.binOp .add T x y T',ty,pos,af,none⟩::os) ρ L:=sJ (by rw[hx,ex]) hy (k _ rfl) hd
end
section
variable {P:Program} {N:Nat} {Q:PPost} {all:Array Oper} {K:Env→List Res→Prop}
theorem De {bar:Nat→Bool} {fuel:Nat} {listed:Array Bool} {ρ:Env} {L:List Res} (is:List Nat) (hr:Region.ready .any all listed=is) (hne:is≠ [])
  (h: ∀ i∈is,∃ o,all[i]? =some o∧AY P N all (fun ρ L=>H2 P N all bar K fuel (listed.setIfInBounds i true) ρ L) [bar i] [o] ρ L):H2 P N all bar K (fuel+1) listed ρ L:=by
 refine⟨fun h0=>absurd (hr.symm.trans h0) hne,fun i hi=>?_⟩
 rw[hr]at hi
 obtain⟨o,h0,hd,h⟩:=h i hi
 unfold Yo
 simp only[h0]
 refine⟨hd,?_⟩
 rcases h with ⟨hno,h⟩|⟨hyes,h⟩
 ·exact .inl ⟨_,.inl ⟨hno,rfl⟩,h⟩
 ·rcases h with ⟨x,hq,h⟩|⟨hf,h⟩
  ·exact .inl ⟨x,.inr ⟨hyes,hq⟩,h⟩
  ·exact .inr ⟨hf,hyes,h⟩
theorem Ct {bar:Nat→Bool} {listed:Array Bool} {ρ:Env} {L:List Res} (hr:Region.ready .any all listed= []) (h:K ρ L):H2 P N all bar K 0 listed ρ L:=⟨hr,h⟩
end
theorem Ez.grow {B B':List Nat} {w w':World} {g g':Gh} (hb: ∀ b,b∈B'→b∈B) (h:Ez B' w g w' g'):Ez B w g w' g':=
 ⟨h.os,h.tape,h.output,h.size,fun k hk hn=>h.keep k hk (fun x=>hn (hb k x)),h.le,fun k hk hn=>h.new k hk (fun x=>hn (hb k x))⟩
theorem DA {L L':List Res} (h:L.Perm L'):(Al L).Perm (Al L'):=h.filterMap _
instance {f:Nat}:Jt (.raw (.func (.func f) #[] #[])) (.clo f []):=⟨fun g v h=>by cases h;exact .clo _ rfl (by simp)⟩
theorem kj {f:Nat} {vs cs:List PV} (h:Jl cs):Jl (.clo f vs::cs):=fun x hx=>by
 rcases AQ.1 hx with rfl|h'
 ·exact⟨by simp,by simp,by simp,by simp⟩
 ·exact h x h'
instance {cs vs:List PV} {f:Nat} [h:EU cs]:EU (.clo f vs::cs):=⟨kj h.out⟩
instance {f:Nat} {vs:List PV}:Dt (.clo f vs) [.clo f vs]:=⟨.one (EU.out)⟩
section
variable {P:Program} {N:Nat} {all:Array Oper} {K:Env→List Res→Prop} {fl:List Bool} {os:List Oper} {ρ:Env} {L:List Res} {Q:PPost} {c:Code} {d:Nat} {ty:TypeId} {pos:String} {af:Array Edge}
theorem FZ.conv {o:Oper} {L':List Res} {Ψ:PV→List Res→Prop} (hg: ∀ w g,DJ w g L→ ∃ g',DJ w g' L'∧Ez (Al L) w g w g'∧DV w L L') (h:FZ P o ρ L' Ψ):FZ P o ρ L Ψ:=fun a w g ha hi=>by
 obtain⟨g',h1,h2,h3⟩:=hg w g hi
 exact(h a w g' (fun x hx=>(ha x hx).mono h2.le) h1).mono fun a' w' ⟨v,x,g'',L'',k1,k2,k3,k4,k5,k6⟩=>⟨v,x,g'',L'',k1,k2,k3,h2.trans h3 k4,h3.trans h2.size k5,k6⟩
theorem FZ.perm {o:Oper} {L':List Res} {Ψ:PV→List Res→Prop} (hp:L.Perm L') (h:FZ P o ρ L' Ψ):FZ P o ρ L Ψ:=
 h.conv fun w g hi=>⟨g,hi.perm hp,.refl _ _ _,fun b hb _=>(DA hp).symm.subset hb⟩
theorem RI {o:Oper} {L':List Res} (hp:L.Perm L') (hf:fl.headD true=true) (h:AY P N all K fl (o::os) ρ L') (hno: ¬lu all o ρ):AY P N all K fl (o::os) ρ L:=by
 obtain⟨hd,h⟩:=h
 rcases h with ⟨hn,_⟩|⟨hy,h⟩
 ·exact absurd hn hno
 ·refine⟨hd,.inr ⟨hy,.inr ⟨hf,?_⟩⟩⟩
  rcases h with ⟨x,hq,h⟩|⟨_,h⟩
  ·exact(FZ.mono hq fun x' L'' ⟨e1,e2⟩=>by subst e1;subst e2;exact h).perm hp
  ·exact h.perm hp
theorem DJ.freeze {w:World} {g:Gh} {L':List Res} {b T:Nat} {cs:List PV} (hi:DJ w g L) (hp:L.Perm (.box b T cs::L')):
  ∃ g',DJ w g' L'∧Ez (Al L) w g w g'∧DV w L L'∧VR g' (.pointer (some ⟨b,0,none⟩)) (.pt cs 0):=by
 have hi2:=hi.perm hp
 obtain⟨vs,h1,h2,h3,h4⟩:=hi2.res _ (AI)
 have hle:=Gh.le_lay (g:=g) (b:=b) (from_:=0) (us:=vs) (fun o _=>h3 o)
 have hbl:b∈Al L:=(DA hp).symm.subset (by simp[Al,Res.block])
 have hnb: ∀ r∈L',r.block≠some b:=fun r hr e=>by
  have hnd:=hi2.nodup
  simp only[Al,BA,Res.block]at hnd
  exact(CH.1 hnd).1 (Bp.2 ⟨r,hr,e⟩)
 refine⟨g.lay b 0 vs,⟨fun b' o v hv=>?_,fun b' z hz=>hi.satM b' z hz,fun r hr=>?_,?_,hi.glob.mono hle⟩,⟨rfl,rfl,⟨rfl,B5 _⟩,B5 _,fun _ _ _=>rfl,hle,fun k _ hn=>⟨fun o=>Gh.lay_out (fun h=>hn (h.1 ▸ hbl)),rfl⟩⟩,fun b' hb' _=>(DA hp).symm.subset ?_,?_⟩
 ·by_cases hin:b'=b∧0≤o∧o < 0+vs.length
  ·obtain⟨rfl,_,h6⟩:=hin
   have hj:o < vs.length:=by omega
   have:=Gh.lay_in (g:=g) (b:=b') (from_:=0) hj
   rw[B4,hv]at this
   cases this
   exact HH h1 o hj
  ·rw[Gh.lay_out hin]at hv;exact hi.sat b' o v hv
 ·refine Res.holds_kept hle (hi2.res r (AD _ hr)) fun b' hb'=>⟨rfl,fun o=>Gh.lay_out (fun h=>hnb r hr (h.1 ▸ hb')),rfl⟩
 ·have hnd:=hi2.nodup
  simp only[Al,BA,Res.block]at hnd
  exact(CH.1 hnd).2
 ·simp only[Al,BA,Res.block];exact AD _ hb'
 ·refine VR.pt (g:=g.lay b 0 vs) (b:=b) (o:=0) (off:=0) (cs:=cs) (fun j=>(vs[j]?).getD undef) (fun j hj=>?_) (fun j hj=>?_)
  ·have hj':j < vs.length:=by rw[h2.len];exact hj
   rw[Gh.lay_in hj'];simp[hj']
  ·have hj':j < vs.length:=by rw[h2.len];exact hj
   have:=(h2.mono hle).at_ j hj' hj
   simpa [hj']using this
@[reducible] def bz (R:PV→PV→Prop) (ρ:Env):List (Nat × PV)→Prop
 | []=>True
 | [(i,v)]=>R (ρ i) v
 |(i,v)::p::E=>R (ρ i) v∧bz R ρ (p::E)
theorem de {R:PV→PV→Prop} {ρ:Env}: ∀ {E:List (Nat × PV)},bz R ρ E→ ∀ i,R (ρ i) (gf E i)∨gf E i= .junk
 | [],_,i=> .inr rfl
 | [(j,v)],h,i=>by
   by_cases e:i=j
   ·subst e;left;show R _ (CN _ _ _ _);rw[CK];exact h
   ·right;show CN _ _ _ _=_;rw[Gb _ _ e]
 |(j,v)::(p::E),h,i=>by
  by_cases e:i=j
  ·subst e;left;show R _ (CN _ _ _ _);rw[CK];exact h.1
  ·show R _ (CN _ _ _ _)∨CN _ _ _ _=_;rw[Gb _ _ e];exact de h.2 i
theorem jv {T:TypeId} {x:Operand} {cs:List PV} {dst:Option Nat} {gd:Option (Nat × Bool)} (hx:E4 (ρ.ev x) cs) {Ψ:PV→List Res→Prop} (k: ∀ b,Ψ (.raw (.pointer (some ⟨b,0,none⟩))) (.box b T cs::L)):FZ P ⟨dst,.box T x,ty,pos,af,gd⟩ ρ L Ψ:=fun a w g ha hi=>by
 have h1:=ha x (by simp[Op.operands])
 obtain⟨vs,h2,h3⟩:=hx g _ h1
 obtain⟨i1,i2,i3⟩:=hi.alloc h3 T
 have hr:(execOp a.eval ⟨dst,.box T x,ty,pos,af,gd⟩).run P w= .ok (.value (.pointer (some ⟨w.heap.size,0,none⟩))) { w with heap:=w.heap.push (.cells vs.toArray T (0,0)) }:=by
  simp[execOp,Instr.box,newVar,newRow,h2]
 refine Oper.wq_of_run hr ?_
 exact⟨_,_,g,_,rfl,.raw _,i1,i2,i3,k _⟩
theorem sI {T:TypeId} {x:Operand} {ax:PV} {cs:List PV} (hx:ρ.ev x=ax) [hC:Dt ax cs] (k:AY P N all K fl.tail os (CN ρ d (.pt cs 0)) L) (hd:Nat.blt d N=true:=by rfl):
  AY P N all K fl (⟨some d,.box T x,ty,pos,af,none⟩::os) ρ L:=
 Bg hd (fun a w g ha hi=>by
  have h:=jv (P:=P) (T:=T) (dst:=some d) (gd:=none) (ty:=ty) (pos:=pos) (af:=af) (L:=L) (Ψ:=fun x L'=> ∃ b,x= .raw (.pointer (some ⟨b,0,none⟩))∧L'= .box b T cs::L) (hx ▸ hC.out) (fun b=>⟨b,rfl,rfl⟩) a w g ha hi
  refine h.mono ?_
  rintro a' w' ⟨v,x,g',L',rfl,hv,hi',hs,hw,b,rfl,rfl⟩
  obtain⟨g'',k1,k2,k3,k4⟩:=hi'.freeze (.refl _)
  refine⟨v,_,g'',L,rfl,?_,k1,hs.trans hw k2,hw.trans hs.size k3,rfl,rfl⟩
  rw[hv.raw_inv];exact k4) k
theorem Ye (i:Nat) {b T:Nat} {cs:List PV} {L':List Res} (hp:L.Perm (.box b T cs::L')) (hi:ρ i= .raw (.pointer (some ⟨b,0,none⟩))) (k:EG P N c Q (CN ρ i (.pt cs 0)) L'):EG P N c Q ρ L:=
 HO (fun base a w g ha hI=>by
  obtain⟨g',h1,h2,h3,h4⟩:=hI.freeze hp
  refine⟨g',⟨ha.size,ha.defers.mono h2.le,fun j=>?_⟩,h1,h2,h3⟩
  have hj:=(ha.slot j).mono h2.le
  by_cases e:j=i
  ·subst e
   rw[hi]at hj
   show VR g' _ (CN ρ j _ j)
   rw[CK,hj.raw_inv];exact h4
  ·show VR g' _ (CN ρ i _ j)
   rw[Gb _ _ e];exact hj) k
theorem Ag (i:Nat) {b T:Nat} {cs:List PV} (k:EG P N c Q (CN ρ i (.pt cs 0)) L) (hi:ρ i= .raw (.pointer (some ⟨b,0,none⟩)):=by rfl):EG P N c Q ρ (.box b T cs::L):=Ye i (.refl _) hi k
theorem PY {f:Nat} {xs:List Operand} {dst:Option Nat} {gd:Option (Nat × Bool)} {cs:List PV} (hx:xs.map ρ.ev=cs):gL P ⟨dst,.makeFunc (.func f) #[] xs.toArray,ty,pos,af,gd⟩ ρ L (.clo f cs):=B7 fun a w g ha hi=>by
 refine⟨.func (.func f) #[] (xs.map a.eval).toArray,by simp[execOp,Instr.makeFunc],E8.clo f ?_⟩
 subst hx
 refine⟨by simp,fun i h1 h2=>?_⟩
 simp only[BT]
 exact ha _ (by simp[Op.operands])
theorem sG {f:Nat} {x0:Operand} {a0:PV} (q0:ρ.ev x0=a0) (k:AY P N all K fl.tail os (CN ρ d (.clo f [a0])) L) (hd:Nat.blt d N=true:=by rfl):AY P N all K fl (⟨some d,.makeFunc (.func f) #[] #[x0],ty,pos,af,none⟩::os) ρ L:=
 Bg hd (PY (xs:= [x0]) (by simp[q0])) k
theorem sF {f:Nat} {x0 x1:Operand} {a0 a1:PV} (q0:ρ.ev x0=a0) (q1:ρ.ev x1=a1) (k:AY P N all K fl.tail os (CN ρ d (.clo f [a0,a1])) L) (hd:Nat.blt d N=true:=by rfl):AY P N all K fl (⟨some d,.makeFunc (.func f) #[] #[x0,x1],ty,pos,af,none⟩::os) ρ L:=
 Bg hd (PY (xs:= [x0,x1]) (by simp[q0,q1])) k
theorem sE {f:Nat} {x0 x1 x2:Operand} {a0 a1 a2:PV} (q0:ρ.ev x0=a0) (q1:ρ.ev x1=a1) (q2:ρ.ev x2=a2) (k:AY P N all K fl.tail os (CN ρ d (.clo f [a0,a1,a2])) L) (hd:Nat.blt d N=true:=by rfl):AY P N all K fl (⟨some d,.makeFunc (.func f) #[] #[x0,x1,x2],ty,pos,af,none⟩::os) ρ L:=
 Bg hd (PY (xs:= [x0,x1,x2]) (by simp[q0,q1,q2])) k
theorem av (f:Nat) (cs:Array Value) (args:Array Value) (w:World):(Deferred.ofValue (.func (.func f) #[] cs) args).run P w= .ok { target:= .fn (.func f) cs,args:=args } w:=by
 simp[Deferred.ofValue]
theorem kz {dst:Option Nat} {x:Operand} {xs:List Operand} {ats:Array TypeId} {gd:Option (Nat × Bool)} {f:Nat} {cs:List Value} {ev:Operand→Value} {w:World} (hent: ∀ vs w,(callFunc f vs).run P w= .ok (.enter f vs) w) (hx:ev x= .func (.func f) #[] cs.toArray):
  (execOp ev ⟨dst,.call { callee:= .value x,args:=xs.toArray,argTypes:=ats },ty,pos,af,gd⟩).run P w= .ok (.enter f (xs.map ev++cs).toArray) w:=by
 simp only[execOp,resolve,hx,Sem.run_bind,av,Result.andThen_ok,invoke,hent]
 simp
theorem Vg {dst:Option Nat} {x:Operand} {xs:List Operand} {ats:Array TypeId} {gd:Option (Nat × Bool)} {f:Nat} {cs:List PV} {L₁ LF:List Res} {Ψ:PV→List Res→Prop} {args:List PV} [hf:Ax P f]
  (hx:Le (ρ.ev x) (.clo f cs)) (hargs:xs.map ρ.ev++cs=args) (hp:L.Perm (L₁++LF)) (hc:B2 P f args L₁ (fun r L'=>Ψ r (L'++LF))):
  FZ P ⟨dst,.call { callee:= .value x,args:=xs.toArray,argTypes:=ats },ty,pos,af,gd⟩ ρ L Ψ:=by
 refine FZ.perm hp fun a w g ha hi=>?_
 obtain⟨vs,h1,h2⟩:=(hx g _ (ha x (by simp[Op.operands,Call.operands]))).clo_inv
 have hvs:E8 g (xs.map a.eval++vs) args:=by
  subst hargs
  refine E8.append ⟨by simp,fun i h1 h2=>?_⟩ h2
  simp only[BT]
  exact ha _ (by simp[Op.operands,Call.operands])
 refine Oper.wq_of_run (kz hf.out h1) ?_
 refine(hc _ w g LF hvs hi).mono ?_
 rintro e w' ⟨v,x,g',L',rfl,h2,h3,h4,h5,h6⟩
 exact⟨v,x,g',L'++LF,rfl,h2,h3,h4,h5,h6⟩
theorem B2.args {f:FuncId} {ys bs:List PV} {L₁:List Res} {R:PV→List Res→Prop} (hl:ys.length=bs.length) (h: ∀ i (h1:i < ys.length) (h2:i < bs.length),Le ys[i] bs[i]) (hc:B2 P f bs L₁ R):B2 P f ys L₁ R:=
 fun vs w g LF hv hi=>hc vs w g LF ⟨hv.len.trans hl,fun i h1 h2=>h i (by omega) h2 g _ (hv.at_ i h1 (by omega))⟩ hi
theorem Bo {x:Operand} {xs:List Operand} {xa:Array Operand} {ats:Array TypeId} {f:Nat} {cs args:List PV} (L₁ LF:List Res) [hf:Ax P f]
  (hx:Le (ρ.ev x) (.clo f cs)) (hxa:xa=xs.toArray) (hargs:xs.map ρ.ev++cs=args) (hp:L.Perm (L₁++LF)) (R:PV→List Res→Prop) (hc:B2 P f args L₁ R) (k: ∀ r L',R r L'→AY P N all K fl.tail os (CN ρ d r) (L'++LF)) (hd:Nat.blt d N=true:=by rfl) (hfl:fl.headD true=true:=by rfl):
  AY P N all K fl (⟨some d,.call { callee:= .value x,args:=xa,argTypes:=ats },ty,pos,af,none⟩::os) ρ L:=by
 subst hxa
 exact Dr rfl (Qn hd) hfl (Vg hx hargs hp (hc.mono fun r L' h=>k r L' h))
theorem Wj {x:Operand} {xs:List Operand} {xa:Array Operand} {ats:Array TypeId} {f:Nat} {cs args:List PV} {X:PV} [hf:Ax P f]
  (hx:Le (ρ.ev x) (.clo f cs)) (hxa:xa=xs.toArray) (hargs:xs.map ρ.ev++cs=args) (hc:Fn P f args X) (k:AY P N all K fl.tail os (CN ρ d X) L) (hd:Nat.blt d N=true:=by rfl):
  AY P N all K fl (⟨some d,.call { callee:= .value x,args:=xa,argTypes:=ats },ty,pos,af,none⟩::os) ρ L:=by
 subst hxa
 exact Bg hd (Vg hx hargs (.refl _) (L₁:= []) (hc.mono fun r L' ⟨e1,e2⟩=>by subst e1;subst e2;exact⟨rfl,rfl⟩)) k
end
theorem Ez.comp {B B₁:List Nat} {w w₁ w₂:World} {g g₁ g₂:Gh} (h:Ez B w g w₁ g₁) (k:Ez B₁ w₁ g₁ w₂ g₂) (hB: ∀ b∈B₁,b < w.heap.size→b∈B):Ez B w g w₂ g₂:=
 ⟨k.os.trans h.os,k.tape.trans h.tape,⟨k.output.1.trans h.output.1,CX h.output.2 k.output.2⟩,CX h.size k.size,
  fun b hb hn=>by rw[k.keep b (FV hb h.size) (fun hm=>hn (hB b hm hb)),h.keep b hb hn],h.le.trans k.le,
  fun b hb hn=>by
   obtain⟨a1,a2⟩:=k.new b (FV hb h.size) (fun hm=>hn (hB b hm hb))
   obtain⟨b1,b2⟩:=h.new b hb hn
   exact⟨fun o=>by rw[a1,b1],by rw[a2,b2]⟩⟩
theorem Ez.put {B:List Nat} {w:World} {g:Gh} {l:Nat} (o:Obj) (hl:l∈B):Ez B w g (w.putObj l o) g:=
 ⟨rfl,rfl,⟨rfl,B5 _⟩,Db (by simp[World.putObj]),fun k _ hn=>World.putObj_heap_other (fun e=>hn (e ▸ hl)),.refl g,fun _ _ _=>⟨fun _=>rfl,rfl⟩⟩
theorem DJ.put {w:World} {g:Gh} {L:List Res} {l:Nat} (o:Obj) (hi:DJ w g L) (hH: ∀ o,g.H l o=none) (hM:g.M l=none) (hl:l∉Al L):DJ (w.putObj l o) g L:=by
 have hk: ∀ k,k≠l→(w.putObj l o).heap[k]? =w.heap[k]?:=fun k hk=>World.putObj_heap_other hk
 refine⟨fun b i v h=>?_,fun b z h=>?_,fun r hr=>?_,hi.nodup,hi.glob⟩
 ·have:b≠l:=fun e=>by subst e;rw[hH]at h;cases h
  have h0:=hi.sat b i v h
  simp only[World.cell?]at h0 ⊢
  rw[hk b this];exact h0
 ·have:b≠l:=fun e=>by subst e;rw[hM]at h;cases h
  exact(hi.satM b z h).congr (hk b this)
 ·exact Res.holds_kept (.refl g) (hi.res r hr) fun b hb=>⟨hk b (fun e=>hl (Bp.2 ⟨r,hr,by rw[hb,e]⟩)),fun _=>rfl,rfl⟩
theorem DJ.putRaw {w:World} {g:Gh} {L:List Res} {l:Nat} {o:Obj} (o':Obj) (hi:DJ w g (.raw l o::L)):DJ (w.putObj l o') g (.raw l o'::L):=by
 obtain⟨h1,h2,h3⟩:=hi.res _ (AI)
 have hnd:=hi.nodup
 simp only[Al,BA,Res.block]at hnd
 have hn:=(CH.1 hnd).1
 have k:=(hi.sub (Lb _ _)).put o' h2 h3 hn
 refine⟨k.sat,k.satM,fun r hr=>?_,hi.nodup,hi.glob⟩
 rcases AQ.1 hr with rfl|hr
 ·exact⟨World.putObj_heap_same (BP.1 h1).1,h2,h3⟩
 ·exact k.res r hr
theorem DJ.addRaw {w:World} {g:Gh} {L:List Res} {l:Nat} {o:Obj} (hi:DJ w g L) (h1:w.heap[l]? =some o) (h2: ∀ o,g.H l o=none) (h3:g.M l=none) (hl:l∉Al L):DJ w g (.raw l o::L):=
 ⟨hi.sat,hi.satM,fun r hr=>by
  rcases AQ.1 hr with rfl|hr
  ·exact⟨h1,h2,h3⟩
  ·exact hi.res r hr,by simp only[Al,BA,Res.block];exact CH.2 ⟨hl,hi.nodup⟩,hi.glob⟩
theorem DJ.addKnow {w:World} {g:Gh} {L:List Res} {vs:List Value} {xs:List PV} (hi:DJ w g L) (h:E8 g vs xs):DJ w g (.know vs xs::L):=
 ⟨hi.sat,hi.satM,fun r hr=>by
  rcases AQ.1 hr with rfl|hr
  ·exact h
  ·exact hi.res r hr,hi.nodup,hi.glob⟩
theorem DJ.lt {w:World} {g:Gh} {L:List Res} (hi:DJ w g L) {b:Nat} (hb:b∈Al L):b < w.heap.size:=by
 obtain⟨r,hr,e⟩:=Bp.1 hb
 exact Res.holds_lt (hi.res r hr) e
theorem DJ.fresh {w:World} {g:Gh} {L:List Res} (hi:DJ w g L) {b:Nat} (hb:w.heap.size≤b):(∀ o,g.H b o=none)∧g.M b=none:=by
 constructor
 ·intro o
  cases h:g.H b o with
  |none=>rfl
  |some v=>have:=hi.sat _ _ _ h;simp[World.cell?,Bk hb]at this
 ·cases h:g.M b with
  |none=>rfl
  |some z=>exact absurd (hi.satM _ _ h).lt (by omega)
theorem DJ.allocO {w:World} {g:Gh} {L:List Res} (hi:DJ w g L) (o:Obj):DJ (w.alloc o) g L∧Ez (Al L) w g (w.alloc o) g:=by
 have hk: ∀ k,k < w.heap.size→(w.alloc o).heap[k]? =w.heap[k]?:=fun k hk=>by
  show(w.heap.push o)[k]? =_
  rw[HX,if_neg (by omega)]
 refine⟨⟨fun b i v h=>?_,fun b z h=>(hi.satM b z h).congr (hk b (hi.satM b z h).lt),fun r hr=>?_,hi.nodup,hi.glob⟩,⟨rfl,rfl,⟨rfl,B5 _⟩,by simp,fun k hlt _=>hk k hlt,.refl g,fun _ _ _=>⟨fun _=>rfl,rfl⟩⟩⟩
 ·have h0:=hi.sat b i v h
  have hb:b < w.heap.size:=by
   rcases BB b w.heap.size with h'|h'
   ·exact h'
   ·simp[World.cell?,Bk h']at h0
  simp only[World.cell?]at h0 ⊢
  rw[hk b hb];exact h0
 ·exact Res.holds_kept (.refl g) (hi.res r hr) fun b hb=>⟨hk b (hi.lt (Bp.2 ⟨r,hr,hb⟩)),fun _=>rfl,rfl⟩
def Mz (P:Program) (l:Nat) (args:List PV) (L:List Res) (R:Bool→List Res→Prop):Prop:=
 ∀ (vs:List Value) (w:World) (g:Gh) (LF:List Res),E8 g vs args→DJ w g (L++LF)→
   ∃ fn tmps assign body,(Instr.yield l vs.toArray).run P w= .ok (.round l fn tmps assign body) w∧
     RoundIn Fence.wide 0 P l fn tmps assign body w (fun e w'=> ∃ b g' L',e= .returned (.bool b)∧DJ w' g' (L'++LF)∧Ez (Al (L++LF)) w g w' g'∧DV w (L++LF) (L'++LF)∧R b L')
theorem Mz.mono {P:Program} {l:Nat} {args:List PV} {L:List Res} {R R':Bool→List Res→Prop} (h:Mz P l args L R) (hr: ∀ b L',R b L'→R' b L'):Mz P l args L R':=fun vs w g LF hv hi=>by
 obtain⟨fn,tmps,assign,body,h1,h2⟩:=h vs w g LF hv hi
 exact⟨fn,tmps,assign,body,h1,RoundIn.mono h2 fun e w' ⟨b,g',L',k1,k2,k3,k4,k5⟩=>⟨b,g',L',k1,k2,k3,k4,hr _ _ k5⟩⟩
section
variable {P:Program} {N:Nat} {all:Array Oper} {K:Env→List Res→Prop} {fl:List Bool} {os:List Oper} {ρ:Env} {L:List Res} {Q:PPost} {c:Code} {d:Nat} {ty:TypeId} {pos:String} {af:Array Edge}
theorem fS {dst:Option Nat} {x:Operand} {xs:List Operand} {ats:Array TypeId} {gd:Option (Nat × Bool)} {l:Nat} {L₁ LF:List Res} {Ψ:PV→List Res→Prop} {args:List PV}
  (hx:ρ.ev x= .raw (.func (.yield l) #[] #[])) (hargs:xs.map ρ.ev=args) (hp:L.Perm (L₁++LF)) (hc:Mz P l args L₁ (fun b L'=>Ψ (.raw (.bool b)) (L'++LF))):
  FZ P ⟨dst,.call { callee:= .value x,args:=xs.toArray,argTypes:=ats },ty,pos,af,gd⟩ ρ L Ψ:=by
 refine FZ.perm hp fun a w g ha hi=>?_
 have h1:=CR ha (x:=x) (by simp[Op.operands,Call.operands]) hx
 have hvs:E8 g (xs.map a.eval) args:=by
  subst hargs
  refine⟨by simp,fun i h1 h2=>?_⟩
  simp only[BT]
  exact ha _ (by simp[Op.operands,Call.operands])
 obtain⟨fn,tmps,assign,body,hy,hR⟩:=hc _ w g LF hvs hi
 have hr:(execOp a.eval ⟨dst,.call { callee:= .value x,args:=xs.toArray,argTypes:=ats },ty,pos,af,gd⟩).run P w= .ok (.round l fn tmps assign body) w:=by
  simp only[execOp,resolve,h1,Deferred.ofValue,Sem.run_bind,Sem.run_pure,Result.andThen_ok,invoke]
  simpa using hy
 refine Oper.wq_of_run hr ?_
 refine RoundIn.mono (F:=Fence.wide) (n:=0) hR ?_
 rintro e w' ⟨b,g',L',rfl,h2,h3,h4,h5⟩
 exact⟨.bool b,.raw (.bool b),g',L'++LF,rfl,.raw _,h2,h3,h4,h5⟩
theorem Ht {x:Operand} {xs:List Operand} {xa:Array Operand} {ats:Array TypeId} {l:Nat} {args:List PV} (L₁ LF:List Res) (hx:ρ.ev x= .raw (.func (.yield l) #[] #[])) (hxa:xa=xs.toArray) (hargs:xs.map ρ.ev=args) (hp:L.Perm (L₁++LF))
  (R:Bool→List Res→Prop) (hc:Mz P l args L₁ R) (k: ∀ b L',R b L'→AY P N all K fl.tail os (CN ρ d (.raw (.bool b))) (L'++LF)) (hd:Nat.blt d N=true:=by rfl) (hfl:fl.headD true=true:=by rfl):
  AY P N all K fl (⟨some d,.call { callee:= .value x,args:=xa,argTypes:=ats },ty,pos,af,none⟩::os) ρ L:=by
 subst hxa
 exact Dr rfl (Qn hd) hfl (fS hx hargs hp (hc.mono fun b L' h=>k b L' h))
end
def Zp (P:Program) (f:Nat) (caps:List PV) {α:Type} (enc:α→List PV) (xs:List α):Prop:=
 ∀ (l:Nat) (J Jx:List α→List Res→Prop),
   (∀ pre x L,(pre++ [x]) <+:xs→J pre L→Mz P l (enc x) L (fun b L'=>(b=true∧J (pre++ [x]) L')∨(b=false∧Jx (pre++ [x]) L')))→
   ∀ L,J [] L→B2 P f (.raw (.func (.yield l) #[] #[])::caps) L (fun _ L'=>J xs L'∨ ∃ pre,Jx pre L')
@[reducible] def n0:Env→List Nat→List PV→Env
 |ρ,p::ps,x::xs=>n0 (CN ρ p x) ps xs
 |ρ,_,_=>ρ
@[reducible] def lj {α σ:Type} (I Ix:List α→σ→Prop) (LL:σ→List Res→List Res) (LF:List Res) (pre:List α):PPost
 | .normal,_,L=> ∃ s,I pre s∧(LL s LF).Sublist L
 | .ret,_,L=> ∃ s,Ix pre s∧(LL s LF).Sublist L
 |_,_,_=>False
theorem Sg {g:Gh}: ∀ (ps:List Nat) (vs:List Value) (xs:List PV) (t:Array Value) (ρ:Env),E8 g vs xs→(∀ p∈ps,p < t.size)→(∀ i,VR g (t.getD i undef) (ρ i))→
  ((ps.zip vs).foldl (fun t (p:Nat × Value)=>t.setIfInBounds p.1 p.2) t).size=t.size∧ ∀ i,VR g (((ps.zip vs).foldl (fun t (p:Nat × Value)=>t.setIfInBounds p.1 p.2) t).getD i undef) (n0 ρ ps xs i)
 | [],_,_,t,ρ,_,_,h=>⟨rfl,h⟩
 |p::ps,[],[],t,ρ,_,_,h=>⟨rfl,h⟩
 |p::ps,[],x::xs,t,ρ,hv,_,_=>by have:=hv.len;simp at this
 |p::ps,v::vs,[],t,ρ,hv,_,_=>by have:=hv.len;simp at this
 |p::ps,v::vs,x::xs,t,ρ,hv,hp,h=>by
  obtain⟨h1,h2⟩:=hv.uncons
  have:=Sg ps vs xs (t.setIfInBounds p v) (CN ρ p x) h2 (fun q hq=>by simpa using hp q (AD _ hq)) (fun i=>by
   by_cases e:i=p
   ·subst e
    have hlt:=hp i (AI)
    rw[CK];simp[hlt];exact h1
   ·rw[Gb _ _ e]
    have:=h i
    simpa [gm (Ne.symm e)]using this)
  simpa using this
theorem VR.undef_any {g g':Gh} {x:PV} (h:VR g undef x):VR g' undef x:=by
 unfold undef at*
 cases h with
 |raw v=>exact .raw _
 |junk v=>exact .junk _
 |tuple hl h=>exact .tuple hl (fun i h1=>by simp at h1)
theorem Zl {ro:Option Nat} {n:Nat} {P:Program} {f:FuncId} {args:Array Value} {w:World} {R:Ending→World→Prop} (h:Calls P f args w R):CallsIn (Zy ro) n P f args w R:=
 (callsIn_wide (n:=n)).2 h
section
variable {P:Program} {N:Nat} {ρ:Env} {L:List Res} {Q:PPost}
theorem Sv {base ll D:Nat} {ro:Option Nat} {fn:FuncId} {ps:List Nat} {assign body:Code} {f:Nat} {caps:List PV} {vcaps:List Value} {α σ:Type} {enc:α→List PV} {xs:List α}
  {I Ix:List α→σ→Prop} {LL:σ→List Res→List Res} {s0:σ} {LF:List Res} {mark:List Deferred} {a:Act} {w w1:World} {g g1:Gh}
  (hit:Zp P f caps enc xs) (henc: ∀ x,(enc x).length=ps.length) (hps: ∀ p∈ps,p < N)
  (hLL: ∀ s LF',LL s LF'=LL s []++LF') (h0:I [] s0)
  (hbody: ∀ pre x s LF',(pre++ [x]) <+:xs→I pre s→EG P N assign (WH (EG P N body (lj I Ix LL LF' (pre++ [x]))) (fun _ _ _=>False)) (n0 ρ ps (enc x)) (LL s LF'))
  (hdone: ∀ s,I xs s→Q .normal ρ (LL s LF)) (hstop: ∀ pre s,Ix pre s→Q .ret ρ (LL s LF))
  (hi0:DJ w g (LL s0 LF)) (hcap:E8 g1 vcaps caps)
  (c1:w1.heap[ll]? =some (.loop { state:= .ready,pending:=none,fn,tmps:=a.tmps,params:=ps.toArray,assign,body,defers:=D })) (c2:w.heap.size≤ll)
  (c3:DJ w1 g1 (LL s0 LF)) (c4:Ez (Al (LL s0 LF)) w g w1 g1) (c5:(∀ o,g1.H ll o=none)∧g1.M ll=none) (c6:Uw base g1 N { a with defers:=mark++a.defers } ρ):
  CallsIn (Zy ro) 0 P f (#[.func (.yield ll) #[] #[]]++vcaps.toArray) w1 (rangePost (Zy ro) 0 P ll (Rf base N w g (LL s0 LF) Q) { a with defers:=mark++a.defers }):=by
 obtain⟨rec,hrec⟩: ∃ rec:LoopState→Option Code→Loop,rec=fun st pe=>{ state:=st,pending:=pe,fn,tmps:=a.tmps,params:=ps.toArray,assign,body,defers:=D }:=⟨_,rfl⟩
 replace c1:w1.heap[ll]? =some (.loop (rec .ready none)):=by rw[hrec];exact c1
 let kn:Res:= .know a.tmps.toList ((List.range N).map ρ)
 have hsz:a.tmps.size=N:=c6.size
 have hkn:E8 g1 a.tmps.toList ((List.range N).map ρ):=⟨by simp[hsz],fun i h1 h2=>by
  have:=c6.slot i
  simp at h1 h2 ⊢
  simpa [h1]using this⟩
 have hbig: ∀ g',g1.le g'→ ∀ i,N≤i→VR g' (a.tmps.getD i undef) (ρ i):=fun g' _ i hi=>by
  have:=c6.slot i
  have e:a.tmps.getD i undef=undef:=by simp[Bk (show a.tmps.size≤i by omega)]
  change VR g1 (a.tmps.getD i undef) (ρ i)at this
  rw[e]at this ⊢
  exact this.undef_any
 have hbig': ∀ g' i,N≤i→VR g' (a.tmps.getD i undef) (ρ i):=fun g' i hi=>by
  have:=c6.slot i
  have e:a.tmps.getD i undef=undef:=by simp[Bk (show a.tmps.size≤i by omega)]
  change VR g1 (a.tmps.getD i undef) (ρ i)at this
  rw[e]at this ⊢
  exact this.undef_any
 have hln:ll∉Al (LL s0 LF):=fun h=>by have:=hi0.lt h;omega
 have hiJ:DJ w1 g1 ((.raw ll (.loop (rec .ready none))::kn::LL s0 LF)++ []):=by
  rw[B6]
  exact(c3.addKnow hkn).addRaw c1 c5.1 c5.2 hln
 have hcall:=hit ll (fun pre L'=> ∃ s,I pre s∧L'= .raw ll (.loop (rec .ready none))::kn::LL s LF) (fun pre L'=> ∃ s,Ix pre s∧L'= .raw ll (.loop (rec .done (some .ret)))::kn::LL s LF) (by
  rintro pre x L1 hpre ⟨s,hI,rfl⟩ vs' w2 g2 LF2 hv hi2
  obtain⟨hl2,hH2,hM2⟩:=hi2.res _ (AI)
  have hlt2:=(BP.1 hl2).1
  have hk2:E8 g2 a.tmps.toList ((List.range N).map ρ):=hi2.res kn (by simp)
  have hnd2:=hi2.nodup
  have hLLa: ∀ s,LL s LF++LF2=LL s (LF++LF2):=fun s=>by rw[hLL s LF,hLL s (LF++LF2),AJ]
  have hi3:DJ w2 g2 (LL s (LF++LF2)):=hi2.sub (by
   rw[←hLLa]
   simp only[BM]
   exact .cons _ (.cons _ (.refl _)))
  have hln2:ll∉Al (LL s (LF++LF2)):=by
   rw[←hLLa]
   simp only[Al,BM,BA,Res.block]at hnd2
   exact(CH.1 hnd2).1
  have hvl:vs'.length=ps.length:=by rw[hv.len,henc]
  have hy:=run_yield (P:=P) (args:=vs'.toArray) hl2 (by rw[hrec];simp[hvl])
  rw[hrec]at hy
  refine⟨fn,_,assign,body,hy,?_⟩
  have hfold:((ps.toArray.zip vs'.toArray).foldl (fun tmps (x:Nat × Value)=>tmps.setIfInBounds x.1 x.2) a.tmps)=(ps.zip vs').foldl (fun tmps (x:Nat × Value)=>tmps.setIfInBounds x.1 x.2) a.tmps:=by simp
  have hslot:=Sg ps vs' (enc x) a.tmps ρ hv (fun p hp=>by rw[hsz];exact hps p hp) (fun i=>by
   rcases BB i N with h'|h'
   ·have:=hk2.at_ i (by simpa [hsz]using h') (by simpa using h')
    simp at this
    simpa [hsz,h']using this
   ·exact hbig' g2 i h')
  refine roundIn_of_wpIn (F:=Fence.wide) trivial ?_
  have hb:=hbody pre x s (LF++LF2) hpre hI (some ll) w2.heap.size { tmps:=(ps.zip vs').foldl (fun tmps (x:Nat × Value)=>tmps.setIfInBounds x.1 x.2) a.tmps,defers:= [] } w2 g2
   ⟨fun l e=>by cases e;exact⟨hln2,_,hl2⟩,B5 _,⟨by rw[hslot.1,hsz],.nil _ _,hslot.2⟩,hi3⟩
  rw[←hfold]at hb
  refine wpIn_mono hb ?_
  have hB: ∀ b∈Al (LL s (LF++LF2)),b∈Al ((.raw ll (.loop (rec .ready none))::kn::LL s LF)++LF2):=fun b hb=>by
   rw[←hLLa]at hb
   simp only[Al,BM,BA,Res.block,kn]at hb ⊢
   exact AD _ hb
  have hlB:ll∈Al ((.raw ll (.loop (rec .ready none))::kn::LL s LF)++LF2):=by simp[Al,Res.block]
  rintro e a1 w3 ⟨ρ3,g3,L3,k1,k2,k3,k4,k5⟩
  cases e with
  |normal=>
   have hl3:w3.heap[ll]? =some (.loop (rec .ready none)):=(k3.keep ll hlt2 hln2).trans hl2
   obtain⟨n1,n2⟩:=k3.new ll hlt2 hln2
   have hln3:ll∉Al L3:=fun h=>hln2 (k4 ll h hlt2)
   have hH3: ∀ o,g3.H ll o=none:=fun o=>by rw[n1,hH2]
   have hM3:g3.M ll=none:=by rw[n2,hM2]
   refine⟨_,run_beginRound hl3 (by rw[hrec]),?_⟩
   obtain⟨rb,hrb⟩: ∃ rb:Loop,rb= { rec .ready none with state:= .busy }:=⟨_,rfl⟩
   rw[←hrb]
   have hlt3:=(BP.1 hl3).1
   have hl3':(w3.putObj ll (.loop rb)).heap[ll]? =some (.loop rb):=World.putObj_heap_same hlt3
   have hsz3:(w3.putObj ll (.loop rb)).heap.size=w3.heap.size:=by simp[World.putObj]
   refine wpIn_mono (k5 (some ll) w2.heap.size a1 (w3.putObj ll (.loop rb)) g3 ⟨fun l e=>by cases e;exact⟨hln3,_,hl3'⟩,by rw[hsz3];exact k3.size,k1,k2.put _ hH3 hM3 hln3⟩) ?_
   have st3:Ez (Al ((.raw ll (.loop (rec .ready none))::kn::LL s LF)++LF2)) w2 g2 (w3.putObj ll (.loop rb)) g3:=(k3.grow hB).comp (.put (B:= [ll]) _ (by simp)) (fun b hb _=>by simp at hb;subst hb;exact hlB)
   rintro e a4 w4 ⟨ρ4,g4,L4,m1,m2,m3,m4,m5⟩
   have hl4:w4.heap[ll]? =some (.loop rb):=(m3.keep ll (by rw[hsz3];exact hlt3) hln3).trans hl3'
   obtain⟨n3,n4⟩:=m3.new ll (by rw[hsz3];exact hlt3) hln3
   have hln4:ll∉Al L4:=fun h=>hln3 (m4 ll h (by rw[hsz3];exact hlt3))
   have hH4: ∀ o,g4.H ll o=none:=fun o=>by rw[n3,hH3]
   have hM4:g4.M ll=none:=by rw[n4,hM3]
   have hlt4:=(BP.1 hl4).1
   have fin: ∀ (o:Obj) (s':σ),(LL s' (LF++LF2)).Sublist L4→
     DJ (w4.putObj ll o) g4 ((.raw ll o::kn::LL s' LF)++LF2)∧Ez (Al ((.raw ll (.loop (rec .ready none))::kn::LL s LF)++LF2)) w2 g2 (w4.putObj ll o) g4∧DV w2 ((.raw ll (.loop (rec .ready none))::kn::LL s LF)++LF2) ((.raw ll o::kn::LL s' LF)++LF2):=fun o s' hsub=>by
    have hin: ∀ b∈Al (LL s' (LF++LF2)),b < w2.heap.size→b∈Al (LL s (LF++LF2)):=fun b hb hlt=>
     k4 b (m4 b ((GP hsub).subset hb) (by rw[hsz3];exact FV hlt k3.size)) hlt
    refine⟨?_,?_,?_⟩
    ·have i4:=(m2.put o hH4 hM4 hln4).sub hsub
     have i5:=(i4.addKnow ((hk2.mono k3.le).mono m3.le)).addRaw (World.putObj_heap_same hlt4) hH4 hM4 (fun h=>hln4 ((GP hsub).subset h))
     have e:(.raw ll o::kn::LL s' LF)++LF2= .raw ll o::kn::LL s' (LF++LF2):=by simp only[BM,hLLa]
     rw[e];exact i5
    ·refine(st3.comp m3 fun b hb hlt=>?_).comp (.put (B:= [ll]) _ (by simp)) (fun b hb _=>by simp at hb;subst hb;exact hlB)
     exact hB b (k4 b hb hlt)
    ·intro b hb hlt
     simp only[BM,hLLa]at hb
     simp only[Al,BA,Res.block,kn]at hb
     rcases AQ.1 hb with rfl|hb
     ·exact hlB
     ·exact hB b (hin b hb hlt)
   cases e with
   |normal=>
    obtain⟨s',hI',hsub⟩:=m5
    have hr:=run_endRound (P:=P) none hl4
    have e1:({ rb with state:=if(none:Option Code).isNone=true then .ready else .done,pending:=none }:Loop)=rec .ready none:=by rw[hrb,hrec];rfl
    rw[e1]at hr
    obtain⟨f1,f2,f3⟩:=fin (.loop (rec .ready none)) s' hsub
    exact⟨_,_,hr,true,g4,_,rfl,f1,f2,f3,.inl ⟨rfl,s',hI',rfl⟩⟩
   |ret=>
    obtain⟨s',hI',hsub⟩:=m5
    have hr:=run_endRound (P:=P) (some .ret) hl4
    have e1:({ rb with state:=if(some Code.ret:Option Code).isNone=true then .ready else .done,pending:=some .ret }:Loop)=rec .done (some .ret):=by rw[hrb,hrec];rfl
    rw[e1]at hr
    obtain⟨f1,f2,f3⟩:=fin (.loop (rec .done (some .ret))) s' hsub
    exact⟨_,_,hr,false,g4,_,rfl,f1,f2,f3,.inr ⟨rfl,s',hI',rfl⟩⟩
   |_=>exact m5.elim
  |_=>exact k5.elim) (.raw ll (.loop (rec .ready none))::kn::LL s0 LF) ⟨s0,h0,rfl⟩ (.func (.yield ll) #[] #[]::vcaps) w1 g1 [] (.cons (.raw _) hcap) hiJ
 have eargs:(#[Value.func (.yield ll) #[] #[]]++vcaps.toArray)=(Value.func (.yield ll) #[] #[]::vcaps).toArray:=by simp
 rw[eargs]
 refine CallsIn.mono (Zl hcall) ?_
 rintro e w2 ⟨v,x,g2,L2,rfl,hv,hi2,hs2,mZ,hJ⟩
 rw[B6]at hi2 hs2 mZ
 rw[B6]at mZ
 have W1: ∀ b∈Al (.raw ll (.loop (rec .ready none))::kn::LL s0 LF),b < w.heap.size→b∈Al (LL s0 LF):=fun b hb hlt=>by
  simp only[Al,BA,Res.block,kn]at hb
  rcases AQ.1 hb with rfl|hb
  ·omega
  ·exact hb
 have fin: ∀ (s:σ) (o o':Obj),L2= .raw ll o::kn::LL s LF→DJ (w2.putObj ll o') g2 (LL s LF)∧Ez (Al (LL s0 LF)) w g (w2.putObj ll o') g2∧DV w (LL s0 LF) (LL s LF):=fun s o o' e=>by
  subst e
  refine⟨(hi2.putRaw o').sub (.cons _ (.cons _ (.refl _))),(c4.comp hs2 W1).comp (.put (B:= [ll]) _ (by simp)) (fun b hb hlt=>by simp at hb;omega),fun b hb hlt=>?_⟩
  exact W1 b (mZ b (by simp only[Al,BA,Res.block,kn];exact AD _ hb) (FV hlt c4.size)) hlt
 rcases hJ with ⟨s,hI,e2⟩|⟨pre,s,hIx,e2⟩
 ·obtain⟨hl2,_,_⟩:=hi2.res _ (by rw[e2];exact AI)
  obtain⟨f1,f2,f3⟩:=fin s _ (.loop { rec .ready none with state:= .exhausted }) e2
  have hr:=run_endLoop (P:=P) hl2 (by rw[hrec];simp)
  exact⟨none,_,by rw[hr,hrec],ρ,g2,_,c6.mono hs2.le,f1,f2,f3,hdone s hI⟩
 ·obtain⟨hl2,_,_⟩:=hi2.res _ (by rw[e2];exact AI)
  obtain⟨f1,f2,f3⟩:=fin s _ (.loop { rec .done (some .ret)with state:= .exhausted }) e2
  have hr:=run_endLoop (P:=P) hl2 (by rw[hrec];simp)
  exact⟨some .ret,_,by rw[hr,hrec],wpIn_ret ⟨ρ,g2,_,c6.mono hs2.le,f1,f2,f3,hstop pre s hIx⟩⟩
theorem VR.ev {base:Nat} {g:Gh} {a:Act} (h:Uw base g N a ρ) (x:Operand):VR g (a.eval x) (ρ.ev x):=by
 cases x with
 |tmp t=>exact h.slot t
 |const v=>exact .raw v
 |global k=>exact .raw _
 |func f=>exact .raw _
theorem Hp {g0:Operand} {pa:Array Tmp} {assign body:Code} {f:Nat} {caps:List PV} {α σ:Type} {enc:α→List PV} {xs:List α} [hf:Ax P f]
  (hit:Zp P f caps enc xs) (ps:List Nat) (I Ix:List α→σ→Prop) (LL:σ→List Res→List Res) (s0:σ) (LF:List Res)
  (hg:Le (ρ.ev g0) (.clo f caps)) (hpa:pa=ps.toArray) (henc: ∀ x,(enc x).length=ps.length) (hps: ∀ p∈ps,p < N)
  (hLL: ∀ s LF',LL s LF'=LL s []++LF') (hL:(LL s0 LF).Sublist L) (h0:I [] s0)
  (hbody: ∀ pre x s LF',(pre++ [x]) <+:xs→I pre s→EG P N assign (WH (EG P N body (lj I Ix LL LF' (pre++ [x]))) (fun _ _ _=>False)) (n0 ρ ps (enc x)) (LL s LF'))
  (hdone: ∀ s,I xs s→Q .normal ρ (LL s LF)) (hstop: ∀ pre s,Ix pre s→Q .ret ρ (LL s LF)):EG P N (.rangeFunc g0 pa assign body) Q ρ L:=by
 refine Mf (ρ':=ρ) (fun i=> .inl rfl) hL ?_
 subst hpa
 intro ro base a w g hs
 refine wpIn_rangeFunc (F:=Zy ro) (n:=0) fun fn _=>?_
 obtain⟨vcaps,hv1,hv2⟩:=(hg g _ (VR.ev hs.agr g0)).clo_inv
 have hd:(Zy ro).depth.isSome=true→1≤0:=fun h=>by simp[Zy,Fence.wide]at h
 have hres: ∀ (e:Act) (ll:Nat) (w:World),e.tmps=a.tmps→(resolve a.eval (rangeCall g0 ll) 0).run P w= .ok { target:= .fn (.func f) vcaps.toArray,args:= #[.func (.yield ll) #[] #[]] } w:=fun e ll w _=>by
  simp only[resolve,rangeCall,hv1,Deferred.ofValue,Sem.run_pure]
  simp[Act.eval]
 cases ro with
 |none=>
  obtain⟨i1,s1⟩:=hs.inv.allocO (.deferred (some []))
  have hD:(w.alloc (.deferred (some []))).heap[w.heap.size]? =some (.deferred (some [])):=by show(w.heap.push _)[w.heap.size]? =_;simp
  obtain⟨hH0,hM0⟩:=hs.inv.fresh (b:=w.heap.size) (B5 _)
  let g1:Gh:={ g with M:=fun b=>if b=w.heap.size then some .mark else g.M b }
  have hle:g.le g1:=⟨fun _ _ _ h=>h,fun b z h=>by
   show(if b=w.heap.size then some .mark else g.M b)=_
   rw[if_neg (fun e=>by rw[e,hM0]at h;cases h)];exact h⟩
  have i2:DJ (w.alloc (.deferred (some []))) g1 (LL s0 LF):=⟨i1.sat,fun b z h=>by
   change (if b=w.heap.size then some .mark else g.M b)=some z at h
   split at h
   ·rename_i e;subst e;cases h;exact hD
   ·exact i1.satM b z h,fun r hr=>Res.holds_kept hle (i1.res r hr) fun b hb=>⟨rfl,fun _=>rfl,by
     show(if b=w.heap.size then some .mark else g.M b)=_
     rw[if_neg]
     intro e
     have:=hs.inv.lt (Bp.2 ⟨r,hr,hb⟩)
     omega⟩,i1.nodup,i1.glob.mono hle⟩
  have s2:Ez (Al (LL s0 LF)) w g (w.alloc (.deferred (some []))) g1:=⟨s1.os,s1.tape,s1.output,s1.size,s1.keep,hle,fun k hk hn=>⟨fun _=>rfl,by
   show(if k=w.heap.size then some .mark else g.M k)=_
   rw[if_neg (by omega)]⟩⟩
  let o:Obj:= .loop { state:= .ready,pending:=none,fn,tmps:=a.tmps,params:=ps.toArray,assign,body,defers:=w.heap.size }
  obtain⟨i3,s3⟩:=i2.allocO o
  have hsz1:(w.alloc (.deferred (some []))).heap.size=w.heap.size+1:=by simp
  refine⟨w.heap.size+1,[XC w.heap.size],(w.alloc (.deferred (some []))).alloc o,_,(w.alloc (.deferred (some []))).alloc o,f,#[.func (.yield (w.heap.size+1)) #[] #[]]++vcaps.toArray,(w.alloc (.deferred (some []))).alloc o,run_enterLoop_outer _ _ _ _ _,hres a _ _ rfl,fun _ _=>trivial,?_,hd,?_⟩
  ·simp only[invoke,hf.out]
  ·refine Sv (g1:=g1) (mark:= [XC w.heap.size]) (D:=w.heap.size) (fn:=fn) (enc:=enc) hit henc hps hLL h0 hbody hdone hstop hs.inv (hv2.mono hle) ?_ (by omega) i3 (s2.comp s3 (fun b hb _=>hb)) ?_ ?_
   ·have:((w.alloc (.deferred (some []))).alloc o).heap[(w.alloc (.deferred (some []))).heap.size]? =some o:=World.alloc_heap_new _ o
    rw[hsz1]at this;exact this
   ·exact i2.fresh (by rw[hsz1];exact B5 _)
   ·refine⟨hs.agr.size,⟨?_⟩,fun i=>(hs.agr.slot i).mono hle⟩
    obtain⟨Ds,e1,e2,e3⟩:=hs.agr.defers.out
    refine⟨w.heap.size::Ds,by simp[e1],CH.2 ⟨fun hm=>?_,e2⟩,fun D hD=>?_⟩
    ·have:=(e3 _ hm).2;rw[hM0]at this;cases this
    ·rcases AQ.1 hD with rfl|hD
     ·exact⟨hs.low,by show(if w.heap.size=w.heap.size then some .mark else g.M w.heap.size)=_;simp⟩
     ·exact⟨(e3 D hD).1,hle.M _ _ (e3 D hD).2⟩
 |some l₀=>
  obtain⟨hn,r₀,hr₀⟩:=hs.ro l₀ rfl
  let o:Obj:= .loop { state:= .ready,pending:=none,fn,tmps:=a.tmps,params:=ps.toArray,assign,body,defers:=r₀.defers }
  obtain⟨i3,s3⟩:=hs.inv.allocO o
  refine⟨w.heap.size,[],w.alloc o,_,w.alloc o,f,#[.func (.yield w.heap.size) #[] #[]]++vcaps.toArray,w.alloc o,run_enterLoop_inner hr₀ _ _ _ _ _,hres a _ _ rfl,fun _ _=>trivial,?_,hd,?_⟩
  ·simp only[invoke,hf.out]
  ·refine Sv (g1:=g) (mark:= []) (D:=r₀.defers) (fn:=fn) (enc:=enc) hit henc hps hLL h0 hbody hdone hstop hs.inv hv2 ?_ (B5 _) i3 s3 ?_ ?_
   ·show(w.heap.push o)[_]? =_;simp[o]
   ·exact hs.inv.fresh (B5 _)
   ·exact⟨hs.agr.size,hs.agr.defers,hs.agr.slot⟩
end
end Go.Q
