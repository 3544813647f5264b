/- The small logic: interface values: made, asserted, and methods called on them. Library, no statement of its own. -/
import Derived.Test.YtmkdlelpipefbaaGreatDoorUao
import Derived.Test.YtmkdlelpipefbaaGreatDoorUam
import Derived.Test.YtmkdlelpipefbaaGreatDoorUag
import Derived.Test.YtmkdlelpipefbaaGreatDoorUan
import Derived.Test.YtmkdlelpipefbaaGreatDoorUal
import Derived.Test.YtmkdlelpipefbaaGreatDoorUap
set_option linter.unusedSimpArgs false
set_option linter.unusedVariables false
namespace Go.Q
open Go
class TCon (P:Program) (T:Nat):Prop where
 out: ∃ td,P.underlying T=some td∧ ∀ ms,td≠ .interface ms
def metRow (P:Program) (T:Nat) (m:String):Option (Bool × Option (Nat × Bool)):=(P.info? T).bind fun i=>(i.methods.find? (·.name==m)).map fun r=>(r.path.isEmpty,r.func)
class TMetP (P:Program) (T:Nat) (m:String) (f:outParam Nat):Prop where
 row:metRow P T m=some (true,some (f,true))
 ptr: ∃ E,P.underlying T=some (.pointer E)
class TMetV (P:Program) (T:Nat) (m:String) (E f:outParam Nat):Prop where
 row:metRow P T m=some (true,some (f,false))
 ptr:P.underlying T=some (.pointer E)
theorem VR.ifc_inv {g:Gh} {v:Value} {T:Nat} {x:PV} (h:VR g v (.ifc T x)): ∃ u,v= .iface T u∧VR g u x:=by
 cases h with
 |ifc _ h=>exact⟨_,rfl,h⟩
theorem method_run {P:Program} {T f:Nat} {m:String} {p:Bool} {v u:Value} {w:World} (h:metRow P T m=some (true,some (f,p))) (hr: ∀ o,(receiverAt T (.val v) p o).run P w= .ok u w):(method (P.types.size+Made.depth) T v m).run P w= .ok (f,u) w:=by
 obtain⟨i,h1,h2⟩:=Option.bind_eq_some_iff.1 h
 obtain⟨r,h3,h4⟩:=Option.map_eq_some_iff.1 h2
 have e1:r.path.isEmpty=true:=congrArg Prod.fst h4
 have e2:r.func=some (f,p):=congrArg Prod.snd h4
 have e3:r.path= #[]:=by simpa using e1
 have e4:P.types.size+Made.depth=(P.types.size+99)+1:=rfl
 have e5:(typeInfo T).run P w= .ok i w:=by unfold typeInfo;simp[h1]
 rw[e4,method]
 simp only[Sem.run_bind,e5,Result.andThen_ok,h3,e3,follow,Sem.run_pure,e2,hr]
section
variable {P:Program} {N:Nat} {all:Array Oper} {K:Env→List Res→Prop} {fl:List Bool} {os:List Oper} {ρ:Env} {L:List Res} {d:Nat} {ty:TypeId} {pos:String} {af:Array Edge}
theorem s_mkIfc {T:Nat} [hT:TCon P T] {x:Operand} {y:PV} (hx:ρ.ev x=y) (k:pops P N all K fl.tail os (upd ρ d (.ifc T y)) L) (hd:Nat.blt d N=true:=by rfl):
  pops P N all K fl (⟨some d,.makeInterface T x,ty,pos,af,none⟩::os) ρ L:=
 step_q hd (qop_of_run fun a w g ha hi=>by
  have h1:=ha x (by simp[Op.operands])
  rw[hx]at h1
  obtain⟨td,h2,h3⟩:=hT.out
  refine⟨.iface T (a.eval x),?_,.ifc T h1⟩
  simp only[execOp,Instr.makeInterface,Sem.run_bind,run_und h2,Result.andThen_ok]
  cases td<;>first|rfl|exact absurd rfl (h3 _)) k
theorem s_assert {X T:Nat} [hT:TCon P T] {x:Operand} {y:PV} (hx:ρ.ev x= .ifc T y) (k:pops P N all K fl.tail os (upd ρ d (.tuple [y,.raw (.bool true)])) L) (hd:Nat.blt d N=true:=by rfl):
  pops P N all K fl (⟨some d,.typeAssert x X T true,ty,pos,af,none⟩::os) ρ L:=
 step_q hd (qop_of_run fun a w g ha hi=>by
  have h1:=ha x (by simp[Op.operands])
  rw[hx]at h1
  obtain⟨u,e,h4⟩:=h1.ifc_inv
  obtain⟨td,h2,h3⟩:=hT.out
  refine⟨.tuple #[u,.bool true],?_,VRl.tuple (vs:= [u,.bool true]) (.cons h4 (.cons (.raw _) (.nil g)))⟩
  simp only[execOp,Instr.typeAssert,Sem.run_bind,run_und h2,Result.andThen_ok,e]
  cases td<;>first|(exact absurd rfl (h3 _))|simp) k
theorem opN_invoke {dst:Option Nat} {x:Operand} {m:String} {xs:List Operand} {ats:Array TypeId} {gd:Option (Nat × Bool)} {T f:Nat} {p:Bool} {y z:PV} {L₁ LF:List Res} {Ψ:PV→List Res→Prop} {args:List PV} [hf:TFun P f]
  (hx:ρ.ev x= .ifc T y) (hm:metRow P T m=some (true,some (f,p)))
  (hr: ∀ (w:World) (g:Gh) (v:Value),Inv w g (L₁++LF)→VR g v y→ ∃ u,(∀ o,(receiverAt T (.val v) p o).run P w= .ok u w)∧VR g u z)
  (hargs:z::xs.map ρ.ev=args) (hp:L.Perm (L₁++LF)) (hc:PCalls P f args L₁ (fun r L'=>Ψ r (L'++LF))):
  OpN P ⟨dst,.call { callee:= .invoke x m,args:=xs.toArray,argTypes:=ats },ty,pos,af,gd⟩ ρ L Ψ:=by
 refine OpN.perm hp fun a w g ha hi=>?_
 have h1:=ha x (by simp[Op.operands,Call.operands])
 rw[hx]at h1
 obtain⟨v,e,h4⟩:=h1.ifc_inv
 obtain⟨u,h5,h6⟩:=hr w g v hi h4
 have hvs:VRl g (u::xs.map a.eval) args:=by
  subst hargs
  refine VRl.cons h6 ⟨by simp,fun i h1 h2=>?_⟩
  simp only[List.getElem_map]
  exact ha _ (by simp[Op.operands,Call.operands])
 refine Oper.wq_of_run (n:= .enter f (u::xs.map a.eval).toArray) (w':=w) ?_ ?_
 ·have e0:(#[Value.iface T v]++xs.toArray.map a.eval).extract 1 (#[Value.iface T v]++xs.toArray.map a.eval).size=xs.toArray.map a.eval:=by
   apply Array.ext'
   simp
   exact List.take_of_length_le (by simp)
  have e1:(#[Value.iface T v]++xs.toArray.map a.eval)[0]? =some (Value.iface T v):=by simp
  have e2: #[u]++xs.toArray.map a.eval=(u::xs.map a.eval).toArray:=by simp
  simp only[execOp,resolve,e,Sem.run_bind,Sem.run_pure,Result.andThen_ok,invoke,e1,callMethod,e0,run_program,method_run hm h5,e2,hf.out]
 ·refine(hc _ w g LF hvs hi).mono ?_
  rintro e w' ⟨v,x,g',L',rfl,h2,h3,h4,h5,h6⟩
  exact⟨v,x,g',L'++LF,rfl,h2,h3,h4,h5,h6⟩
theorem recv_ptr {T:Nat} {v:Value} {w:World} (h: ∃ E,P.underlying T=some (.pointer E)) (o:Option String):(receiverAt T (.val v) true o).run P w= .ok v w:=by
 obtain⟨E,h⟩:=h
 simp[receiverAt,run_und h,Place.get]
theorem s_invP {x:Operand} {m:String} {xs:List Operand} {xa:Array Operand} {ats:Array TypeId} {T f:Nat} {y:PV} {args:List PV} (L₁ LF:List Res) [hm:TMetP P T m f] [hf:TFun P f]
  (hx:ρ.ev x= .ifc T y) (hxa:xa=xs.toArray) (hargs:y::xs.map ρ.ev=args) (hp:L.Perm (L₁++LF)) (R:PV→List Res→Prop) (hc:PCalls P f args L₁ R) (k: ∀ r L',R r L'→pops P N all K fl.tail os (upd ρ d r) (L'++LF)) (hd:Nat.blt d N=true:=by rfl) (hfl:fl.headD true=true:=by rfl):
  pops P N all K fl (⟨some d,.call { callee:= .invoke x m,args:=xa,argTypes:=ats },ty,pos,af,none⟩::os) ρ L:=by
 subst hxa
 exact pops_n rfl (dlt hd) hfl (opN_invoke hx hm.row (fun w g v _ hv=>⟨v,fun o=>recv_ptr hm.ptr o,hv⟩) hargs hp (hc.mono fun r L' h=>k r L' h))
theorem recv_box {T E b T':Nat} {w:World} {g:Gh} {cs:List PV} {c:PV} [hE:TScal P E] (h:P.underlying T=some (.pointer E)) (hi:Inv w g L) (hb:Res.box b T' cs∈L) (hl:cs[0]? =some c): ∃ u,(∀ o,(receiverAt T (.val (.pointer (some ⟨b,0,none⟩))) false o).run P w= .ok u w)∧VR g u c:=by
 obtain⟨vs,hbx,hvs,_,_⟩:=hi.res _ hb
 obtain⟨hlt,hc⟩:=List.getElem?_eq_some_iff.1 hl
 have hlt':0 < vs.length:=by rw[hvs.len];exact hlt
 refine⟨vs[0],fun o=>?_,hc ▸ hvs.at_ 0 hlt' hlt⟩
 have:=loadVar_scal hE.out (P:=P) (w:=w) (b:=b) (o:=0) (cell_of_box hbx 0 hlt')
 cases o with
 |none=>simp[receiverAt,run_und h,Place.get,asAddr,this]
 |some nm=>
  have hw:(Builtin.ssaWrapNilChk_ #[T] T #[Value.pointer (some ⟨b,0,none⟩),strVal "",strVal nm]).run P w= .ok (Value.pointer (some ⟨b,0,none⟩)) w:=rfl
  simp only[receiverAt,Sem.run_bind,run_und h,Result.andThen_ok,Place.get,Sem.run_pure]
  first|(simp only[hw,Result.andThen_ok,asAddr,Sem.run_pure,this])|(erw [hw];simp[asAddr,this])
theorem s_invV {x:Operand} {m:String} {xs:List Operand} {xa:Array Operand} {ats:Array TypeId} {T E f b T':Nat} {cs:List PV} {c:PV} {args:List PV} (L₁ LF:List Res) [hm:TMetV P T m E f] [hE:TScal P E] [hf:TFun P f]
  (hx:ρ.ev x= .ifc T (.raw (.pointer (some ⟨b,0,none⟩)))) (hb:Res.box b T' cs∈L) (hl:cs[0]? =some c) (hxa:xa=xs.toArray) (hargs:c::xs.map ρ.ev=args) (hp:L.Perm (L₁++LF)) (R:PV→List Res→Prop) (hc:PCalls P f args L₁ R) (k: ∀ r L',R r L'→pops P N all K fl.tail os (upd ρ d r) (L'++LF)) (hd:Nat.blt d N=true:=by rfl) (hfl:fl.headD true=true:=by rfl):
  pops P N all K fl (⟨some d,.call { callee:= .invoke x m,args:=xa,argTypes:=ats },ty,pos,af,none⟩::os) ρ L:=by
 subst hxa
 exact pops_n rfl (dlt hd) hfl (opN_invoke hx hm.row (fun w g v hi hv=>by rw[hv.raw_inv];exact recv_box hm.ptr hi (hp.mem_iff.1 hb) hl) hargs hp (hc.mono fun r L' h=>k r L' h))
end
end Go.Q
namespace Go.Q
open Go
section
variable {κ α:Type} [DecidableEq κ] (f:α→List PV) (by_:Nat)
def vTgF (x:List α × Tag):PV:= .slice (x.1.map f) x.2
def tokF (x:List α × Tag):Res:= .tok x.2 x.1.length by_
def toksF (m:List (κ × (List α × Tag))):List Res:=m.map fun e=>tokF by_ e.2
def SplitF (k:κ) (m:List (κ × (List α × Tag))) (R:List Res):Prop:=(mGet k m=none∧R=toksF by_ m)∨ ∃ v,mGet k m=some v∧(toksF by_ m).Perm (tokF by_ v::R)
theorem toksF_split (k:κ): ∀ m:List (κ × (List α × Tag)),∃ R,SplitF by_ k m R∧ ∀ v,(toksF by_ (mSet k v m)).Perm (tokF by_ v::R)
 | []=>⟨[],.inl ⟨rfl,rfl⟩,fun v=> .refl _⟩
 |(a,y)::l=>by
  by_cases e:k=a
  ·exact⟨toksF by_ l,.inr ⟨y,by simp[mGet,e],.refl _⟩,fun v=>by simp[mSet,e,toksF]⟩
  ·obtain⟨R,h1,h2⟩:=toksF_split k l
   refine⟨tokF by_ y::R,?_,fun v=>?_⟩
   ·rcases h1 with ⟨h,rfl⟩|⟨v,h,hp⟩
    ·exact .inl ⟨by simp[mGet,e,h],rfl⟩
    ·exact .inr ⟨v,by simp[mGet,e,h],(List.Perm.cons (tokF by_ y) hp).trans (.swap _ _ _)⟩
   ·have e2:mSet k v ((a,y)::l)=(a,y)::mSet k v l:=by simp[mSet,e]
    rw[e2]
    exact(List.Perm.cons (tokF by_ y) (h2 v)).trans (.swap _ _ _)
theorem pwp_toksF {P:Program} {N:Nat} {c:Code} {Q:PPost} {ρ:Env} {A LF R:List Res} {m:List (κ × (List α × Tag))} {k:κ} (h:SplitF by_ k m R) (hk:pwp P N c Q ρ (A++tokF by_ ((mGet k m).getD ([],.nil))::(R++LF))):pwp P N c Q ρ (A++(toksF by_ m++LF)):=by
 rcases h with ⟨h,rfl⟩|⟨v,h,hp⟩
 ·rw[h]at hk
  refine pwp_tok by_ ?_
  exact pwp_perm List.perm_middle.symm hk
 ·rw[h]at hk
  exact pwp_perm (List.Perm.append_left A (hp.append_right LF)) hk
end
section
variable {P:Program} {N:Nat} {all:Array Oper} {K:Env→List Res→Prop} {fl:List Bool} {os:List Oper} {ρ:Env} {L:List Res} {d:Nat} {ty:TypeId} {pos:String} {af:Array Edge}
theorem s_half {T T':TypeId} {x y:Operand} {j:Nat} (hx:ρ.ev x= .raw (.int .i64 ((j:Int) - 1))) (hy:ρ.ev y= .raw (.int .i64 2)) (hj:j≤1000000000) (k:pops P N all K fl.tail os (upd ρ d (.raw (.int .i64 (((j - 1) / 2:Nat):Int)))) L) (hd:Nat.blt d N=true:=by rfl):
  pops P N all K fl (⟨some d,.binOp .quo T x y T',ty,pos,af,none⟩::os) ρ L:=s_int hx hy (fun w=>by
   have h2:((j:Int) - 1).tdiv 2=(((j - 1) / 2:Nat):Int):=by
    by_cases h0:j=0
    ·subst h0;rfl
    ·have e:((j:Int) - 1)=((j - 1:Nat):Int):=by omega
     rw[e]
     exact(Int.ofNat_tdiv (j - 1) 2).symm
   have h5:(j - 1) / 2≤j:=by omega
   have h3:(2:Int)≠0:=by decide
   simp only[binOp,ne_eq,not_true_eq_false,if_false,Op.intDiv,h3,h2]
   clear h2
   generalize (j - 1) / 2=q at*
   rw[IntWalk.i64_in _ (by constructor<;>omega)];rfl) k hd
end
end Go.Q
namespace Go.Q
open Go
theorem PCalls.toB {P:Program} {f:FuncId} {args:List PV} {L:List Res} {E sz:Nat} {α:Type} {ff:α→List PV} {vf:α→List Value} [hr:RawE ff vf] [hf:Len ff sz] {l:List α} (h:PCalls P f args L (fun r L'=> ∃ v,r= .raw v∧RowL vf E sz v l L')):PCalls P f args L (fun r L'=> ∃ v,r= .raw v∧RowB E sz v (l.map ff) L'):=by
 intro vs w g LF hv hi
 refine(h vs w g LF hv hi).mono ?_
 rintro e w' ⟨v,x,g',L',h1,h2,h3,h4,h5,v0,rfl,hrow⟩
 have hs: ∀ e∈l.map ff,e.length=sz:=fun e he=>by obtain⟨a,_,rfl⟩:=List.mem_map.1 he;exact hf.out a
 obtain⟨R',z1,z2,z3⟩:=RowB.close (xs:=l.map ff) (n:=l.length) (by simp) hs hrow (by rw[flat_raws l];exact VRl.raws _ _) h3
 refine⟨v,_,g',R',h1,h2,z2,h4,fun b hb hlt=>h5 b ?_ hlt,v0,rfl,z1⟩
 have e:blocks (R'++LF)=blocks (L'++LF):=by simp only[blocks,List.filterMap_append]at z3 ⊢;rw[z3]
 rw[←e];exact hb
section
variable {P:Program} {N:Nat} {all:Array Oper} {K:Env→List Res→Prop} {fl:List Bool} {os:List Oper} {ρ:Env} {L:List Res} {d:Nat} {ty:TypeId} {pos:String} {af:Array Edge}
end
end Go.Q
namespace Go.Proofs
open Go Go.Q
attribute [local irreducible] pwp pops PCalls OpN
end Go.Proofs
namespace Go.Proofs
open Go Go.Q
attribute [local irreducible] pwp pops PCalls OpN
end Go.Proofs
namespace Go.Proofs
open Go Go.Q
attribute [local irreducible] pwp pops pAny PCalls OpN
theorem tcon_of {P:Program} {T:Nat} (h:(P.underlying T).map (fun td=>match td with| .interface _=>false|_=>true)=some true):TCon P T:=⟨by
 obtain⟨td,h1,h2⟩:=Option.map_eq_some_iff.1 h
 exact⟨td,h1,fun ms e=>by subst e;cases h2⟩⟩
instance :TCon Tryz.prog 70:=tcon_of (by kernel_rfl)
instance :TCon Tryz.prog 72:=tcon_of (by kernel_rfl)
instance :TMetV Tryz.prog 72 "Len" 73 42:=⟨by kernel_rfl,by kernel_rfl⟩
instance :TMetV Tryz.prog 72 "Less" 73 293:=⟨by kernel_rfl,by kernel_rfl⟩
instance :TMetV Tryz.prog 72 "Swap" 73 296:=⟨by kernel_rfl,by kernel_rfl⟩
instance :TMetP Tryz.prog 72 "Push" 295:=⟨by kernel_rfl,⟨73,by kernel_rfl⟩⟩
instance :TMetP Tryz.prog 72 "Pop" 294:=⟨by kernel_rfl,⟨73,by kernel_rfl⟩⟩
instance trw_que:TRw Tryz.prog 73 70 37 120:=⟨by
 obtain⟨i,z,_,h⟩:=trw_set.out
 exact⟨i,z,by kernel_rfl,h⟩⟩
abbrev QRow (v:Value) (q:List Sto) (R:List Res):Prop:=RowB 70 37 v (q.map eSto) R
def bxQ (b:Nat) (v:Value):Res:= .box b 73 [.raw v]
theorem hszS (m:List Sto): ∀ e∈m.map eSto,e.length=37:=fun e he=>by obtain⟨a,_,rfl⟩:=List.mem_map.1 he;simp
instance qlen_ct (o:Option Addr) (n c:Nat):FnC Tryz.prog 42 [.raw (.slice o n c)] (.raw (.int .i64 (n:Int))):=⟨by
 refine fn_of Tryz.func42 Tryz.ntmps42 rfl (rs:= [.tmp 2]) rfl rfl fun hb LF=>?_
 refine wf ?_
 refine s_lenR rfl ?_
 refine wf ?_
 exact end1 (.refl _)⟩
theorem qless_fn (q:List Sto) (i j:Nat) (hi:i < q.length) (hj:j < q.length):FnC Tryz.prog 293 [.slice (q.map eSto) .ro,.raw (.int .i64 (i:Int)),.raw (.int .i64 (j:Int))] (.raw (.bool (lessS (atS q i) (atS q j)))):=⟨by
 rw[atS_get hi,atS_get hj]
 refine fn_of Tryz.func293 Tryz.ntmps293 rfl (rs:= [.tmp 6]) rfl rfl fun hb LF=>?_
 refine wf ?_
 refine pwp_condN (fun h=>?_) (fun h=>?_)
 ·refine wf ?_
  refine end1 (.of_eq ?_)
  rw[lessS,if_pos h]
 ·refine wf ?_
  refine end1 (.of_eq ?_)
  rw[lessS,if_neg (fun h2=>h2 h)]⟩
set_option maxHeartbeats 2000000 in
theorem qswap_fn (q:List Sto) (i j:Nat) (hi:i < q.length) (hj:j < q.length) (v:Value) (R:List Res) (hv:QRow v q R) (hl:q.length≤1000000):
  PCalls Tryz.prog 296 [.raw v,.raw (.int .i64 (i:Int)),.raw (.int .i64 (j:Int))] R (fun _ L'=>QRow v (swapS q i j) L'):=by
 refine pcalls_bd Tryz.func296 rfl Tryz.ntmps296 (rs:= []) rfl rfl fun hb LF=>?_
 obtain⟨⟨o,c,rfl⟩,_⟩:=hv.slice
 obtain⟨r,rest,rfl,rfl,_,hlc,_,hcl⟩:=hv.inv (by rw[List.length_map];omega)
 rw[List.length_map]at hlc ⊢
 have s1:Sub ((q.map eSto).flatten++rest) (0+i*37) 37 (eSto q[i]):=by
  have:=flat_sub (rest:=rest) (hszS q) (i:=i) (by rw[List.length_map];omega)
  rwa [List.getElem_map]at this
 have s2:Sub ((q.map eSto).flatten++rest) (0+j*37) 37 (eSto q[j]):=by
  have:=flat_sub (rest:=rest) (hszS q) (i:=j) (by rw[List.length_map];omega)
  rwa [List.getElem_map]at this
 have p1:Put ((q.map eSto).flatten++rest) (0+i*37) (eSto q[j]) (((q.set i q[j]).map eSto).flatten++rest):=by
  have:=flat_put (rest:=rest) (new:=eSto q[j]) (hszS q) (i:=i) (by rw[List.length_map];omega) (by simp)
  rwa [←List.map_set]at this
 have p2:Put (((q.set i q[j]).map eSto).flatten++rest) (0+j*37) (eSto q[i]) (((swapS q i j).map eSto).flatten++rest):=by
  have:=flat_put (rest:=rest) (new:=eSto q[i]) (hszS (q.set i q[j])) (i:=j) (by rw[List.length_map,List.length_set];omega) (by simp)
  rw[←List.map_set]at this
  unfold swapS
  rw[atS_get hi,atS_get hj]
  exact this
 have fin:RowB 70 37 (.slice (some ⟨r,0,none⟩) q.length c) ((swapS q i j).map eSto) [.box r 70 (((swapS q i j).map eSto).flatten++rest)]:=by
  refine .row (by simp) hlc (hszS _) ?_
  rw[flatten_len (hszS _)]at hcl ⊢
  simpa using hcl
 rw[List.cons_append,List.nil_append]
 refine wn ?_
 refine pwp_drawA [7,11,13,15] (by decide+kernel) ?_
 refine pAny_quiet 0 rfl (by decide+kernel) rfl (fun L'=>q_of_pops (N:=20) rfl rfl (by refine wo ?_;refine pops_nil ?_;exact⟨upd_self _ _ _,rfl⟩)) ?_
 refine pAny_quiet 1 rfl (by decide+kernel) rfl (fun L'=>q_of_pops (N:=20) rfl rfl (by refine wo ?_;refine pops_nil ?_;exact⟨upd_self _ _ _,rfl⟩)) ?_
 refine pAny_quiet 2 rfl (by decide+kernel) rfl (fun L'=>q_of_pops (N:=20) rfl rfl (by refine wo ?_;refine pops_nil ?_;exact⟨upd_self _ _ _,rfl⟩)) ?_
 refine pAny_quiet 3 rfl (by decide+kernel) rfl (fun L'=>q_of_pops (N:=20) rfl rfl (by refine wo ?_;refine pops_nil ?_;exact⟨upd_self _ _ _,rfl⟩)) ?_
 refine pAny_quiet 4 rfl (by decide+kernel) rfl (fun L'=>q_of_pops (N:=20) rfl rfl (by refine wo ?_;refine pops_nil ?_;exact⟨upd_self _ _ _,rfl⟩)) ?_
 refine pAny_quiet 5 rfl (by decide+kernel) rfl (fun L'=>q_of_pops (N:=20) rfl rfl (by refine wo ?_;refine pops_nil ?_;exact⟨upd_self _ _ _,rfl⟩)) ?_
 refine pAny_quiet 6 rfl (by decide+kernel) rfl (fun L'=>q_of_pops (N:=20) rfl rfl (by refine s_ixRow (k:=j) rfl rfl hj ?_;refine pops_nil ?_;exact⟨upd_self _ _ _,rfl⟩)) ?_
 refine pAny_quiet 8 rfl (by decide+kernel) rfl (fun L'=>q_of_pops (N:=20) rfl rfl (by refine wo ?_;refine pops_nil ?_;exact⟨upd_self _ _ _,rfl⟩)) ?_
 refine pAny_quiet 9 rfl (by decide+kernel) rfl (fun L'=>q_of_pops (N:=20) rfl rfl (by refine wo ?_;refine pops_nil ?_;exact⟨upd_self _ _ _,rfl⟩)) ?_
 refine pAny_quiet 10 rfl (by decide+kernel) rfl (fun L'=>q_of_pops (N:=20) rfl rfl (by refine s_ixRow (k:=i) rfl rfl hi ?_;refine pops_nil ?_;exact⟨upd_self _ _ _,rfl⟩)) ?_
 refine pAny_next (fuel:=5) [7,11] (by decide+kernel) (by simp) fun k hk=>?_
 simp only[List.mem_cons,List.not_mem_nil,or_false]at hk
 rcases hk with rfl|rfl
 ·refine⟨_,rfl,?_⟩
  refine s_loadBF rfl List.mem_cons_self (hs:=s2) ?_
  refine pops_nil ?_
  refine pAny_next (fuel:=4) [11] (by decide+kernel) (by simp) fun i hi=>?_
  simp only[List.mem_cons,List.not_mem_nil,or_false]at hi
  subst hi
  refine⟨_,rfl,?_⟩
  refine s_loadBF rfl List.mem_cons_self (hs:=s1) ?_
  refine pops_nil ?_
  refine pAny_quiet 12 rfl (by decide+kernel) rfl (fun L'=>q_of_pops (N:=20) rfl rfl (by refine s_ixRow (k:=i) rfl rfl hi ?_;refine pops_nil ?_;exact⟨upd_self _ _ _,rfl⟩)) ?_
  refine pAny_next (fuel:=2) [13] (by decide+kernel) (by simp) fun i hi=>?_
  simp only[List.mem_cons,List.not_mem_nil,or_false]at hi
  subst hi
  refine⟨_,rfl,?_⟩
  refine wo ?_
  refine pops_nil ?_
  refine pAny_quiet 14 rfl (by decide+kernel) rfl (fun L'=>q_of_pops (N:=20) rfl rfl (by refine s_ixRow (k:=j) rfl rfl hj ?_;refine pops_nil ?_;exact⟨upd_self _ _ _,rfl⟩)) ?_
  refine pAny_next (fuel:=0) [15] (by decide+kernel) (by simp) fun i hi=>?_
  simp only[List.mem_cons,List.not_mem_nil,or_false]at hi
  subst hi
  refine⟨_,rfl,?_⟩
  refine wo ?_
  refine pops_nil ?_
  refine pAny_end (by decide+kernel) ?_
  exact⟨trivial,_,_,.nil,.refl _,fin⟩
 ·refine⟨_,rfl,?_⟩
  refine s_loadBF rfl List.mem_cons_self (hs:=s1) ?_
  refine pops_nil ?_
  refine pAny_next (fuel:=4) [7] (by decide+kernel) (by simp) fun i hi=>?_
  simp only[List.mem_cons,List.not_mem_nil,or_false]at hi
  subst hi
  refine⟨_,rfl,?_⟩
  refine s_loadBF rfl List.mem_cons_self (hs:=s2) ?_
  refine pops_nil ?_
  refine pAny_quiet 12 rfl (by decide+kernel) rfl (fun L'=>q_of_pops (N:=20) rfl rfl (by refine s_ixRow (k:=i) rfl rfl hi ?_;refine pops_nil ?_;exact⟨upd_self _ _ _,rfl⟩)) ?_
  refine pAny_next (fuel:=2) [13] (by decide+kernel) (by simp) fun i hi=>?_
  simp only[List.mem_cons,List.not_mem_nil,or_false]at hi
  subst hi
  refine⟨_,rfl,?_⟩
  refine wo ?_
  refine pops_nil ?_
  refine pAny_quiet 14 rfl (by decide+kernel) rfl (fun L'=>q_of_pops (N:=20) rfl rfl (by refine s_ixRow (k:=j) rfl rfl hj ?_;refine pops_nil ?_;exact⟨upd_self _ _ _,rfl⟩)) ?_
  refine pAny_next (fuel:=0) [15] (by decide+kernel) (by simp) fun i hi=>?_
  simp only[List.mem_cons,List.not_mem_nil,or_false]at hi
  subst hi
  refine⟨_,rfl,?_⟩
  refine wo ?_
  refine pops_nil ?_
  refine pAny_end (by decide+kernel) ?_
  exact⟨trivial,_,_,.nil,.refl _,fin⟩
theorem row_one {v:Value} {q:List Sto} {R:List Res} (h:QRow v q R):v.oneCell'=true:=by
 obtain⟨⟨o,c,e⟩,_⟩:=h.slice
 rw[e];rfl
set_option maxHeartbeats 2000000 in
theorem qpush_fn (q:List Sto) (x:Sto) (b:Nat) (v:Value) (R:List Res) (hv:QRow v q R) (hl:q.length≤1000000):
  PCalls Tryz.prog 295 [.raw (.pointer (some ⟨b,0,none⟩)),.ifc 70 (.agg (eSto x))] (bxQ b v::R) (fun _ L'=> ∃ v' R',L'=bxQ b v'::R'∧QRow v' (q++ [x]) R'):=by
 refine pcalls_bd Tryz.func295 rfl Tryz.ntmps295 (rs:= []) rfl rfl fun hb LF=>?_
 rw[show bxQ b v::R++LF= .box b 73 [.raw v]::(R++LF) from rfl]
 refine wf ?_
 refine s_assert rfl ?_
 refine wf ?_
 refine s_alloc fun b4=>?_
 refine wo ?_
 refine pops_nil ?_
 refine pwp_freezeD 4 ?_
 refine wn ?_
 refine pwp_drawA [3,5,6,8] (by decide+kernel) ?_
 refine pAny_quiet 0 rfl (by decide+kernel) rfl (fun L'=>q_of_pops (N:=20) rfl rfl (by refine wo ?_;refine pops_nil ?_;exact⟨upd_self _ _ _,rfl⟩)) ?_
 refine pAny_quiet 1 rfl (by decide+kernel) rfl (fun L'=>q_of_pops (N:=20) rfl rfl (by refine wo ?_;refine pops_nil ?_;exact⟨upd_self _ _ _,rfl⟩)) ?_
 refine pAny_quiet 2 rfl (by decide+kernel) rfl (fun L'=>q_of_pops (N:=20) rfl rfl (by refine wo ?_;refine pops_nil ?_;exact⟨upd_self _ _ _,rfl⟩)) ?_
 refine pAny_quiet 4 rfl (by decide+kernel) rfl (fun L'=>q_of_pops (N:=20) rfl rfl (by refine wo ?_;refine pops_nil ?_;exact⟨upd_self _ _ _,rfl⟩)) ?_
 refine pAny_next (fuel:=4) [3,5] (by decide+kernel) (by simp) fun k hk=>?_
 simp only[List.mem_cons,List.not_mem_nil,or_false]at hk
 rcases hk with rfl|rfl
 ·refine⟨_,rfl,?_⟩
  refine wo ?_
  refine pops_nil ?_
  refine pAny_next (fuel:=3) [5] (by decide+kernel) (by simp) fun i hi=>?_
  simp only[List.mem_cons,List.not_mem_nil,or_false]at hi
  subst hi
  refine⟨_,rfl,?_⟩
  refine wo ?_
  refine pops_nil ?_
  refine pAny_next (fuel:=2) [6] (by decide+kernel) (by simp) fun i hi=>?_
  simp only[List.mem_cons,List.not_mem_nil,or_false]at hi
  subst hi
  refine⟨_,rfl,?_⟩
  refine s_appB (f:=eSto) (m:= [x]) (R:=R) (LF:= .box b 73 [.raw v]::LF) (fun R'=> .box b 73 [.raw v]::(R'++LF)) rfl rfl hv List.perm_middle.symm (fun R'=>List.perm_middle) (by simp only[List.length_map,List.length_cons,List.length_nil];omega) (by simp only[List.length_map,List.length_cons,List.length_nil];omega) fun v2 R2 hr2=>?_
  refine pops_nil ?_
  refine pAny_quiet 7 rfl (by decide+kernel) rfl (fun L'=>q_of_pops (N:=20) rfl rfl (by refine wo ?_;refine pops_nil ?_;exact⟨upd_self _ _ _,rfl⟩)) ?_
  refine pAny_next (fuel:=0) [8] (by decide+kernel) (by simp) fun i hi=>?_
  simp only[List.mem_cons,List.not_mem_nil,or_false]at hi
  subst hi
  refine⟨_,rfl,?_⟩
  rw[←List.map_append]at hr2
  refine s_storeV [.raw v2] rfl rfl (row_one hr2) rfl (by simp) ?_
  refine pops_nil ?_
  refine pAny_end (by decide+kernel) ?_
  refine wf ?_
  exact⟨trivial,_,bxQ b v2::R2,.nil,.refl _,v2,R2,rfl,hr2⟩
 ·refine⟨_,rfl,?_⟩
  refine wo ?_
  refine pops_nil ?_
  refine pAny_next (fuel:=3) [3] (by decide+kernel) (by simp) fun i hi=>?_
  simp only[List.mem_cons,List.not_mem_nil,or_false]at hi
  subst hi
  refine⟨_,rfl,?_⟩
  refine wo ?_
  refine pops_nil ?_
  refine pAny_next (fuel:=2) [6] (by decide+kernel) (by simp) fun i hi=>?_
  simp only[List.mem_cons,List.not_mem_nil,or_false]at hi
  subst hi
  refine⟨_,rfl,?_⟩
  refine s_appB (f:=eSto) (m:= [x]) (R:=R) (LF:= .box b 73 [.raw v]::LF) (fun R'=> .box b 73 [.raw v]::(R'++LF)) rfl rfl hv List.perm_middle.symm (fun R'=>List.perm_middle) (by simp only[List.length_map,List.length_cons,List.length_nil];omega) (by simp only[List.length_map,List.length_cons,List.length_nil];omega) fun v2 R2 hr2=>?_
  refine pops_nil ?_
  refine pAny_quiet 7 rfl (by decide+kernel) rfl (fun L'=>q_of_pops (N:=20) rfl rfl (by refine wo ?_;refine pops_nil ?_;exact⟨upd_self _ _ _,rfl⟩)) ?_
  refine pAny_next (fuel:=0) [8] (by decide+kernel) (by simp) fun i hi=>?_
  simp only[List.mem_cons,List.not_mem_nil,or_false]at hi
  subst hi
  refine⟨_,rfl,?_⟩
  rw[←List.map_append]at hr2
  refine s_storeV [.raw v2] rfl rfl (row_one hr2) rfl (by simp) ?_
  refine pops_nil ?_
  refine pAny_end (by decide+kernel) ?_
  refine wf ?_
  exact⟨trivial,_,bxQ b v2::R2,.nil,.refl _,v2,R2,rfl,hr2⟩
set_option maxHeartbeats 2000000 in
theorem qpop_fn (q:List Sto) (b:Nat) (v:Value) (R:List Res) (hv:QRow v q R) (h0:0 < q.length) (hl:q.length≤1000000):
  PCalls Tryz.prog 294 [.raw (.pointer (some ⟨b,0,none⟩))] (bxQ b v::R) (fun r L'=> ∃ v' R',r= .ifc 70 (.agg (eSto (atS q (q.length - 1))))∧L'=bxQ b v'::R'∧QRow v' (q.take (q.length - 1)) R'):=by
 refine pcalls_bd Tryz.func294 rfl Tryz.ntmps294 (rs:= [.tmp 2]) rfl rfl fun hb LF=>?_
 obtain⟨⟨o,c,rfl⟩,_⟩:=hv.slice
 obtain⟨r,rest,rfl,rfl,_,hlc,_,hcl⟩:=hv.inv (by rw[List.length_map];omega)
 rw[List.length_map]at hlc ⊢
 obtain⟨n,hn⟩: ∃ n,n=q.length - 1:=⟨_,rfl⟩
 have hnl:n < q.length:=by omega
 have e1:((q.length:Int) - 1)=(n:Int):=by omega
 rw[←hn,atS_get hnl]
 have s1:Sub ((q.map eSto).flatten++rest) (0+n*37) 37 (eSto q[n]):=by
  have:=flat_sub (rest:=rest) (hszS q) (i:=n) (by rw[List.length_map];omega)
  rwa [List.getElem_map]at this
 have fin:RowB 70 37 (.slice (some ⟨r,0+0*37,none⟩) (n - 0) (c - 0)) ((q.take n).map eSto) [.box r 70 ((q.map eSto).flatten++rest)]:=by
  have e:(q.map eSto).flatten++rest=((q.take n).map eSto).flatten++(((q.drop n).map eSto).flatten++rest):=by
   rw[←List.append_assoc,←List.flatten_append,←List.map_append,List.take_append_drop]
  rw[e]
  refine .row (by simp;omega) (by omega) (hszS _) ?_
  have h2:=congrArg List.length e
  simp only[List.length_append]at h2 hcl ⊢
  omega
 rw[show bxQ b (.slice (some ⟨r,0,none⟩) q.length c):: [.box r 70 ((q.map eSto).flatten++rest)]++LF= .box b 73 [.raw (.slice (some ⟨r,0,none⟩) q.length c)]:: .box r 70 ((q.map eSto).flatten++rest)::LF from rfl]
 refine wf ?_
 refine s_lenR rfl ?_
 refine wf ?_
 rw[e1]
 refine s_ixRow (k:=n) rfl rfl hnl ?_
 refine s_loadBF rfl (List.mem_cons_of_mem _ List.mem_cons_self) (hs:=s1) ?_
 refine wf ?_
 refine s_alloc fun b4=>?_
 refine wo ?_
 refine pops_nil ?_
 refine pwp_freezeD 4 ?_
 refine wf ?_
 refine s_lenR rfl ?_
 refine wf ?_
 rw[e1]
 refine s_cutRow 0 n rfl (by omega) (by omega) (by omega) hlc (by simp) (fun _=>rfl) (fun o e=>by cases e;exact⟨_,rfl⟩) (by simp) ?_
 refine wo ?_
 refine pops_nil ?_
 refine wf ?_
 refine s_mkIfc rfl ?_
 refine wf ?_
 exact⟨trivial,_,bxQ b (.slice (some ⟨r,0+0*37,none⟩) (n - 0) (c - 0)):: [.box r 70 ((q.map eSto).flatten++rest)],.cons (.tmp 2) .nil,.refl _,_,_,rfl,rfl,fin⟩
end Go.Proofs
namespace Go.Proofs
open Go Go.Q
attribute [local irreducible] pwp pops pAny PCalls OpN
abbrev ptQ (b:Nat):PV:= .ifc 72 (.raw (.pointer (some ⟨b,0,none⟩)))
theorem upF_step {q:List Sto} {j:Nat} (h:j≠0):upF j q j=if lessS (atS q j) (atS q ((j - 1) / 2))=true then upF ((j - 1) / 2) (swapS q ((j - 1) / 2) j) ((j - 1) / 2)else q:=by
 obtain⟨m,rfl⟩: ∃ m,j=m+1:=⟨j - 1,by omega⟩
 rw[upF,if_neg h]
 split
 ·exact upF_fuel (by omega) (Nat.le_refl _)
 ·rfl
theorem dnF_step {q:List Sto} {i n:Nat}:dnF n q i n=if n≤2*i+1 then q else if lessS (atS q (kid q i n)) (atS q i)=true then dnF n (swapS q i (kid q i n)) (kid q i n) n else q:=by
 cases n with
 |zero=>rw[if_pos (by omega)];rfl
 |succ n=>
  rw[dnF]
  split
  ·rfl
  ·split
   ·refine dnF_fuel ?_ (by omega)
    rcases kid_cases q i (n+1)with e|⟨e,e2⟩<;>omega
   ·rfl
theorem qmax {m:List Sto} (h:m.length≤1000000):(m.map eSto).length≤maxN∧(m.map eSto).length*37≤maxN:=by
 have:maxN=140737488355328:=rfl
 rw[List.length_map];omega
set_option maxHeartbeats 2000000 in
theorem hup_fn (q:List Sto) (j b:Nat) (v:Value) (R:List Res) (hv:QRow v q R) (hj:j < q.length) (hl:q.length≤1000000):
  PCalls Tryz.prog 80 [ptQ b,.raw (.int .i64 (j:Int))] (bxQ b v::R) (fun _ L'=> ∃ R',L'.Perm (bxQ b v::R')∧QRow v (upF q.length q j) R'):=by
 refine pcalls_bd Tryz.func80 rfl Tryz.ntmps80 (rs:= []) rfl rfl fun hb LF=>?_
 refine pwp_perm (L':=R++bxQ b v::LF) List.perm_middle.symm ?_
 refine wf ?_
 refine pwp_loopS (σ:=Nat × List Sto × List Res) (fun k=>k.1 < q.length∧k.2.1.length=q.length∧QRow v k.2.1 k.2.2∧upF q.length q j=upF k.1 k.2.1 k.1) (fun k=>k.1) (fun k=> [(0,ptQ b),(1,.raw (.int .i64 k.1))]) (fun k=>k.2.2++bxQ b v::LF) (j,q,R) ⟨hj,rfl,hv,upF_fuel (by omega) (Nat.le_refl _)⟩ ⟨rfl,rfl⟩ (.refl _) ?_
 rintro⟨k,p,S⟩ ⟨hk,hp,hr,hu⟩
 dsimp only at hk hp hr hu ⊢
 obtain⟨i,hi⟩: ∃ i,i=(k - 1) / 2:=⟨_,rfl⟩
 refine wf ?_
 refine s_half rfl rfl (by omega) ?_
 rw[←hi]
 by_cases h0:k=0
 ·have g:decide ((i:Int)=(k:Int))=true:=decide_eq_true (by omega)
  refine wf ?_
  refine⟨trivial,_,S++ [bxQ b v],.nil,by simp,S,List.perm_append_singleton _ _,?_⟩
  rw[hu,h0];exact hr
 ·have g:decide ((i:Int)=(k:Int))=false:=decide_eq_false (by omega)
  have hs:=upF_step (q:=p) h0
  rw[←hi]at hs
  refine wf ?_
  refine s_invV (xs:= [.tmp 13,.tmp 14]) S (bxQ b v::LF) rfl (List.mem_append_right _ List.mem_cons_self) rfl rfl rfl (.refl _) _ (RowB.lend hr [] [.raw (.int .i64 (k:Int)),.raw (.int .i64 (i:Int))] (qmax (by omega)) (qless_fn p k i (by omega) (by omega)).out) fun r L' ⟨e1,e2⟩=>?_
  subst e1;rw[e2]
  generalize hle:lessS (atS p k) (atS p i)=c at hs
  refine wf ?_
  refine pwp_condB (fun h=>?_) (fun h=>?_)
  ·have hc:c=false:=by simpa using h
   rw[hc,if_neg (by simp)]at hs
   refine wf ?_
   refine⟨trivial,_,S++ [bxQ b v],.nil,by simp,S,List.perm_append_singleton _ _,?_⟩
   rw[hu,hs];exact hr
  ·have hc:c=true:=by simpa using h
   rw[hc,if_pos rfl]at hs
   refine wf ?_
   refine s_invV (xs:= [.tmp 19,.tmp 20]) S (bxQ b v::LF) rfl (List.mem_append_right _ List.mem_cons_self) rfl rfl rfl (.refl _) _ (qswap_fn p i k (by omega) (by omega) v S hr (by omega)) fun r L' hr2=>?_
   refine wf ?_
   exact⟨(i,swapS p i k,L'),⟨by dsimp only;omega,by dsimp only;rw[swapS_len];exact hp,hr2,hu.trans hs⟩,by dsimp only;omega,⟨rfl,rfl⟩,.refl _⟩
set_option maxHeartbeats 2000000 in
theorem hdown_fn (q:List Sto) (n b:Nat) (v:Value) (R:List Res) (hv:QRow v q R) (hn:n≤q.length) (hl:q.length≤1000000):
  PCalls Tryz.prog 81 [ptQ b,.raw (.int .i64 0),.raw (.int .i64 (n:Int))] (bxQ b v::R) (fun _ L'=> ∃ R',L'.Perm (bxQ b v::R')∧QRow v (dnF n q 0 n) R'):=by
 refine pcalls_bd Tryz.func81 rfl Tryz.ntmps81 (rs:= [.tmp 6]) rfl rfl fun hb LF=>?_
 refine pwp_perm (L':=R++bxQ b v::LF) List.perm_middle.symm ?_
 refine wf ?_
 refine pwp_loopS (σ:=Nat × List Sto × List Res) (fun k=>k.1≤n∧k.2.1.length=q.length∧QRow v k.2.1 k.2.2∧dnF n q 0 n=dnF n k.2.1 k.1 n) (fun k=>n - k.1) (fun k=> [(0,ptQ b),(1,.raw (.int .i64 0)),(2,.raw (.int .i64 n)),(7,.raw (.int .i64 k.1))]) (fun k=>k.2.2++bxQ b v::LF) (0,q,R) ⟨by dsimp only;omega,rfl,hv,rfl⟩ ⟨rfl,rfl,rfl,rfl⟩ (.refl _) ?_
 rintro⟨i,p,S⟩ ⟨hi,hp,hr,hu⟩
 dsimp only at hi hp hr hu ⊢
 have hs:=dnF_step (q:=p) (i:=i) (n:=n)
 have e1:(2:Int)*(i:Int)+1=((2*i+1:Nat):Int):=by omega
 have e2:((2*i+1:Nat):Int)+1=((2*i+2:Nat):Int):=by omega
 refine wf ?_
 rw[e1]
 refine pops_if (fun hc=>?_) (fun hc=>?_)
 ·have hc:=of_decide_eq_true hc
  rw[if_pos (by omega)]at hs
  refine wf ?_
  refine⟨trivial,_,S++ [bxQ b v],.cons (.tmp 6) .nil,by simp,S,List.perm_append_singleton _ _,?_⟩
  rw[hu,hs];exact hr
 have hc:=of_decide_eq_false hc
 rw[if_neg (by omega)]at hs
 refine wf ?_
 rw[e2]
 have hkd:kid p i n=if 2*i+2 < n∧lessS (atS p (2*i+2)) (atS p (2*i+1))=true then 2*i+2 else 2*i+1:=rfl
 have hkc:=kid_cases p i n
 generalize kid p i n=c at hs hkd hkc
 refine pops_cutE [(33,.raw (.bool (decide (c=2*i+2)))),(0,ptQ b),(1,.raw (.int .i64 0)),(2,.raw (.int .i64 n)),(7,.raw (.int .i64 i)),(9,.raw (.int .i64 (2*i+1:Nat))),(10,.raw (.int .i64 (2*i+2:Nat)))] (S++bxQ b v::LF) ?_ ?_
 ·refine pops_if (fun hq=>?_) (fun hq=>?_)
  ·have hq':=of_decide_eq_true hq
   have hlt:2*i+2 < n:=by omega
   refine wf ?_
   refine s_invV (xs:= [.tmp 30,.tmp 31]) S (bxQ b v::LF) rfl (List.mem_append_right _ List.mem_cons_self) rfl rfl rfl (.refl _) _ (RowB.lend hr [] [.raw (.int .i64 (2*i+2:Nat)),.raw (.int .i64 (2*i+1:Nat))] (qmax (by omega)) (qless_fn p (2*i+2) (2*i+1) (by omega) (by omega)).out) fun r L' ⟨e3,e4⟩=>?_
   subst e3;rw[e4]
   refine wf ?_
   refine⟨⟨holdsB (by rfl) ?_,rfl,rfl,rfl,rfl,rfl,rfl⟩,.refl _⟩
   cases hls:lessS (atS p (2*i+2)) (atS p (2*i+1))with
   |true=>rw[hls,if_pos ⟨hlt,rfl⟩]at hkd;exact(decide_eq_true hkd).symm
   |false=>rw[hls,if_neg (by simp)]at hkd;exact(decide_eq_false (by omega)).symm
  ·have hq':=of_decide_eq_false hq
   rw[if_neg (fun h=>hq' (by have:=h.1;omega))]at hkd
   refine wf ?_
   refine⟨⟨holdsB (by rfl) ?_,rfl,rfl,rfl,rfl,rfl,rfl⟩,.refl _⟩
   exact(decide_eq_false (by omega)).symm
 have hcn:c < n:=by omega
 refine pwp_joinG (σ:=Unit) (fun _=>True) (fun _=> [(0,ptQ b),(1,.raw (.int .i64 0)),(2,.raw (.int .i64 n)),(7,.raw (.int .i64 i)),(9,.raw (.int .i64 c))]) (fun _=>S++bxQ b v::LF) ?_ ?_
 ·refine pwp_condD (fun h=>?_) (fun h=>?_)
  ·refine wf ?_
   exact⟨(),trivial,⟨rfl,rfl,rfl,rfl,by rw[h];rfl⟩,.refl _⟩
  ·have h2:c=2*i+1:=by omega
   refine wf ?_
   exact⟨(),trivial,⟨rfl,rfl,rfl,rfl,by rw[h2];rfl⟩,.refl _⟩
 rintro _ _
 refine wf ?_
 refine s_invV (xs:= [.tmp 36,.tmp 37]) S (bxQ b v::LF) rfl (List.mem_append_right _ List.mem_cons_self) rfl rfl rfl (.refl _) _ (RowB.lend hr [] [.raw (.int .i64 (c:Int)),.raw (.int .i64 (i:Int))] (qmax (by omega)) (qless_fn p c i (by omega) (by omega)).out) fun r L' ⟨e3,e4⟩=>?_
 subst e3;rw[e4]
 generalize lessS (atS p c) (atS p i)=y at hs
 refine wf ?_
 refine pwp_condB (fun h=>?_) (fun h=>?_)
 ·have hy:y=false:=by simpa using h
  rw[hy,if_neg (by simp)]at hs
  refine wf ?_
  refine⟨trivial,_,S++ [bxQ b v],.cons (.tmp 6) .nil,by simp,S,List.perm_append_singleton _ _,?_⟩
  rw[hu,hs];exact hr
 ·have hy:y=true:=by simpa using h
  rw[hy,if_pos rfl]at hs
  refine wf ?_
  refine s_invV (xs:= [.tmp 41,.tmp 42]) S (bxQ b v::LF) rfl (List.mem_append_right _ List.mem_cons_self) rfl rfl rfl (.refl _) _ (qswap_fn p i c (by omega) (by omega) v S hr (by omega)) fun r L' hr2=>?_
  refine wf ?_
  exact⟨(c,swapS p i c,L'),⟨by dsimp only;omega,by dsimp only;rw[swapS_len];exact hp,hr2,hu.trans hs⟩,by dsimp only;omega,⟨rfl,rfl,rfl,rfl⟩,.refl _⟩
set_option maxHeartbeats 2000000 in
theorem hpush_fn (q:List Sto) (x:Sto) (b:Nat) (v:Value) (R:List Res) (hv:QRow v q R) (hl:q.length < 1000000):
  PCalls Tryz.prog 41 [ptQ b,.ifc 70 (.agg (eSto x))] (bxQ b v::R) (fun _ L'=> ∃ v' R',L'.Perm (bxQ b v'::R')∧QRow v' (pushS q x) R'):=by
 refine pcalls_bd Tryz.func41 rfl Tryz.ntmps41 (rs:= []) rfl rfl fun hb LF=>?_
 refine wf ?_
 refine s_invP (xs:= [.tmp 5]) (bxQ b v::R) LF rfl rfl rfl (.refl _) _ (qpush_fn q x b v R hv (by omega)) fun r L' ⟨v',R',e1,hv'⟩=>?_
 subst e1
 obtain⟨⟨o,c,rfl⟩,_⟩:=hv'.slice
 have e2:(((q++ [x]).map eSto).length:Int) - 1=(q.length:Int):=by rw[List.length_map,List.length_append,List.length_singleton];omega
 refine wf ?_
 refine s_invV (xs:= []) [] (bxQ b (.slice o ((q++ [x]).map eSto).length c)::(R'++LF)) rfl List.mem_cons_self rfl rfl rfl (.refl _) _ (qlen_ct o _ c).out fun r L' ⟨e3,e4⟩=>?_
 subst e3;rw[e4,List.nil_append]
 have hm:((q++ [x]).map eSto).length=q.length+1:=by simp
 refine wf ?_
 rw[e2]
 refine s_callR (xs:= [.tmp 7,.tmp 10]) (bxQ b (.slice o ((q++ [x]).map eSto).length c)::R') LF (f:=80) (cs:= []) (le_func _) rfl rfl (.refl _) _ (hup_fn (q++ [x]) q.length b _ R' hv' (by simp) (by simp;omega)) fun r L' ⟨R2,hp,hr2⟩=>?_
 refine wf ?_
 refine⟨trivial,_,L',.nil,.refl _,_,R2,hp,?_⟩
 have e5:upF (q++ [x]).length (q++ [x]) q.length=pushS q x:=upF_fuel (by simp) (Nat.le_refl _)
 rw[←e5];exact hr2
set_option maxHeartbeats 2000000 in
theorem hpop_fn (q:List Sto) (b:Nat) (v:Value) (R:List Res) (hv:QRow v q R) (h0:0 < q.length) (hl:q.length≤1000000):
  PCalls Tryz.prog 43 [ptQ b] (bxQ b v::R) (fun r L'=> ∃ v' R',r= .ifc 70 (.agg (eSto (atS (restS q) (q.length - 1))))∧L'=bxQ b v'::R'∧QRow v' ((restS q).take (q.length - 1)) R'):=by
 refine pcalls_bd Tryz.func43 rfl Tryz.ntmps43 (rs:= [.tmp 2]) rfl rfl fun hb LF=>?_
 obtain⟨⟨o,c,ev⟩,_⟩:=hv.slice
 rw[List.length_map]at ev
 obtain⟨n,hn⟩: ∃ n,n=q.length - 1:=⟨_,rfl⟩
 have e2:(q.length:Int) - 1=(n:Int):=by omega
 have hrl:(restS q).length=q.length:=by unfold restS;rw[dnF_len,swapS_len]
 have c1:PCalls Tryz.prog 42 [.raw v] [] (fun r L'=>r= .raw (.int .i64 (q.length:Int))∧L'= []):=by
  rw[ev];exact(qlen_ct o q.length c).out
 refine wf ?_
 refine s_invV (xs:= []) [] (bxQ b v::(R++LF)) rfl List.mem_cons_self rfl rfl rfl (.refl _) _ c1 fun r L' ⟨e3,e4⟩=>?_
 subst e3;rw[e4,List.nil_append]
 refine wf ?_
 rw[e2]
 refine s_invV (xs:= [.const (.int .i64 0),.tmp 8]) R (bxQ b v::LF) rfl List.mem_cons_self rfl rfl rfl List.perm_middle.symm _ (qswap_fn q 0 n (by omega) (by omega) v R hv hl) fun r R1 hr1=>?_
 refine wf ?_
 refine s_callR (xs:= [.tmp 10,.const (.int .i64 0),.tmp 11]) (bxQ b v::R1) LF (f:=81) (cs:= []) (le_func _) rfl rfl List.perm_middle _ (hdown_fn (swapS q 0 n) n b v R1 hr1 (by rw[swapS_len];omega) (by rw[swapS_len];exact hl)) fun r L' ⟨R2,hp2,hr2⟩=>?_
 have e5:dnF n (swapS q 0 n) 0 n=restS q:=by rw[hn];rfl
 rw[e5]at hr2
 refine wf ?_
 refine s_invP (xs:= []) (bxQ b v::R2) LF rfl rfl rfl (hp2.append_right LF) _ (qpop_fn (restS q) b v R2 hr2 (by omega) (by omega)) fun r L' ⟨v',R',e6,e7,hr3⟩=>?_
 subst e6 e7
 rw[hrl]at hr3
 refine wf ?_
 refine⟨trivial,_,bxQ b v'::R',.cons (.tmp 2) .nil,.refl _,v',R',?_,rfl,hr3⟩
 rw[hrl];rfl
end Go.Proofs
namespace Go.Proofs
open Go Go.Q
end Go.Proofs
namespace Go.Proofs
open Go Go.Q
theorem getS_mem' {a:List Sto} {d:Dig} {p:Pat} (h:getS a d=some p):(⟨d,p⟩:Sto)∈a:=by
 obtain⟨x,hx,e1,e2⟩:=getS_mem h
 rw[←e1,←e2];exact hx
end Go.Proofs
namespace Go.Proofs
open Go Go.Q
structure Closed (s:List Sto) (l L:List Dig):Prop where
 has: ∀ d∈l,d∈L
 sub: ∀ d∈L,d∈ids s
 asc:Asc L
 nd: ∀ d∈L,∀ n∈ndS s d,n∈L
theorem Valid.closed {s:List Sto} (v:Valid s) {l:List Dig} (hl: ∀ d∈l,d∈ids s): ∃ L,rClosure s l=(L,0)∧Closed s l L:=by
 have h:allIn (ids s) l=true:=List.all_eq_true.2 fun d hd=>decide_eq_true (hl d hd)
 have hcl: ∀ x∈ids s,∀ d∈Go.Proofs.ndS s x,d∈ids s:=fun x _ d hd=>v.close.nd x d hd
 have hm: ∀ d,d∈iterC (Go.Proofs.ndS s) s.length (withAll [] l)↔Q.Reach (Go.Proofs.ndS s) l d:=fun d=>mem_iterC hcl hl (by rw[ids_len];exact Nat.le_refl _)
 refine⟨iterC (Go.Proofs.ndS s) s.length (withAll [] l),by rw[rClosure,if_neg (by simp[h])],fun d hd=>(hm d).2 (.base hd),fun d hd=>((hm d).1 hd).in_ hcl hl,iterC_asc (withAll_asc .nil),fun d hd n hn=>(hm n).2 (.step ((hm d).1 hd) hn)⟩
theorem Valid.closedM {s:List Sto} (v:Valid s) {l:List Dig} (hl: ∀ d∈l,d∈ids s): ∃ L,rClosure s l=(L,0)∧Closed s l L∧ ∀ d,d∈L↔Q.Reach (Go.Proofs.ndS s) l d:=by
 obtain⟨L,e,h⟩:=v.closed hl
 refine⟨L,e,h,fun d=>?_⟩
 have hA:allIn (ids s) l=true:=List.all_eq_true.2 fun d hd=>decide_eq_true (hl d hd)
 have hcl: ∀ x∈ids s,∀ d∈Go.Proofs.ndS s x,d∈ids s:=fun x _ d hd=>v.close.nd x d hd
 rw[rClosure,if_neg (by simp[hA])]at e
 rw[←(Prod.mk.inj e).1,mem_iterC hcl hl (by rw[ids_len];exact Nat.le_refl _)]
theorem closure_bad {s:List Sto} {l:List Dig} (h: ¬allIn (ids s) l=true):rClosure s l=([],7):=by rw[rClosure,if_pos (by simpa using h)]
theorem allIn_iff {U l:List Dig}:allIn U l=true↔ ∀ d∈l,d∈U:=by simp[allIn]
theorem mem_order_iff {s:List Sto} (v:Valid s) {d:Dig}:d∈rOrder s↔d∈ids s:=⟨(rOrder_ordered s).sub d,v.mem_order⟩
theorem order_nodup (s:List Sto):(rOrder s).Nodup:=(rOrder_ordered s).nodup
theorem len_of_same {l m:List Dig} (hl:l.Nodup) (hm:m.Nodup) (h: ∀ d,d∈l↔d∈m):l.length=m.length:=
 Nat.le_antisymm (nodup_len hl fun d hd=>(h d).1 hd) (nodup_len hm fun d hd=>(h d).2 hd)
end Go.Proofs
namespace Go.Proofs
open Go Go.Q
end Go.Proofs
namespace Go.Proofs
open Go Go.Q
def linE (s:List Sto) (l:List Dig) (i:Nat):Int:=
 if(getS s (l.getD i Dig.zero)).isSome=false then 7 else if l.getD i Dig.zero∈l.take i then 6 else if allIn (l.take i) (ndS s (l.getD i Dig.zero))=false then 19 else 0
def rLin (s:List Sto) (l:List Dig):Int:=if firstErr (linE s l) (List.range l.length)≠0 then firstErr (linE s l) (List.range l.length)else if(l.length:Int)≠s.length then 10 else 0
structure Lin (s:List Sto) (l:List Dig):Prop where
 mem: ∀ d,d∈l↔d∈ids s
 nodup:l.Nodup
 need: ∀ i (h:i < l.length),∀ d∈ndS s l[i],d∈l.take i
theorem getD_get {l:List Dig} {i:Nat} (h:i < l.length):l.getD i Dig.zero=l[i]:=by simp[List.getD,h]
theorem Lin.len {s:List Sto} {l:List Dig} (h:Lin s l) (ha:Asc (ids s)):l.length=s.length:=by
 rw[←ids_len s];exact len_of_same h.nodup ha.nodup h.mem
theorem linE_ok {s:List Sto} {l:List Dig} {i:Nat} (h:linE s l i=0):(getS s (l.getD i Dig.zero)).isSome=true∧l.getD i Dig.zero∉l.take i∧allIn (l.take i) (ndS s (l.getD i Dig.zero))=true:=by
 unfold linE at h
 split at h
 ·exact absurd h (by decide)
 split at h
 ·exact absurd h (by decide)
 split at h
 ·exact absurd h (by decide)
 rename_i h1 h2 h3
 exact⟨by revert h1;cases (getS s (l.getD i Dig.zero)).isSome<;>simp,h2,by simpa using h3⟩
theorem nodup_of_take {l:List Dig} (h: ∀ i (hi:i < l.length),l[i]∉l.take i):l.Nodup:=by
 refine List.pairwise_iff_getElem.2 fun i j hi hj hij e=>?_
 exact h j hj (List.mem_take_iff_getElem.2 ⟨i,by omega,e⟩)
theorem lin_part {s:List Sto} {l:List Dig} (ha:Asc (ids s)) (h:firstErr (linE s l) (List.range l.length)=0):l.Nodup∧(∀ d∈l,d∈ids s)∧ ∀ i (h:i < l.length),∀ d∈ndS s l[i],d∈l.take i:=by
 have h0:=fun i (hi:i < l.length)=>linE_ok (firstErr_eq_zero h i (List.mem_range.2 hi))
 refine⟨nodup_of_take fun i hi=>?_,fun d hd=>?_,fun i hi d hd=>?_⟩
 ·have:=(h0 i hi).2.1
  rwa [getD_get hi]at this
 ·obtain⟨i,hi,rfl⟩:=List.mem_iff_getElem.1 hd
  have:=(h0 i hi).1
  rw[getD_get hi,getS_isSome ha]at this
  exact of_decide_eq_true this
 ·have:=(h0 i hi).2.2
  rw[getD_get hi]at this
  exact allIn_iff.1 this d hd
theorem nodup_takeC {l:List Dig} (h:l.Nodup) {i:Nat} (hi:i < l.length):l[i]∉l.take i:=fun hm=>by
 obtain⟨k,hk,e⟩:=List.mem_take_iff_getElem.1 hm
 have:=(List.getElem_inj h).1 e
 omega
theorem lin_iff {s:List Sto} {l:List Dig} (ha:Asc (ids s)):rLin s l=0↔Lin s l:=by
 constructor
 ·intro h
  unfold rLin at h
  split at h
  ·rename_i h1;exact absurd h h1
  split at h
  ·exact absurd h (by decide)
  rename_i h1 h2
  obtain⟨n1,n2,n3⟩:=lin_part ha (by simpa using h1)
  refine⟨fun d=>⟨n2 d,fun hd=>Classical.byContradiction fun hn=>?_⟩,n1,n3⟩
  have:=nodup_len (l:=d::l) (m:=ids s) (List.nodup_cons.2 ⟨hn,n1⟩) fun x hx=>by
   rcases List.mem_cons.1 hx with rfl|hx
   ·exact hd
   ·exact n2 x hx
  rw[List.length_cons,ids_len]at this
  omega
 ·intro h
  have hE:firstErr (linE s l) (List.range l.length)=0:=firstErr_zero fun i hi=>by
   rw[List.length_range]at hi
   rw[List.getElem_range]
   unfold linE
   rw[getD_get hi]
   have h1:(getS s l[i]).isSome=true:=by rw[getS_isSome ha];exact decide_eq_true ((h.mem _).1 (List.getElem_mem hi))
   have h2:l[i]∉l.take i:=nodup_takeC h.nodup hi
   have h3:allIn (l.take i) (ndS s l[i])=true:=allIn_iff.2 (h.need i hi)
   rw[if_neg (by simp[h1]),if_neg h2,if_neg (by simp[h3])]
  unfold rLin
  rw[if_neg (by simp[hE]),if_neg (by rw[h.len ha];simp)]
theorem order_lin {s:List Sto} (v:Valid s):Lin s (rOrder s):=⟨fun d=>mem_order_iff v,order_nodup s,fun i hi d hd=>by
 obtain⟨x,hx,e,h1,h2⟩:=rOrder_ordered s i hi
 rw[←e,v.ndS hx]at hd
 exact h1 d hd⟩
def swapD (l:List Dig) (i:Nat):List Dig:=(l.set i (l.getD (i+1) Dig.zero)).set (i+1) (l.getD i Dig.zero)
@[simp] theorem swapD_len (l:List Dig) (i:Nat):(swapD l i).length=l.length:=by simp[swapD]
theorem swapD_get {l:List Dig} {i:Nat} (hi:i+1 < l.length) {k:Nat} (hk:k < l.length):(swapD l i)[k]'(by simpa using hk)=if k=i+1 then l[i]else if k=i then l[i+1]else l[k]:=by
 have e1:=getD_get (show i < l.length by omega)
 have e2:=getD_get hi
 have e0:(swapD l i)[k]'(by simpa using hk)=if i+1=k then l.getD i Dig.zero else if i=k then l.getD (i+1) Dig.zero else l[k]:=by
  simp only[swapD,List.getElem_set]
 rw[e0,e1,e2]
 by_cases h1:i+1=k
 ·rw[if_pos h1,if_pos h1.symm]
 ·rw[if_neg h1,if_neg (Ne.symm h1)]
  by_cases h2:i=k
  ·rw[if_pos h2,if_pos h2.symm]
  ·rw[if_neg h2,if_neg (Ne.symm h2)]
theorem swapD_mem {l:List Dig} {i n:Nat} (hi:i+1 < n) (hn:n≤l.length) (d:Dig):d∈(swapD l i).take n↔d∈l.take n:=by
 rw[List.mem_take_iff_getElem,List.mem_take_iff_getElem]
 constructor
 ·rintro⟨k,hk,e⟩
  rw[swapD_len]at hk
  rw[swapD_get (by omega) (by omega)]at e
  split at e
  ·exact⟨i,by omega,e⟩
  split at e
  ·exact⟨i+1,by omega,e⟩
  ·exact⟨k,hk,e⟩
 ·rintro⟨k,hk,e⟩
  by_cases h1:k=i
  ·subst h1
   exact⟨k+1,by rw[swapD_len];omega,by rw[swapD_get (by omega) (by omega),if_pos rfl];exact e⟩
  by_cases h2:k=i+1
  ·subst h2
   exact⟨i,by rw[swapD_len];omega,by rw[swapD_get (by omega) (by omega),if_neg (by omega),if_pos rfl];exact e⟩
  ·exact⟨k,by rw[swapD_len];omega,by rw[swapD_get (by omega) (by omega),if_neg h2,if_neg h1];exact e⟩
theorem swapD_take {l:List Dig} {i n:Nat} (h:n≤i):(swapD l i).take n=l.take n:=by
 unfold swapD
 rw[List.take_set_of_le (by omega),List.take_set_of_le h]
theorem Lin.swap {s:List Sto} {l:List Dig} (h:Lin s l) {i:Nat} (hi:i+1 < l.length) (hn:l[i]∉ndS s l[i+1]):Lin s (swapD l i):=by
 have hlen:(swapD l i).length=l.length:=swapD_len l i
 have hmem: ∀ d,d∈swapD l i↔d∈l:=fun d=>by
  have:=swapD_mem (l:=l) (n:=l.length) hi (Nat.le_refl _) d
  rwa [List.take_of_length_le (by omega),List.take_of_length_le (Nat.le_refl _)]at this
 have hgi: ∀ {a b:Nat} (ha:a < l.length) (hb:b < l.length),l[a]=l[b]→a=b:=fun ha hb e=>(List.getElem_inj h.nodup).1 e
 refine⟨fun d=>(hmem d).trans (h.mem d),?_,fun k hk d hd=>?_⟩
 ·refine List.pairwise_iff_getElem.2 fun a b ha hb hab e=>?_
  rw[hlen]at ha hb
  rw[swapD_get hi ha,swapD_get hi hb]at e
  by_cases a1:a=i+1
  ·rw[if_pos a1,if_neg (by omega),if_neg (by omega)]at e
   have:=hgi _ _ e;omega
  rw[if_neg a1]at e
  by_cases a2:a=i
  ·rw[if_pos a2]at e
   by_cases b1:b=i+1
   ·rw[if_pos b1]at e;have:=hgi _ _ e;omega
   ·rw[if_neg b1,if_neg (by omega)]at e;have:=hgi _ _ e;omega
  ·rw[if_neg a2]at e
   by_cases b1:b=i+1
   ·rw[if_pos b1]at e;have:=hgi _ _ e;omega
   rw[if_neg b1]at e
   by_cases b2:b=i
   ·rw[if_pos b2]at e;have:=hgi _ _ e;omega
   ·rw[if_neg b2]at e;have:=hgi _ _ e;omega
 ·rw[hlen]at hk
  rw[swapD_get hi hk]at hd
  by_cases k1:k=i+1
  ·rw[if_pos k1]at hd
   have:=h.need i (by omega) d hd
   rw[←swapD_take (l:=l) (Nat.le_refl i)]at this
   rw[k1]
   exact List.take_subset_take_left _ (by omega) this
  rw[if_neg k1]at hd
  by_cases k2:k=i
  ·rw[if_pos k2]at hd
   have h3:=h.need (i+1) hi d hd
   rw[List.take_succ_eq_append_getElem (by omega),List.mem_append,List.mem_singleton]at h3
   rw[k2,swapD_take (Nat.le_refl i)]
   rcases h3 with h3|h3
   ·exact h3
   ·exact absurd (h3 ▸ hd) hn
  ·rw[if_neg k2]at hd
   have h3:=h.need k hk d hd
   by_cases k3:k < i
   ·rw[swapD_take (by omega)];exact h3
   ·exact(swapD_mem (by omega) (by omega) d).2 h3
theorem swapD_back {l:List Dig} {i:Nat} (hi:i+1 < l.length):swapD (swapD l i) i=l:=by
 refine List.ext_getElem (by simp) fun k h1 h2=>?_
 rw[swapD_get (by simpa using hi) (by simpa using h2),swapD_get hi (by omega),swapD_get hi hi,swapD_get hi h2]
 by_cases k1:k=i+1
 ·subst k1;simp
 ·by_cases k2:k=i
  ·subst k2;simp
  ·simp[k1,k2]
theorem Lin.swap_free {s:List Sto} {l:List Dig} (h:Lin s l) {i:Nat} (hi:i+1 < l.length):(swapD l i)[i]'(by simp;omega)∉ndS s ((swapD l i)[i+1]'(by simpa using hi)):=by
 have e1:=swapD_get hi (k:=i) (by omega)
 have e2:=swapD_get hi hi
 rw[if_neg (by omega),if_pos rfl]at e1
 rw[if_pos rfl]at e2
 rw[e1,e2]
 intro hm
 have h1:=h.need i (by omega) _ hm
 obtain⟨k,hk,e⟩:=List.mem_take_iff_getElem.1 h1
 have:=(List.getElem_inj h.nodup).1 e
 omega
def mvF (s:List Sto):Nat→List Dig→Nat→Nat→Option (List Dig)
 |0,l,_,_=>some l
 |f+1,l,a,b=>
  if a=b then some l else
  if b < a then(if l.getD (a - 1) Dig.zero∈ndS s (l.getD a Dig.zero)then none else mvF s f (swapD l (a - 1)) (a - 1) b)
  else(if l.getD a Dig.zero∈ndS s (l.getD (a+1) Dig.zero)then none else mvF s f (swapD l a) (a+1) b)
def dst (a b:Nat):Nat:=(a - b)+(b - a)
theorem front {s:List Sto}: ∀ (n:Nat) {l:List Dig} (_:Lin s l) {i k:Nat} (_:k=i+n) (hk:k < l.length) (_: ∀ d∈ndS s l[k],d∈l.take i),∃ m,mvF s n l k i=some m∧Lin s m∧m.length=l.length∧m.take i=l.take i∧m.getD i Dig.zero=l[k]
 |0,l,h,i,k,e,hk,_=>⟨l,rfl,h,rfl,rfl,by subst e;rw[getD_get hk]⟩
 |n+1,l,h,i,k,e,hk,hn=>by
  have hk1:k - 1+1 < l.length:=by omega
  have hnot:l[k - 1]∉ndS s (l[k - 1+1]):=fun hm=>by
   have e1:l[k - 1+1]=l[k]:=by congr 1;omega
   rw[e1]at hm
   have:=hn _ hm
   obtain⟨j,hj,e2⟩:=List.mem_take_iff_getElem.1 this
   have:=(List.getElem_inj h.nodup).1 e2
   omega
  have e3:(swapD l (k - 1))[k - 1]'(by simp;omega)=l[k]:=by
   rw[swapD_get hk1 (by omega),if_neg (by omega),if_pos rfl]
   congr 1;omega
  obtain⟨m,h1,h2,h3,h4,h5⟩:=front n (h.swap hk1 hnot) (i:=i) (k:=k - 1) (by omega) (by rw[swapD_len];omega) (by
   rw[e3,swapD_take (by omega)];exact hn)
  refine⟨m,?_,h2,by rw[h3,swapD_len],by rw[h4,swapD_take (by omega)],by rw[h5,e3]⟩
  rw[mvF,if_neg (by omega),if_pos (by omega),getD_get (show k - 1 < l.length by omega),getD_get hk]
  have e1:l[k - 1+1]=l[k]:=by congr 1;omega
  rw[e1]at hnot
  rw[if_neg hnot]
  exact h1
theorem Lin.prefix_valid {s:List Sto} {l:List Dig} (h:Lin s l) (v:Valid s) (n:Nat):Valid (keepS s (l.take n)):=v.keep fun x hx hc d hd=>by
 obtain⟨i,hi,e⟩:=List.mem_take_iff_getElem.1 hc
 have h1:=h.need i (by omega) d (by rw[e,v.ndS hx];exact hd)
 exact List.take_subset_take_left _ (by omega) h1
theorem Lin.prefix_len {s:List Sto} {l:List Dig} (h:Lin s l) (ha:Asc (ids s)) {n:Nat} (hn:n≤l.length):(keepS s (l.take n)).length=n:=by
 have:=len_of_same (l:=ids (keepS s (l.take n))) (m:=l.take n) (ha.nodup.sublist (ids_keep_sub s _)) (List.Pairwise.sublist (List.take_sublist _ _) h.nodup) fun d=>by
  rw[mem_ids_keep]
  exact⟨fun k=>k.2,fun k=>⟨(h.mem d).1 (List.mem_of_mem_take k),k⟩⟩
 rw[ids_len,List.length_take]at this
 omega
end Go.Proofs
