/- Contracts of the program: slices.Clone and slices.Insert on sets. -/
import Derived.Test.YtjmpmjmobbofgaaGreatDoorUan
import Derived.Test.YtjmpmjmobbofgaaGreatDoorUam
import Derived.Test.YtjmpmjmobbofgaaGreatDoorUal
import Derived.Test.YtjmpmjmobbofgaaGreatDoorUag
import Derived.Maps.RangeRun
set_option linter.unusedSimpArgs false
set_option linter.unusedVariables false
namespace Go.Proofs
open Go Go.Q
attribute [local irreducible] pwp pops PCalls OpN
instance trw_set:TRw Tryz.prog 23 52 37 120:=⟨by
 have h2:(Tryz.prog.info? 52).map (fun i=>(i.size,i.bytes,i.zero.isSome,(i.zero.getD undef).cells.size))=some (37,120,true,37):=by kernel_rfl
 obtain⟨i,hi,e⟩:=Option.map_eq_some_iff.1 h2
 simp only[Prod.mk.injEq]at e
 obtain⟨e1,e2,e3,e4⟩:=e
 obtain⟨z,hz⟩:=Option.isSome_iff_exists.1 e3
 rw[hz]at e4
 exact⟨i,z,by kernel_rfl,hi,e1,e2,hz,e4,by decide,by decide⟩⟩
instance trw_sto:TRw Tryz.prog 22 52 37 120:=⟨by
 obtain⟨i,z,_,h⟩:=trw_set.out
 exact⟨i,z,by kernel_rfl,h⟩⟩
theorem splice_len {X cs:List Value} {o:Nat} (h:o+cs.length≤X.length):(splice X o cs).length=X.length:=by
 unfold splice
 simp only[List.length_append,List.length_take,List.length_drop];omega
theorem splice_at {X cs:List Value} {o:Nat} (h:o+cs.length≤X.length) (k:Nat):(splice X o cs)[k]? =if k < o then X[k]? else if k < o+cs.length then cs[k - o]? else X[k]?:=by
 unfold splice
 have h1:(X.take o).length=o:=by rw[List.length_take];omega
 by_cases a:k < o
 ·rw[if_pos a,List.append_assoc,List.getElem?_append_left (by omega),List.getElem?_take_of_lt a]
 ·rw[if_neg a,List.append_assoc,List.getElem?_append_right (by omega),h1]
  by_cases b:k < o+cs.length
  ·rw[if_pos b,List.getElem?_append_left (by omega)]
  ·rw[if_neg b,List.getElem?_append_right (by omega),List.getElem?_drop]
   congr 1;omega
theorem target_at {us cv:List Value} {a:Nat} (h:a≤us.length) (k:Nat):(us.take a++cv++us.drop a)[k]? =if k < a then us[k]? else if k < a+cv.length then cv[k - a]? else us[k - cv.length]?:=by
 have h1:(us.take a).length=a:=by rw[List.length_take];omega
 by_cases b:k < a
 ·rw[if_pos b,List.append_assoc,List.getElem?_append_left (by omega),List.getElem?_take_of_lt b]
 ·rw[if_neg b,List.append_assoc,List.getElem?_append_right (by omega),h1]
  by_cases c:k < a+cv.length
  ·rw[if_pos c,List.getElem?_append_left (by omega)]
  ·rw[if_neg c,List.getElem?_append_right (by omega),List.getElem?_drop]
   congr 1;omega
theorem target_len {us cv:List Value} {a:Nat} (h:a≤us.length):(us.take a++cv++us.drop a).length=us.length+cv.length:=by
 simp only[List.length_append,List.length_take,List.length_drop];omega
theorem grow_target {us cv zs:List Value} {a:Nat} (h:a≤us.length) (hz:cv.length+(us.length - a)≤zs.length):(splice (splice (us.take a++zs) a cv) (a+cv.length) (us.drop a)).take (us.length+cv.length)=us.take a++cv++us.drop a:=by
 have h1:(us.take a).length=a:=by rw[List.length_take];omega
 have hX:(us.take a++zs).length=a+zs.length:=by rw[List.length_append,h1]
 have hB:(us.drop a).length=us.length - a:=List.length_drop
 have q1:a+cv.length≤(us.take a++zs).length:=by omega
 have q2:=splice_len q1
 have q3:a+cv.length+(us.drop a).length≤(splice (us.take a++zs) a cv).length:=by omega
 refine List.ext_getElem? fun k=>?_
 rw[target_at h,List.getElem?_take]
 by_cases hk:k < us.length+cv.length
 ·rw[if_pos hk,splice_at q3,splice_at q1]
  by_cases b:k < a
  ·rw[if_pos (by omega),if_pos b,if_pos b,List.getElem?_append_left (by omega),List.getElem?_take_of_lt b]
  ·rw[if_neg b,if_neg b]
   by_cases c:k < a+cv.length
   ·rw[if_pos c,if_pos c,if_pos c]
   ·rw[if_neg c,if_pos (by omega),if_neg c,List.getElem?_drop]
    congr 1;omega
 ·rw[if_neg hk,if_neg (by omega),if_neg (by omega),List.getElem?_eq_none (by omega)]
theorem shift_target {us cv X:List Value} {a:Nat} (h:a≤us.length) (hX:us.length+cv.length≤X.length) (ht:X.take us.length=us):(splice (splice X (a+cv.length) (us.drop a)) a cv).take (us.length+cv.length)=us.take a++cv++us.drop a:=by
 have hB:(us.drop a).length=us.length - a:=List.length_drop
 have q1:a+cv.length+(us.drop a).length≤X.length:=by omega
 have q2:=splice_len q1
 have q3:a+cv.length≤(splice X (a+cv.length) (us.drop a)).length:=by omega
 refine List.ext_getElem? fun k=>?_
 rw[target_at h,List.getElem?_take]
 by_cases hk:k < us.length+cv.length
 ·rw[if_pos hk,splice_at q3,splice_at q1]
  by_cases b:k < a
  ·rw[if_pos b,if_pos (by omega),if_pos b]
   conv=>rhs;rw[←ht]
   rw[List.getElem?_take_of_lt (by omega)]
  ·rw[if_neg b,if_neg b]
   by_cases c:k < a+cv.length
   ·rw[if_pos c,if_pos c]
   ·rw[if_neg c,if_neg c,if_neg c,if_pos (by omega),List.getElem?_drop]
    congr 1;omega
 ·rw[if_neg hk,if_neg (by omega),if_neg (by omega),List.getElem?_eq_none (by omega)]
theorem cellsAt_take {cur:Array Value} {us:List Value} (h:cur.toList.take us.length=us) (a:Nat):CellsAt cur 0 (us.take a):=fun j hj=>by
 rw[List.length_take]at hj
 rw[Nat.zero_add,List.getElem_take,←List.getElem?_eq_getElem (by omega)]
 conv=>rhs;rw[←h]
 rw[List.getElem?_take_of_lt (by omega)]
theorem cellsAt_drop {cur:Array Value} {us:List Value} (h:cur.toList.take us.length=us) (a:Nat):CellsAt cur a (us.drop a):=fun j hj=>by
 rw[List.length_drop]at hj
 rw[List.getElem_drop,←List.getElem?_eq_getElem (by omega)]
 conv=>rhs;rw[←h]
 rw[List.getElem?_take_of_lt (by omega)]
set_option maxHeartbeats 2000000 in
theorem insert_raw (v:Value) (n:Nat) (us:List Value) (R:List Res) (hv:RowG 52 37 v n us R) (i:Nat) (hi:i≤n) (hn:n≤1000) (rv:Nat) (cv:Array Value) (hcv:cv.size=37) (h1v: ∀ x∈cv.toList,x.oneCell'=true) (h1u: ∀ x∈us,x.oneCell'=true):
  PCalls Tryz.prog 87 [.raw v,.raw (.int .i64 (i:Int)),.raw (.slice (some ⟨rv,0,none⟩) 1 1)] (R++ [.raw rv (.cells cv 52 (0,0))])
   (fun x L'=> ∃ v' R',x= .raw v'∧RowG 52 37 v' (n+1) (us.take (i*37)++cv.toList++us.drop (i*37)) R'∧L'=R'++ [.raw rv (.cells cv 52 (0,0))]):=by
 refine pcalls_bd Tryz.func87 rfl Tryz.ntmps87 (rs:= [.tmp 6]) rfl rfl fun hb LF=>?_
 have hul:=hv.len
 have hcl:cv.toList.length=37:=by simpa using hcv
 have hcat:CellsAt cv 0 cv.toList:=fun j hj=>by rw[Nat.zero_add,List.getElem?_eq_getElem hj]
 obtain⟨o,c,hvs⟩:=hv.slice
 have hnc:n≤c:=by cases hv<;>(injection hvs with _ _ e;omega)
 subst hvs
 refine wf ?_
 refine s_cutAny rfl rfl hi hnc fun u=>?_
 refine wf ?_
 refine s_lenR rfl ?_
 refine wf ?_
 refine s_lenR rfl ?_
 refine wf ?_
 refine pwp_condD (fun h=>?_) (fun h=>?_)
 ·have hin:i=n:=by omega
  subst hin
  refine wf ?_
  refine s_appRR (us:=us) (vs:=cv.toList) (R:=R) (LF:= .raw rv (.cells cv 52 (0,0))::LF) (fun R'=>R'++(.raw rv (.cells cv 52 (0,0))::LF)) rfl rfl hv (.of_eq (by simp)) (fun R'=> .refl _) (by omega) h1v ⟨cv,_,_,List.mem_cons_self,hcat⟩ (by omega) (by omega) fun v' R' hv'=>?_
  refine wf ?_
  refine wf ?_
  refine⟨trivial,_,R'++ [.raw rv (.cells cv 52 (0,0))],.cons (.tmp 6) .nil,by rw[List.append_assoc];exact .refl _,v',R',rfl,?_,rfl⟩
  rw[List.take_of_length_le (by omega),List.drop_eq_nil_of_le (by omega),List.append_nil]
  exact hv'
 have hin:i < n:=by omega
 cases hv with
 |nil o ho=>omega
 |row hlc hs hu hc=>
 rename_i r cur
 have hc':cur.toList.take us.length=us:=by rw[hul];exact hc
 have hcs:cur.toList.length=c*37:=by simpa using hs
 have hia:i*37≤us.length:=by omega
 have htl:(us.take (i*37)).length=i*37:=by rw[List.length_take];omega
 have hdl:(us.drop (i*37)).length=(n - i)*37:=by rw[List.length_drop];omega
 refine wf ?_
 refine s_capR rfl ?_
 refine wf ?_
 refine pwp_condD (fun h2=>?_) (fun h2=>?_)
 ·refine wf ?_
  refine s_cutC 0 i rfl (by omega) (by omega) (by omega) hlc (fun _ e=>by cases e) (fun _=>rfl) (fun o e=>by cases e;exact⟨_,rfl⟩) (fun e=>by cases e) ?_
  refine wf ?_
  refine s_appZ (T₂:=3) (us:=us.take (i*37)) (n:=i) (m:=n+1 - i) (c:=c) (o:=0) (cur:=cur) (by kernel_rfl) rfl (by show PV.raw (Value.int .i64 ((n:Int)+1 - i))=PV.raw (Value.int .i64 ((n+1 - i:Nat):Int));congr 2;omega) List.mem_cons_self rfl htl (cellsAt_take hc' _) (by omega) (by omega) (by omega) (by omega) fun r' nc zs hnc hzl=>?_
  have e1:i+(n+1 - i)=n+1:=by omega
  rw[e1]at hnc ⊢
  have hz37:cv.toList.length+(us.length - i*37)≤zs.length:=by
   rw[List.length_append,htl]at hzl
   have:(n+1)*37≤nc*37:=Nat.mul_le_mul_right _ hnc
   omega
  refine wf ?_
  refine wf ?_
  refine s_cutC i (n+1) rfl (by omega) hnc (by omega) hnc (fun o e=>by cases e;exact⟨_,rfl⟩) (fun e=>by cases e) (fun _ e=>by cases e) (fun _=>rfl) ?_
  refine wf ?_
  refine s_copyR (r:=r') (cur:=(us.take (i*37)++zs).toArray) cv.toList (fun c=>c::([.raw r (.cells cur 52 (0,0))]++ [.raw rv (.cells cv 52 (0,0))]++LF)) rfl rfl (.refl _) (fun c=> .refl _) (by rw[show Nat.min 1 (n+1 - i)=1 by show min 1 (n+1 - i)=1;omega];omega) h1v (by simp only[List.size_toArray,List.length_append,htl];omega) ⟨cv,_,_,List.mem_cons_of_mem _ (List.mem_cons_of_mem _ List.mem_cons_self),hcat⟩ ?_
  rw[show 0+i*37=i*37 from Nat.zero_add _]
  rw[show(us.take (i*37)++zs).toArray.toList=us.take (i*37)++zs from rfl]
  refine pops_nil ?_
  refine wn ?_
  refine pwp_drawN 8 ?_ ?_
  ·decide+kernel
  refine wf ?_
  refine s_cutC (i+1) (n+1) rfl (by omega) hnc (by omega) hnc (fun o e=>by cases e;exact⟨_,rfl⟩) (fun e=>by cases e) (fun _ e=>by cases e) (fun _=>rfl) ?_
  refine wf ?_
  refine s_cutC i n rfl (by omega) (by omega) (by omega) hlc (fun o e=>by cases e;exact⟨_,rfl⟩) (fun e=>by cases e) (fun _ e=>by cases e) (fun _=>rfl) ?_
  refine wf ?_
  have hsp:(splice (us.take (i*37)++zs) (i*37) cv.toList).length=nc*37:=by
   rw[splice_len (by rw[List.length_append,htl];omega),hzl]
  have hnz:(n+1)*37≤nc*37:=Nat.mul_le_mul_right _ hnc
  refine s_copyR (r:=r') (cur:=(splice (us.take (i*37)++zs) (i*37) cv.toList).toArray) (us.drop (i*37)) (fun c=>c::([.raw r (.cells cur 52 (0,0))]++ [.raw rv (.cells cv 52 (0,0))]++LF)) rfl rfl (.refl _) (fun c=> .refl _) (by rw[show Nat.min (n - i) (n+1 - (i+1))=n - i by show min (n - i) (n+1 - (i+1))=n - i;omega];exact hdl) (fun x hx=>h1u x (List.mem_of_mem_drop hx)) (by rw[List.size_toArray,hsp,hdl];omega) ⟨cur,_,_,List.mem_cons_of_mem _ List.mem_cons_self,by rw[Nat.zero_add];exact cellsAt_drop hc' _⟩ ?_
  rw[show 0+(i+1)*37=(i+1)*37 from Nat.zero_add _]
  rw[show(splice (us.take (i*37)++zs) (i*37) cv.toList).toArray.toList=splice (us.take (i*37)++zs) (i*37) cv.toList from rfl]
  refine wf ?_
  refine wf ?_
  refine⟨trivial,_,[.raw r' (.cells (splice (splice (us.take (i*37)++zs) (i*37) cv.toList) ((i+1)*37) (us.drop (i*37))).toArray 52 (0,0))]++ [.raw rv (.cells cv 52 (0,0))],.cons (.tmp 6) .nil,.cons_cons _ (.cons _ (.refl _)),_,_,rfl,.row hnc ?_ ?_ ?_,rfl⟩
  ·rw[List.size_toArray,splice_len (by rw[hsp,hdl];omega),hsp]
  ·rw[target_len hia,hul];omega
  ·have e3:=grow_target (us:=us) (cv:=cv.toList) (zs:=zs) hia hz37
   rw[hcl,hul,show i*37+37=(i+1)*37 by omega,show n*37+37=(n+1)*37 by omega]at e3
   exact e3
 have hroom:n+1≤c:=by omega
 have hnz:(n+1)*37≤c*37:=Nat.mul_le_mul_right _ hroom
 refine wf ?_
 refine s_cutC 0 (n+1) rfl (by omega) hroom (by omega) hlc (fun _ e=>by cases e) (fun _=>rfl) (fun o e=>by cases e;exact⟨_,rfl⟩) (fun e=>by cases e) ?_
 refine wf ?_
 refine s_cutC (i+1) (n+1) rfl (by omega) (by omega) (by omega) (by omega) (fun o e=>by cases e;exact⟨_,rfl⟩) (fun e=>by cases e) (fun _ e=>by cases e) (fun _=>rfl) ?_
 refine s_overlaps (f:=120) (T:=22) (B:=4) (L':=LF) Tryz.func120 (by kernel_rfl) (by kernel_rfl) (by kernel_rfl) (by kernel_rfl) rfl rfl (.swap _ _ _) (by omega) ?_
 refine wo ?_
 refine pops_nil ?_
 refine wn ?_
 refine pwp_drawN 8 ?_ ?_
 ·decide+kernel
 refine wf ?_
 refine s_cutC (i+1) (n+1) rfl (by omega) (by omega) (by omega) (by omega) (fun o e=>by cases e;exact⟨_,rfl⟩) (fun e=>by cases e) (fun _ e=>by cases e) (fun _=>rfl) ?_
 refine wf ?_
 refine s_cutC i (n+1) rfl (by omega) (by omega) (by omega) (by omega) (fun o e=>by cases e;exact⟨_,rfl⟩) (fun e=>by cases e) (fun _ e=>by cases e) (fun _=>rfl) ?_
 refine wf ?_
 refine s_copyR (r:=r) (cur:=cur) (us.drop (i*37)) (fun c=>c::([.raw rv (.cells cv 52 (0,0))]++LF)) rfl rfl (.refl _) (fun c=> .refl _) (by rw[hdl];congr 1;show n - i=min _ _;omega) (fun x hx=>h1u x (List.mem_of_mem_drop hx)) (by rw[hs,hdl];omega) ⟨cur,_,_,List.mem_cons_self,by rw[show 0+0*37+i*37=i*37 by omega];exact cellsAt_drop hc' _⟩ ?_
 rw[show 0+0*37+(i+1)*37=(i+1)*37 by omega]
 have hsp:(splice cur.toList ((i+1)*37) (us.drop (i*37))).length=c*37:=by
  rw[splice_len (by rw[hcs,hdl];omega),hcs]
 refine pops_nil ?_
 refine wf ?_
 refine s_cutC i (n+1) rfl (by omega) (by omega) (by omega) (by omega) (fun o e=>by cases e;exact⟨_,rfl⟩) (fun e=>by cases e) (fun _ e=>by cases e) (fun _=>rfl) ?_
 refine wf ?_
 refine s_copyR (r:=r) (cur:=(splice cur.toList ((i+1)*37) (us.drop (i*37))).toArray) cv.toList (fun c=>c::([.raw rv (.cells cv 52 (0,0))]++LF)) rfl rfl (.refl _) (fun c=> .refl _) (by rw[hcl];show 37=min 1 _*37;omega) h1v (by rw[List.size_toArray,hsp,hcl];omega) ⟨cv,_,_,List.mem_cons_of_mem _ List.mem_cons_self,hcat⟩ ?_
 rw[show 0+0*37+i*37=i*37 by omega,show(splice cur.toList ((i+1)*37) (us.drop (i*37))).toArray.toList=splice cur.toList ((i+1)*37) (us.drop (i*37)) from rfl]
 refine pops_nil ?_
 refine wf ?_
 refine⟨trivial,_,[.raw r (.cells (splice (splice cur.toList ((i+1)*37) (us.drop (i*37))) (i*37) cv.toList).toArray 52 (0,0))]++ [.raw rv (.cells cv 52 (0,0))],.cons (.tmp 6) .nil,.refl _,_,_,rfl,.row hroom ?_ ?_ ?_,rfl⟩
 ·rw[List.size_toArray,splice_len (by rw[hsp,hcl];omega),hsp,Nat.sub_zero]
 ·rw[target_len hia,hul];omega
 ·have e3:=shift_target (us:=us) (cv:=cv.toList) (X:=cur.toList) hia (by omega) hc'
  rw[hcl,hul,show i*37+37=(i+1)*37 by omega,show n*37+37=(n+1)*37 by omega]at e3
  exact e3
end Go.Proofs
namespace Go.Q
open Go
section
variable {P:Program} {N:Nat} {all:Array Oper} {K:Env→List Res→Prop} {fl:List Bool} {os:List Oper} {ρ:Env} {L:List Res} {d:Nat} {ty:TypeId} {pos:String} {af:Array Edge}
theorem s_build1B {T E sz by_:Nat} [hT:TRw P T E sz by_] {x0:Operand} {cs:List PV} (hc:Cells (ρ.ev x0) cs) (hl:cs.length=sz) (h24:sz≤16777216)
  (k: ∀ b,pops P N all K fl.tail os (upd ρ d (.raw (.slice (some ⟨b,0,none⟩) 1 1))) (.box b E cs::L)) (hd:Nat.blt d N=true:=by rfl) (hfl:fl.headD true=true:=by rfl):pops P N all K fl (⟨some d,.buildSlice T 1 #[(0,x0)],ty,pos,af,none⟩::os) ρ L:=
 pops_n rfl (dlt hd) hfl (fun a w g ha hi=>by
  obtain⟨i,z,t1,t2,t3,t4,t5,t6,t7,t8⟩:=hT.out
  obtain⟨us,e1,e2⟩:=hc g _ (ha x0 (by simp[Op.operands]))
  have hul:us.length=sz:=by rw[e2.len,hl]
  have hr:(execOp a.eval ⟨some d,.buildSlice T 1 #[(0,x0)],ty,pos,af,none⟩).run P w= .ok (.value (.slice (some ⟨w.heap.size,0,none⟩) 1 1)) { w with heap:=w.heap.push (.cells us.toArray E (0,0)) }:=by
   have hz: ∀ (zz:Array Value),Instr.fill (fun i=>some (i*sz,sz)) ((Array.range (1*sz)).map (zz[·% zz.size]!)) [(0,a.eval x0)]=some us.toArray:=fun zz=>by
    have e:(Array.range (1*sz)).map (zz[·% zz.size]!)=((List.range (1*sz)).map (zz[·% zz.size]!)).toArray:=by
     apply Array.ext';simp
    have:=fill_all (sz:=sz) [us] [a.eval x0] 0 ((List.range (1*sz)).map (zz[·% zz.size]!)) rfl (fun i h1 h2=>by
     have h0:i=0:=by simp at h1;omega
     subst h0
     exact⟨e1,hul⟩) (by simp)
    rw[e]
    simpa using this
   show(do pure (Next.value (←Instr.buildSlice T 1 (#[(0,x0)].map fun(p:Nat × Operand)=>(p.1,a.eval p.2)))):Sem Next).run P w=_
   simp only[Instr.buildSlice,Sem.run_bind,run_underlying t1,Result.andThen_ok,sizeOf,typeInfo,run_program,t2,Sem.run_pure,t3]
   rw[if_neg (by have:(2:Nat) ^ 24=16777216:=by decide
                 omega)]
   have hzv:(zeroValue E).run P w= .ok z w:=by simp[zeroValue,typeInfo,t2,t5]
   split
   ·simp only[Sem.run_bind,Sem.run_pure,Result.andThen_ok,List.map_toArray,List.map_cons,List.map_nil,hz #[],newRow,run_newObj]
   ·simp only[Sem.run_bind,hzv,Sem.run_pure,Result.andThen_ok,List.map_toArray,List.map_cons,List.map_nil,hz z.cells,newRow,run_newObj]
  obtain⟨j1,j2,j3⟩:=hi.alloc e2 E
  refine Oper.wq_of_run hr ?_
  exact⟨_,.raw _,g,_,rfl,.raw _,j1,j2,j3,k _⟩)
end
end Go.Q
namespace Go.Proofs
open Go Go.Q
attribute [local irreducible] pwp pops PCalls OpN
theorem cloneS_fn (l:List Sto) (t:Tag) (hl:l.length≤1000000):PCalls Tryz.prog 84 [.slice (l.map eSto) t] [] (fun r L'=> ∃ v,r= .raw v∧RowB 52 37 v (l.map eSto) L'):=by
 refine pcalls_bd Tryz.func84 rfl Tryz.ntmps84 (rs:= [.tmp 2]) rfl rfl fun hb LF=>?_
 rw[List.nil_append]
 refine wf ?_
 refine s_eqNil rfl fun b hnil=>?_
 refine wf ?_
 refine pwp_condB (fun h=>?_) (fun h=>?_)
 ·have h0:l= []:=by simpa using hnil h
  subst h0
  refine pwp_seq ?_
  refine pwp_region (by kernel_rfl) ?_
  refine s_assign ?_
  refine pops_nil ?_
  refine wf ?_
  exact⟨trivial,_,[],.cons (.tmp 2) .nil,.refl _,_,rfl,.nil none (by simp)⟩
 refine pwp_skip ?_
 refine pwp_seq ?_
 refine pwp_region (by kernel_rfl) ?_
 refine s_bsRow (vf:=fun(_:Sto)=> []) fun v0 hv0=>?_
 have hv1:RowB 52 37 v0 [] []:=by
  generalize hR:([]:List Res)=R at hv0
  generalize hn:([]:List Sto).length=n at hv0
  unfold RowL at hv0
  rw[hn]at hv0
  cases hv0 with
  |nil o ho=>exact .nil o ho
  |row _ _ _ _=>cases hR
 refine wf ?_
 refine s_appB (f:=eSto) (R:= []) (LF:=LF) (fun R'=>R'++LF) rfl rfl hv1 (.refl _) (fun R'=> .refl _) (by simp only[List.length_nil];omega) (by simp only[List.length_nil];omega) fun v R' hv=>?_
 refine wf ?_
 refine wf ?_
 rw[List.nil_append]at hv
 exact⟨trivial,_,R',.cons (.tmp 2) .nil,.refl _,v,rfl,hv⟩
theorem flat_take {α:Type} {f:α→List PV} {sz:Nat} [hf:Len f sz] (l:List α) (i:Nat) (hi:i≤l.length):(l.map f).flatten.take (i*sz)=((l.take i).map f).flatten∧(l.map f).flatten.drop (i*sz)=((l.drop i).map f).flatten:=by
 have e:(l.map f).flatten=((l.take i).map f).flatten++((l.drop i).map f).flatten:=by
  rw[←List.flatten_append,←List.map_append,List.take_append_drop]
 have hlen:((l.take i).map f).flatten.length=i*sz:=by
  rw[flatten_len (sz:=sz) (fun e he=>by obtain⟨a,_,rfl⟩:=List.mem_map.1 he;exact hf.out a),List.length_map,List.length_take,Nat.min_eq_left hi]
 rw[e]
 exact⟨List.take_left' hlen,List.drop_left' hlen⟩
theorem insertS_fn (v:Value) (l:List Sto) (R:List Res) (hv:RowB 52 37 v (l.map eSto) R) (i:Nat) (hi:i≤l.length) (hn:l.length≤1000) (rv:Nat) (x:Sto):
  PCalls Tryz.prog 87 [.raw v,.raw (.int .i64 (i:Int)),.raw (.slice (some ⟨rv,0,none⟩) 1 1)] (R++ [.box rv 52 (eSto x)])
   (fun r L'=> ∃ v' R',r= .raw v'∧RowB 52 37 v' ((l.take i++x::l.drop i).map eSto) R'∧L'=R'++ [.box rv 52 (eSto x)]):=by
 have hfl: ∀ (m:List Sto),flat (m.map eSto).flatten:=fun m c hc=>by
  obtain⟨e,he,hce⟩:=List.mem_flatten.1 hc
  obtain⟨a,_,rfl⟩:=List.mem_map.1 he
  exact(inferInstance:FlatF eSto).out a c hce
 unfold PCalls
 intro vs w g LF hvv hI
 have hI1:Inv w g (R++([.box rv 52 (eSto x)]++LF)):=by rw[←List.append_assoc];exact hI
 obtain⟨us,R₁,q1,q2,q3,q4⟩:=hv.open hI1
 have hI2:Inv w g (.box rv 52 (eSto x)::(R₁++LF)):=q3.perm List.perm_middle
 obtain⟨uv,p1,p2⟩:=Inv.boxRaw hI2
 have hI3:Inv w g ((R₁++ [.raw rv (.cells uv.toArray 52 (0,0))])++LF):=p2.perm (by rw[List.append_assoc];exact List.perm_middle.symm)
 rw[List.length_map]at q2
 have huv:uv.length=37:=by rw[p1.len];exact(inferInstance:Len eSto 37).out x
 have hbl1:blocks (R₁++ [.raw rv (.cells uv.toArray 52 (0,0))]++LF)=blocks (R++ [.box rv 52 (eSto x)]++LF):=by
  simp only[blocks,List.filterMap_append]at q4 ⊢
  rw[q4];rfl
 have key:=insert_raw v l.length us R₁ q2 i hi hn rv uv.toArray (by simpa using huv) (by simpa using p1.one (fun c hc=>(inferInstance:FlatF eSto).out x c hc)) (q1.one (hfl l))
 unfold PCalls at key
 refine(key vs w g LF hvv hI3).mono ?_
 rintro e w' ⟨v',x',g',L',rfl,k2,k3,k4,k5,v2,R',rfl,k6,rfl⟩
 have k3':Inv w' g' (.raw rv (.cells uv.toArray 52 (0,0))::(R'++LF)):=k3.perm (by rw[List.append_assoc];exact List.perm_middle)
 have k7:Inv w' g' (.box rv 52 (eSto x)::(R'++LF)):=Inv.rawBox k3' (by simpa using p1.mono k4.le)
 have k8:Inv w' g' (R'++([.box rv 52 (eSto x)]++LF)):=k7.perm List.perm_middle.symm
 obtain⟨f1,f2⟩:=flat_take (f:=eSto) (sz:=37) l i hi
 have hus:VRl g' (us.take (i*37)++uv++us.drop (i*37)) ((l.take i++x::l.drop i).map eSto).flatten:=by
  have h1:=(q1.mono k4.le).take (i*37)
  have h2:=(q1.mono k4.le).drop (i*37)
  rw[f1]at h1
  rw[f2]at h2
  rw[List.map_append,List.map_cons,List.flatten_append,List.flatten_cons,←List.append_assoc]
  exact(h1.append (p1.mono k4.le)).append h2
 have hln:((l.take i++x::l.drop i).map eSto).length=l.length+1:=by
  simp only[List.length_map,List.length_append,List.length_take,List.length_cons,List.length_drop];omega
 obtain⟨R2,z1,z2,z3⟩:=RowB.close (xs:=(l.take i++x::l.drop i).map eSto) hln (fun e he=>by obtain⟨a,_,rfl⟩:=List.mem_map.1 he;exact(inferInstance:Len eSto 37).out a) k6 hus k8
 have hbl2:blocks (R2++ [.box rv 52 (eSto x)]++LF)=blocks (R'++ [.raw rv (.cells uv.toArray 52 (0,0))]++LF):=by
  simp only[blocks,List.filterMap_append]at z3 ⊢
  rw[z3];rfl
 refine⟨v',.raw v2,g',R2++ [.box rv 52 (eSto x)],rfl,k2,by rw[List.append_assoc];exact z2,hbl1 ▸ k4,fun b hb hlt=>?_,v2,R2,rfl,z1,rfl⟩
 rw[hbl2]at hb
 rw[←hbl1]
 exact k5 b hb hlt
end Go.Proofs
namespace Go.Proofs
open Go Go.Q
attribute [local irreducible] pwp pops PCalls OpN
theorem zeroSto: ∀ i z,Tryz.prog.info? 52=some i→i.zero=some z→ ∀ x∈z.cells,x.oneCell'=true:=by
 have h:(Tryz.prog.info? 52).map (fun i=>(i.zero.getD undef).cells.all (·.oneCell'))=some true:=by kernel_rfl
 intro i z hi hz x hx
 rw[hi]at h
 simp only[Option.map_some,hz,Option.getD_some,Option.some.injEq,Array.all_eq_true_iff_forall_mem]at h
 exact h x hx
set_option maxHeartbeats 2000000 in
theorem deleteD_fn (F:Nat) (cs:List PV) (p:Dig→Bool) [hF:TFun Tryz.prog F] [hp: ∀ d,FnC Tryz.prog F (.agg (eDig d)::cs) (.raw (.bool (p d)))] (l:List Dig) (v:Value) (R:List Res) (hv:RowB 29 32 v (l.map eDig) R) (hl:l.length≤1000000):
  PCalls Tryz.prog 20 [.raw v,.clo F cs] R (fun r L'=> ∃ v',r= .raw v'∧RowB 29 32 v' ((l.filter fun d=>!p d).map eDig) L'):=by
 refine pcalls_bd Tryz.func20 rfl Tryz.ntmps20 (rs:= [.tmp 4]) rfl rfl fun hb LF=>?_
 have hsz: ∀ (m:List Dig),∀ e∈m.map eDig,e.length=32:=fun m e he=>by obtain⟨a,_,rfl⟩:=List.mem_map.1 he;simp
 have hmx:(l.map eDig).length≤maxN∧(l.map eDig).length*32≤maxN:=by
  have:maxN=140737488355328:=rfl
  rw[List.length_map];omega
 refine wf ?_
 refine s_callR (xs:= [.tmp 8,.tmp 9]) R LF (f:=63) (cs:= []) (le_func _) rfl rfl (.refl _) _ (RowB.lend hv [] [.clo F cs] hmx (indexD_fn F cs p l .ro).out) fun r L' ⟨e1,e2⟩=>?_
 subst e1 e2
 refine wf ?_
 refine pwp_condD (fun h1=>?_) (fun h1=>?_)
 ·have hn:l.any p=false:=by
   cases h:l.any p with
   |false=>rfl
   |true=>have:=(idxF_range p l).2.2 h;omega
  have e:(l.filter fun d=>!p d)=l:=by
   rw[List.filter_eq_self]
   intro x hx
   have:=List.any_eq_false.1 hn x hx
   simpa using this
  refine wf ?_
  exact⟨trivial,_,_,.cons (.tmp 4) .nil,.refl _,v,rfl,by rw[e];exact hv⟩
 have ha:l.any p=true:=by
  cases h:l.any p with
  |true=>rfl
  |false=>exact absurd (by rw[idxF,if_neg (by simp[h])]) h1
 have hi0:l.findIdx p < l.length:=List.findIdx_lt_length.2 (List.any_eq_true.1 ha)
 have hix:idxF p l=(l.findIdx p:Nat):=by rw[idxF,if_pos ha]
 have hf0:(l.take (l.findIdx p))=(l.take (l.findIdx p+1)).filter fun d=>!p d:=by
  have hlast:p l[l.findIdx p]=true:=List.findIdx_getElem
  rw[List.take_succ_eq_append_getElem hi0,List.filter_append,List.filter_cons_of_neg (by simp[hlast]),List.filter_nil,List.append_nil,List.filter_eq_self.2]
  intro x hx
  obtain⟨k,hk,rfl⟩:=List.mem_take_iff_getElem.1 hx
  have:=List.not_of_lt_findIdx (p:=p) (xs:=l) (i:=k) (by omega)
  simpa using this
 rw[hix]
 generalize hg:l.findIdx p=i0 at hi0 hf0
 obtain⟨⟨o,c,rfl⟩,_⟩:=hv.slice
 obtain⟨r,rest,rfl,rfl,_,hlc,_,hcl⟩:=hv.inv (by rw[List.length_map];omega)
 rw[List.length_map]at hlc ⊢
 refine wf ?_
 refine pwp_loopS (σ:=Nat × Nat × List Dig) (fun k=>k.2.1 < k.1∧k.1≤l.length∧k.2.2.length=l.length∧k.2.2.take k.2.1=(l.take k.1).filter (fun d=>!p d)∧ ∀ t,k.1≤t→k.2.2[t]? =l[t]?) (fun k=>l.length - k.1) (fun k=> [(0,.raw (.slice (some ⟨r,0,none⟩) l.length c)),(1,.clo F cs),(5,.raw (.int .i64 k.2.1)),(6,.raw (.int .i64 k.1))]) (fun k=> .box r 29 ((k.2.2.map eDig).flatten++rest)::LF) (i0+1,i0,l) ⟨by dsimp only;omega,by dsimp only;omega,rfl,hf0,fun _ _=>rfl⟩ ⟨rfl,rfl,rfl,rfl⟩ (.refl _) ?_
 rintro⟨j,i,l1⟩ ⟨hij,hj,hl1,ht,hr⟩
 dsimp only at hij hj hl1 ht hr ⊢
 refine wf ?_
 refine s_lenR rfl ?_
 refine wf ?_
 refine pwp_condD (fun hc=>?_) (fun hc=>?_)
 ·have hlt:j < l.length:=by omega
  have ej:l1[j]'(by omega)=l[j]:=by
   have:=hr j (Nat.le_refl _)
   rw[List.getElem?_eq_getElem (by omega),List.getElem?_eq_getElem hlt]at this
   exact Option.some.inj this
  have isub:Sub ((l1.map eDig).flatten++rest) (0+j*32) 32 (eDig l[j]):=by
   have:=flat_sub (rest:=rest) (hsz l1) (i:=j) (by rw[List.length_map];omega)
   rwa [List.getElem_map,ej]at this
  refine wf ?_
  refine s_ixRow (k:=j) rfl rfl hlt ?_
  refine s_loadBF rfl List.mem_cons_self (hs:=isub) ?_
  refine wf ?_
  refine s_alloc fun b7=>?_
  refine wo ?_
  refine pops_nil ?_
  refine pwp_freezeD 7 ?_
  refine wf ?_
  refine pwp_condB (fun h=>?_) (fun h=>?_)
  ·have hpj:p l[j]=false:=by simpa using h
   have iput:Put ((l1.map eDig).flatten++rest) (0+i*32) (eDig l[j]) (((l1.set i l[j]).map eDig).flatten++rest):=by
    have:=flat_put (rest:=rest) (new:=eDig l[j]) (hsz l1) (i:=i) (by rw[List.length_map];omega) (by simp)
    rwa [←List.map_set]at this
   refine wf ?_
   refine s_ixRow (k:=i) rfl rfl (by omega) ?_
   refine wf ?_
   refine⟨(j+1,i+1,l1.set i l[j]),⟨by dsimp only;omega,by dsimp only;omega,by dsimp only;rw[List.length_set];exact hl1,?_,fun t h2=>?_⟩,by dsimp only;omega,⟨rfl,rfl,rfl,rfl⟩,.refl _⟩
   ·dsimp only
    rw[List.take_succ_eq_append_getElem hlt,List.filter_append,List.filter_cons_of_pos (by simp[hpj]),List.filter_nil,←ht,List.take_succ_eq_append_getElem (by rw[List.length_set];omega),List.take_set_of_le (Nat.le_refl _),List.getElem_set_self]
   ·dsimp only at h2 ⊢
    rw[List.getElem?_set_ne (by omega)]
    exact hr t (by omega)
  ·have hpj:p l[j]=true:=by simpa using h
   refine wf ?_
   refine⟨(j+1,i,l1),⟨by dsimp only;omega,by dsimp only;omega,hl1,?_,fun t h2=>hr t (by dsimp only at h2;omega)⟩,by dsimp only;omega,⟨rfl,rfl,rfl,rfl⟩,.refl _⟩
   dsimp only
   rw[List.take_succ_eq_append_getElem hlt,List.filter_append,List.filter_cons_of_neg (by simp[hpj]),List.filter_nil,List.append_nil]
   exact ht
 have hjl:j=l.length:=by omega
 subst hjl
 rw[List.take_length]at ht
 have hfl:(l1.map eDig).flatten.length=l.length*32:=by rw[flatten_len (hsz l1),List.length_map,hl1]
 have hfl0:(l.map eDig).flatten.length=l.length*32:=by rw[flatten_len (hsz l),List.length_map]
 refine wf ?_
 refine s_cutRow i l.length rfl (by omega) (Nat.le_refl _) (by omega) hlc (fun o e=>by cases e;exact⟨_,rfl⟩) (by simp) (by simp) (fun _=>rfl) ?_
 refine s_clearB (E:=29) (sz:=32) (L':=LF) zero37 (fun x=> [x]++LF) rfl (by omega) (by rw[List.length_append,hfl];omega) (.refl _) (fun _=> .refl _) fun zs hzs=>?_
 refine pops_nil ?_
 refine wf ?_
 refine s_cutRow 0 i rfl (by omega) (by omega) (by omega) hlc (by simp) (fun _=>rfl) (fun o e=>by cases e;exact⟨_,rfl⟩) (by simp) ?_
 refine wf ?_
 have e0:=(flat_split (hsz l1) (i:=i) (by rw[List.length_map];omega))
 have etk:((l1.map eDig).flatten++rest).take (0+i*32)=((l1.take i).map eDig).flatten:=by
  rw[Nat.zero_add,List.take_append_of_le_length (by rw[hfl];omega),List.map_take]
  have h2:=e0.2
  conv=>lhs;rw[e0.1]
  exact List.take_left' h2
 have hlt:(l1.take i).length=i:=by rw[List.length_take];omega
 have hti:((l1.take i).map eDig).flatten.length=i*32:=by rw[flatten_len (hsz _),List.length_map,hlt]
 refine⟨trivial,_,_,.cons (.tmp 4) .nil,.refl _,.slice (some ⟨r,0,none⟩) i c,?_,?_⟩
 ·show PV.raw (Value.slice (some ⟨r,0+0*32,none⟩) (i - 0) (c - 0))=_
  simp
 ·rw[←ht,etk,List.append_assoc]
  refine .row (by rw[List.length_map,hlt]) (by omega) (hsz _) ?_
  rw[List.length_append,List.length_drop,List.length_append,hzs,hfl,hti]
  rw[hfl0]at hcl
  omega
set_option maxHeartbeats 2000000 in
theorem deleteS_fn (F:Nat) (cs:List PV) (p:Sto→Bool) [hF:TFun Tryz.prog F] [hp: ∀ d,FnC Tryz.prog F (.agg (eSto d)::cs) (.raw (.bool (p d)))] (l:List Sto) (v:Value) (R:List Res) (hv:RowB 52 37 v (l.map eSto) R) (hl:l.length≤1000000):
  PCalls Tryz.prog 83 [.raw v,.clo F cs] R (fun r L'=> ∃ v',r= .raw v'∧RowB 52 37 v' ((l.filter fun d=>!p d).map eSto) L'):=by
 refine pcalls_bd Tryz.func83 rfl Tryz.ntmps83 (rs:= [.tmp 4]) rfl rfl fun hb LF=>?_
 have hsz: ∀ (m:List Sto),∀ e∈m.map eSto,e.length=37:=fun m e he=>by obtain⟨a,_,rfl⟩:=List.mem_map.1 he;simp
 have hmx:(l.map eSto).length≤maxN∧(l.map eSto).length*37≤maxN:=by
  have:maxN=140737488355328:=rfl
  rw[List.length_map];omega
 refine wf ?_
 refine s_callR (xs:= [.tmp 8,.tmp 9]) R LF (f:=51) (cs:= []) (le_func _) rfl rfl (.refl _) _ (RowB.lend hv [] [.clo F cs] hmx (indexS_fn F cs p l .ro).out) fun r L' ⟨e1,e2⟩=>?_
 subst e1 e2
 refine wf ?_
 refine pwp_condD (fun h1=>?_) (fun h1=>?_)
 ·have hn:l.any p=false:=by
   cases h:l.any p with
   |false=>rfl
   |true=>have:=(idxF_range p l).2.2 h;omega
  have e:(l.filter fun d=>!p d)=l:=by
   rw[List.filter_eq_self]
   intro x hx
   have:=List.any_eq_false.1 hn x hx
   simpa using this
  refine wf ?_
  exact⟨trivial,_,_,.cons (.tmp 4) .nil,.refl _,v,rfl,by rw[e];exact hv⟩
 have ha:l.any p=true:=by
  cases h:l.any p with
  |true=>rfl
  |false=>exact absurd (by rw[idxF,if_neg (by simp[h])]) h1
 have hi0:l.findIdx p < l.length:=List.findIdx_lt_length.2 (List.any_eq_true.1 ha)
 have hix:idxF p l=(l.findIdx p:Nat):=by rw[idxF,if_pos ha]
 have hf0:(l.take (l.findIdx p))=(l.take (l.findIdx p+1)).filter fun d=>!p d:=by
  have hlast:p l[l.findIdx p]=true:=List.findIdx_getElem
  rw[List.take_succ_eq_append_getElem hi0,List.filter_append,List.filter_cons_of_neg (by simp[hlast]),List.filter_nil,List.append_nil,List.filter_eq_self.2]
  intro x hx
  obtain⟨k,hk,rfl⟩:=List.mem_take_iff_getElem.1 hx
  have:=List.not_of_lt_findIdx (p:=p) (xs:=l) (i:=k) (by omega)
  simpa using this
 rw[hix]
 generalize hg:l.findIdx p=i0 at hi0 hf0
 obtain⟨⟨o,c,rfl⟩,_⟩:=hv.slice
 obtain⟨r,rest,rfl,rfl,_,hlc,_,hcl⟩:=hv.inv (by rw[List.length_map];omega)
 rw[List.length_map]at hlc ⊢
 refine wf ?_
 refine pwp_loopS (σ:=Nat × Nat × List Sto) (fun k=>k.2.1 < k.1∧k.1≤l.length∧k.2.2.length=l.length∧k.2.2.take k.2.1=(l.take k.1).filter (fun d=>!p d)∧ ∀ t,k.1≤t→k.2.2[t]? =l[t]?) (fun k=>l.length - k.1) (fun k=> [(0,.raw (.slice (some ⟨r,0,none⟩) l.length c)),(1,.clo F cs),(5,.raw (.int .i64 k.2.1)),(6,.raw (.int .i64 k.1))]) (fun k=> .box r 52 ((k.2.2.map eSto).flatten++rest)::LF) (i0+1,i0,l) ⟨by dsimp only;omega,by dsimp only;omega,rfl,hf0,fun _ _=>rfl⟩ ⟨rfl,rfl,rfl,rfl⟩ (.refl _) ?_
 rintro⟨j,i,l1⟩ ⟨hij,hj,hl1,ht,hr⟩
 dsimp only at hij hj hl1 ht hr ⊢
 refine wf ?_
 refine s_lenR rfl ?_
 refine wf ?_
 refine pwp_condD (fun hc=>?_) (fun hc=>?_)
 ·have hlt:j < l.length:=by omega
  have ej:l1[j]'(by omega)=l[j]:=by
   have:=hr j (Nat.le_refl _)
   rw[List.getElem?_eq_getElem (by omega),List.getElem?_eq_getElem hlt]at this
   exact Option.some.inj this
  have isub:Sub ((l1.map eSto).flatten++rest) (0+j*37) 37 (eSto l[j]):=by
   have:=flat_sub (rest:=rest) (hsz l1) (i:=j) (by rw[List.length_map];omega)
   rwa [List.getElem_map,ej]at this
  refine wf ?_
  refine s_ixRow (k:=j) rfl rfl hlt ?_
  refine s_loadBF rfl List.mem_cons_self (hs:=isub) ?_
  refine wf ?_
  refine s_alloc fun b7=>?_
  refine wo ?_
  refine pops_nil ?_
  refine pwp_freezeD 7 ?_
  refine wf ?_
  refine pwp_condB (fun h=>?_) (fun h=>?_)
  ·have hpj:p l[j]=false:=by simpa using h
   have iput:Put ((l1.map eSto).flatten++rest) (0+i*37) (eSto l[j]) (((l1.set i l[j]).map eSto).flatten++rest):=by
    have:=flat_put (rest:=rest) (new:=eSto l[j]) (hsz l1) (i:=i) (by rw[List.length_map];omega) (by simp)
    rwa [←List.map_set]at this
   refine wf ?_
   refine s_ixRow (k:=i) rfl rfl (by omega) ?_
   refine wf ?_
   refine⟨(j+1,i+1,l1.set i l[j]),⟨by dsimp only;omega,by dsimp only;omega,by dsimp only;rw[List.length_set];exact hl1,?_,fun t h2=>?_⟩,by dsimp only;omega,⟨rfl,rfl,rfl,rfl⟩,.refl _⟩
   ·dsimp only
    rw[List.take_succ_eq_append_getElem hlt,List.filter_append,List.filter_cons_of_pos (by simp[hpj]),List.filter_nil,←ht,List.take_succ_eq_append_getElem (by rw[List.length_set];omega),List.take_set_of_le (Nat.le_refl _),List.getElem_set_self]
   ·dsimp only at h2 ⊢
    rw[List.getElem?_set_ne (by omega)]
    exact hr t (by omega)
  ·have hpj:p l[j]=true:=by simpa using h
   refine wf ?_
   refine⟨(j+1,i,l1),⟨by dsimp only;omega,by dsimp only;omega,hl1,?_,fun t h2=>hr t (by dsimp only at h2;omega)⟩,by dsimp only;omega,⟨rfl,rfl,rfl,rfl⟩,.refl _⟩
   dsimp only
   rw[List.take_succ_eq_append_getElem hlt,List.filter_append,List.filter_cons_of_neg (by simp[hpj]),List.filter_nil,List.append_nil]
   exact ht
 have hjl:j=l.length:=by omega
 subst hjl
 rw[List.take_length]at ht
 have hfl:(l1.map eSto).flatten.length=l.length*37:=by rw[flatten_len (hsz l1),List.length_map,hl1]
 have hfl0:(l.map eSto).flatten.length=l.length*37:=by rw[flatten_len (hsz l),List.length_map]
 refine wf ?_
 refine s_cutRow i l.length rfl (by omega) (Nat.le_refl _) (by omega) hlc (fun o e=>by cases e;exact⟨_,rfl⟩) (by simp) (by simp) (fun _=>rfl) ?_
 refine s_clearB (E:=52) (sz:=37) (L':=LF) zeroSto (fun x=> [x]++LF) rfl (by omega) (by rw[List.length_append,hfl];omega) (.refl _) (fun _=> .refl _) fun zs hzs=>?_
 refine pops_nil ?_
 refine wf ?_
 refine s_cutRow 0 i rfl (by omega) (by omega) (by omega) hlc (by simp) (fun _=>rfl) (fun o e=>by cases e;exact⟨_,rfl⟩) (by simp) ?_
 refine wf ?_
 have e0:=(flat_split (hsz l1) (i:=i) (by rw[List.length_map];omega))
 have etk:((l1.map eSto).flatten++rest).take (0+i*37)=((l1.take i).map eSto).flatten:=by
  rw[Nat.zero_add,List.take_append_of_le_length (by rw[hfl];omega),List.map_take]
  have h2:=e0.2
  conv=>lhs;rw[e0.1]
  exact List.take_left' h2
 have hlt:(l1.take i).length=i:=by rw[List.length_take];omega
 have hti:((l1.take i).map eSto).flatten.length=i*37:=by rw[flatten_len (hsz _),List.length_map,hlt]
 refine⟨trivial,_,_,.cons (.tmp 4) .nil,.refl _,.slice (some ⟨r,0,none⟩) i c,?_,?_⟩
 ·show PV.raw (Value.slice (some ⟨r,0+0*37,none⟩) (i - 0) (c - 0))=_
  simp
 ·rw[←ht,etk,List.append_assoc]
  refine .row (by rw[List.length_map,hlt]) (by omega) (hsz _) ?_
  rw[List.length_append,List.length_drop,List.length_append,hzs,hfl,hti]
  rw[hfl0]at hcl
  omega
end Go.Proofs
namespace Go.Proofs
open Go Go.Q
structure Ranked (s:List Sto) (r:Dig→Nat):Prop where
 asc:Asc (ids s)
 close: ∀ x∈s,∀ d∈rNeeds x.patch,d∈ids s
 rank: ∀ x∈s,∀ d∈rNeeds x.patch,r d < r x.id
theorem Ranked.pick {s:List Sto} {r:Dig→Nat} (h:Ranked s r) {out:List Dig} (hlt:out.length < s.length):0≤rPick s out:=by
 rw[rPick_first h.asc]
 refine(idxF_range (eligR out) s).2.2 ?_
 have hmiss: ∃ x∈s,x.id∉out:=Classical.byContradiction fun hn=>by
  have hall: ∀ d∈ids s,d∈out:=fun d hd=>by
   obtain⟨x,hx,rfl⟩:=List.mem_map.1 hd
   exact Classical.byContradiction fun h'=>hn ⟨x,hx,h'⟩
  have:=nodup_len h.asc.nodup (m:=out) hall
  rw[ids_len]at this;omega
 have key: ∀ n,∀ x∈s,x.id∉out→r x.id=n→ ∃ y∈s,eligR out y=true:=fun n=>by
  induction n using Nat.strongRecOn with
  |_ n ih=>
   intro x hx hxo hn
   by_cases ha: ∀ d∈rNeeds x.patch,d∈out
   ·exact⟨x,hx,decide_eq_true ⟨hxo,List.all_eq_true.2 fun d hd=>decide_eq_true (ha d hd)⟩⟩
   ·obtain⟨d,hd,hdo⟩: ∃ d∈rNeeds x.patch,d∉out:=Classical.byContradiction fun hn=>ha fun d hd=>Classical.byContradiction fun h'=>hn ⟨d,hd,h'⟩
    obtain⟨y,hy,rfl⟩:=List.mem_map.1 (h.close x hx d hd)
    exact ih (r y.id) (hn ▸ h.rank x hx _ hd) y hy hdo rfl
 obtain⟨x,hx,hxo⟩:=hmiss
 obtain⟨y,hy,he⟩:=key _ x hx hxo rfl
 exact List.any_eq_true.2 ⟨y,hy,he⟩
theorem Ranked.order {s:List Sto} {r:Dig→Nat} (h:Ranked s r):(rOrder s).length=s.length:=by
 have key: ∀ n out,out.length+n=s.length→(rOrd s n out).length=s.length:=fun n=>by
  induction n with
  |zero=>intro out ho;rw[rOrd];omega
  |succ n ih=>
   intro out ho
   have hp:=h.pick (out:=out) (by omega)
   rw[rOrd,if_neg (by omega)]
   exact ih _ (by rw[List.length_append,List.length_singleton];omega)
 exact key _ [] (by simp)
theorem Valid.ranked {s:List Sto} (v:Valid s):Ranked s (rankS s):=⟨v.asc,v.close.2,fun _ hx _ hd=>v.rank hx hd⟩
theorem check_of_valid {s:List Sto} (v:Valid s):rCheckS s=0:=by
 have h8:=v.close.1.1
 have h1:firstErr (rChkE s) (List.range s.length)=0:=firstErr_zero fun i hi=>by
  have hi':i < s.length:=by simpa using hi
  have e0:s.getD i Sto.zero=s[i]:=by simp[List.getD,hi']
  obtain⟨a1,a2⟩:=v.id s[i] (List.getElem_mem hi')
  rw[List.getElem_range,rChkE,e0,if_neg (by simp[a1]),if_neg (by simp[a2]),if_neg]
  rintro⟨h1,h2⟩
  have hi0:0 < i:=by omega
  have e1:s.getD (i - 1) Sto.zero=s[i - 1]'(by omega):=by
   have h':i - 1 < s.length:=by omega
   simp[List.getD,h']
  have hp:=List.pairwise_iff_getElem.1 v.asc (i - 1) i (by simp[ids];omega) (by simpa [ids]using hi') (by omega)
  simp only[ids,List.getElem_map]at hp
  rw[e1,a2]at h2
  have hp:cmpD (s[i - 1]'(by omega)).id s[i].id < 0:=hp
  omega
 have h2:s.all (fun x=>allIn (ids s) (rNeeds x.patch))=true:=List.all_eq_true.2 fun x hx=>List.all_eq_true.2 fun d hd=>decide_eq_true (v.close.2 x hx d hd)
 have h3:=v.order
 unfold rCheckS
 rw[if_neg (by omega),if_neg (by simp[h1]),if_neg (by simp[h2]),if_neg (by omega)]
 exact firstErr_zero fun i hi=>v.refs _ (List.getElem_mem hi)
theorem mem_keepS {s:List Sto} {C:List Dig} {x:Sto}:x∈keepS s C↔x∈s∧x.id∈C:=by simp[keepS]
theorem mem_ids_keep {s:List Sto} {C:List Dig} {d:Dig}:d∈ids (keepS s C)↔d∈ids s∧d∈C:=by
 constructor
 ·intro h
  obtain⟨x,hx,rfl⟩:=List.mem_map.1 h
  obtain⟨h1,h2⟩:=mem_keepS.1 hx
  exact⟨List.mem_map.2 ⟨x,h1,rfl⟩,h2⟩
 ·rintro⟨h1,h2⟩
  obtain⟨x,hx,rfl⟩:=List.mem_map.1 h1
  exact List.mem_map.2 ⟨x,mem_keepS.2 ⟨hx,h2⟩,rfl⟩
theorem ids_keep_sub (s:List Sto) (C:List Dig):(ids (keepS s C)).Sublist (ids s):=(List.filter_sublist).map _
theorem getS_keep {C:List Dig} {d:Dig} (hd:d∈C): ∀ s:List Sto,getS (keepS s C) d=getS s d
 | []=>rfl
 |x::s=>by
  by_cases hx:x.id=d
  ·have e:keepS (x::s) C=x::keepS s C:=by
    unfold keepS;rw[List.filter_cons_of_pos (by simpa using hx ▸ hd)]
   rw[e,getS,getS,if_pos hx,if_pos hx]
  ·have e2:getS (x::s) d=getS s d:=by rw[getS,if_neg hx]
   by_cases hc:x.id∈C
   ·have e:keepS (x::s) C=x::keepS s C:=by
     unfold keepS;rw[List.filter_cons_of_pos (by simpa using hc)]
    rw[e,e2,getS,if_neg hx,getS_keep hd s]
   ·have e:keepS (x::s) C=keepS s C:=by
     unfold keepS;rw[List.filter_cons_of_neg (by simpa using hc)]
    rw[e,e2,getS_keep hd s]
theorem foreign_needs {p:Pat} (hid:(rId p).2=0) {c:Chg} (hc:c∈p.changes) {y:Ident} (hy:y∈rIds c) (ho:rOther y=true):y.patch∈rNeeds p:=by
 have he: ¬(rEncodeP p).2≠0:=fun h=>by rw[rId,if_pos h]at hid;exact h hid
 rw[rNeeds,if_neg he,needs_mem]
 exact .inr ⟨c,hc,List.mem_map.2 ⟨y,List.mem_filter.2 ⟨hy,ho⟩,rfl⟩⟩
theorem rRefsS_congr {s t:List Sto} {p:Pat} {id:Dig} (hid:(rId p).2=0) (h: ∀ d∈rNeeds p,getS s d=getS t d):rRefsS s p id=rRefsS t p id:=by
 refine firstErr_congr fun c hc=>?_
 have hat: ∀ y∈rIds c,rOther y=true→rAtom s y=rAtom t y:=fun y hy ho=>by
  unfold rAtom rAtomsOf
  rw[h _ (foreign_needs hid hc hy ho)]
 have e1:rChgF s c=rChgF t c:=by
  unfold rChgF
  split
  ·rename_i h;rw[hat _ (by simp[rIds]) h]
  ·rfl
 have e2:rChgP s c=rChgP t c:=by
  unfold rChgP
  split
  ·rename_i h;rw[hat _ (by simp[rIds]) h]
  ·rfl
 have e3: ∀ y∈rIds c,rEndE s y c.file id=rEndE t y c.file id:=fun y hy=>by
  unfold rEndE
  split
  ·rfl
  ·rename_i h
   rw[hat y hy (by simpa using fun h'=>h (.inl h'))]
 have e4:firstErr (rChgO s c id) c.over=firstErr (rChgO t c id) c.over:=firstErr_congr fun y hy=>by
  unfold rChgO
  split
  ·rfl
  ·rename_i h
   rw[hat y (by simp[rIds,hy]) (by simpa using h)]
 unfold rChgE
 rw[e1,e2,e3 _ (by simp[rIds]),e3 _ (by simp[rIds]),e4]
theorem Valid.keep {s:List Sto} (v:Valid s) {C:List Dig} (hC: ∀ x∈s,x.id∈C→ ∀ d∈rNeeds x.patch,d∈C):Valid (keepS s C):=by
 have hlen:(keepS s C).length≤s.length:=List.length_filter_le _ _
 have hcl: ∀ x∈keepS s C,∀ d∈rNeeds x.patch,d∈ids (keepS s C):=fun x hx d hd=>by
  obtain⟨h1,h2⟩:=mem_keepS.1 hx
  exact mem_ids_keep.2 ⟨v.close.2 x h1 d hd,hC x h1 h2 d hd⟩
 have hasc:Asc (ids (keepS s C)):=List.Pairwise.sublist (ids_keep_sub s C) v.asc
 refine⟨⟨⟨Nat.le_trans hlen v.close.1.1,fun x hx=>v.close.1.2 x (mem_keepS.1 hx).1⟩,hcl⟩,fun x hx=>v.id x (mem_keepS.1 hx).1,hasc,?_,fun x hx=>?_⟩
 ·have hr:Ranked (keepS s C) (rankS s):=⟨hasc,hcl,fun x hx d hd=>v.rank (mem_keepS.1 hx).1 hd⟩
  exact Nat.le_of_eq hr.order.symm
 ·obtain⟨h1,h2⟩:=mem_keepS.1 hx
  rw[rRefsS_congr (v.id x h1).1 fun d hd=>getS_keep (hC x h1 h2 d hd) s]
  exact v.refs x h1
end Go.Proofs
namespace Go.Proofs
open Go Go.Q
theorem putS_perm (s:List Sto) (x:Sto):(putS s x).Perm (x::s):=by
 unfold putS
 refine List.perm_middle.trans ?_
 rw[List.takeWhile_append_dropWhile]
theorem mem_putS {s:List Sto} {x y:Sto}:y∈putS s x↔y=x∨y∈s:=by
 rw[(putS_perm s x).mem_iff,List.mem_cons]
theorem mem_ids_putS {s:List Sto} {x:Sto} {d:Dig}:d∈ids (putS s x)↔d=x.id∨d∈ids s:=by
 unfold ids
 rw[((putS_perm s x).map _).mem_iff,List.map_cons,List.mem_cons]
theorem putS_len (s:List Sto) (x:Sto):(putS s x).length=s.length+1:=by
 rw[(putS_perm s x).length_eq,List.length_cons]
theorem drop_lt {x:Sto}: ∀ {s:List Sto},Asc (ids s)→x.id∉ids s→ ∀ y∈s.dropWhile (fun y=>decide (cmpD y.id x.id < 0)),Dig.lt x.id y.id
 | [],_,_,y,hy=>by cases hy
 |z::s,ha,hx,y,hy=>by
  have ha':Asc (ids s):=(List.pairwise_cons.1 ha).2
  by_cases hz:cmpD z.id x.id < 0
  ·rw[List.dropWhile_cons_of_pos (by simpa using hz)]at hy
   exact drop_lt ha' (fun h=>hx (List.mem_cons_of_mem _ h)) y hy
  ·rw[List.dropWhile_cons_of_neg (by simpa using hz)]at hy
   have hzx:Dig.lt x.id z.id:=by
    rcases Dig.tri x.id z.id with h|h|h
    ·exact h
    ·exact absurd (by rw[h];exact List.mem_cons_self) hx
    ·exact absurd h hz
   rcases List.mem_cons.1 hy with rfl|hy
   ·exact hzx
   ·exact Dig.lt_trans hzx ((List.pairwise_cons.1 ha).1 y.id (List.mem_map.2 ⟨y,hy,rfl⟩))
theorem take_lt {x:Sto}: ∀ {s:List Sto},∀ y∈s.takeWhile (fun y=>decide (cmpD y.id x.id < 0)),Dig.lt y.id x.id
 | [],y,hy=>by cases hy
 |z::s,y,hy=>by
  by_cases hz:cmpD z.id x.id < 0
  ·rw[List.takeWhile_cons_of_pos (by simpa using hz)]at hy
   rcases List.mem_cons.1 hy with rfl|hy
   ·exact hz
   ·exact take_lt y hy
  ·rw[List.takeWhile_cons_of_neg (by simpa using hz)]at hy
   cases hy
theorem putS_asc {s:List Sto} {x:Sto} (ha:Asc (ids s)) (hx:x.id∉ids s):Asc (ids (putS s x)):=by
 have e:ids (putS s x)=ids (s.takeWhile fun y=>decide (cmpD y.id x.id < 0))++x.id::ids (s.dropWhile fun y=>decide (cmpD y.id x.id < 0)):=by
  unfold putS ids;rw[List.map_append,List.map_cons]
 have e2:ids s=ids (s.takeWhile fun y=>decide (cmpD y.id x.id < 0))++ids (s.dropWhile fun y=>decide (cmpD y.id x.id < 0)):=by
  unfold ids;rw[←List.map_append,List.takeWhile_append_dropWhile]
 have hp:=ha
 rw[e2]at hp
 obtain⟨p1,p2,p3⟩:=List.pairwise_append.1 hp
 rw[e]
 refine List.pairwise_append.2 ⟨p1,List.pairwise_cons.2 ⟨fun d hd=>?_,p2⟩,fun a h b hb=>?_⟩
 ·obtain⟨y,hy,rfl⟩:=List.mem_map.1 hd
  exact drop_lt ha hx y hy
 ·rcases List.mem_cons.1 hb with rfl|hb
  ·obtain⟨y,hy,rfl⟩:=List.mem_map.1 h
   exact take_lt y hy
  ·exact p3 a h b hb
theorem getS_in: ∀ {s:List Sto},Asc (ids s)→ ∀ {x:Sto},x∈s→getS s x.id=some x.patch
 | [],_,x,h=>by cases h
 |y::s,ha,x,h=>by
  by_cases e:y.id=x.id
  ·rw[getS,if_pos e]
   rcases List.mem_cons.1 h with rfl|h
   ·rfl
   ·have:=(List.pairwise_cons.1 ha).1 x.id (List.mem_map.2 ⟨x,h,rfl⟩)
    change Dig.lt y.id x.id at this
    rw[e]at this
    exact absurd this (Dig.lt_irrefl _)
  ·rw[getS,if_neg e]
   rcases List.mem_cons.1 h with rfl|h
   ·exact absurd rfl e
   ·exact getS_in (List.pairwise_cons.1 ha).2 h
theorem getS_out {s:List Sto} {d:Dig} (h:d∉ids s):getS s d=none:=by
 cases hg:getS s d with
 |none=>rfl
 |some p=>
  obtain⟨x,hx,rfl,_⟩:=getS_mem hg
  exact absurd (List.mem_map.2 ⟨x,hx,rfl⟩) h
theorem getS_isSome {s:List Sto} (ha:Asc (ids s)) (d:Dig):(getS s d).isSome=decide (d∈ids s):=by
 by_cases h:d∈ids s
 ·obtain⟨x,hx,rfl⟩:=List.mem_map.1 h
  rw[getS_in ha hx];simp[h]
 ·rw[getS_out h];simp[h]
theorem getS_put {s:List Sto} {x:Sto} (ha:Asc (ids s)) (hx:x.id∉ids s) {d:Dig} (hd:d≠x.id):getS (putS s x) d=getS s d:=by
 by_cases h:d∈ids s
 ·obtain⟨y,hy,rfl⟩:=List.mem_map.1 h
  rw[getS_in ha hy,getS_in (putS_asc ha hx) (mem_putS.2 (.inr hy))]
 ·rw[getS_out h,getS_out fun h'=>(mem_ids_putS.1 h').elim hd h]
structure Fresh (s:List Sto) (x:Sto):Prop where
 id:(rId x.patch).2=0∧(rId x.patch).1=x.id
 new:x.id∉ids s
 needs: ∀ d∈rNeeds x.patch,d∈ids s
 refs:rRefsS s x.patch x.id=0
 great:rBig x.patch=false
theorem Valid.put {s:List Sto} (v:Valid s) {x:Sto} (f:Fresh s x) (hl:s.length < 40):Valid (putS s x):=by
 have hcl: ∀ y∈putS s x,∀ d∈rNeeds y.patch,d∈ids (putS s x):=fun y hy d hd=>by
  rcases mem_putS.1 hy with rfl|hy
  ·exact mem_ids_putS.2 (.inr (f.needs d hd))
  ·exact mem_ids_putS.2 (.inr (v.close.2 y hy d hd))
 have hasc:=putS_asc v.asc f.new
 have hget: ∀ d∈ids s,Go.Proofs.getS (putS s x) d=Go.Proofs.getS s d:=fun d hd=>getS_put v.asc f.new fun e=>f.new (e ▸ hd)
 refine⟨⟨⟨by rw[putS_len];omega,fun y hy=>?_⟩,hcl⟩,fun y hy=>?_,hasc,?_,fun y hy=>?_⟩
 ·rcases mem_putS.1 hy with rfl|hy
  ·exact f.great
  ·exact v.close.1.2 y hy
 ·rcases mem_putS.1 hy with rfl|hy
  ·exact f.id
  ·exact v.id y hy
 ·have hr:Ranked (putS s x) (fun d=>if d=x.id then(rOrder s).length+1 else rankS s d):=by
   refine⟨hasc,hcl,fun y hy d hd=>?_⟩
   rcases mem_putS.1 hy with rfl|hy
   ·have hne:d≠y.id:=fun e=>f.new (e ▸ f.needs d hd)
    simp only[if_true,if_neg hne]
    have:rankS s d≤(rOrder s).length:=by
     unfold rankS;exact List.idxOf_le_length
    omega
   ·have hne:d≠x.id:=fun e=>f.new (e ▸ v.close.2 y hy d hd)
    have hne2:y.id≠x.id:=fun e=>f.new (e ▸ List.mem_map.2 ⟨y,hy,rfl⟩)
    simp only[if_neg hne,if_neg hne2]
    exact v.rank hy hd
  exact Nat.le_of_eq hr.order.symm
 ·rcases mem_putS.1 hy with rfl|hy
  ·rw[rRefsS_congr f.id.1 fun d hd=>hget d (f.needs d hd)]
   exact f.refs
  ·rw[rRefsS_congr (v.id y hy).1 fun d hd=>hget d (v.close.2 y hy d hd)]
   exact v.refs y hy
theorem Valid.rAdd_ok {s:List Sto} (v:Valid s) {p:Pat} (hg:rBig p=false) (h:(rAdd s p).2.2=0):Fresh s ⟨(rId p).1,p⟩∧rAdd s p=(putS s ⟨(rId p).1,p⟩,(rId p).1,0):=by
 unfold rAdd at h ⊢
 by_cases h1:(rId p).2≠0
 ·rw[if_pos h1]at h;exact absurd h h1
 rw[if_neg h1]at h ⊢
 by_cases h2:(Go.Proofs.getS s (rId p).1).isSome=true
 ·rw[if_pos h2]at h
  split at h<;>exact absurd h (by decide)
 rw[if_neg h2]at h ⊢
 by_cases h3:allIn (ids s) (rNeeds p)=false
 ·rw[if_pos h3]at h;exact absurd h (by decide)
 rw[if_neg h3]at h ⊢
 by_cases h4:rRefsS s p (rId p).1≠0
 ·rw[if_pos h4]at h;exact absurd h h4
 rw[if_neg h4]at h ⊢
 by_cases h5:400≤(s.length:Int)
 ·rw[if_pos h5]at h;exact absurd h (by decide)
 rw[if_neg h5]
 refine⟨⟨⟨by simpa using h1,rfl⟩,fun hn=>?_,fun d hd=>?_,by simpa using h4,hg⟩,rfl⟩
 ·rw[getS_isSome v.asc]at h2
  exact h2 (decide_eq_true hn)
 ·have h3:allIn (ids s) (rNeeds p)=true:=by simpa using h3
  simpa using List.all_eq_true.1 h3 d hd
end Go.Proofs
namespace Go.Proofs
open Go Go.Q
theorem rPick_find {s:List Sto} (h:Asc (ids s)) {out:List Dig} {x:Sto} (hf:s.find? (eligR out)=some x):0≤rPick s out∧(s.getD (rPick s out).toNat Sto.zero)=x:=by
 have hx:=List.find?_some hf
 have hm:=List.mem_of_find?_eq_some hf
 have ha:s.any (eligR out)=true:=List.any_eq_true.2 ⟨x,hm,hx⟩
 rw[rPick_first h,idxF,if_pos ha]
 refine⟨by omega,?_⟩
 have hl:=List.findIdx_lt_length.2 (List.any_eq_true.1 ha)
 rw[Int.toNat_natCast,List.getD_eq_getElem?_getD,List.getElem?_eq_getElem hl,Option.getD_some]
 have e:s.find? (eligR out)=some (s[s.findIdx (eligR out)]):=by
  rw[List.find?_eq_some_iff_getElem]
  exact⟨List.findIdx_getElem,_,hl,rfl,fun j hj=>by simpa using List.not_of_lt_findIdx hj⟩
 rw[e]at hf
 exact Option.some.inj hf
theorem find_and {α:Type} {p q:α→Bool} {x:α}: ∀ {l:List α},l.find? p=some x→q x=true→l.find? (fun y=>q y&&p y)=some x
 | [],h,_=>by cases h
 |y::l,h,hq=>by
  rw[List.find?_cons]at h ⊢
  cases hp:p y with
  |true=>
   rw[hp]at h
   cases h
   simp only[hq,hp,Bool.and_self]
  |false=>
   rw[hp]at h
   simp only[hp,Bool.and_false]
   exact find_and h hq
theorem find_congr {α:Type} {p q:α→Bool}: ∀ {l:List α},(∀ x∈l,p x=q x)→l.find? p=l.find? q
 | [],_=>rfl
 |y::l,h=>by
  rw[List.find?_cons,List.find?_cons,h y List.mem_cons_self,find_congr fun x hx=>h x (List.mem_cons_of_mem _ hx)]
theorem keepS_find {s:List Sto} {m out:List Dig} (hc: ∀ x∈s,x.id∈m→ ∀ d∈rNeeds x.patch,d∈m) {x:Sto} (hx:s.find? (eligR out)=some x) (hm:x.id∈m):
  (keepS s m).find? (eligR (out.filter fun d=>decide (d∈m)))=some x:=by
 have e:keepS s m=s.filter (fun y=>decide (y.id∈m)):=rfl
 rw[e,List.find?_filter]
 rw[show(fun y:Sto=>decide (decide (y.id∈m)=true∧eligR (out.filter fun d=>decide (d∈m)) y=true))=fun y=>decide (y.id∈m)&&eligR (out.filter fun d=>decide (d∈m)) y from funext fun y=>by by_cases h1:y.id∈m<;>simp[h1]]
 have e2:s.find? (fun y=>decide (y.id∈m)&&eligR (out.filter fun d=>decide (d∈m)) y)=s.find? (fun y=>decide (y.id∈m)&&eligR out y):=by
  refine find_congr fun y hy=>?_
  by_cases hym:y.id∈m
  ·have hn:=hc y hy hym
   rw[decide_eq_true hym,Bool.true_and,Bool.true_and,eligR,eligR]
   refine decide_eq_decide.2 ?_
   rw[List.mem_filter,allIn,allIn,List.all_eq_true,List.all_eq_true]
   constructor
   ·rintro⟨h1,h2⟩
    refine⟨fun h=>h1 ⟨h,decide_eq_true hym⟩,fun d hd=>?_⟩
    have:=of_decide_eq_true (h2 d hd)
    exact decide_eq_true (List.mem_filter.1 this).1
   ·rintro⟨h1,h2⟩
    refine⟨fun h=>h1 h.1,fun d hd=>decide_eq_true (List.mem_filter.2 ⟨of_decide_eq_true (h2 d hd),decide_eq_true (hn d hd)⟩)⟩
  ·rw[decide_eq_false hym,Bool.false_and,Bool.false_and]
 rw[e2]
 exact find_and hx (decide_eq_true hm)
theorem Ranked.find {s:List Sto} {r:Dig→Nat} (h:Ranked s r) {out:List Dig} (hlt:out.length < s.length): ∃ x,s.find? (eligR out)=some x:=by
 have hp:=h.pick hlt
 rw[rPick_first h.asc,idxF]at hp
 split at hp
 ·rename_i ha
  cases hf:s.find? (eligR out)with
  |some x=>exact⟨x,rfl⟩
  |none=>
   obtain⟨x,hx,e⟩:=List.any_eq_true.1 ha
   exact absurd e (List.find?_eq_none.1 hf x hx)
 ·omega
theorem rOrder_keep {s:List Sto} {r:Dig→Nat} (h:Ranked s r) {m:List Dig} (hc: ∀ x∈s,x.id∈m→ ∀ d∈rNeeds x.patch,d∈m):
  rOrder (keepS s m)=(rOrder s).filter fun d=>decide (d∈m):=by
 have hak:Asc (ids (keepS s m)):=List.Pairwise.sublist (ids_keep_sub s m) h.asc
 have key: ∀ n out,out.length+n=s.length→out.Nodup→(∀ d∈out,d∈ids s)→
   (rOrd s n out).filter (fun d=>decide (d∈m))=rOrd (keepS s m) ((keepS s m).length - (out.filter fun d=>decide (d∈m)).length) (out.filter fun d=>decide (d∈m)):=fun n=>by
  induction n with
  |zero=>
   intro out hl hnd hs
   have hall: ∀ d∈ids s,d∈out:=fun d hd=>Classical.byContradiction fun hn=>by
    have:=nodup_len (l:=d::out) (m:=ids s) (List.nodup_cons.2 ⟨hn,hnd⟩) fun y hy=>by
     rcases List.mem_cons.1 hy with rfl|hy
     ·exact hd
     ·exact hs y hy
    rw[ids_len,List.length_cons]at this;omega
   have hge:(keepS s m).length≤(out.filter fun d=>decide (d∈m)).length:=by
    have:=nodup_len (l:=ids (keepS s m)) (m:=out.filter fun d=>decide (d∈m)) hak.nodup fun y hy=>by
     obtain⟨h1,h2⟩:=mem_ids_keep.1 hy
     exact List.mem_filter.2 ⟨hall y h1,decide_eq_true h2⟩
    rwa [ids_len]at this
   rw[show(keepS s m).length - (out.filter fun d=>decide (d∈m)).length=0 by omega,rOrd,rOrd]
  |succ n ih=>
   intro out hl hnd hs
   obtain⟨x,hx⟩:=h.find (out:=out) (by omega)
   obtain⟨p1,p2⟩:=rPick_find h.asc hx
   have hxs:=List.mem_of_find?_eq_some hx
   have hxe0:eligR out x=true:=List.find?_some hx
   have hxe: ¬x.id∈out∧allIn out (rNeeds x.patch)=true:=of_decide_eq_true hxe0
   rw[rOrd,if_neg (by omega),p2]
   have hnd':(out++ [x.id]).Nodup:=by
    rw[List.nodup_append]
    exact⟨hnd,by simp,fun a ha b hb e=>hxe.1 (by rw[←List.mem_singleton.1 hb,←e];exact ha)⟩
   rw[ih (out++ [x.id]) (by rw[List.length_append,List.length_singleton];omega) hnd' fun d hd=>by
    rcases List.mem_append.1 hd with hd|hd
    ·exact hs d hd
    ·rw[List.mem_singleton.1 hd];exact List.mem_map.2 ⟨x,hxs,rfl⟩]
   rw[List.filter_append]
   by_cases hm:x.id∈m
   ·have e1: [x.id].filter (fun d=>decide (d∈m))= [x.id]:=by simp[hm]
    have hk:=keepS_find hc hx hm
    obtain⟨q1,q2⟩:=rPick_find hak hk
    have hlt:(out.filter fun d=>decide (d∈m)).length < (keepS s m).length:=by
     have:=nodup_len (l:=x.id::out.filter fun d=>decide (d∈m)) (m:=ids (keepS s m)) (List.nodup_cons.2 ⟨fun h'=>hxe.1 (List.mem_filter.1 h').1,hnd.filter _⟩) fun y hy=>by
      rcases List.mem_cons.1 hy with rfl|hy
      ·exact mem_ids_keep.2 ⟨List.mem_map.2 ⟨x,hxs,rfl⟩,hm⟩
      ·obtain⟨h1,h2⟩:=List.mem_filter.1 hy
       exact mem_ids_keep.2 ⟨hs y h1,of_decide_eq_true h2⟩
     rw[ids_len,List.length_cons]at this;omega
    rw[e1,List.length_append,List.length_singleton]
    obtain⟨j,hj⟩: ∃ j,(keepS s m).length - (out.filter fun d=>decide (d∈m)).length=j+1:=⟨(keepS s m).length - (out.filter fun d=>decide (d∈m)).length - 1,by omega⟩
    rw[hj,show(keepS s m).length - ((out.filter fun d=>decide (d∈m)).length+1)=j by omega]
    conv=>rhs;rw[rOrd,if_neg (by omega),q2]
   ·have e1: [x.id].filter (fun d=>decide (d∈m))= []:=by simp[hm]
    rw[e1,List.append_nil]
 have:=key s.length [] (by simp) .nil (fun d hd=>by cases hd)
 exact this.symm
end Go.Proofs
namespace Go.Proofs
open Go Go.Q
theorem asc_ext: ∀ {u v:List Sto},Asc (ids u)→Asc (ids v)→(∀ x,x∈u↔x∈v)→u=v
 | [],[],_,_,_=>rfl
 | [],y::v,_,_,h=>absurd ((h y).2 List.mem_cons_self) (by simp)
 |x::u,[],_,_,h=>absurd ((h x).1 List.mem_cons_self) (by simp)
 |x::u,y::v,hu,hv,h=>by
  have pu:=List.pairwise_cons.1 hu
  have pv:=List.pairwise_cons.1 hv
  have e:x=y:=by
   rcases List.mem_cons.1 ((h x).1 List.mem_cons_self)with e|hx
   ·exact e
   ·rcases List.mem_cons.1 ((h y).2 List.mem_cons_self)with e|hy
    ·exact e.symm
    ·exact absurd (pv.1 x.id (List.mem_map.2 ⟨x,hx,rfl⟩)) (Dig.lt_asymm (pu.1 y.id (List.mem_map.2 ⟨y,hy,rfl⟩)))
  subst e
  rw[asc_ext pu.2 pv.2 fun z=>⟨fun hz=>?_,fun hz=>?_⟩]
  ·rcases List.mem_cons.1 ((h z).1 (List.mem_cons_of_mem _ hz))with rfl|h'
   ·exact absurd (pu.1 z.id (List.mem_map.2 ⟨z,hz,rfl⟩)) (Dig.lt_irrefl _)
   ·exact h'
  ·rcases List.mem_cons.1 ((h z).2 (List.mem_cons_of_mem _ hz))with rfl|h'
   ·exact absurd (pv.1 z.id (List.mem_map.2 ⟨z,hz,rfl⟩)) (Dig.lt_irrefl _)
   ·exact h'
def Coh (a b:List Sto):Prop:= ∀ x∈a,∀ y∈b,x.id=y.id→x=y
theorem Coh.symm {a b:List Sto} (h:Coh a b):Coh b a:=fun x hx y hy e=>(h y hy x hx e.symm).symm
theorem coh_self {a:List Sto} (h:Asc (ids a)):Coh a a:=fun _ hx _ hy e=>sto_unique h hx hy e
def uniG (a:List Sto):List Sto→List Sto→Option (List Sto)
 |out,[]=>some out
 |out,x::b=>match getS a x.id with
  |some p=>if p=x.patch then uniG a out b else none
  |none=>uniG a (putS out x) b
def rUnion (a b:List Sto):List Sto × Int:=match uniG a a b with
 |none=>([],14)
 |some u=>if 400 < u.length then([],4)else(u,0)
def mrgS:List Sto→List Sto→Option (List Sto)
 |a,[]=>some a
 | [],y::b=>some (y::b)
 |x::a,y::b=>if cmpD x.id y.id < 0 then(mrgS a (y::b)).map (x:: ·)else if cmpD y.id x.id < 0 then(mrgS (x::a) b).map (y:: ·)else if x.patch=y.patch then(mrgS a b).map (x:: ·)else none
 termination_by a b=>a.length+b.length
structure IsU (a b u:List Sto):Prop where
 asc:Asc (ids u)
 mem: ∀ x,x∈u↔x∈a∨x∈b
theorem IsU.uniq {a b u v:List Sto} (h:IsU a b u) (h':IsU a b v):u=v:=asc_ext h.asc h'.asc fun x=>by rw[h.mem,h'.mem]
theorem IsU.symm {a b u:List Sto} (h:IsU a b u):IsU b a u:=⟨h.asc,fun x=>by rw[h.mem,or_comm]⟩
theorem getS_mem' {a:List Sto} {d:Dig} {p:Pat} (h:getS a d=some p):(⟨d,p⟩:Sto)∈a:=by
 obtain⟨x,hx,e1,e2⟩:=getS_mem h
 rw[←e1,←e2];exact hx
theorem uniG_some {a:List Sto} (ha:Asc (ids a)): ∀ (b out:List Sto),Asc (ids out)→Asc (ids b)→Coh a b→(∀ x∈b,x.id∈ids out→x.id∈ids a)→(∀ x∈a,x∈out)→ ∃ u,uniG a out b=some u∧Asc (ids u)∧ ∀ x,x∈u↔x∈out∨x∈b
 | [],out,ho,_,_,_,_=>⟨out,rfl,ho,fun x=>by simp⟩
 |y::b,out,ho,hb,hc,hd,hs=>by
  have pb:=List.pairwise_cons.1 hb
  have hc':Coh a b:=fun x hx z hz=>hc x hx z (List.mem_cons_of_mem _ hz)
  cases hg:getS a y.id with
  |some p=>
   have hm:=getS_mem' hg
   have e:=hc _ hm y List.mem_cons_self rfl
   have hp:p=y.patch:=by rw[←e]
   obtain⟨u,h1,h2,h3⟩:=uniG_some ha b out ho pb.2 hc' (fun x hx=>hd x (List.mem_cons_of_mem _ hx)) hs
   refine⟨u,by rw[uniG,hg];simp only[hp,if_true];exact h1,h2,fun x=>?_⟩
   rw[h3,List.mem_cons]
   constructor
   ·rintro(h|h)
    ·exact .inl h
    ·exact .inr (.inr h)
   ·rintro(h|rfl|h)
    ·exact .inl h
    ·exact .inl (hs _ (e ▸ hm))
    ·exact .inr h
  |none=>
   have hna:y.id∉ids a:=fun h=>by
    have:=getS_isSome ha y.id
    rw[hg,decide_eq_true h]at this;cases this
   have hno:y.id∉ids out:=fun h=>hna (hd y List.mem_cons_self h)
   obtain⟨u,h1,h2,h3⟩:=uniG_some ha b (putS out y) (putS_asc ho hno) pb.2 hc' (fun x hx h=>by
    rcases mem_ids_putS.1 h with e|h
    ·exact absurd (pb.1 x.id (List.mem_map.2 ⟨x,hx,rfl⟩)) (e ▸ Dig.lt_irrefl _)
    ·exact hd x (List.mem_cons_of_mem _ hx) h) (fun x hx=>mem_putS.2 (.inr (hs x hx)))
   refine⟨u,by rw[uniG,hg];exact h1,h2,fun x=>?_⟩
   rw[h3,mem_putS,List.mem_cons]
   constructor
   ·rintro((h|h)|h)
    ·exact .inr (.inl h)
    ·exact .inl h
    ·exact .inr (.inr h)
   ·rintro(h|h|h)
    ·exact .inl (.inr h)
    ·exact .inl (.inl h)
    ·exact .inr h
theorem uniG_none {a:List Sto} (ha:Asc (ids a)): ∀ (b out:List Sto),¬Coh a b→uniG a out b=none
 | [],_,h=>absurd (fun x _ y hy=>by cases hy) h
 |y::b,out,h=>by
  cases hg:getS a y.id with
  |some p=>
   by_cases hp:p=y.patch
   ·rw[uniG,hg];simp only[hp,if_true]
    refine uniG_none ha b out fun hc=>h fun x hx z hz e=>?_
    rcases List.mem_cons.1 hz with rfl|hz
    ·have:=getS_in ha hx
     rw[e,hg]at this
     cases x;cases z
     cases this;subst hp;cases e;rfl
    ·exact hc x hx z hz e
   ·rw[uniG,hg];simp only[hp,if_false]
  |none=>
   rw[uniG,hg]
   refine uniG_none ha b _ fun hc=>h fun x hx z hz e=>?_
   rcases List.mem_cons.1 hz with rfl|hz
   ·have:=getS_in ha hx
    rw[e,hg]at this;cases this
   ·exact hc x hx z hz e
theorem uniG_isU {a b:List Sto} (ha:Asc (ids a)) (hb:Asc (ids b)) (hc:Coh a b): ∃ u,uniG a a b=some u∧IsU a b u:=by
 obtain⟨u,h1,h2,h3⟩:=uniG_some ha b a ha hb hc (fun _ _ h=>h) (fun _ h=>h)
 exact⟨u,h1,h2,h3⟩
theorem asc_cons {x:Sto} {u:List Sto} (hu:Asc (ids u)) (h: ∀ y∈u,Dig.lt x.id y.id):Asc (ids (x::u)):=
 List.pairwise_cons.2 ⟨fun d hd=>by obtain⟨y,hy,rfl⟩:=List.mem_map.1 hd;exact h y hy,hu⟩
theorem asc_head {x:Sto} {u:List Sto} (h:Asc (ids (x::u))) {y:Sto} (hy:y∈u):Dig.lt x.id y.id:=(List.pairwise_cons.1 h).1 _ (List.mem_map.2 ⟨y,hy,rfl⟩)
theorem mrgS_isU: ∀ (a b:List Sto),Asc (ids a)→Asc (ids b)→Coh a b→ ∃ u,mrgS a b=some u∧IsU a b u
 |a,[],ha,_,_=>⟨a,by rw[mrgS],ha,fun x=>by simp⟩
 | [],y::b,_,hb,_=>⟨y::b,by rw[mrgS],hb,fun x=>by simp⟩
 |x::a,y::b,ha,hb,hc=>by
  have pa:=List.pairwise_cons.1 ha
  have pb:=List.pairwise_cons.1 hb
  rw[mrgS]
  by_cases h1:cmpD x.id y.id < 0
  ·rw[if_pos h1]
   obtain⟨u,e,i⟩:=mrgS_isU a (y::b) pa.2 hb fun z hz w hw=>hc z (List.mem_cons_of_mem _ hz) w hw
   refine⟨x::u,by rw[e];rfl,asc_cons i.asc fun z hz=>?_,fun z=>?_⟩
   ·rcases(i.mem z).1 hz with hz|hz
    ·exact asc_head ha hz
    ·rcases List.mem_cons.1 hz with rfl|hz
     ·exact h1
     ·exact Dig.lt_trans h1 (asc_head hb hz)
   ·simp only[List.mem_cons,i.mem,or_assoc]
  ·rw[if_neg h1]
   by_cases h2:cmpD y.id x.id < 0
   ·rw[if_pos h2]
    obtain⟨u,e,i⟩:=mrgS_isU (x::a) b ha pb.2 fun z hz w hw=>hc z hz w (List.mem_cons_of_mem _ hw)
    refine⟨y::u,by rw[e];rfl,asc_cons i.asc fun z hz=>?_,fun z=>?_⟩
    ·rcases(i.mem z).1 hz with hz|hz
     ·rcases List.mem_cons.1 hz with rfl|hz
      ·exact h2
      ·exact Dig.lt_trans h2 (asc_head ha hz)
     ·exact asc_head hb hz
    ·simp only[List.mem_cons,i.mem];grind
   ·have e0:x.id=y.id:=by
     rcases Dig.tri x.id y.id with h|h|h
     ·exact absurd h h1
     ·exact h
     ·exact absurd h h2
    have exy:=hc x List.mem_cons_self y List.mem_cons_self e0
    subst exy
    rw[if_neg h2,if_pos rfl]
    obtain⟨u,e,i⟩:=mrgS_isU a b pa.2 pb.2 fun z hz w hw=>hc z (List.mem_cons_of_mem _ hz) w (List.mem_cons_of_mem _ hw)
    refine⟨x::u,by rw[e];rfl,asc_cons i.asc fun z hz=>?_,fun z=>?_⟩
    ·rcases(i.mem z).1 hz with hz|hz
     ·exact asc_head ha hz
     ·exact asc_head hb hz
    ·simp only[List.mem_cons,i.mem];grind
 termination_by a b=>a.length+b.length
theorem mrgS_none: ∀ (a b:List Sto),Asc (ids a)→Asc (ids b)→ ¬Coh a b→mrgS a b=none
 |a,[],_,_,h=>absurd (fun x _ y hy=>by cases hy) h
 | [],y::b,_,_,h=>absurd (fun x hx=>by cases hx) h
 |x::a,y::b,ha,hb,hc=>by
  have pa:=List.pairwise_cons.1 ha
  have pb:=List.pairwise_cons.1 hb
  rw[mrgS]
  by_cases h1:cmpD x.id y.id < 0
  ·rw[if_pos h1,mrgS_none a (y::b) pa.2 hb fun h=>hc fun z hz w hw e=>?_]
   ·rfl
   ·rcases List.mem_cons.1 hz with rfl|hz
    ·exfalso
     have hlt:Dig.lt z.id w.id:=by
      rcases List.mem_cons.1 hw with rfl|hw
      ·exact h1
      ·exact Dig.lt_trans h1 (asc_head hb hw)
     rw[e]at hlt;exact Dig.lt_irrefl _ hlt
    ·exact h z hz w hw e
  ·rw[if_neg h1]
   by_cases h2:cmpD y.id x.id < 0
   ·rw[if_pos h2,mrgS_none (x::a) b ha pb.2 fun h=>hc fun z hz w hw e=>?_]
    ·rfl
    ·rcases List.mem_cons.1 hw with rfl|hw
     ·exfalso
      have hlt:Dig.lt w.id z.id:=by
       rcases List.mem_cons.1 hz with rfl|hz
       ·exact h2
       ·exact Dig.lt_trans h2 (asc_head ha hz)
      rw[e]at hlt;exact Dig.lt_irrefl _ hlt
     ·exact h z hz w hw e
   ·have e0:x.id=y.id:=by
     rcases Dig.tri x.id y.id with h|h|h
     ·exact absurd h h1
     ·exact h
     ·exact absurd h h2
    rw[if_neg h2]
    by_cases hp:x.patch=y.patch
    ·rw[if_pos hp,mrgS_none a b pa.2 pb.2 fun h=>hc fun z hz w hw e=>?_]
     ·rfl
     ·rcases List.mem_cons.1 hz with rfl|hz
      ·rcases List.mem_cons.1 hw with rfl|hw
       ·cases z;cases w;cases e0;cases hp;rfl
       ·exfalso
        have hlt:=asc_head hb hw
        rw[←e0,e]at hlt;exact Dig.lt_irrefl _ hlt
      ·rcases List.mem_cons.1 hw with rfl|hw
       ·exfalso
        have hlt:=asc_head ha hz
        rw[e0,e]at hlt;exact Dig.lt_irrefl _ hlt
       ·exact h z hz w hw e
    ·rw[if_neg hp]
 termination_by a b=>a.length+b.length
theorem mrg_uni {a b:List Sto} (ha:Asc (ids a)) (hb:Asc (ids b)):mrgS a b=uniG a a b:=by
 by_cases hc:Coh a b
 ·obtain⟨u,e1,h1⟩:=uniG_isU ha hb hc
  obtain⟨v,e2,h2⟩:=mrgS_isU a b ha hb hc
  rw[e1,e2,h1.uniq h2]
 ·rw[uniG_none ha b a hc,mrgS_none a b ha hb hc]
theorem IsU.len {a b u:List Sto} (h:IsU a b u):u.length≤a.length+b.length:=by
 have:=nodup_len h.asc.nodup (m:=ids a++ids b) fun d hd=>by
  obtain⟨x,hx,rfl⟩:=List.mem_map.1 hd
  rcases(h.mem x).1 hx with hx|hx
  ·exact List.mem_append.2 (.inl (List.mem_map.2 ⟨x,hx,rfl⟩))
  ·exact List.mem_append.2 (.inr (List.mem_map.2 ⟨x,hx,rfl⟩))
 rwa [List.length_append,ids_len,ids_len,ids_len]at this
theorem rUnion_ok {a b:List Sto} (ha:Asc (ids a)) (hb:Asc (ids b)) (hl:a.length+b.length≤400) (hc:Coh a b): ∃ u,rUnion a b=(u,0)∧IsU a b u:=by
 obtain⟨u,e,i⟩:=uniG_isU ha hb hc
 refine⟨u,?_,i⟩
 have:=i.len
 rw[rUnion,e];simp only;rw[if_neg (by omega)]
theorem rUnion_bad {a b:List Sto} (ha:Asc (ids a)) (hc: ¬Coh a b):rUnion a b=([],14):=by rw[rUnion,uniG_none ha b a hc]
theorem IsU.sub {a b u:List Sto} (h:IsU a b u) {d:Dig}:d∈ids u↔d∈ids a∨d∈ids b:=by
 constructor
 ·intro hd
  obtain⟨x,hx,rfl⟩:=List.mem_map.1 hd
  rcases(h.mem x).1 hx with hx|hx
  ·exact .inl (List.mem_map.2 ⟨x,hx,rfl⟩)
  ·exact .inr (List.mem_map.2 ⟨x,hx,rfl⟩)
 ·rintro(hd|hd)
  ·obtain⟨x,hx,rfl⟩:=List.mem_map.1 hd
   exact List.mem_map.2 ⟨x,(h.mem x).2 (.inl hx),rfl⟩
  ·obtain⟨x,hx,rfl⟩:=List.mem_map.1 hd
   exact List.mem_map.2 ⟨x,(h.mem x).2 (.inr hx),rfl⟩
theorem IsU.getL {a b u:List Sto} (h:IsU a b u) (ha:Asc (ids a)) {d:Dig} (hd:d∈ids a):getS u d=getS a d:=by
 obtain⟨x,hx,rfl⟩:=List.mem_map.1 hd
 rw[getS_in ha hx,getS_in h.asc ((h.mem x).2 (.inl hx))]
theorem Valid.union {a b u:List Sto} (va:Valid a) (vb:Valid b) (h:IsU a b u) (hl:a.length+b.length≤40):Valid u:=by
 have hlen:=h.len
 have hcl: ∀ y∈u,∀ d∈rNeeds y.patch,d∈ids u:=fun y hy d hd=>h.sub.2 (by
  rcases(h.mem y).1 hy with hy|hy
  ·exact .inl (va.close.2 y hy d hd)
  ·exact .inr (vb.close.2 y hy d hd))
 refine⟨⟨⟨by omega,fun y hy=>?_⟩,hcl⟩,fun y hy=>?_,h.asc,?_,fun y hy=>?_⟩
 ·rcases(h.mem y).1 hy with hy|hy
  ·exact va.close.1.2 y hy
  ·exact vb.close.1.2 y hy
 ·rcases(h.mem y).1 hy with hy|hy
  ·exact va.id y hy
  ·exact vb.id y hy
 ·have hr:Ranked u (fun d=>if d∈ids a then rankS a d else(rOrder a).length+1+rankS b d):=by
   refine⟨h.asc,hcl,fun y hy d hd=>?_⟩
   have hra:rankS a d≤(rOrder a).length:=by unfold rankS;exact List.idxOf_le_length
   by_cases hya:y∈a
   ·have h1:y.id∈ids a:=List.mem_map.2 ⟨y,hya,rfl⟩
    simp only[if_pos h1,if_pos (va.close.2 y hya d hd)]
    exact va.rank hya hd
   ·have hyb:y∈b:=((h.mem y).1 hy).resolve_left hya
    have hn:y.id∉ids a:=fun hn=>by
     obtain⟨x,hx,e⟩:=List.mem_map.1 hn
     exact hya (sto_unique h.asc ((h.mem x).2 (.inl hx)) hy e ▸ hx)
    simp only[if_neg hn]
    have:=vb.rank hyb hd
    split<;>omega
  exact Nat.le_of_eq hr.order.symm
 ·rcases(h.mem y).1 hy with hy|hy
  ·rw[rRefsS_congr (va.id y hy).1 fun d hd=>h.getL va.asc (va.close.2 y hy d hd)]
   exact va.refs y hy
  ·rw[rRefsS_congr (vb.id y hy).1 fun d hd=>h.symm.getL vb.asc (vb.close.2 y hy d hd)]
   exact vb.refs y hy
theorem IsU.keep {a b u:List Sto} (h:IsU a b u) (ha:Asc (ids a)):keepS u (ids a)=a:=by
 refine asc_ext (List.Pairwise.sublist (ids_keep_sub u _) h.asc) ha fun x=>?_
 rw[mem_keepS,h.mem]
 constructor
 ·rintro⟨hx,hi⟩
  obtain⟨y,hy,e⟩:=List.mem_map.1 hi
  exact sto_unique h.asc ((h.mem y).2 (.inl hy)) ((h.mem x).2 hx) e ▸ hy
 ·exact fun hx=>⟨.inl hx,List.mem_map.2 ⟨x,hx,rfl⟩⟩
end Go.Proofs
namespace Go.Proofs
open Go Go.Q
structure Closed (s:List Sto) (l L:List Dig):Prop where
 has: ∀ d∈l,d∈L
 sub: ∀ d∈L,d∈ids s
 asc:Asc L
 nd: ∀ d∈L,∀ n∈ndS s d,n∈L
theorem Valid.closed {s:List Sto} (v:Valid s) {l:List Dig} (hl: ∀ d∈l,d∈ids s): ∃ L,rClosure s l=(L,0)∧Closed s l L:=by
 have h:allIn (ids s) l=true:=List.all_eq_true.2 fun d hd=>decide_eq_true (hl d hd)
 have hcl: ∀ x∈ids s,∀ d∈Go.Proofs.ndS s x,d∈ids s:=fun x _ d hd=>v.close.nd x d hd
 have hm: ∀ d,d∈iterC (Go.Proofs.ndS s) s.length (withAll [] l)↔Q.Reach (Go.Proofs.ndS s) l d:=fun d=>mem_iterC hcl hl (by rw[ids_len];exact Nat.le_refl _)
 refine⟨iterC (Go.Proofs.ndS s) s.length (withAll [] l),by rw[rClosure,if_neg (by simp[h])],fun d hd=>(hm d).2 (.base hd),fun d hd=>((hm d).1 hd).in_ hcl hl,iterC_asc (withAll_asc .nil),fun d hd n hn=>(hm n).2 (.step ((hm d).1 hd) hn)⟩
theorem Closed.again {s:List Sto} (v:Valid s) {l L:List Dig} (h:Closed s l L):rClosure s L=(L,0):=by
 obtain⟨L',e,h'⟩:=v.closed h.sub
 rw[e]
 have hcl: ∀ x∈ids s,∀ d∈ndS s x,d∈ids s:=fun x _ d hd=>v.close.nd x d hd
 have:L'=L:=by
  have hA:allIn (ids s) L=true:=List.all_eq_true.2 fun d hd=>decide_eq_true (h.sub d hd)
  rw[rClosure,if_neg (by simp[hA])]at e
  have e:=(Prod.mk.inj e).1
  refine Asc.ext h'.asc h.asc fun d=>?_
  rw[←e,mem_iterC hcl h.sub (by rw[ids_len];exact Nat.le_refl _)]
  refine⟨fun hr=>?_,fun hd=> .base hd⟩
  induction hr with
  |base hd=>exact hd
  |step _ hd ih=>exact h.nd _ ih _ hd
 rw[this]
theorem Closed.keep {s:List Sto} (v:Valid s) {l L:List Dig} (h:Closed s l L):Valid (keepS s L):=v.keep fun x hx hc d hd=>h.nd x.id hc d (by rw[v.ndS hx];exact hd)
theorem Valid.closedM {s:List Sto} (v:Valid s) {l:List Dig} (hl: ∀ d∈l,d∈ids s): ∃ L,rClosure s l=(L,0)∧Closed s l L∧ ∀ d,d∈L↔Q.Reach (Go.Proofs.ndS s) l d:=by
 obtain⟨L,e,h⟩:=v.closed hl
 refine⟨L,e,h,fun d=>?_⟩
 have hA:allIn (ids s) l=true:=List.all_eq_true.2 fun d hd=>decide_eq_true (hl d hd)
 have hcl: ∀ x∈ids s,∀ d∈Go.Proofs.ndS s x,d∈ids s:=fun x _ d hd=>v.close.nd x d hd
 rw[rClosure,if_neg (by simp[hA])]at e
 rw[←(Prod.mk.inj e).1,mem_iterC hcl hl (by rw[ids_len];exact Nat.le_refl _)]
theorem closure_bad {s:List Sto} {l:List Dig} (h: ¬allIn (ids s) l=true):rClosure s l=([],7):=by rw[rClosure,if_pos (by simpa using h)]
theorem allIn_iff {U l:List Dig}:allIn U l=true↔ ∀ d∈l,d∈U:=by simp[allIn]
theorem Closed.needs {s:List Sto} (v:Valid s) {l L:List Dig} (h:Closed s l L): ∀ x∈s,x.id∈L→ ∀ d∈rNeeds x.patch,d∈L:=fun x hx hc d hd=>h.nd x.id hc d (by rw[v.ndS hx];exact hd)
theorem mem_order_iff {s:List Sto} (v:Valid s) {d:Dig}:d∈rOrder s↔d∈ids s:=⟨(rOrder_ordered s).sub d,v.mem_order⟩
theorem order_nodup (s:List Sto):(rOrder s).Nodup:=(rOrder_ordered s).nodup
def rMissing (a b:List Sto):List Dig:=(rOrder a).filter fun d=>decide (¬d∈ids b)
theorem mem_missing {a b:List Sto} (v:Valid a) {d:Dig}:d∈rMissing a b↔d∈ids a∧d∉ids b:=by
 rw[rMissing,List.mem_filter,mem_order_iff v,decide_eq_true_eq]
theorem missing_nodup (a b:List Sto):(rMissing a b).Nodup:=(order_nodup a).filter _
theorem missing_nil {a b:List Sto} (v:Valid a) (h: ∀ d∈ids a,d∈ids b):rMissing a b= []:=by
 rw[List.eq_nil_iff_forall_not_mem]
 intro d hd
 obtain⟨h1,h2⟩:=(mem_missing v).1 hd
 exact h2 (h d h1)
theorem missing_keep {a b:List Sto} (v:Valid a) {C:List Dig} (hc: ∀ x∈a,x.id∈C→ ∀ d∈rNeeds x.patch,d∈C):
  rMissing (keepS a C) b=(rMissing a b).filter fun d=>decide (d∈C):=by
 rw[rMissing,rMissing,rOrder_keep v.ranked hc,List.filter_filter,List.filter_filter]
 refine List.filter_congr fun d _=>?_
 rw[Bool.and_comm]
theorem len_of_same {l m:List Dig} (hl:l.Nodup) (hm:m.Nodup) (h: ∀ d,d∈l↔d∈m):l.length=m.length:=
 Nat.le_antisymm (nodup_len hl fun d hd=>(h d).1 hd) (nodup_len hm fun d hd=>(h d).2 hd)
theorem len_missing {a b u:List Sto} (v:Valid a) (hb:Asc (ids b)) (h:IsU b a u):b.length+(rMissing a b).length=u.length:=by
 have:=len_of_same (l:=ids b++rMissing a b) (m:=ids u) (List.nodup_append.2 ⟨hb.nodup,missing_nodup a b,fun x hx y hy e=>((mem_missing v).1 hy).2 (e ▸ hx)⟩) h.asc.nodup fun d=>by
  rw[List.mem_append,mem_missing v,h.sub]
  constructor
  ·rintro(h|h)
   ·exact .inl h
   ·exact .inr h.1
  ·rintro(h|h)
   ·exact .inl h
   ·exact Classical.byCases (fun hb:d∈ids b=> .inl hb) fun hb=> .inr ⟨h,hb⟩
 rwa [List.length_append,ids_len,ids_len]at this
def rTake (a b:List Sto) (l:List Dig):List Sto × List Dig × Int:=
 if(rClosure a l).2≠0 then([],[],(rClosure a l).2)else
 if(rUnion b (keepS a (rClosure a l).1)).2≠0 then([],[],(rUnion b (keepS a (rClosure a l).1)).2)else
 ((rUnion b (keepS a (rClosure a l).1)).1,rMissing (keepS a (rClosure a l).1) b,0)
theorem take_out {a b:List Sto} {l:List Dig} (h: ¬allIn (ids a) l=true):rTake a b l=([],[],7):=by
 rw[rTake,closure_bad h,if_pos (by decide)]
theorem take_bad {a b:List Sto} {l L:List Dig} (e:rClosure a l=(L,0)) (hb:Asc (ids b)) (hc: ¬Coh b (keepS a L)):rTake a b l=([],[],14):=by
 rw[rTake,e,if_neg (by simp),rUnion_bad hb hc,if_pos (by decide)]
theorem take_ok {a b u:List Sto} {l L:List Dig} (e:rClosure a l=(L,0)) (hu:rUnion b (keepS a L)=(u,0)):rTake a b l=(u,rMissing (keepS a L) b,0):=by
 rw[rTake,e,if_neg (by simp),hu,if_neg (by simp)]
end Go.Proofs
namespace Go.Proofs
open Go Go.Q
structure Turned (nd:Dig→List Dig) (U:List Dig) (T:List (Dig × List Dig)):Prop where
 is: ∀ d,(mGet d T).isSome=decide (d∈U)
 mem: ∀ x y,y∈ndG T x↔y∈U∧x∈nd y
 len: ∀ x,(ndG T x).length≤400
end Go.Proofs
namespace Go.Q
open Go
section
variable {P:Program} {N:Nat} {all:Array Oper} {K:Env→List Res→Prop} {fl:List Bool} {os:List Oper} {ρ:Env} {L:List Res} {Q:PPost} {c:Code} {d:Nat} {ty:TypeId} {pos:String} {af:Array Edge} {T KT ET:Nat}
end
end Go.Q
