/- The small logic: what the kit's shelf proves; rows of bytes known to the letter. Library, no statement of its own. -/
import Derived.Test.YtmkdlelpipefbaaGreatDoorUaf
import Derived.Lib.UnsafeStr
import Derived.Lib.Builder
import Derived.ProofKit
import Derived.SizedLaws
import Derived.OpenShut
set_option linter.unusedSimpArgs false
set_option linter.unusedVariables false
namespace Go.Q
open Go
section
variable {P:Program} {w w':World} {g:Gh} {L:List Res}
theorem Inv.later (hi:Inv w g L) (hk: ∀ k,k < w.heap.size→w'.heap[k]? =w.heap[k]?):Inv w' g L:=by
 refine⟨fun b i v h=>?_,fun b z h=>(hi.satM b z h).congr (hk b (hi.satM b z h).lt),fun r hr=>?_,hi.nodup,hi.glob⟩
 ·have h0:=hi.sat b i v h
  have hb:b < w.heap.size:=by
   rcases Nat.lt_or_ge b w.heap.size with h'|h'
   ·exact h'
   ·simp[World.cell?,Array.getElem?_eq_none h']at h0
  simp only[World.cell?]at h0 ⊢
  rw[hk b hb];exact h0
 ·exact Res.holds_kept (.refl g) (hi.res r hr) fun b hb=>⟨hk b (hi.lt (List.mem_filterMap.2 ⟨r,hr,hb⟩)),fun _=>rfl,rfl⟩
theorem Inv.other {l:Nat} (hi:Inv w g L) (hH: ∀ o,g.H l o=none) (hM:g.M l=none) (hl:l∉blocks L) (hk: ∀ k,k≠l→w'.heap[k]? =w.heap[k]?):Inv w' g L:=by
 refine⟨fun b i v h=>?_,fun b z h=>?_,fun r hr=>?_,hi.nodup,hi.glob⟩
 ·have:b≠l:=fun e=>by subst e;rw[hH]at h;cases h
  have h0:=hi.sat b i v h
  simp only[World.cell?]at h0 ⊢
  rw[hk b this];exact h0
 ·have:b≠l:=fun e=>by subst e;rw[hM]at h;cases h
  exact(hi.satM b z h).congr (hk b this)
 ·exact Res.holds_kept (.refl g) (hi.res r hr) fun b hb=>⟨hk b (fun e=>hl (List.mem_filterMap.2 ⟨r,hr,by rw[hb,e]⟩)),fun _=>rfl,rfl⟩
theorem Inv.rawHead {l:Nat} {o:Obj} (hi:Inv w g (.raw l o::L)):w.heap[l]? =some o∧(∀ o,g.H l o=none)∧g.M l=none∧l∉blocks L∧Inv w g L:=by
 obtain⟨h1,h2,h3⟩:=hi.res _ (List.mem_cons_self)
 have hnd:=hi.nodup
 simp only[blocks,List.filterMap_cons,Res.block]at hnd
 exact⟨h1,h2,h3,(List.nodup_cons.1 hnd).1,hi.sub (List.sublist_cons_self _ _)⟩
theorem Inv.turnRaw {l:Nat} {o o':Obj} (hi:Inv w g (.raw l o::L)) (h:w'.heap[l]? =some o') (hk: ∀ k,k≠l→w'.heap[k]? =w.heap[k]?):Inv w' g (.raw l o'::L):=by
 obtain⟨_,h2,h3,hn,hi'⟩:=hi.rawHead
 exact(hi'.other h2 h3 hn hk).addRaw h h2 h3 hn
theorem fn_ext {f:FuncId} {args:List PV} {X:PV} (h: ∀ vs w g LF,VRl g vs args→Inv w g LF→Calls P f vs.toArray w (fun e w'=> ∃ v,e= .returned v∧(∀ g,VR g v X)∧w'.os=w.os∧w'.tape=w.tape∧w'.output=w.output∧w.drawn≤w'.drawn∧w.heap.size≤w'.heap.size∧ ∀ k,k < w.heap.size→w'.heap[k]? =w.heap[k]?)):Fn P f args X:=fun vs w g LF hv hi=>by
 rw[List.nil_append]at hi
 refine(h vs w g LF hv hi).mono ?_
 rintro e w' ⟨v,rfl,h1,h2,h3,h4,h5,h6,h7⟩
 exact⟨v,X,g,[],rfl,h1 g,hi.later h7,⟨h2,h3,⟨h4,h5⟩,h6,fun k hk _=>h7 k hk,.refl g,fun _ _ _=>⟨fun _=>rfl,rfl⟩⟩,.refl _ _,rfl,rfl⟩
end
def bcs (l:List UInt8):List Value:=l.map fun b=>Value.int .u8 b.toNat
@[simp] theorem len_bcs (l:List UInt8):(bcs l).length=l.length:=by simp[bcs]
theorem bcs_append (l m:List UInt8):bcs (l++m)=bcs l++bcs m:=by simp[bcs]
class TRow (P:Program) (T:Nat) (E:outParam Nat):Prop where
 out: ∃ i,P.underlying T=some (.slice E)∧P.info? E=some i∧i.size=1∧i.bytes=1∧i.zero=some (.int .u8 0)∧P.cellsOf E=1
inductive RowOf (E:Nat):Value→List UInt8→List Res→Prop
 |nil:RowOf E (.slice none 0 0) [] []
 |row {r cap:Nat} {cur:Array Value} {l:List UInt8} (hl:l.length≤cap) (hs:cur.size=cap) (hc:cur.toList.take l.length=bcs l):RowOf E (.slice (some ⟨r,0,none⟩) l.length cap) l [.raw r (.cells cur E (0,0))]
theorem grown_row {w:World} {g:Gh} {R LF:List Res} (hi:Inv w g (R++LF)) (o:Obj):Inv (w.drew.alloc o) g (.raw w.heap.size o::LF)∧Step (blocks (R++LF)) w g (w.drew.alloc o) g∧Within w (R++LF) (.raw w.heap.size o::LF):=by
 have hk: ∀ k,k < w.heap.size→(w.drew.alloc o).heap[k]? =w.heap[k]?:=fun k hk=>by
  show(w.heap.push o)[k]? =_
  rw[Array.getElem?_push,if_neg (by omega)]
 have h1:(w.drew.alloc o).heap[w.heap.size]? =some o:=by show(w.heap.push o)[w.heap.size]? =_;simp
 have hiL:Inv w g LF:=hi.sub (List.sublist_append_right _ _)
 obtain⟨h2,h3⟩:=hi.fresh (Nat.le_refl w.heap.size)
 refine⟨(hiL.later hk).addRaw h1 h2 h3 (fun h=>Nat.lt_irrefl _ (hiL.lt h)),⟨rfl,rfl,⟨rfl,Nat.le_succ _⟩,by simp,fun k h _=>hk k h,.refl g,fun _ _ _=>⟨fun _=>rfl,rfl⟩⟩,fun b hb hlt=>?_⟩
 simp only[blocks,List.filterMap_cons,Res.block]at hb
 rcases List.mem_cons.1 hb with rfl|hb
 ·exact absurd hlt (Nat.lt_irrefl _)
 ·simp only[blocks,List.filterMap_append];exact List.mem_append_right _ hb
theorem app_core {P:Program} {T T₂ E ty:Nat} [hT:TRow P T E] (hu:P.underlying T₂=some .string∨ ∃ e,P.underlying T₂=some (.slice e)) {w:World} {g:Gh} {LF R:List Res} {v:Value} {l:List UInt8} (u:Value) (s:List UInt8)
  (hi:Inv w g (R++LF)) (hv:RowOf E v l R) (hl: ∀ w',(Builtin.lenOf u).run P w'= .ok s.length w')
  (hf: ∀ w',(∀ b o x,g.H b o=some x→w'.cell? ⟨b,o,none⟩=some x)→(Builtin.firstCells 1 s.length u).run P w'= .ok (bcs s).toArray w') (hb:l.length+s.length≤140737488355328):
  ∃ v' w' R',(Builtin.append_ #[T,T₂] ty #[v,u]).run P w= .ok v' w'∧RowOf E v' (l++s) R'∧Inv w' g (R'++LF)∧Step (blocks (R++LF)) w g w' g∧Within w (R++LF) (R'++LF):=by
 obtain⟨i,t1,t2,t3,t4,t5,_⟩:=hT.out
 have hone: ∀ x∈bcs s,x.oneCell'=true:=fun x hx=>by
  obtain⟨b,_,rfl⟩:=List.mem_map.1 hx;rfl
 have grown: ∀ cap nc (base:Option Addr),¬(l.length+s.length≤cap)→v= .slice base l.length cap→(∀ w',w'.heap=w.heap→(Builtin.firstCells 1 l.length (.slice base l.length cap)).run P w'= .ok (bcs l).toArray w')→nc=grownCap w (l.length+s.length) cap E→
   (Builtin.append_ #[T,T₂] ty #[v,u]).run P w= .ok (.slice (some ⟨w.heap.size,0,none⟩) (l.length+s.length) nc) (w.drew.alloc (.cells ((bcs l++bcs s).toArray++Builtin.zeroCells (Value.int .u8 0).cells (nc - (l.length+s.length))) E (0,0))):=by
  rintro cap nc base hn rfl hfl rfl
  have hcapb:Builtin.nextslicecap (l.length+s.length) cap≤2 ^ 48:=by
   have:=nextslicecap_le (show cap < l.length+s.length by omega)
   have:(2:Nat) ^ 48=2*140737488355328:=by decide
   omega
  have h63': ¬(9223372036854775807 < ((l.length:Int)+(s.length:Int))):=by omega
  have h48': ¬(281474976710656 < Builtin.nextslicecap (l.length+s.length) cap*i.bytes):=by
   rw[t4];have:(2:Nat) ^ 48=281474976710656:=by decide
   omega
  have f1:=hfl w.drew rfl
  have f2:=hf w.drew hi.sat
  rcases hu with hu|⟨e,hu⟩<;>
  ·simp[Builtin.append_,run_underlying t1,run_underlying hu,sizeOf,typeInfo,zeroValue,t2,t3,t5,hl,hn,h63',h48',Question.forced,f1,f2,newRow,grownCap]
   congr 2
   apply Array.ext'
   simp[List.append_assoc]
 have res: ∀ nc,l.length+s.length≤nc→ ∃ R',RowOf E (.slice (some ⟨w.heap.size,0,none⟩) (l.length+s.length) nc) (l++s) R'∧Inv (w.drew.alloc (.cells ((bcs l++bcs s).toArray++Builtin.zeroCells (Value.int .u8 0).cells (nc - (l.length+s.length))) E (0,0))) g (R'++LF)∧
   Step (blocks (R++LF)) w g (w.drew.alloc (.cells ((bcs l++bcs s).toArray++Builtin.zeroCells (Value.int .u8 0).cells (nc - (l.length+s.length))) E (0,0))) g∧Within w (R++LF) (R'++LF):=fun nc hnc=>by
  obtain⟨k1,k2,k3⟩:=grown_row hi (.cells ((bcs l++bcs s).toArray++Builtin.zeroCells (Value.int .u8 0).cells (nc - (l.length+s.length))) E (0,0))
  refine⟨[.raw w.heap.size (.cells ((bcs l++bcs s).toArray++Builtin.zeroCells (Value.int .u8 0).cells (nc - (l.length+s.length))) E (0,0))],?_,k1,k2,k3⟩
  have:=RowOf.row (E:=E) (r:=w.heap.size) (cap:=nc) (cur:=(bcs l++bcs s).toArray++Builtin.zeroCells (Value.int .u8 0).cells (nc - (l.length+s.length))) (l:=l++s) (by simpa using hnc) (by
   have hz1:(Value.int IntKind.u8 0).cells.size=1:=rfl
   simp[size_zeroCells,hz1];omega) (by
   simp only[Array.toList_append,bcs_append]
   rw[←bcs_append,List.take_left' (by simp)])
  simpa using this
 cases hv with
 |nil=>
  by_cases hs:s= []
  ·subst hs
   refine⟨.slice none 0 0,w,[],?_,.nil,hi,.refl _ _ _,.refl _ _⟩
   have f2:=hf w hi.sat
   simp only[List.length_nil]at f2 hl
   rcases hu with hu|⟨e,hu⟩<;>simp[Builtin.append_,run_underlying t1,run_underlying hu,sizeOf,typeInfo,t2,t3,hl,f2,bcs]
  ·have hpos:0 < s.length:=List.length_pos_iff.2 hs
   have hr:=grown 0 _ none (by simp;omega) rfl (fun w' _=>rfl) rfl
   obtain⟨R',k1,k2,k3,k4⟩:=res _ (grownCap_ge w (([]:List UInt8).length+s.length) 0 E)
   exact⟨_,_,R',hr,k1,k2,k3,k4⟩
 |row hlc hs hc=>
  rename_i r cap cur
  obtain⟨h1,h2,h3,hn,hiL⟩:=hi.rawHead
  by_cases hroom:l.length+s.length≤cap
  ·have hbk':w.heap[r]? =some (.cells cur.toList.toArray E (0,0)):=by simpa using h1
   obtain⟨w',hrun,hb',hos,htp,hout,hsz',hkk⟩:=storeCells_run (P:=P) (bcs s) w cur.toList l.length 0 hbk' (by simp[hs];omega) hone
   refine⟨.slice (some ⟨r,0,none⟩) (l.length+s.length) cap,w',[.raw r (.cells (cur.toList.take (l.length+0)++bcs s++cur.toList.drop (l.length+0+(bcs s).length)).toArray E (0,0))],?_,?_,hi.turnRaw hb' hkk,⟨hos,htp,hout,Nat.le_of_eq hsz'.symm,fun k _ hk=>hkk k (fun e=>hk (by simp[blocks,Res.block,e])),.refl g,fun _ _ _=>⟨fun _=>rfl,rfl⟩⟩,fun b hb _=>by simpa [blocks,Res.block]using hb⟩
   ·have f2:=hf w hi.sat
    rcases hu with hu|⟨e,hu⟩<;>simp[Builtin.append_,run_underlying t1,run_underlying hu,sizeOf,typeInfo,t2,t3,hl,hroom,f2,add_plain,hrun]
   ·have:=RowOf.row (E:=E) (r:=r) (cap:=cap) (cur:=(cur.toList.take (l.length+0)++bcs s++cur.toList.drop (l.length+0+(bcs s).length)).toArray) (l:=l++s) (by simpa using hroom) (by
     simp only[List.size_toArray,List.length_append,List.length_take,List.length_drop,Array.length_toList,hs,len_bcs,Nat.add_zero];omega) (by
     rw[Nat.add_zero,hc,←bcs_append,List.take_left' (by simp)])
    simpa using this
  ·have hr:=grown cap _ (some ⟨r,0,none⟩) hroom rfl (fun w' hw'=>by
    show(loadCells _ (l.length*1)).run P w'=_
    rw[Nat.mul_one,←len_bcs l]
    refine loadCells_run fun j hj=>?_
    have hj2:j < cur.toList.length:=by rw[Array.length_toList,hs];rw[len_bcs]at hj;omega
    simp only[World.cell?,hw',h1,Option.isSome_none,Bool.false_eq_true,if_false,Nat.zero_add]
    have:(bcs l)[j]=cur.toList[j]:=by
     have:=List.getElem_of_eq hc.symm hj
     rw[this,List.getElem_take]
    rw[this]
    simp[Array.getElem?_eq_getElem (show j < cur.size by simpa using hj2)]) rfl
   obtain⟨R',k1,k2,k3,k4⟩:=res _ (grownCap_ge w (l.length+s.length) cap E)
   exact⟨_,_,R',hr,k1,k2,k3,k4⟩
section
variable {P:Program} {N:Nat} {all:Array Oper} {K:Env→List Res→Prop} {fl:List Bool} {os:List Oper} {ρ:Env} {L:List Res} {d:Nat} {ty:TypeId} {pos:String} {af:Array Edge}
theorem firstStr (s:List UInt8) (w:World):(Builtin.firstCells 1 s.length (.string ⟨s.toArray⟩)).run P w= .ok (bcs s).toArray w:=by
 have h:=Lib.run_firstCells_string (P:=P) w 1 ⟨s.toArray⟩
 have e:(⟨s.toArray⟩:ByteArray).size=s.length:=by simp[ByteArray.size]
 rw[e]at h
 rw[h];congr 1
theorem s_appStr {T T₂ E:Nat} [hT:TRow P T E] [h2:TStr P T₂] {x y:Operand} {v:Value} {l s:List UInt8} {R LF:List Res} (F:List Res→List Res) {ay:PV} (hx:ρ.ev x= .raw v) (hy:ρ.ev y=ay) [jy:IsStr ay s] (hv:RowOf E v l R) (hp:L.Perm (R++LF)) (hq: ∀ R',(R'++LF).Perm (F R')) (hb:l.length+s.length≤140737488355328)
  (k: ∀ v' R',RowOf E v' (l++s) R'→pops P N all K fl.tail os (upd ρ d (.raw v')) (F R')) (hd:Nat.blt d N=true:=by rfl) (hfl:fl.headD true=true:=by rfl):
  pops P N all K fl (⟨some d,.call { callee:= .builtin .append,args:= #[x,y],argTypes:= #[T,T₂] },ty,pos,af,none⟩::os) ρ L:=
 pops_n rfl (dlt hd) hfl (OpN.perm hp fun a w g ha hi=>by
  have h1:=evRaw ha (x:=x) (by simp[Op.operands,Call.operands]) hx
  have h3:=ha y (by simp[Op.operands,Call.operands])
  rw[hy]at h3
  have e:a.eval y= .string ⟨s.toArray⟩:=jy.out g _ h3
  obtain⟨v',w',R',q1,q2,q3,q4,q5⟩:=app_core (P:=P) (T:=T) (T₂:=T₂) (ty:=ty) (.inl h2.out) (.string ⟨s.toArray⟩) s hi hv (fun _=>by simp[Builtin.lenOf,ByteArray.size]) (fun w' _=>firstStr s w') hb
  have he:execOp a.eval ⟨some d,.call { callee:= .builtin .append,args:= #[x,y],argTypes:= #[T,T₂] },ty,pos,af,none⟩=(do pure (.value (←Builtin.append_ #[T,T₂] ty (#[x,y].map a.eval)))):=rfl
  have hr:(execOp a.eval ⟨some d,.call { callee:= .builtin .append,args:= #[x,y],argTypes:= #[T,T₂] },ty,pos,af,none⟩).run P w= .ok (.value v') w':=by
   rw[he];simp[h1,e,q1]
  refine Oper.wq_of_run hr ?_
  exact⟨v',.raw v',g,F R',rfl,.raw _,q3.perm (hq R'),q4,fun b hb hlt=>q5 b ((blocks_perm (hq R')).symm.subset hb) hlt,k v' R' q2⟩)
theorem s_appByte {T T₂ E E₂:Nat} [hT:TRow P T E] [h2:TSl P T₂ E₂] {x y:Operand} {v:Value} {l:List UInt8} {c:UInt8} {t:Tag} {R LF:List Res} (F:List Res→List Res) (hx:ρ.ev x= .raw v) (hy:ρ.ev y= .slice [[.raw (.int .u8 c.toNat)]] t) (hv:RowOf E v l R) (hp:L.Perm (R++LF)) (hq: ∀ R',(R'++LF).Perm (F R')) (hb:l.length+1≤140737488355328)
  (k: ∀ v' R',RowOf E v' (l++ [c]) R'→pops P N all K fl.tail os (upd ρ d (.raw v')) (F R')) (hd:Nat.blt d N=true:=by rfl) (hfl:fl.headD true=true:=by rfl):
  pops P N all K fl (⟨some d,.call { callee:= .builtin .append,args:= #[x,y],argTypes:= #[T,T₂] },ty,pos,af,none⟩::os) ρ L:=
 pops_n rfl (dlt hd) hfl (OpN.perm hp fun a w g ha hi=>by
  have h1:=evRaw ha (x:=x) (by simp[Op.operands,Call.operands]) hx
  have h3:=ha y (by simp[Op.operands,Call.operands])
  rw[hy]at h3
  obtain⟨base,cap,e,_,_,hnone,_,_,us,hus,hcell⟩:=h3.slice_cells (sz:=1) (by simp)
  simp only[List.flatten_cons,List.flatten_nil,List.append_nil]at hus
  obtain⟨v1,rfl⟩: ∃ v1,us= [v1]:=by
   have:=hus.len
   match us,this with
   | [v1],_=>exact⟨v1,rfl⟩
  rw[hus.uncons.1.raw_inv]at hcell
  simp only[List.length_cons,List.length_nil,Nat.zero_add]at e
  obtain⟨v',w',R',q1,q2,q3,q4,q5⟩:=app_core (P:=P) (T:=T) (T₂:=T₂) (ty:=ty) (.inr ⟨_,h2.out⟩) (.slice base 1 cap) [c] hi hv (fun _=>rfl) (fun w' hs'=>by
   cases base with
   |none=>exact absurd (hnone rfl).1 (by simp)
   |some ad=>
    obtain⟨b,o,sp⟩:=ad
    obtain⟨hs,hH⟩:=hcell _ rfl
    rcases hs with ⟨e3,_⟩|hs
    ·cases e3
    simp only at hs
    subst hs
    exact loadCells_run (vs:= [.int .u8 c.toNat]) fun j hj=>hs' _ _ _ (hH j hj)) (by simpa using hb)
  have he:execOp a.eval ⟨some d,.call { callee:= .builtin .append,args:= #[x,y],argTypes:= #[T,T₂] },ty,pos,af,none⟩=(do pure (.value (←Builtin.append_ #[T,T₂] ty (#[x,y].map a.eval)))):=rfl
  have hr:(execOp a.eval ⟨some d,.call { callee:= .builtin .append,args:= #[x,y],argTypes:= #[T,T₂] },ty,pos,af,none⟩).run P w= .ok (.value v') w':=by
   rw[he];simp[h1,e,q1]
  refine Oper.wq_of_run hr ?_
  exact⟨v',.raw v',g,F R',rfl,.raw _,q3.perm (hq R'),q4,fun b hb hlt=>q5 b ((blocks_perm (hq R')).symm.subset hb) hlt,k v' R' q2⟩)
theorem s_lenR {T:TypeId} {E:Nat} [hT:TSl P T E] {x:Operand} {a:Option Addr} {n c:Nat} (hx:ρ.ev x= .raw (.slice a n c)) (k:pops P N all K fl.tail os (upd ρ d (.raw (.int .i64 n))) L) (hd:Nat.blt d N=true:=by rfl):
  pops P N all K fl (⟨some d,.call { callee:= .builtin .len,args:= #[x],argTypes:= #[T] },ty,pos,af,none⟩::os) ρ L:=
 step_q hd (qop_of_run fun a' w g ha hi=>⟨.int .i64 n,by
  have h1:=evRaw ha (x:=x) (by simp[Op.operands,Call.operands]) hx
  have he:execOp a'.eval ⟨some d,.call { callee:= .builtin .len,args:= #[x],argTypes:= #[T] },ty,pos,af,none⟩=(do pure (.value (←Builtin.len_ #[T] ty (#[x].map a'.eval)))):=rfl
  rw[he]
  simp[Builtin.len_,h1,run_und hT.out,goInt],.raw _⟩) k
theorem s_sliceData {T:TypeId} {x:Operand} {a:Addr} {n c:Nat} (hx:ρ.ev x= .raw (.slice (some a) n c)) (hc:c≠0) (k:pops P N all K fl.tail os (upd ρ d (.raw (.pointer (some a)))) L) (hd:Nat.blt d N=true:=by rfl):
  pops P N all K fl (⟨some d,.call { callee:= .builtin .unsafeSliceData,args:= #[x],argTypes:= #[T] },ty,pos,af,none⟩::os) ρ L:=
 step_q hd (qop_of_run fun a' w g ha hi=>⟨.pointer (some a),by
  have h1:=evRaw ha (x:=x) (by simp[Op.operands,Call.operands]) hx
  have he:execOp a'.eval ⟨some d,.call { callee:= .builtin .unsafeSliceData,args:= #[x],argTypes:= #[T] },ty,pos,af,none⟩=(do pure (.value (←Builtin.unsafeSliceData_ #[T] ty (#[x].map a'.eval)))):=rfl
  rw[he]
  have:=Lib.run_unsafeSliceData_row (P:=P) w #[T] ty a n c hc
  simp[h1,this],.raw _⟩) k
theorem s_unsafeString {T T₂ E r:Nat} (hT:P.underlying T=some (.pointer E)) (hE:P.cellsOf E=1) {x y:Operand} {cur:Array Value} {l:List UInt8} {L':List Res} (hx:ρ.ev x= .raw (.pointer (some ⟨r,0,none⟩))) (hy:ρ.ev y= .raw (.int .i64 l.length)) (hp:L.Perm (.raw r (.cells cur E (0,0))::L'))
  (h0:l≠ []) (hl:l.length≤cur.size) (hc:cur.toList.take l.length=bcs l) (hb:l.length≤140737488355328) (k:pops P N all K fl.tail os (upd ρ d (.str l)) L') (hd:Nat.blt d N=true:=by rfl) (hfl:fl.headD true=true:=by rfl):
  pops P N all K fl (⟨some d,.call { callee:= .builtin .unsafeString,args:= #[x,y],argTypes:= #[T,T₂] },ty,pos,af,none⟩::os) ρ L:=
 pops_n rfl (dlt hd) hfl (OpN.perm hp fun a w g ha hi=>by
  have h1:=evRaw ha (x:=x) (by simp[Op.operands,Call.operands]) hx
  have h2:=evRaw ha (x:=y) (by simp[Op.operands,Call.operands]) hy
  obtain⟨k1,k2,k3,k4,k5⟩:=hi.rawHead
  have he:execOp a.eval ⟨some d,.call { callee:= .builtin .unsafeString,args:= #[x,y],argTypes:= #[T,T₂] },ty,pos,af,none⟩=(do pure (.value (←Builtin.unsafeString_ #[T,T₂] ty (#[x,y].map a.eval)))):=rfl
  have hrun:=Lib.run_unsafeString_row (P:=P) w T T₂ ty E hT hE r cur.size (by simp[World.shape?,k1]) l h0 hl (by omega) (fun j x hj=>by
   have hjl:=(List.getElem?_eq_some_iff.1 hj).1
   have e1:(bcs l)[j]? =some (.int .u8 x.toNat):=by simp[bcs,hj]
   rw[←hc,List.getElem?_take,if_pos hjl]at e1
   rw[add_plain]
   simp only[World.cell?,k1,Option.isSome_none,Bool.false_eq_true,if_false,Nat.zero_add]
   simpa using e1)
  have hr:(execOp a.eval ⟨some d,.call { callee:= .builtin .unsafeString,args:= #[x,y],argTypes:= #[T,T₂] },ty,pos,af,none⟩).run P w= .ok (.value (.string ⟨l.toArray⟩)) (w.freeze ⟨r,0,none⟩ l.length):=by
   rw[he];simp[h1,h2,hrun]
  have hk: ∀ b,b≠r→(w.freeze ⟨r,0,none⟩ l.length).heap[b]? =w.heap[b]?:=fun b hb=>by
   unfold World.freeze
   split
   ·rfl
   ·simp[Array.getElem?_modify,Ne.symm hb]
  have hsz:(w.freeze ⟨r,0,none⟩ l.length).heap.size=w.heap.size:=by
   unfold World.freeze
   split<;>simp
  have hws:(w.freeze ⟨r,0,none⟩ l.length).os=w.os∧(w.freeze ⟨r,0,none⟩ l.length).tape=w.tape∧(w.freeze ⟨r,0,none⟩ l.length).output=w.output∧(w.freeze ⟨r,0,none⟩ l.length).drawn=w.drawn:=by
   unfold World.freeze
   split<;>exact⟨rfl,rfl,rfl,rfl⟩
  refine Oper.wq_of_run hr ?_
  exact⟨_,.str l,g,L',rfl,.str (by show l.length≤maxN;exact hb),k5.other k2 k3 k4 hk,⟨hws.1,hws.2.1,⟨hws.2.2.1,Nat.le_of_eq hws.2.2.2.symm⟩,Nat.le_of_eq hsz.symm,fun b _ hb=>hk b (fun e=>hb (by simp[blocks,Res.block,e])),.refl g,fun _ _ _=>⟨fun _=>rfl,rfl⟩⟩,
   fun b hb _=>by simp only[blocks,List.filterMap_cons,Res.block];exact List.mem_cons_of_mem _ hb,k⟩)
instance {x y:PV}:At [x,y] 0 x:=⟨rfl⟩
instance {x y:PV}:At [x,y] 1 y:=⟨rfl⟩
theorem RowOf.one {E:Nat} {v:Value} {l:List UInt8} {R:List Res} (h:RowOf E v l R):v.oneCell'=true:=by cases h<;>rfl
theorem s_storeV {T:TypeId} {x y:Operand} {b off by_:Nat} {cs:List PV} {v:Value} {L':List Res} [hT:TSz P T 1 by_] (cs':List PV)
  (hx:ρ.ev x= .raw (.pointer (some ⟨b,off,none⟩))) (hy:ρ.ev y= .raw v) (hv:v.oneCell'=true) [hB:BoxAt b L cs] (hp:cs.take off++ [.raw v]++cs.drop (off+1)=cs') (hle:off+1≤cs.length) [hu:UpdC b cs cs' L L']
  (k:pops P N all K fl.tail os ρ L') (hfl:fl.headD true=true:=by rfl):pops P N all K fl (⟨none,.store T x y,ty,pos,af,none⟩::os) ρ L:=
 pops_n rfl (fun _ e=>by cases e) hfl (opN_store (new:= [.raw v]) (cs:=cs) (cs':=cs') hx (fun g v' hv'=>by
  rw[hy]at hv'
  rw[hv'.raw_inv]
  refine⟨[v],?_,.cons (.raw v) (.nil g)⟩
  cases v<;>first|rfl|cases hv) rfl (fun x hx=>by
   rcases List.mem_cons.1 hx with rfl|h
   ·exact⟨by simp,by simp,fun u e=>by cases e;exact hv,by simp⟩
   ·cases h) hp hle hu.out k)
theorem le_func (f:Nat):Le (.raw (.func (.func f) #[] #[])) (.clo f []):=Norm.out
theorem TRow.of {P:Program} {T E:Nat} (h1:P.underlying T=some (.slice E)) (h2:(P.info? E).map (fun i=>(i.zero,i.size,i.bytes))=some (some (.int .u8 0),1,1)) (h3:P.cellsOf E=1):TRow P T E:=⟨by
 obtain⟨i,hi,e⟩:=Option.map_eq_some_iff.1 h2
 injection e with e1 e2
 injection e2 with e2 e3
 exact⟨i,h1,hi,e2,e3,e1,h3⟩⟩
class TPt (P:Program) (T:Nat) (E sz:outParam Nat):Prop where
 out:P.underlying T=some (.pointer E)∧ ∃ j,P.info? E=some j∧j.size=sz
theorem TPt.of {P:Program} {T E sz:Nat} (h1:P.underlying T=some (.pointer E)) (h2:(P.info? E).map (·.size)=some sz):TPt P T E sz:=⟨h1,Option.map_eq_some_iff.1 h2⟩
theorem s_eqPN {T T' E sz:Nat} [hT:TPt P T E sz] {x y:Operand} {p:Option Addr} (hx:ρ.ev x= .raw (.pointer p)) (hy:ρ.ev y= .raw (.pointer none)) (k:pops P N all K fl.tail os (upd ρ d (.raw (.bool p.isNone))) L) (hd:Nat.blt d N=true:=by rfl):
  pops P N all K fl (⟨some d,.binOp .eql T x y T',ty,pos,af,none⟩::os) ρ L:=
 s_bin hx hy (fun w=>by unfold eqGuard;simp) (fun w=>by
  have h: ∀ d:Nat,(Op.equalIn (d+1) T (.pointer p) (.pointer none)).run P w= .ok p.isNone w:=fun d=>by
   cases p<;>simp[Op.equalIn,run_underlying hT.out.1]
  simp only[binOp]
  simp[Op.equal,Op.maxDepth,h 9999]) k hd
theorem s_nePP {T T' E sz:Nat} [hT:TPt P T E sz] {x y:Operand} {a:Addr} (hx:ρ.ev x= .raw (.pointer (some a))) (hy:ρ.ev y= .raw (.pointer (some a))) (k:pops P N all K fl.tail os (upd ρ d (.raw (.bool false))) L) (hd:Nat.blt d N=true:=by rfl):
  pops P N all K fl (⟨some d,.binOp .neq T x y T',ty,pos,af,none⟩::os) ρ L:=
 s_bin hx hy (fun w=>by unfold eqGuard;simp) (fun w=>by
  obtain⟨h1,j,h2,_⟩:=hT.out
  exact Lib.run_neq_ptr_same w a h1 h2) k hd
theorem s_toUnsafe {S D E sz T' b:Nat} [hS:TPt P S E sz] (hD:P.underlying D=some .unsafePointer) (hz:sz≠0) {x:Operand} {cs:List PV} (hx:ρ.ev x= .raw (.pointer (some ⟨b,0,none⟩))) (hm:Res.box b T' cs∈L) (hc:cs≠ []) (k:pops P N all K fl.tail os (upd ρ d (.raw (.pointer (some ⟨b,0,none⟩)))) L) (hd:Nat.blt d N=true:=by rfl):
  pops P N all K fl (⟨some d,.convert S D x,ty,pos,af,none⟩::os) ρ L:=
 step_q hd (qop_of_run fun a w g ha hi=>⟨.pointer (some ⟨b,0,none⟩),by
  have h1:=evRaw ha (x:=x) (by simp[Op.operands]) hx
  obtain⟨vs,hb,hvs,_⟩:=hi.res _ hm
  obtain⟨q1,j,q2,q3⟩:=hS.out
  have hl:0 < vs.length:=by rw[hvs.len];exact List.length_pos_iff.2 hc
  have hrun:=Lib.run_to_unsafe (P:=P) w ⟨b,0,none⟩ q1 hD q2 (by rw[q3];exact hz) (e:=T') (cells:=vs.length) (by simp[World.shape?,hb]) hl
  have he:execOp a.eval ⟨some d,.convert S D x,ty,pos,af,none⟩=(do pure (.value (←convert S D (a.eval x)))):=rfl
  rw[he];simp[h1,hrun],.raw _⟩) k
theorem s_fromUnsafe {S D E sz T' b:Nat} [hD:TPt P D E sz] (hS:P.underlying S=some .unsafePointer) {x:Operand} {cs:List PV} (hx:ρ.ev x= .raw (.pointer (some ⟨b,0,none⟩))) (hm:Res.box b T' cs∈L) (hl:liesAt P P.depth T' (cs.length / P.cellsOf T') 0 E 1=true) (k:pops P N all K fl.tail os (upd ρ d (.raw (.pointer (some ⟨b,0,none⟩)))) L) (hd:Nat.blt d N=true:=by rfl):
  pops P N all K fl (⟨some d,.convert S D x,ty,pos,af,none⟩::os) ρ L:=
 step_q hd (qop_of_run fun a w g ha hi=>⟨.pointer (some ⟨b,0,none⟩),by
  have h1:=evRaw ha (x:=x) (by simp[Op.operands]) hx
  obtain⟨vs,hb,hvs,_⟩:=hi.res _ hm
  obtain⟨q1,j,q2,q3⟩:=hD.out
  have hrun:=Lib.run_from_unsafe (P:=P) w ⟨b,0,none⟩ hS q1 q2 (e:=T') (cells:=vs.length) (by simp[World.shape?,hb]) (by rw[hvs.len];exact hl)
  have he:execOp a.eval ⟨some d,.convert S D x,ty,pos,af,none⟩=(do pure (.value (←convert S D (a.eval x)))):=rfl
  rw[he];simp[h1,hrun],.raw _⟩) k
theorem extC_same {f:Nat} {fn:Func} (hf:P.funcs[f]? =some fn) (hn:(fn.name== "runtime.NumGoroutine")=false) (hb:fn.body.isNone=true) (h1:Extern.findNext fn=none) (h2:Extern.find fn=some Extern.AbiNoEscape.same) (v:Value):
  ExtC P f [.raw v] (.raw v):=⟨fun vs w g hv hs=>by
 match vs,hv with
 | [x],hv=>
   have e:=hv.uncons.1.raw_inv
   subst e
   refine⟨x,?_,.raw _⟩
   rw[run_callFunc_extern hf hn hb h1 h2]
   rw[show #[x]= [x].toArray from rfl]at*
   rfl
 | [],hv=>have:=hv.len;simp at this
 |_::_::_,hv=>have:=hv.len;simp at this⟩
theorem s_storeP {T:TypeId} {x y:Operand} {b off by_:Nat} {cs:List PV} {ay:PV} {L':List Res} [hT:TSz P T 1 by_] (cs':List PV)
  (hx:ρ.ev x= .raw (.pointer (some ⟨b,off,none⟩))) (hy:ρ.ev y=ay) [hB:BoxAt b L cs] (hf:flat [ay]) (hp:cs.take off++ [ay]++cs.drop (off+1)=cs') (hle:off+1≤cs.length) [hu:UpdC b cs cs' L L']
  (k:pops P N all K fl.tail os ρ L') (hfl:fl.headD true=true:=by rfl):pops P N all K fl (⟨none,.store T x y,ty,pos,af,none⟩::os) ρ L:=
 pops_n rfl (fun _ e=>by cases e) hfl (opN_store (new:= [ay]) (cs:=cs) (cs':=cs') hx (fun g v hv=>by
  rw[hy]at hv
  obtain⟨h1,h2,h3,h4⟩:=hf ay (by simp)
  have h1:=hv.one h1 h2 h3 h4
  refine⟨[v],?_,.cons hv (.nil g)⟩
  cases v<;>first|rfl|cases h1) rfl hf hp hle hu.out k)
end
end Go.Q
namespace Go.Q
open Go
class TRw (P:Program) (T:Nat) (E sz:outParam Nat) (by_:outParam Nat):Prop where
 out: ∃ i z,P.underlying T=some (.slice E)∧P.info? E=some i∧i.size=sz∧i.bytes=by_∧i.zero=some z∧z.cells.size=sz∧sz≠0∧sz≤by_
inductive RowG (E sz:Nat):Value→Nat→List Value→List Res→Prop
 |nil (o:Option Addr) (ho: ∀ a,o=some a→a.spot=none):RowG E sz (.slice o 0 0) 0 [] []
 |row {r n cap:Nat} {cur:Array Value} {us:List Value} (hl:n≤cap) (hs:cur.size=cap*sz) (hu:us.length=n*sz) (hc:cur.toList.take (n*sz)=us):RowG E sz (.slice (some ⟨r,0,none⟩) n cap) n us [.raw r (.cells cur E (0,0))]
theorem RowG.len {E sz n:Nat} {v:Value} {us:List Value} {R:List Res} (h:RowG E sz v n us R):us.length=n*sz:=by
 cases h with
 |nil o ho=>simp
 |row hl hs hu hc=>exact hu
theorem RowG.one {E sz n:Nat} {v:Value} {us:List Value} {R:List Res} (h:RowG E sz v n us R):v.oneCell'=true:=by cases h<;>rfl
theorem RowG.slice {E sz n:Nat} {v:Value} {us:List Value} {R:List Res} (h:RowG E sz v n us R): ∃ o c,v= .slice o n c:=by cases h<;>exact⟨_,_,rfl⟩
theorem app_coreH {P:Program} {T T₂ E sz by_ ty:Nat} [hT:TRw P T E sz by_] (hu:P.underlying T₂=some .string∨ ∃ e,P.underlying T₂=some (.slice e)) {w:World} {g:Gh} {LF R:List Res} {v:Value} {n m:Nat} {us:List Value} (u:Value) (vs:List Value)
  (hi:Inv w g (R++LF)) (hv:RowG E sz v n us R) (hl: ∀ w',(Builtin.lenOf u).run P w'= .ok m w') (hvl:vs.length=m*sz) (hone: ∀ x∈vs,x.oneCell'=true)
  (hf: ∀ w',w'.heap=w.heap→(Builtin.firstCells sz m u).run P w'= .ok vs.toArray w') (hb:(n+m)*by_≤140737488355328) (hm:n+m≤140737488355328):
  ∃ v' w' R',(Builtin.append_ #[T,T₂] ty #[v,u]).run P w= .ok v' w'∧RowG E sz v' (n+m) (us++vs) R'∧Inv w' g (R'++LF)∧Step (blocks (R++LF)) w g w' g∧Within w (R++LF) (R'++LF):=by
 obtain⟨i,z,t1,t2,t3,t4,t5,t6,t7,t8⟩:=hT.out
 have hul:=hv.len
 have grown: ∀ cap nc (base:Option Addr),¬(n+m≤cap)→v= .slice base n cap→(∀ w',w'.heap=w.heap→(Builtin.firstCells sz n (.slice base n cap)).run P w'= .ok us.toArray w')→nc=grownCap w (n+m) cap E→
   (Builtin.append_ #[T,T₂] ty #[v,u]).run P w= .ok (.slice (some ⟨w.heap.size,0,none⟩) (n+m) nc) (w.drew.alloc (.cells ((us++vs).toArray++Builtin.zeroCells z.cells (nc - (n+m))) E (0,0))):=by
  rintro cap nc base hn rfl hfl rfl
  have hgrow:cap < n+m:=by omega
  have h63': ¬(9223372036854775807 < ((n:Int)+(m:Int))):=by omega
  have h48': ¬(281474976710656 < Builtin.nextslicecap (n+m) cap*i.bytes):=by
   rw[t4]
   have:Builtin.nextslicecap (n+m) cap*by_≤2*140737488355328:=by
    calc Builtin.nextslicecap (n+m) cap*by_≤(2*(n+m))*by_:=Nat.mul_le_mul_right _ (nextslicecap_le hgrow)
     _=2*((n+m)*by_):=by rw[Nat.mul_assoc]
     _≤2*140737488355328:=Nat.mul_le_mul_left _ hb
   omega
  have f1:=hfl w.drew rfl
  have f2:=hf w.drew rfl
  rcases hu with hu|⟨e,hu⟩<;>
  ·simp[Builtin.append_,run_underlying t1,run_underlying hu,sizeOf,typeInfo,zeroValue,t2,t3,t5,hl,hn,h63',h48',Question.forced,f1,f2,newRow,grownCap]
   congr 2
   apply Array.ext'
   simp[List.append_assoc]
 have res: ∀ nc,n+m≤nc→ ∃ R',RowG E sz (.slice (some ⟨w.heap.size,0,none⟩) (n+m) nc) (n+m) (us++vs) R'∧Inv (w.drew.alloc (.cells ((us++vs).toArray++Builtin.zeroCells z.cells (nc - (n+m))) E (0,0))) g (R'++LF)∧
   Step (blocks (R++LF)) w g (w.drew.alloc (.cells ((us++vs).toArray++Builtin.zeroCells z.cells (nc - (n+m))) E (0,0))) g∧Within w (R++LF) (R'++LF):=fun nc hnc=>by
  obtain⟨k1,k2,k3⟩:=grown_row hi (.cells ((us++vs).toArray++Builtin.zeroCells z.cells (nc - (n+m))) E (0,0))
  have hlen:(us++vs).length=(n+m)*sz:=by rw[List.length_append,hul,hvl,Nat.add_mul]
  refine⟨[.raw w.heap.size (.cells ((us++vs).toArray++Builtin.zeroCells z.cells (nc - (n+m))) E (0,0))],.row hnc ?_ hlen ?_,k1,k2,k3⟩
  ·rw[Array.size_append,size_zeroCells,t6,List.size_toArray,hlen,←Nat.add_mul]
   congr 1;omega
  ·simp only[Array.toList_append]
   exact List.take_left' hlen
 cases hv with
 |nil o ho=>
  by_cases hs:m=0
  ·subst hs
   have hv0:vs= []:=List.eq_nil_of_length_eq_zero (by simpa using hvl)
   subst hv0
   refine⟨.slice o 0 0,w,[],?_,.nil o ho,hi,.refl _ _ _,.refl _ _⟩
   have f2:=hf w rfl
   rcases hu with hu|⟨e,hu⟩<;>(simp[Builtin.append_,run_underlying t1,run_underlying hu,sizeOf,typeInfo,t2,t3,hl,f2];cases o<;>simp[storeCells])
  ·have hr:=grown 0 _ o (by omega) rfl (fun w' _=>by
    cases o with
    |none=>rfl
    |some a=>show(loadCells a (0*sz)).run P w'=_;rw[Nat.zero_mul];rfl) rfl
   obtain⟨R',k1,k2,k3,k4⟩:=res _ (grownCap_ge w (0+m) 0 E)
   exact⟨_,_,R',hr,k1,k2,k3,k4⟩
 |row hlc hs hu' hc=>
  rename_i r cap cur
  obtain⟨h1,h2,h3,hn,hiL⟩:=hi.rawHead
  by_cases hroom:n+m≤cap
  ·have hbk':w.heap[r]? =some (.cells cur.toList.toArray E (0,0)):=by simpa using h1
   have hfit:n*sz+m*sz≤cap*sz:=by rw[←Nat.add_mul];exact Nat.mul_le_mul_right _ hroom
   obtain⟨w',hrun,hb',hos,htp,hout,hsz',hkk⟩:=storeCells_run (P:=P) vs w cur.toList (n*sz) 0 hbk' (by simp only[Array.length_toList,hs,hvl,Nat.add_zero];exact hfit) hone
   refine⟨.slice (some ⟨r,0,none⟩) (n+m) cap,w',[.raw r (.cells (cur.toList.take (n*sz+0)++vs++cur.toList.drop (n*sz+0+vs.length)).toArray E (0,0))],?_,.row hroom ?_ ?_ ?_,hi.turnRaw hb' hkk,⟨hos,htp,hout,Nat.le_of_eq hsz'.symm,fun k _ hk=>hkk k (fun e=>hk (by simp[blocks,Res.block,e])),.refl g,fun _ _ _=>⟨fun _=>rfl,rfl⟩⟩,fun b hb _=>by simpa [blocks,Res.block]using hb⟩
   ·have f2:=hf w rfl
    rcases hu with hu|⟨e,hu⟩<;>simp[Builtin.append_,run_underlying t1,run_underlying hu,sizeOf,typeInfo,t2,t3,hl,hroom,f2,add_plain,hrun]
   ·have h9:n*sz≤cap*sz:=Nat.mul_le_mul_right _ hlc
    simp only[List.size_toArray,List.length_append,List.length_take,List.length_drop,Array.length_toList,hs,hvl,Nat.add_zero,Nat.min_eq_left h9];omega
   ·rw[List.length_append,hul,hvl,Nat.add_mul]
   ·rw[Nat.add_zero,hc]
    exact List.take_left' (by rw[List.length_append,hul,hvl,Nat.add_mul])
  ·have hr:=grown cap _ (some ⟨r,0,none⟩) hroom rfl (fun w' hw'=>by
    show(loadCells _ (n*sz)).run P w'=_
    rw[←hul]
    refine loadCells_run fun j hj=>?_
    have hj3:j < n*sz:=by omega
    have hj2:j < cur.toList.length:=by
     rw[Array.length_toList,hs]
     exact Nat.lt_of_lt_of_le hj3 (Nat.mul_le_mul_right _ hlc)
    simp only[World.cell?,hw',h1,Option.isSome_none,Bool.false_eq_true,if_false,Nat.zero_add]
    have:us[j]=cur.toList[j]:=by
     have:=List.getElem_of_eq hc.symm hj
     rw[this,List.getElem_take]
    rw[this]
    simp[Array.getElem?_eq_getElem (show j < cur.size by simpa using hj2)]) rfl
   obtain⟨R',k1,k2,k3,k4⟩:=res _ (grownCap_ge w (n+m) cap E)
   exact⟨_,_,R',hr,k1,k2,k3,k4⟩
theorem app_coreG {P:Program} {T T₂ E sz by_ ty:Nat} [hT:TRw P T E sz by_] (hu:P.underlying T₂=some .string∨ ∃ e,P.underlying T₂=some (.slice e)) {w:World} {g:Gh} {LF R:List Res} {v:Value} {n m:Nat} {us:List Value} (u:Value) (vs:List Value)
  (hi:Inv w g (R++LF)) (hv:RowG E sz v n us R) (hl: ∀ w',(Builtin.lenOf u).run P w'= .ok m w') (hvl:vs.length=m*sz) (hone: ∀ x∈vs,x.oneCell'=true)
  (hf: ∀ w',(∀ b o x,g.H b o=some x→w'.cell? ⟨b,o,none⟩=some x)→(Builtin.firstCells sz m u).run P w'= .ok vs.toArray w') (hb:(n+m)*by_≤140737488355328) (hm:n+m≤140737488355328):
  ∃ v' w' R',(Builtin.append_ #[T,T₂] ty #[v,u]).run P w= .ok v' w'∧RowG E sz v' (n+m) (us++vs) R'∧Inv w' g (R'++LF)∧Step (blocks (R++LF)) w g w' g∧Within w (R++LF) (R'++LF):=
 app_coreH hu u vs hi hv hl hvl hone (fun w' e=>hf w' fun b o x h=>by
  have:=hi.sat b o x h
  simp only[World.cell?,e]at this ⊢
  exact this) hb hm
theorem raws_inv {g:Gh}: ∀ {us vs:List Value},VRl g us (vs.map PV.raw)→us=vs
 | [],[],_=>rfl
 | [],_::_,h=>by have:=h.len;simp at this
 |_::_,[],h=>by have:=h.len;simp at this
 |u::us,v::vs,h=>by
  have h':=VRl.uncons (xs:=vs.map PV.raw) h
  rw[h'.1.raw_inv,raws_inv h'.2]
class RawE {α:Type} (f:α→List PV) (vf:outParam (α→List Value)):Prop where
 out: ∀ a,f a=(vf a).map PV.raw
 one: ∀ a,∀ x∈vf a,x.oneCell'=true
theorem flat_raws {α:Type} {f:α→List PV} {vf:α→List Value} [h:RawE f vf] (l:List α):(l.map f).flatten=(l.flatMap vf).map PV.raw:=by
 induction l with
 |nil=>rfl
 |cons x l ih=>rw[List.map_cons,List.flatten_cons,ih,h.out,List.flatMap_cons,List.map_append]
theorem len_raws {α:Type} {f:α→List PV} {vf:α→List Value} {sz:Nat} [h:RawE f vf] [hf:Len f sz] (l:List α):(l.flatMap vf).length=l.length*sz:=by
 have:=flatten_len (xs:=l.map f) (sz:=sz) (fun e he=>by obtain⟨a,_,rfl⟩:=List.mem_map.1 he;exact hf.out a)
 rw[flat_raws l]at this
 simpa using this
def RowL {α:Type} (vf:α→List Value) (E sz:Nat) (v:Value) (l:List α) (R:List Res):Prop:=RowG E sz v l.length (l.flatMap vf) R
section
variable {P:Program} {N:Nat} {all:Array Oper} {K:Env→List Res→Prop} {fl:List Bool} {os:List Oper} {ρ:Env} {L:List Res} {d:Nat} {ty:TypeId} {pos:String} {af:Array Edge}
theorem s_appRow {T T₂ E E₂ sz by_:Nat} {α:Type} {f:α→List PV} {vf:α→List Value} [hT:TRw P T E sz by_] [h2:TSl P T₂ E₂] [hf:Len f sz] [hr:RawE f vf] {x y:Operand} {v:Value} {l m:List α} {t:Tag} {R LF:List Res} (F:List Res→List Res)
  (hx:ρ.ev x= .raw v) (hy:ρ.ev y= .slice (m.map f) t) (hv:RowL vf E sz v l R) (hp:L.Perm (R++LF)) (hq: ∀ R',(R'++LF).Perm (F R')) (hb:(l.length+m.length)*by_≤140737488355328) (hm:l.length+m.length≤140737488355328)
  (k: ∀ v' R',RowL vf E sz v' (l++m) R'→pops P N all K fl.tail os (upd ρ d (.raw v')) (F R')) (hd:Nat.blt d N=true:=by rfl) (hfl:fl.headD true=true:=by rfl):
  pops P N all K fl (⟨some d,.call { callee:= .builtin .append,args:= #[x,y],argTypes:= #[T,T₂] },ty,pos,af,none⟩::os) ρ L:=
 pops_n rfl (dlt hd) hfl (OpN.perm hp fun a w g ha hi=>by
  have h1:=evRaw ha (x:=x) (by simp[Op.operands,Call.operands]) hx
  have h3:=ha y (by simp[Op.operands,Call.operands])
  rw[hy]at h3
  obtain⟨base,cap,e,_,_,hnone,_,_,us,hus,hcell⟩:=h3.slice_cells (sz:=sz) (fun e he=>by obtain⟨a,_,rfl⟩:=List.mem_map.1 he;exact hf.out a)
  rw[flat_raws m]at hus
  have hus':=raws_inv hus
  subst hus'
  rw[List.length_map]at e
  have hvl:(m.flatMap vf).length=m.length*sz:=len_raws (f:=f) m
  obtain⟨v',w',R',q1,q2,q3,q4,q5⟩:=app_coreG (P:=P) (T:=T) (T₂:=T₂) (ty:=ty) (.inr ⟨_,h2.out⟩) (.slice base m.length cap) (m.flatMap vf) hi hv (fun _=>rfl) hvl (fun x hx=>by obtain⟨a,_,ha⟩:=List.mem_flatMap.1 hx;exact hr.one a x ha) (fun w' hs'=>by
   cases base with
   |none=>
    have h0:=(hnone rfl).1
    have:m= []:=by simpa using h0
    subst this;rfl
   |some ad=>
    obtain⟨b,o,sp⟩:=ad
    obtain⟨hs,hH⟩:=hcell _ rfl
    show(loadCells _ (m.length*sz)).run P w'=_
    rw[←hvl]
    exact loadCells_of (hs.imp_left fun h=>by
     have:m= []:=by simpa using h.1
     subst this;rfl) fun j hj=>hs' _ _ _ (hH j hj)) hb hm
  have he:execOp a.eval ⟨some d,.call { callee:= .builtin .append,args:= #[x,y],argTypes:= #[T,T₂] },ty,pos,af,none⟩=(do pure (.value (←Builtin.append_ #[T,T₂] ty (#[x,y].map a.eval)))):=rfl
  have hrun:(execOp a.eval ⟨some d,.call { callee:= .builtin .append,args:= #[x,y],argTypes:= #[T,T₂] },ty,pos,af,none⟩).run P w= .ok (.value v') w':=by
   rw[he];simp[h1,e,q1]
  refine Oper.wq_of_run hrun ?_
  exact⟨v',.raw v',g,F R',rfl,.raw _,q3.perm (hq R'),q4,fun b hb hlt=>q5 b ((blocks_perm (hq R')).symm.subset hb) hlt,k v' R' (by unfold RowL;rw[List.length_append,List.flatMap_append];exact q2)⟩)
theorem s_eqNil {T T' E:Nat} [hT:TSl P T E] {x:Operand} {xs:List (List PV)} {t:Tag} (hx:ρ.ev x= .slice xs t) (k: ∀ b:Bool,(b=true→xs= [])→pops P N all K fl.tail os (upd ρ d (.raw (.bool b))) L) (hd:Nat.blt d N=true:=by rfl) (hfl:fl.headD true=true:=by rfl):
  pops P N all K fl (⟨some d,.binOp .eql T x (.const (.slice none 0 0)) T',ty,pos,af,none⟩::os) ρ L:=
 pops_n rfl (dlt hd) hfl (fun a w g ha hi=>by
  have h1:=ha x (by simp[Op.operands])
  rw[hx]at h1
  have hs: ∃ o n c,a.eval x= .slice o n c∧(o=none→xs= []):=by
   generalize a.eval x=v at h1
   cases h1 with
   |nilN o ho=>exact⟨_,_,_,rfl,fun _=>rfl⟩
   |nilR=>exact⟨_,_,_,rfl,fun _=>rfl⟩
   |slice sz f hl hc hm hs hH hv ht hn=>exact⟨_,_,_,rfl,fun e=>by cases e⟩
  obtain⟨o,n,c,e,ho⟩:=hs
  have hrun:(execOp a.eval ⟨some d,.binOp .eql T x (.const (.slice none 0 0)) T',ty,pos,af,none⟩).run P w= .ok (.value (.bool o.isNone)) w:=by
   have h: ∀ d:Nat,(Op.equalIn (d+1) T (.slice o n c) (.slice none 0 0)).run P w= .ok o.isNone w:=fun d=>by
    cases o<;>simp[Op.equalIn,run_underlying hT.out]
   have hc:a.eval (.const (.slice none 0 0))= .slice none 0 0:=rfl
   simp only[execOp,e,hc]
   simp[eqGuard,binOp,Op.equal,Op.maxDepth,h 9999]
  refine Oper.wq_of_run hrun ?_
  exact⟨_,.raw (.bool o.isNone),g,L,rfl,.raw _,hi,.refl _ _ _,.refl _ _,k _ (fun h=>ho (by simpa using h))⟩)
theorem s_bsRow {α:Type} {vf:α→List Value} {T E sz by_:Nat} [hE:TRw P T E sz by_] (k: ∀ v,RowL vf E sz v [] []→pops P N all K fl.tail os (upd ρ d (.raw v)) L) (hd:Nat.blt d N=true:=by rfl) (hfl:fl.headD true=true:=by rfl):pops P N all K fl (⟨some d,.buildSlice T 0 #[],ty,pos,af,none⟩::os) ρ L:=
 pops_n rfl (dlt hd) hfl (by
  intro a w g ha hi
  obtain⟨i,z,t1,t2,t3,t4,t5,t6,t7,t8⟩:=hE.out
  obtain⟨j1,j2,j3⟩:=hi.lay [] E
  have hr:(execOp a.eval ⟨some d,.buildSlice T 0 #[],ty,pos,af,none⟩).run P w= .ok (.value (.slice (some ⟨w.heap.size,0,none⟩) 0 0)) { w with heap:=w.heap.push (.cells [].toArray E (0,0)) }:=by
   show(do pure (Next.value (←Instr.buildSlice T 0 ((#[]:Array (Nat × Operand)).map fun(p:Nat × Operand)=>(p.1,a.eval p.2)))):Sem Next).run P w=_
   have hzv:(zeroValue E).run P w= .ok z w:=by simp[zeroValue,typeInfo,t2,t5]
   simp only[Instr.buildSlice,Sem.run_bind,run_underlying t1,Result.andThen_ok,sizeOf,typeInfo,run_program,t2,Sem.run_pure,t3]
   rw[if_neg (by simp)]
   split
   ·simp[Instr.fill,newRow];congr 2;apply Array.eq_empty_of_size_eq_zero;simp
   ·simp[hzv,Instr.fill,newRow];congr 2;apply Array.eq_empty_of_size_eq_zero;simp
  refine Oper.wq_of_run hr ?_
  exact⟨_,.raw _,_,L,rfl,.raw _,j1,j2,.refl _ _,k _ (.nil _ (fun a e=>by cases e;rfl))⟩)
end
end Go.Q
namespace Go.Q
open Go
section
variable {α:Type} {vf:α→List Value} {sz:Nat} (hl: ∀ a,(vf a).length=sz)
include hl
theorem row_at: ∀ (l:List α) (k:Nat) (h:k < l.length) (rest:List Value),((l.flatMap vf++rest).drop (k*sz)).take sz=vf l[k]
 |x::l,0,h,rest=>by
  rw[Nat.zero_mul,List.drop_zero,List.flatMap_cons,List.append_assoc]
  exact List.take_left' (hl x)
 |x::l,k+1,h,rest=>by
  rw[List.flatMap_cons,List.append_assoc,show(k+1)*sz=(vf x).length+k*sz by rw[hl,Nat.add_mul];omega,List.drop_append]
  simp only[List.getElem_cons_succ]
  rw[List.drop_eq_nil_of_le (by omega),List.nil_append,show(vf x).length+k*sz - (vf x).length=k*sz by omega]
  exact row_at l k (by simpa using h) rest
theorem flat_set: ∀ (l:List α) (k:Nat) (_:k < l.length) (d:α) (rest:List Value),(l.flatMap vf++rest).take (k*sz)++vf d++(l.flatMap vf++rest).drop (k*sz+sz)=(l.set k d).flatMap vf++rest
 |x::l,0,h,d,rest=>by
  rw[Nat.zero_mul,List.take_zero,List.nil_append,Nat.zero_add,List.flatMap_cons,List.append_assoc,List.drop_left' (hl x),List.set_cons_zero,List.flatMap_cons,List.append_assoc]
 |x::l,k+1,h,d,rest=>by
  have ih:=flat_set l k (by simpa using h) d rest
  have e:(k+1)*sz=(vf x).length+k*sz:=by rw[hl,Nat.add_mul];omega
  rw[e,Nat.add_assoc,List.flatMap_cons,List.append_assoc (vf x),List.take_length_add_append,List.drop_length_add_append,List.set_cons_succ,List.flatMap_cons,List.append_assoc (vf x),List.append_assoc (vf x),ih,List.append_assoc]
end
theorem RowL.inv {α:Type} {vf:α→List Value} {sz E n c:Nat} {o:Option Addr} {R:List Res} {l:List α} (hv:RowL vf E sz (.slice o n c) l R) (h:l≠ []):
  n=l.length∧ ∃ r cur rest,o=some ⟨r,0,none⟩∧R= [.raw r (.cells cur E (0,0))]∧cur.toList=l.flatMap vf++rest∧cur.size=c*sz∧l.length≤c:=by
 unfold RowL at hv
 generalize hn:l.length=m at hv
 generalize hus:l.flatMap vf=us at hv
 cases hv with
 |nil o ho=>exact absurd (List.eq_nil_of_length_eq_zero hn) h
 |row hl hs hu hc=>
  rename_i r cur
  refine⟨rfl,r,cur,cur.toList.drop (n*sz),rfl,rfl,?_,hs,by omega⟩
  rw[←hc,List.take_append_drop]
theorem RowL.mk {α:Type} {vf:α→List Value} {sz E c r:Nat} {cur:Array Value} {l:List α} {rest:List Value} (hl: ∀ a,(vf a).length=sz) (h1:cur.toList=l.flatMap vf++rest) (h2:cur.size=c*sz) (h3:l.length≤c):RowL vf E sz (.slice (some ⟨r,0,none⟩) l.length c) l [.raw r (.cells cur E (0,0))]:=by
 have h4:(l.flatMap vf).length=l.length*sz:=by
  clear h1 h3
  induction l with
  |nil=>simp
  |cons x l ih=>rw[List.flatMap_cons,List.length_append,hl,ih,List.length_cons,Nat.add_mul];omega
 exact .row h3 h2 h4 (by rw[h1];exact List.take_left' h4)
theorem RowL.freeze {α:Type} {f:α→List PV} {vf:α→List Value} {sz E:Nat} [hr:RawE f vf] [hf:Len f sz] {w:World} {g:Gh} {R L':List Res} {v:Value} {l:List α} (hi:Inv w g (R++L')) (hv:RowL vf E sz v l R) (hm:l.length≤maxN∧l.length*sz≤maxN):
  ∃ g',Inv w g' L'∧Step (blocks (R++L')) w g w g'∧Within w (R++L') L'∧VR g' v (.slice (l.map f) .ro):=by
 have hlen:(l.flatMap vf).length=l.length*sz:=len_raws (f:=f) l
 unfold RowL at hv
 generalize hus:l.flatMap vf=us at hv
 generalize hn:l.length=n at hv
 cases hv with
 |nil o ho=>
  have h0:l= []:=List.eq_nil_of_length_eq_zero hn
  subst h0
  exact⟨g,hi,.refl _ _ _,.refl _ _,(VR.nilN o ho).ro⟩
 |row hl hs hu hc=>
  rename_i r cap cur
  obtain⟨k1,k2,k3,k4,k5⟩:=hi.rawHead
  have hle:=Gh.le_lay (g:=g) (b:=r) (from_:=0) (us:=us) (fun o _=>k2 o)
  have hcs:us.length≤cur.size:=by rw[hu,hs];exact Nat.mul_le_mul_right _ hl
  have hcell: ∀ j (hj:j < us.length),w.cell? ⟨r,j,none⟩=some us[j]:=fun j hj=>by
   have hj2:j < cur.size:=by omega
   simp only[World.cell?,k1,Option.isSome_none,Bool.false_eq_true,if_false]
   rw[Array.getElem?_eq_getElem hj2]
   have:=List.getElem_of_eq hc (i:=j) (by rw[hc];exact hj)
   rw[←this,List.getElem_take]
   simp
  refine⟨g.lay r 0 us,⟨fun b' o v hv=>?_,fun b' z hz=>hi.satM b' z hz,fun r' hr'=>?_,k5.nodup,hi.glob.mono hle⟩,⟨rfl,rfl,⟨rfl,Nat.le_refl _⟩,Nat.le_refl _,fun _ _ _=>rfl,hle,fun k _ hn=>⟨fun o=>Gh.lay_out (fun h=>hn (by rw[h.1];simp[blocks,Res.block])),rfl⟩⟩,fun b hb _=>by simp only[blocks,List.cons_append,List.nil_append,List.filterMap_cons,Res.block];exact List.mem_cons_of_mem _ hb,?_⟩
  ·by_cases hin:b'=r∧0≤o∧o < 0+us.length
   ·obtain⟨rfl,_,h6⟩:=hin
    have hj:o < us.length:=by omega
    have:=Gh.lay_in (g:=g) (b:=b') (from_:=0) hj
    rw[Nat.zero_add,hv]at this
    cases this
    exact hcell o hj
   ·rw[Gh.lay_out hin]at hv;exact hi.sat b' o v hv
  ·exact Res.holds_kept hle (k5.res r' hr') fun b' hb'=>⟨rfl,fun o=>Gh.lay_out (fun h=>k4 (List.mem_filterMap.2 ⟨r',hr',by rw[hb',h.1]⟩)),rfl⟩
  ·subst hn
   have huv:VRl (g.lay r 0 us) us (l.map f).flatten:=by
    rw[flat_raws l,hus]
    exact⟨by simp,fun i h1 h2=>by simp;exact .raw _⟩
   have:=VR.of_cells (g:=g.lay r 0 us) (xs:=l.map f) (t:= .ro) (sz:=sz) (b:=r) (off:=0) (cap:=cap) (fun e he=>by obtain⟨a,_,rfl⟩:=List.mem_map.1 he;exact hf.out a) (by simpa using hl) (by simpa using hm) (us:=us) huv (fun j hj=>by
    have:=Gh.lay_in (g:=g) (b:=r) (from_:=0) hj
    rw[Nat.zero_add]at this ⊢
    exact this) (fun b' cap' e=>by cases e) (by simp)
   simpa using this
section
variable {P:Program} {N:Nat} {all:Array Oper} {K:Env→List Res→Prop} {fl:List Bool} {os:List Oper} {ρ:Env} {L:List Res} {d:Nat} {ty:TypeId} {pos:String} {af:Array Edge}
theorem s_ixRow {T:TypeId} {E sz by_:Nat} [hT:TSl P T E] [hE:TSz P E sz by_] {x y:Operand} {r off n c k:Nat} {kk:IntKind} (hx:ρ.ev x= .raw (.slice (some ⟨r,off,none⟩) n c)) (hy:ρ.ev y= .raw (.int kk (k:Int))) (hk:k < n)
  (kk':pops P N all K fl.tail os (upd ρ d (.raw (.pointer (some ⟨r,off+k*sz,none⟩)))) L) (hd:Nat.blt d N=true:=by rfl):
  pops P N all K fl (⟨some d,.indexAddr T x y,ty,pos,af,none⟩::os) ρ L:=
 step_q hd (qop_of_run fun a w g ha hi=>by
  have h1:=evRaw ha (x:=x) (by simp[Op.operands]) hx
  have h2:=evRaw ha (x:=y) (by simp[Op.operands]) hy
  refine⟨.pointer (some ⟨r,off+k*sz,none⟩),?_,.raw _⟩
  simp only[execOp,Instr.indexAt,h2,h1,asIntOf,Sem.run_bind,Sem.run_pure,Result.andThen_ok,run_und hT.out]
  simp only[Bool.and_false,Bool.false_eq_true,if_false]
  rw[if_pos ⟨by omega,by omega⟩]
  simp[TSz.run hE,add_plain]) kk'
theorem s_ldRow {α:Type} {f:α→List PV} {vf:α→List Value} {T sz:Nat} [hT:TAgg P T sz] [hr:RawE f vf] {x:Operand} {r off E:Nat} {p:Nat × Nat} {cur:Array Value} {a0:α} (hx:ρ.ev x= .raw (.pointer (some ⟨r,off,none⟩))) (hm:Res.raw r (.cells cur E p)∈L) (hv:(cur.toList.drop off).take sz=vf a0) (hle:off+sz≤cur.size)
  (k:pops P N all K fl.tail os (upd ρ d (.agg (f a0))) L) (hd:Nat.blt d N=true:=by rfl):pops P N all K fl (⟨some d,.load T x,ty,pos,af,none⟩::os) ρ L:=
 step_q hd (qop_of_run fun a w g ha hi=>by
  have h1:=evRaw ha (x:=x) (by simp[Op.operands]) hx
  obtain⟨hb,_,_⟩:=hi.res _ hm
  have hlen:(vf a0).length=sz:=by rw[←hv];simp;omega
  refine⟨.agg (vf a0).toArray,?_,?_⟩
  ·have:=loadVar_agg hT.out (w:=w) (b:=r) (o:=off) (vs:=vf a0) hlen (fun j hj=>by
    have hj2:off+j < cur.size:=by omega
    simp only[World.cell?,hb,Option.isSome_none,Bool.false_eq_true,if_false]
    rw[Array.getElem?_eq_getElem hj2]
    have:=List.getElem_of_eq hv (i:=j) (by rw[hv];exact hj)
    rw[←this]
    simp)
   simp only[execOp,Instr.loadAt,h1,Instr.sureAddr,Sem.run_bind,Sem.run_pure,Result.andThen_ok,this]
  ·rw[hr.out]
   have:VRl g (vf a0) ((vf a0).map PV.raw):=⟨by simp,fun i h1 h2=>by simp;exact .raw _⟩
   exact this.agg) k
theorem s_stRow {α:Type} {f:α→List PV} {vf:α→List Value} {T sz by_:Nat} [hT:TSz P T sz by_] [hr:RawE f vf] {x y:Operand} {r off E:Nat} {cur:Array Value} {a0:α} {L':List Res} (F:Res→List Res) (hx:ρ.ev x= .raw (.pointer (some ⟨r,off,none⟩))) (hy:ρ.ev y= .agg (f a0)) (hlen:(vf a0).length=sz) (hle:off+sz≤cur.size)
  (hp:L.Perm (.raw r (.cells cur E (0,0))::L')) (hq: ∀ c,(c::L').Perm (F c))
  (k:pops P N all K fl.tail os ρ (F (.raw r (.cells (cur.toList.take off++vf a0++cur.toList.drop (off+sz)).toArray E (0,0))))) (hfl:fl.headD true=true:=by rfl):pops P N all K fl (⟨none,.store T x y,ty,pos,af,none⟩::os) ρ L:=
 pops_n rfl (fun _ e=>by cases e) hfl (OpN.perm hp fun a w g ha hi=>by
  have h1:=evRaw ha (x:=x) (by simp[Op.operands]) hx
  have h2:=ha y (by simp[Op.operands])
  rw[hy]at h2
  obtain⟨us,e,hus⟩:=h2.agg_inv
  rw[hr.out]at hus
  have hus':=raws_inv hus
  subst hus'
  obtain⟨k1,k2,k3,k4,k5⟩:=hi.rawHead
  obtain⟨w',hrun,hb',hos,htp,hout,hsz,hk⟩:=storeCells_run (P:=P) (vf a0) w cur.toList off 0 (by simpa using k1) (by simpa [hlen]using hle) (hr.one a0)
  have hrn:(execOp a.eval ⟨none,.store T x y,ty,pos,af,none⟩).run P w= .ok .skip w':=by
   simp only[execOp,Instr.storeAt,h1,Instr.sureAddr,Sem.run_bind,Sem.run_pure,Result.andThen_ok,storeVar,TSz.run hT,e,Value.cells,List.size_toArray]
   rw[if_neg (by rw[hlen];simp)]
   simp[hrun]
  rw[Nat.add_zero,hlen]at hb'
  refine Oper.wq_of_run hrn ?_
  exact⟨undef,.raw undef,g,_,rfl,.raw _,(hi.turnRaw hb' hk).perm (hq _),⟨hos,htp,hout,Nat.le_of_eq hsz.symm,fun b _ hn=>hk b (fun e=>hn (by simp[blocks,Res.block,e])),.refl g,fun _ _ _=>⟨fun _=>rfl,rfl⟩⟩,
   fun b hb _=>by
    have:=(blocks_perm (hq _)).symm.subset hb
    simpa [blocks,Res.block]using this,k⟩)
theorem pwp_freezeRow {α:Type} {f:α→List PV} {vf:α→List Value} {sz E:Nat} [hr:RawE f vf] [hf:Len f sz] {R L':List Res} {v:Value} {l:List α} {c:Code} {Q:PPost} (i:Nat) (hv:RowL vf E sz v l R) (hm:l.length≤maxN∧l.length*sz≤maxN) (hp:L.Perm (R++L')) (hi:ρ i= .raw v) (k:pwp P N c Q (upd ρ i (.slice (l.map f) .ro)) L'):pwp P N c Q ρ L:=
 pwp_ghost (fun base a w g ha hI=>by
  obtain⟨g',h1,h2,h3,h4⟩:=RowL.freeze (f:=f) (hI.perm hp) hv hm
  refine⟨g',⟨ha.size,ha.defers.mono h2.le,fun j=>?_⟩,h1,h2.grow (fun b hb=>(blocks_perm hp).symm.subset hb),fun b hb hlt=>(blocks_perm hp).symm.subset (h3 b hb hlt)⟩
  have hj:=(ha.slot j).mono h2.le
  by_cases e:j=i
  ·subst e
   rw[hi]at hj
   show VR g' _ (upd ρ j _ j)
   rw[upd_self,hj.raw_inv];exact h4
  ·show VR g' _ (upd ρ i _ j)
   rw[upd_ne _ _ e];exact hj) k
theorem s_cutRow {T E sz by_:Nat} [hT:TSl P T E] [hE:TSz P E sz by_] {x:Operand} {lo hi:Option Operand} {r off n c:Nat} (i j:Nat) (hx:ρ.ev x= .raw (.slice (some ⟨r,off,none⟩) n c)) (hij:i≤j) (hj:j≤n) (hc:i < c) (hnc:n≤c)
  (hlo: ∀ o,lo=some o→ ∃ k,ρ.ev o= .raw (.int k i)) (hlo':lo=none→i=0) (hhi: ∀ o,hi=some o→ ∃ k,ρ.ev o= .raw (.int k j)) (hhi':hi=none→j=n)
  (k:pops P N all K fl.tail os (upd ρ d (.raw (.slice (some ⟨r,off+i*sz,none⟩) (j - i) (c - i)))) L) (hd:Nat.blt d N=true:=by rfl):
  pops P N all K fl (⟨some d,.slice T x lo hi none,ty,pos,af,none⟩::os) ρ L:=
 step_q hd (qop_of_run fun a w g ha hI=>by
  have e1:=evRaw ha (x:=x) (by simp[Op.operands]) hx
  have hbl: ∀ o,lo=some o→ ∃ k,a.eval o= .int k i:=fun o e=>by
   obtain⟨k,hk⟩:=hlo o e
   exact⟨k,evRaw ha (by simp[Op.operands,e]) hk⟩
  have hbh: ∀ o,hi=some o→ ∃ k,a.eval o= .int k j:=fun o e=>by
   obtain⟨k,hk⟩:=hhi o e
   exact⟨k,evRaw ha (by simp[Op.operands,e]) hk⟩
  have hbounds:(Instr.sliceBounds true n c (lo.map a.eval) (hi.map a.eval) none).run P w= .ok (i,j,c) w:=by
   unfold Instr.sliceBounds
   cases lo with
   |none=>
    have:=hlo' rfl;subst this
    cases hi with
    |none=>have:=hhi' rfl;subst this;simp
    |some o=>
     obtain⟨k,hk⟩:=hbh o rfl
     simp[hk,Instr.sliceBound,asIntOf]
     omega
   |some o=>
    obtain⟨k,hk⟩:=hbl o rfl
    cases hi with
    |none=>
     have:=hhi' rfl;subst this
     simp[hk,Instr.sliceBound,asIntOf]
     omega
    |some o'=>
     obtain⟨k',hk'⟩:=hbh o' rfl
     simp[hk,hk',Instr.sliceBound,asIntOf]
     rw[if_pos (by omega)]
     simp
     omega
  refine⟨.slice (some ⟨r,off+i*sz,none⟩) (j - i) (c - i),?_,.raw _⟩
  show(do pure (Next.value (←Instr.sliceAt T (a.eval x) (lo.map a.eval) (hi.map a.eval) none)):Sem Next).run P w=_
  simp only[Instr.sliceAt,Sem.run_bind,run_underlying hT.out,Result.andThen_ok,Instr.slice,e1,hbounds,TSz.run hE,Sem.run_pure]
  rw[if_neg (by omega)]
  simp[add_plain]) k
theorem s_clearRow {T E sz by_:Nat} [hT:TRw P T E sz by_] (hz: ∀ i z,P.info? E=some i→i.zero=some z→ ∀ x∈z.cells,x.oneCell'=true) {x:Operand} {r off n c:Nat} {cur:Array Value} {L':List Res} (F:Res→List Res) (hx:ρ.ev x= .raw (.slice (some ⟨r,off,none⟩) n c)) (hn:0 < n) (hle:off+n*sz≤cur.size)
  (hp:L.Perm (.raw r (.cells cur E (0,0))::L')) (hq: ∀ c,(c::L').Perm (F c))
  (k: ∀ zs:List Value,zs.length=n*sz→pops P N all K fl.tail os ρ (F (.raw r (.cells (cur.toList.take off++zs++cur.toList.drop (off+n*sz)).toArray E (0,0))))) (hfl:fl.headD true=true:=by rfl):
  pops P N all K fl (⟨none,.call { callee:= .builtin .clear,args:= #[x],argTypes:= #[T] },ty,pos,af,none⟩::os) ρ L:=
 pops_n rfl (fun _ e=>by cases e) hfl (OpN.perm hp fun a w g ha hi=>by
  have h1:=evRaw ha (x:=x) (by simp[Op.operands,Call.operands]) hx
  obtain⟨i,z,t1,t2,t3,t4,t5,t6,t7,t8⟩:=hT.out
  obtain⟨k1,k2,k3,k4,k5⟩:=hi.rawHead
  have hzl:(Builtin.zeroCells z.cells n).toList.length=n*sz:=by rw[Array.length_toList,size_zeroCells,t6]
  have hz1: ∀ x∈(Builtin.zeroCells z.cells n).toList,x.oneCell'=true:=fun x hx=>by
   simp only[Builtin.zeroCells,Array.toList_map,List.mem_map]at hx
   obtain⟨j,_,rfl⟩:=hx
   have hj:j % z.cells.size < z.cells.size:=Nat.mod_lt _ (by rw[t6];omega)
   rw[getElem!_pos z.cells _ hj]
   exact hz i z t2 t5 _ (Array.getElem_mem hj)
  obtain⟨w',hrun,hb',hos,htp,hout,hsz,hk⟩:=storeCells_run (P:=P) (Builtin.zeroCells z.cells n).toList w cur.toList off 0 (by simpa using k1) (by rw[hzl];simpa using hle) hz1
  have he:execOp a.eval ⟨none,.call { callee:= .builtin .clear,args:= #[x],argTypes:= #[T] },ty,pos,af,none⟩=(do pure (.value (←Builtin.clear_ #[T] ty (#[x].map a.eval)))):=rfl
  have hr:(execOp a.eval ⟨none,.call { callee:= .builtin .clear,args:= #[x],argTypes:= #[T] },ty,pos,af,none⟩).run P w= .ok (.value (.tuple #[])) w':=by
   rw[he]
   obtain⟨m,rfl⟩: ∃ m,n=m+1:=⟨n - 1,by omega⟩
   simp[Builtin.clear_,h1,run_underlying t1,zeroValue,typeInfo,t2,t5,hrun]
  rw[Nat.add_zero,hzl]at hb'
  refine Oper.wq_of_run hr ?_
  exact⟨_,.raw _,g,_,rfl,.raw _,(hi.turnRaw hb' hk).perm (hq _),⟨hos,htp,hout,Nat.le_of_eq hsz.symm,fun b _ hn=>hk b (fun e=>hn (by simp[blocks,Res.block,e])),.refl g,fun _ _ _=>⟨fun _=>rfl,rfl⟩⟩,
   fun b hb _=>by
    have:=(blocks_perm (hq _)).symm.subset hb
    simpa [blocks,Res.block]using this,k _ hzl⟩)
end
end Go.Q
namespace Go.Q
open Go
structure ResLe (b:Nat) (kvs:List (PV × PV)) (r r':Res):Prop where
 block:r'.block=r.block
 holds: ∀ w g,VR g (.map (some b)) (.fmap kvs)→r.holds w g→r'.holds w g
section
variable {P:Program} {N:Nat} {ρ:Env} {L:List Res} {Q:PPost} {c:Code}
end
end Go.Q
namespace Go.Q
open Go
theorem cell_spot {w:World} {b o s:Nat}:w.cell? ⟨b,o,some s⟩=none:=by
 unfold World.cell?
 split<;>simp
def Opens (P:Program) (t:Nat) (F:List PV→Prop):Prop:=
 ∀ (H:Type) (enc:TypeId × Value→H) (w:World) (g:Gh),(∀ b o v,w.cell? ⟨b,o,none⟩=some v→g.H b o=some v)→ ∀ (base:Nat) (held:Bool) (fuel:Nat) (cs:List Value) (x:DataW H × List MemPlace),
   DataW.trod enc P w base (fun _=>true) held fuel t cs=some x→(∀ n∈x.1.weights P t,n≤reachBytes)→ ∃ xs,F xs∧VRl g cs xs
theorem Opens.to {P:Program} {t:Nat} {F G:List PV→Prop} (h:Opens P t F) (hg: ∀ xs,F xs→G xs):Opens P t G:=fun H enc w g hc base held fuel cs x ht hw=>by
 obtain⟨xs,h1,h2⟩:=h H enc w g hc base held fuel cs x ht hw
 exact⟨xs,hg xs h1,h2⟩
theorem opens_int {P:Program} {t:Nat} {k:IntKind} (ht:P.underlying t=some (.int k)):Opens P t (fun xs=> ∃ n,(Lit.int k n).wf=true∧xs= [.raw (.int k n)]):=fun H enc w g hc base held fuel cs x h hw=>by
 obtain⟨n,rfl,rfl,h1⟩:=DataW.trod_int ht h
 exact⟨_,⟨n,h1,rfl⟩,.cons (.raw _) (.nil g)⟩
theorem opens_bool {P:Program} {t:Nat} (ht:P.underlying t=some .bool):Opens P t (fun xs=> ∃ b,xs= [.raw (.bool b)]):=fun H enc w g hc base held fuel cs x h hw=>by
 obtain⟨b,rfl,rfl⟩:=DataW.trod_bool ht h
 exact⟨_,⟨b,rfl⟩,.cons (.raw _) (.nil g)⟩
theorem opens_str {P:Program} {t:Nat} (ht:P.underlying t=some .string):Opens P t (fun xs=> ∃ s,xs= [.str s]):=fun H enc w g hc base held fuel cs x h hw=>by
 obtain⟨s,rfl,rfl,h1⟩:=DataW.trod_string ht h
 have h2:s.data.toList.length≤maxN:=by
  have:=hw s.data.toList.length (by simp[DataW.weights])
  have h3:=reachBytes_lt
  unfold maxN;omega
 refine⟨_,⟨s.data.toList,rfl⟩,.cons ?_ (.nil g)⟩
 have:=VR.str (g:=g) h2
 simpa using this
theorem weights_each {H:Type} {P:Program} {e:Nat}: ∀ {l:List (DataW H)} {d:DataW H},d∈l→ ∀ n∈d.weights P e,n∈DataW.weightsAll P e l
 |x::l,d,hd,n,hn=>by
  simp only[DataW.weightsAll,List.mem_append]
  rcases List.mem_cons.1 hd with rfl|hd
  ·exact .inl hn
  ·exact .inr (weights_each hd n hn)
theorem opens_slice {P:Program} {t e sz by_:Nat} {F:List PV→Prop} (ht:P.underlying t=some (.slice e)) (hc:P.cellsOf e=sz) (hb:P.bytesOf e=by_) (h0:0 < sz) (hsb:sz≤by_) (hF: ∀ ys,F ys→ys.length=sz) (h:Opens P e F):
  Opens P t (fun xs=> ∃ yss:List (List PV),(∀ ys∈yss,F ys)∧xs= [.slice yss .ro]):=fun H enc w g hg base held fuel cs x hx hw=>by
 rcases DataW.trod_slice ht hx with ⟨rfl,rfl⟩|⟨a,len,cap,elems,rest,n,rfl,rfl,rfl,h1,h2,h3,h4,h5,h6,h7⟩
 ·exact⟨_,⟨[],by simp,rfl⟩,.cons .nilR (.nil g)⟩
 subst hc
 have hwe: ∀ y∈elems,∀ n∈y.1.weights P e,n≤reachBytes:=fun y hy n hn=>hw n (by
  simp only[DataW.weights,ht,List.mem_cons,List.mem_append]
  exact .inr (.inl (weights_each (List.mem_map_of_mem hy) n hn)))
 have hbytes:len*by_≤reachBytes:=by
  have:=hw ((elems.length+rest.length)*P.bytesOf e) (by simp[DataW.weights,ht])
  rw[hb,h4]at this
  exact Nat.le_trans (Nat.mul_le_mul_right _ (by omega)) this
 obtain⟨hrl,hr⟩:=h6 rfl
 obtain⟨b,off,spot⟩:=a
 have cellspot: ∀ i cs',i=0→w.cells? base (Addr.add ⟨b,off,spot⟩ (i*P.cellsOf e)) (P.cellsOf e)=some cs'→spot=none:=fun i cs' hi hcs=>by
  subst hi
  obtain⟨_,hl,hc⟩:=World.cells?_some hcs
  have:=hc 0 h0
  rw[List.getElem?_eq_getElem (by omega)]at this
  have e0:Addr.add (Addr.add ⟨b,off,spot⟩ (0*P.cellsOf e)) 0=⟨b,off,spot⟩:=by simp[Addr.add]
  rw[e0]at this
  cases spot with
  |none=>rfl
  |some s=>rw[cell_spot]at this;cases this
 have hspot:spot=none∨(len=0∧cap=0):=by
  by_cases hl:len=0
  ·by_cases hcp:cap=0
   ·exact .inr ⟨hl,hcp⟩
   ·left
    have:=hr 0 (by omega)
    have hlt:0 < rest.length:=by omega
    rw[List.getElem?_eq_getElem hlt,Option.bind_eq_some_iff]at this
    obtain⟨cs',hcs,_⟩:=this
    exact cellspot _ cs' (by omega) hcs
  ·left
   have:=h5 0 (by omega)
   have hlt:0 < elems.length:=by omega
   rw[List.getElem?_eq_getElem hlt,Option.bind_eq_some_iff]at this
   obtain⟨cs',hcs,_⟩:=this
   exact cellspot _ cs' (by omega) hcs
 rcases hspot with rfl|⟨rfl,rfl⟩
 ·have key: ∀ m,m≤len→ ∃ (us:List Value) (yss:List (List PV)),yss.length=m∧us.length=m*P.cellsOf e∧(∀ ys∈yss,F ys)∧VRl g us yss.flatten∧ ∀ j (hj:j < us.length),w.cell? ⟨b,off+j,none⟩=some us[j]:=by
   intro m
   induction m with
   |zero=>intro _;exact⟨[],[],rfl,by simp,by simp,.nil g,fun j hj=>absurd hj (by simp)⟩
   |succ m ih=>
    intro hm
    obtain⟨us,yss,k1,k2,k3,k4,k5⟩:=ih (by omega)
    have hlt:m < elems.length:=by omega
    have:=h5 m (by omega)
    rw[List.getElem?_eq_getElem hlt,Option.bind_eq_some_iff]at this
    obtain⟨cs',hcs,hy⟩:=this
    obtain⟨_,hl,hcc⟩:=World.cells?_some hcs
    obtain⟨ys,f1,f2⟩:=h H enc w g hg base held n cs' _ hy (hwe _ (List.getElem_mem hlt))
    refine⟨us++cs',yss++ [ys],by simp[k1],by rw[List.length_append,k2,hl,Nat.add_mul];omega,fun z hz=>?_,?_,fun j hj=>?_⟩
    ·rcases List.mem_append.1 hz with hz|hz
     ·exact k3 z hz
     ·rw[List.mem_singleton.1 hz];exact f1
    ·rw[List.flatten_append]
     have:VRl g cs' [ys].flatten:=by simpa using f2
     exact k4.append this
    ·by_cases hju:j < us.length
     ·rw[List.getElem_append_left hju];exact k5 j hju
     ·rw[List.getElem_append_right (by omega)]
      have hj2:j - us.length < cs'.length:=by rw[List.length_append]at hj;omega
      have:=hcc (j - us.length) (by omega)
      rw[List.getElem?_eq_getElem hj2]at this
      have e2:off+j=off+m*P.cellsOf e+(j - us.length):=by rw[←k2];omega
      rw[←this,e2,add_plain,add_plain]
  obtain⟨us,yss,k1,k2,k3,k4,k5⟩:=key len (Nat.le_refl _)
  refine⟨_,⟨yss,k3,rfl⟩,.cons ?_ (.nil g)⟩
  have hr2:=reachBytes_lt
  have hb1:len*P.cellsOf e≤len*by_:=Nat.mul_le_mul_left _ hsb
  have hb2:len≤len*P.cellsOf e:=Nat.le_mul_of_pos_right _ h0
  have:=VR.of_cells (g:=g) (xs:=yss) (t:= .ro) (sz:=P.cellsOf e) (b:=b) (off:=off) (cap:=cap) (fun y hy=>hF y (k3 y hy)) (by omega) (by rw[k1];unfold maxN;omega) k4 (fun j hj=>hg _ _ _ (k5 j hj)) (by simp) (by simp)
  rw[k1]at this
  exact this
 ·exact⟨_,⟨[],by simp,rfl⟩,.cons .nilR (.nil g)⟩
def structRow:TypeDesc→Option (List (Nat × Nat))
 | .struct fs=>some (fs.toList.map fun f=>(f.type,f.offset))
 |_=>none
inductive FOpen (P:Program):List (Nat × Nat)→List (List PV→Prop)→Nat→Nat→Prop
 |nil (n:Nat):FOpen P [] [] n n
 |cons {t o n:Nat} {r:List (Nat × Nat)} {F:List PV→Prop} {Fs:List (List PV→Prop)} (sz:Nat) (hs:P.cellsOf t=sz) (h:Opens P t F) (k:FOpen P r Fs (o+sz) n):FOpen P ((t,o)::r) (F::Fs) o n
inductive AllF:List (List PV→Prop)→List (List PV)→Prop
 |nil:AllF [] []
 |cons {F:List PV→Prop} {Fs:List (List PV→Prop)} {y:List PV} {ys:List (List PV)} (h:F y) (k:AllF Fs ys):AllF (F::Fs) (y::ys)
theorem opens_fields {P:Program} {H:Type} {enc:TypeId × Value→H} {w:World} {g:Gh} (hg: ∀ b o v,w.cell? ⟨b,o,none⟩=some v→g.H b o=some v) {base fuel:Nat} {held:Bool} {cs:List Value}:
  ∀ {r:List (Nat × Nat)} {Fs:List (List PV→Prop)} {o n:Nat},FOpen P r Fs o n→cs.length=n→
    (∀ (i t o:Nat),r[i]? =some (t,o)→ ∃ x,DataW.trod enc P w base (fun _=>true) held fuel t ((cs.drop o).take (P.cellsOf t))=some x∧ ∀ n∈x.1.weights P t,n≤reachBytes)→ ∃ yss,AllF Fs yss∧VRl g (cs.drop o) yss.flatten
 |_,_,_,_,.nil n,hn,_=>⟨[],.nil,by rw[List.drop_eq_nil_of_le (by omega)];exact .nil g⟩
 |_,_,_,_,.cons (t:=t) (o:=o) sz hs h k,hn,hx=>by
  obtain⟨x,h1,h2⟩:=hx 0 t o rfl
  obtain⟨ys,f1,f2⟩:=h H enc w g hg base held fuel _ x h1 h2
  obtain⟨yss,k1,k2⟩:=opens_fields hg k hn (fun i t o hi=>hx (i+1) t o (by simpa using hi))
  refine⟨ys::yss,.cons f1 k1,?_⟩
  rw[hs]at f2
  have:=f2.append k2
  rw[←List.drop_drop,List.take_append_drop]at this
  simpa using this
theorem opens_struct {P:Program} {t n:Nat} {r:List (Nat × Nat)} {Fs:List (List PV→Prop)} (hr:(P.underlying t).bind structRow=some r) (hn:P.cellsOf t=n) (h:FOpen P r Fs 0 n):Opens P t (fun xs=> ∃ yss,AllF Fs yss∧xs=yss.flatten):=fun H enc w g hg base held fuel cs x hx hw=>by
 obtain⟨td,h1,h2⟩:=Option.bind_eq_some_iff.1 hr
 obtain⟨fs,rfl⟩: ∃ fs,td= .struct fs:=by
  cases td<;>simp[structRow]at h2
  exact⟨_,rfl⟩
 simp only[structRow,Option.some.injEq]at h2
 obtain⟨xs,m,rfl,rfl,k1,k2,k3⟩:=DataW.trod_struct h1 hx
 obtain⟨yss,j1,j2⟩:=opens_fields (enc:=enc) (w:=w) (base:=base) (held:=held) (fuel:=m) hg (cs:=cs) h (by rw[k1,hn]) (fun i t' o hi=>by
  rw[←h2,List.getElem?_map,Option.map_eq_some_iff]at hi
  obtain⟨f,hf,e⟩:=hi
  obtain⟨e1,e2⟩:=Prod.mk.inj e
  subst e1 e2
  have hf':fs[i]? =some f:=by simpa using hf
  have hlt:i < xs.length:=by
   rw[k2]
   exact(Array.getElem?_eq_some_iff.1 hf').1
  refine⟨xs[i],by rw[k3 i f hf',List.getElem?_eq_getElem hlt],fun n hn=>hw n ?_⟩
  simp only[DataW.weights,h1]
  exact DataW.weights_mem_each (j:=i) (t:=f.type) (d:=xs[i].1) (by simp[hf']) (by simp[hlt]) n hn)
 exact⟨_,⟨yss,j1,rfl⟩,by simpa using j2⟩
theorem exists_map {α:Type} {f:α→List PV}: ∀ {yss:List (List PV)},(∀ ys∈yss,∃ a,ys=f a)→ ∃ l:List α,yss=l.map f
 | [],_=>⟨[],rfl⟩
 |y::yss,h=>by
  obtain⟨a,ha⟩:=h y List.mem_cons_self
  obtain⟨l,hl⟩:=exists_map (yss:=yss) (fun z hz=>h z (List.mem_cons_of_mem _ hz))
  exact⟨a::l,by rw[ha,hl];rfl⟩
theorem Opens.list {P:Program} {t e sz by_:Nat} {α:Type} {f:α→List PV} (h:Opens P e (fun xs=> ∃ a,xs=f a)) (hf: ∀ a,(f a).length=sz) (ht:P.underlying t=some (.slice e)) (hc:P.cellsOf e=sz) (hb:P.bytesOf e=by_) (h0:0 < sz) (hsb:sz≤by_):Opens P t (fun xs=> ∃ l:List α,xs= [.slice (l.map f) .ro]):=
 Opens.to (opens_slice ht hc hb h0 hsb (fun ys ⟨a,ha⟩=>by rw[ha];exact hf a) h) fun xs ⟨yss,h1,h2⟩=>by
  obtain⟨l,rfl⟩:=exists_map h1
  exact⟨l,h2⟩
theorem opens_dig {P:Program} {t e:Nat} (ht:P.underlying t=some (.array 32 e)) (he:P.underlying e=some (.int .u8)) (hc:P.cellsOf t=32) (hce:P.cellsOf e=1):Opens P t (fun xs=> ∃ d,xs=eDig d):=fun H enc w g hg base held fuel cs x hx hw=>by
 obtain⟨xs,m,rfl,rfl,k1,k2,k3⟩:=DataW.trod_array ht hx
 rw[hc]at k1
 have each: ∀ i (hi:i < cs.length),∃ b:UInt8,cs[i]= .int .u8 b.toNat:=fun i hi=>by
  have:=k3 i (by omega)
  rw[List.getElem?_eq_getElem (by omega),hce,Nat.mul_one]at this
  obtain⟨n,e1,_,hwf⟩:=DataW.trod_int he this
  have e2:(cs.drop i).take 1= [cs[i]]:=by
   rw[List.drop_eq_getElem_cons hi];rfl
  rw[e2]at e1
  simp only[List.cons.injEq,and_true]at e1
  simp[Lit.wf,IntKind.min,IntKind.max,IntKind.signed,IntKind.bits]at hwf
  refine⟨n.toNat.toUInt8,?_⟩
  rw[e1]
  congr 1
  simp
  omega
 have: ∀ l:List Value,(∀ v∈l,∃ b:UInt8,v= .int .u8 b.toNat)→ ∃ bs:List UInt8,l=bs.map u8:=by
  intro l
  induction l with
  |nil=>intro _;exact⟨[],rfl⟩
  |cons v l ih=>
   intro h
   obtain⟨b,rfl⟩:=h v List.mem_cons_self
   obtain⟨bs,rfl⟩:=ih (fun v hv=>h v (List.mem_cons_of_mem _ hv))
   exact⟨b::bs,rfl⟩
 obtain⟨bs,rfl⟩:=this cs (fun v hv=>by
  obtain⟨i,hi,rfl⟩:=List.mem_iff_getElem.1 hv
  exact each i hi)
 refine⟨_,⟨⟨bs,by simpa using k1⟩,rfl⟩,?_⟩
 refine⟨by simp[eDig],fun i h1 h2=>?_⟩
 simp[eDig,eU8]
 exact .raw _
def gAll (w:World):Gh:=⟨fun b o=>w.cell? ⟨b,o,none⟩,fun b=>if b=globAt then some (.row pow10Tab)else none⟩
theorem inv_all {w:World} (h: ∃ T p,w.heap[globAt]? =some (.cells pow10Tab.toArray T p)):Inv w (gAll w) []:=
 ⟨fun _ _ _ h=>h,fun b z hz=>(by
  simp only[gAll]at hz
  split at hz
  ·rename_i e;subst e;cases hz;exact h
  ·cases hz),by simp,List.nodup_nil,⟨by simp[gAll]⟩⟩
theorem Step.below {w w':World} {g g':Gh} (h:Step [] w g w' g'):Go.RowKit.Below w.heap.size w w':=⟨h.os,h.tape,h.output.1,h.size,fun k hk=>h.keep k hk (by simp)⟩
end Go.Q
