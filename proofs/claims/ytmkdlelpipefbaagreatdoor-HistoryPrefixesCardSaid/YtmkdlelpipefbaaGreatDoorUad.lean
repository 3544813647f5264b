/- The small logic, fourteenth text: steps over strings, numbers, structs and slices by their forms. Library, no statement of its own. -/
import Derived.Test.YtmkdlelpipefbaaGreatDoorUac
import Derived.Laws.IdiomStrings
set_option linter.unusedSimpArgs false
set_option linter.unusedVariables false
namespace Go.Q
open Go
def appB (P:Program) (T:Nat):Option (Nat × Nat):=
 match P.underlying T with
 |some (.slice E)=>match P.info? E with
  |some i=>match i.zero with
   |some z=>if z.cells.size=i.size∧i.bytes≠0∧i.size≠0∧i.size≤i.bytes then some (i.size,i.bytes)else none
   |none=>none
  |none=>none
 |_=>none
theorem TApp.of {P:Program} {T sz bytes:Nat} (h:appB P T=some (sz,bytes)):TApp P T sz bytes:=⟨by
 unfold appB at h
 split at h
 ·rename_i E hu
  split at h
  ·rename_i i hi
   split at h
   ·rename_i z hz
    split at h
    ·rename_i hc
     simp only[Option.some.injEq,Prod.mk.injEq]at h
     obtain⟨rfl,rfl⟩:=h
     exact⟨E,i,z,hu,hi,rfl,rfl,hz,hc.1,hc.2.1,hc.2.2⟩
    ·cases h
   ·cases h
  ·cases h
 ·cases h⟩
def structB (P:Program) (T:Nat):Bool:=
 match P.underlying T with
 |some (.struct fs)=>fs.all fun f=>(P.info? f.type).isSome
 |_=>false
theorem TStruct.of {P:Program} {T:Nat} (h:structB P T=true):TStruct P T:=⟨by
 unfold structB at h
 split at h
 ·rename_i fs hu
  refine⟨fs,hu,fun f hf=>?_⟩
  have:=Array.all_eq_true'.1 h f hf
  exact Option.isSome_iff_exists.1 this
 ·cases h⟩
def fldsB (P:Program) (S k:Nat):Option (Nat × Nat):=
 match P.underlying S with
 |some (.struct fs)=>match fs[k]? with
  |some f=>match P.info? f.type with
   |some i=>some (f.offset,i.size)
   |none=>none
  |none=>none
 |_=>none
theorem TFldS.of {P:Program} {S k off sz:Nat} (h:fldsB P S k=some (off,sz)):TFldS P S k off sz:=⟨by
 unfold fldsB at h
 split at h
 ·rename_i fs hu
  split at h
  ·rename_i f hf
   split at h
   ·rename_i i hi
    simp only[Option.some.injEq,Prod.mk.injEq]at h
    exact⟨fs,f,i,hu,hf,h.1,hi,h.2⟩
   ·cases h
  ·cases h
 ·cases h⟩
def zval:PV→Option Value
 | .raw v=>some v
 | .slice [] .ro=>some (.slice none 0 0)
 | .str []=>some (.string ⟨#[]⟩)
 |_=>none
theorem zval_vr {x:PV} {v:Value} (h:zval x=some v) (g:Gh):VR g v x:=by
 unfold zval at h
 split at h
 ·cases h;exact .raw _
 ·cases h;exact .nilR
 ·cases h;exact .str (Nat.zero_le _)
 ·cases h
theorem ZeroE.of {P:Program} {T:Nat} {z:List PV} {us:List Value} (h:((P.info? T).bind (·.zero)).map (·.cells.toList)=some us) (hz:z.map zval=us.map some):ZeroE P T z:=⟨by
 obtain⟨v,h1,h2⟩:=Option.map_eq_some_iff.1 h
 obtain⟨i,h3,h4⟩:=Option.bind_eq_some_iff.1 h1
 have hl:z.length=us.length:=by simpa using congrArg List.length hz
 refine⟨i,v,us,h3,h4,by rw[←h2],fun g=>⟨hl.symm,fun i h5 h6=>zval_vr ?_ g⟩⟩
 have:=congrArg (fun l=>l[i]?) hz
 simp only[List.getElem?_map,List.getElem?_eq_getElem h5,List.getElem?_eq_getElem h6,Option.map_some]at this
 exact Option.some.inj this⟩
section
variable {P:Program} {N:Nat} {all:Array Oper} {K:Env→List Res→Prop} {fl:List Bool} {os:List Oper} {ρ:Env} {L:List Res}
variable {d:Nat} {ty:TypeId} {pos:String} {af:Array Edge}
theorem q_bin {op:BinOp} {T T':TypeId} {x y:Operand} {a b v:Value} {r:PV} (hx: ∀ g u,VR g u (ρ.ev x)→u=a) (hy: ∀ g u,VR g u (ρ.ev y)→u=b) (hg: ∀ w,(eqGuard op T x y a b).run P w= .ok () w)
  (hr: ∀ w,(binOp op T a b).run P w= .ok v w) (hv: ∀ g,VR g v r) (k:pops P N all K fl.tail os (upd ρ d r) L) (hd:Nat.blt d N=true:=by rfl):
  pops P N all K fl (⟨some d,.binOp op T x y T',ty,pos,af,none⟩::os) ρ L:=
 step_q hd (qop_of_run fun a' w g ha hi=>⟨v,by
  have h1:=hx g _ (ha x (by simp[Op.operands]))
  have h2:=hy g _ (ha y (by simp[Op.operands]))
  simp only[execOp,h1,h2,Sem.run_bind,hg,Result.andThen_ok,hr,Sem.run_pure],hv g⟩) k
theorem s_bin {op:BinOp} {T T':TypeId} {x y:Operand} {a b v:Value} (hx:ρ.ev x= .raw a) (hy:ρ.ev y= .raw b) (hg: ∀ w,(eqGuard op T x y a b).run P w= .ok () w)
  (hr: ∀ w,(binOp op T a b).run P w= .ok v w) (k:pops P N all K fl.tail os (upd ρ d (.raw v)) L) (hd:Nat.blt d N=true:=by rfl):
  pops P N all K fl (⟨some d,.binOp op T x y T',ty,pos,af,none⟩::os) ρ L:=
 q_bin (fun g u h=>by rw[hx]at h;exact h.raw_inv) (fun g u h=>by rw[hy]at h;exact h.raw_inv) hg hr (fun g=> .raw v) k hd
theorem s_cat {T T':TypeId} {x y:Operand} {s t:Str} {ax ay:PV} (hx:ρ.ev x=ax) [jx:IsStr ax s] (hy:ρ.ev y=ay) [jy:IsStr ay t] (hl:s.length+t.length≤140737488355328) (k:pops P N all K fl.tail os (upd ρ d (.str (s++t))) L) (hd:Nat.blt d N=true:=by rfl):
  pops P N all K fl (⟨some d,.binOp .add T x y T',ty,pos,af,none⟩::os) ρ L:=
 q_bin (v:= .string (sB (s++t))) (hx ▸ jx.out) (hy ▸ jy.out) (fun w=>by unfold eqGuard;rfl) (fun w=>by
  rw[binOp_string_add,Op.stringOp]
  have: ¬(((sB s).size+(sB t).size:Nat):Int) > IntKind.i64.max:=by
   have e:IntKind.i64.max=9223372036854775807:=by decide
   rw[e,sB_size,sB_size];omega
  simp only[this,if_false,Sem.run_pure]
  congr 3) (fun g=> .str (by rw[List.length_append];exact hl)) k hd
theorem beq_dec (s t:Str):(s==t)=decide (s=t):=by
 by_cases h:s=t<;>simp[h]
theorem s_eqS {T T':TypeId} [hT:TStr P T] {x y:Operand} {s t:Str} {ax ay:PV} (hx:ρ.ev x=ax) [jx:IsStr ax s] (hy:ρ.ev y=ay) [jy:IsStr ay t] (k:pops P N all K fl.tail os (upd ρ d (.raw (.bool (decide (s=t))))) L) (hd:Nat.blt d N=true:=by rfl):
  pops P N all K fl (⟨some d,.binOp .eql T x y T',ty,pos,af,none⟩::os) ρ L:=
 q_bin (hx ▸ jx.out) (hy ▸ jy.out) (fun w=>by unfold eqGuard;rfl) (fun w=>by rw[binOp_string_eql,sB_toList,sB_toList,Sem.run_pure,beq_dec]) (fun g=> .raw _) k hd
theorem s_neS {T T':TypeId} [hT:TStr P T] {x y:Operand} {s t:Str} {ax ay:PV} (hx:ρ.ev x=ax) [jx:IsStr ax s] (hy:ρ.ev y=ay) [jy:IsStr ay t] (k:pops P N all K fl.tail os (upd ρ d (.raw (.bool (!decide (s=t))))) L) (hd:Nat.blt d N=true:=by rfl):
  pops P N all K fl (⟨some d,.binOp .neq T x y T',ty,pos,af,none⟩::os) ρ L:=
 q_bin (hx ▸ jx.out) (hy ▸ jy.out) (fun w=>by unfold eqGuard;rfl) (fun w=>by rw[binOp_string_neq,sB_toList,sB_toList,Sem.run_pure,beq_dec]) (fun g=> .raw _) k hd
theorem s_lenS {T:TypeId} [hT:TStr P T] {x:Operand} {s:Str} {ax:PV} (hx:ρ.ev x=ax) [jx:IsStr ax s] (k:pops P N all K fl.tail os (upd ρ d (.raw (.int .i64 s.length))) L) (hd:Nat.blt d N=true:=by rfl):
  pops P N all K fl (⟨some d,.call { callee:= .builtin .len,args:= #[x],argTypes:= #[T] },ty,pos,af,none⟩::os) ρ L:=
 step_q hd (qop_of_run fun a w g ha hi=>⟨.int .i64 s.length,by
  have h1:=jx.out g _ (hx ▸ ha x (by simp[Op.operands,Call.operands]))
  have he:execOp a.eval ⟨some d,.call { callee:= .builtin .len,args:= #[x],argTypes:= #[T] },ty,pos,af,none⟩=(do pure (.value (←Builtin.len_ #[T] ty (#[x].map a.eval)))):=rfl
  rw[he]
  simp[Builtin.len_,h1,run_und hT.out,goInt],.raw _⟩) k
theorem s_indexS {T:TypeId} [hT:TStr P T] {x y:Operand} {s:Str} {ax:PV} {kk:IntKind} {n:Nat} (hx:ρ.ev x=ax) [jx:IsStr ax s] (hy:ρ.ev y= .raw (.int kk (n:Int))) (hn:n < s.length) (k:pops P N all K fl.tail os (upd ρ d (.raw (.int .u8 (s[n].toNat:Int)))) L) (hd:Nat.blt d N=true:=by rfl):
  pops P N all K fl (⟨some d,.index T x y,ty,pos,af,none⟩::os) ρ L:=
 step_q hd (qop_of_run fun a w g ha hi=>⟨_,by
  have h1:=jx.out g _ (hx ▸ ha x (by simp[Op.operands]))
  have h2:=evRaw ha (x:=y) (by simp[Op.operands]) hy
  show(do pure (Next.value (←Instr.index T (a.eval x) (a.eval y))):Sem Next).run P w=_
  rw[h1,h2,Sem.run_bind,run_index_string (h:=hT.out),dif_pos ⟨by omega,by rw[sB_size];omega⟩]
  rfl,by
  have e:(sB s)[(n:Int).toNat]'(by rw[sB_size];omega)=s[n]:=by
   simp only[Int.toNat_natCast]
   show(sB s).data[n]'(by simpa [sB]using hn)=_
   simp[sB]
  rw[e];exact .raw _⟩) k
theorem s_cutS {T:TypeId} [hT:TStr P T] {x y z:Operand} {s:Str} {ax:PV} {k₁ k₂:IntKind} {i j:Nat} (hx:ρ.ev x=ax) [jx:IsStr ax s] (hy:ρ.ev y= .raw (.int k₁ (i:Int))) (hz:ρ.ev z= .raw (.int k₂ (j:Int))) (hij:i≤j) (hj:j≤s.length) (hS:s.length≤140737488355328)
  (k:pops P N all K fl.tail os (upd ρ d (.str ((s.drop i).take (j - i)))) L) (hd:Nat.blt d N=true:=by rfl):
  pops P N all K fl (⟨some d,.slice T x (some y) (some z) none,ty,pos,af,none⟩::os) ρ L:=
 step_q hd (qop_of_run fun a w g ha hi=>⟨_,by
  have h1:=jx.out g _ (hx ▸ ha x (by simp[Op.operands]))
  have h2:=evRaw ha (x:=y) (by simp[Op.operands]) hy
  have h3:=evRaw ha (x:=z) (by simp[Op.operands]) hz
  show(do pure (Next.value (←Instr.sliceAt T (a.eval x) (some (a.eval y)) (some (a.eval z)) none)):Sem Next).run P w=_
  have hb:(Instr.sliceBounds false (sB s).size (sB s).size (some (a.eval y)) (some (a.eval z)) none).run P w= .ok (i,j,(sB s).size) w:=by
   unfold Instr.sliceBounds
   simp[h2,h3,Instr.sliceBound,asIntOf]
   rw[if_pos (by omega)]
   simp
   omega
  rw[Sem.run_bind]
  simp only[Instr.sliceAt,Sem.run_bind,run_underlying hT.out,Result.andThen_ok,Instr.slice,h1,Option.isSome_none,Bool.false_eq_true,if_false,hb,Sem.run_pure]
  rfl,by
  have e:(sB s).extract i j=sB ((s.drop i).take (j - i)):=by
   apply ByteArray.ext
   simp[sB,List.extract_eq_take_drop]
  rw[e];exact .str (by simp only[List.length_take,List.length_drop];show _≤140737488355328;omega)⟩) k
theorem s_cutSL {T:TypeId} [hT:TStr P T] {x y:Operand} {s:Str} {ax:PV} {k₁:IntKind} {i:Nat} (hx:ρ.ev x=ax) [jx:IsStr ax s] (hy:ρ.ev y= .raw (.int k₁ (i:Int))) (hi:i≤s.length) (hS:s.length≤140737488355328)
  (k:pops P N all K fl.tail os (upd ρ d (.str (s.drop i))) L) (hd:Nat.blt d N=true:=by rfl):
  pops P N all K fl (⟨some d,.slice T x (some y) none none,ty,pos,af,none⟩::os) ρ L:=
 step_q hd (qop_of_run fun a w g ha hi'=>⟨_,by
  have h1:=jx.out g _ (hx ▸ ha x (by simp[Op.operands]))
  have h2:=evRaw ha (x:=y) (by simp[Op.operands]) hy
  show(do pure (Next.value (←Instr.sliceAt T (a.eval x) (some (a.eval y)) none none)):Sem Next).run P w=_
  have hb:(Instr.sliceBounds false (sB s).size (sB s).size (some (a.eval y)) none none).run P w= .ok (i,s.length,(sB s).size) w:=by
   unfold Instr.sliceBounds
   simp[h2,Instr.sliceBound,asIntOf]
   omega
  rw[Sem.run_bind]
  simp only[Instr.sliceAt,Sem.run_bind,run_underlying hT.out,Result.andThen_ok,Instr.slice,h1,Option.isSome_none,Bool.false_eq_true,if_false,hb,Sem.run_pure]
  rfl,by
  have e:(sB s).extract i s.length=sB (s.drop i):=by
   apply ByteArray.ext
   simp[sB,List.extract_eq_take_drop]
   rw[List.take_of_length_le (by simp)]
  rw[e];exact .str (by simp only[List.length_drop];show _≤140737488355328;omega)⟩) k
theorem s_conv {S T:TypeId} {k' kT:IntKind} [hS:TInt P S k'] [hT:TInt P T kT] {x:Operand} {k₀:IntKind} {n:Int} (hx:ρ.ev x= .raw (.int k₀ n)) (k:pops P N all K fl.tail os (upd ρ d (.raw (.int kT (kT.wrap n)))) L) (hd:Nat.blt d N=true:=by rfl):
  pops P N all K fl (⟨some d,.convert S T x,ty,pos,af,none⟩::os) ρ L:=
 step_q hd (qop_of_run fun a w g ha hi=>⟨_,by
  have h1:=evRaw ha (x:=x) (by simp[Op.operands]) hx
  show(do pure (Next.value (←convert S T (a.eval x))):Sem Next).run P w=_
  simp only[convert,Sem.run_bind,run_underlying hS.out,run_underlying hT.out,Result.andThen_ok,h1,Conv.intToInt,Sem.run_pure],.raw _⟩) k
theorem s_convI {S T:TypeId} {k' kT:IntKind} [hS:TInt P S k'] [hT:TInt P T kT] {x:Operand} {k₀:IntKind} {n:Int} (hx:ρ.ev x= .raw (.int k₀ n)) (hw:kT.wrap n=n) (k:pops P N all K fl.tail os (upd ρ d (.raw (.int kT n))) L) (hd:Nat.blt d N=true:=by rfl):
  pops P N all K fl (⟨some d,.convert S T x,ty,pos,af,none⟩::os) ρ L:=s_conv hx (by rw[hw];exact k) hd
theorem s_mul {T T':TypeId} {x y:Operand} {m n:Int} (hx:ρ.ev x= .raw (.int .i64 m)) (hy:ρ.ev y= .raw (.int .i64 n)) (hb: -9223372036854775808≤m*n∧m*n≤9223372036854775807) (k:pops P N all K fl.tail os (upd ρ d (.raw (.int .i64 (m*n)))) L) (hd:Nat.blt d N=true:=by rfl):
  pops P N all K fl (⟨some d,.binOp .mul T x y T',ty,pos,af,none⟩::os) ρ L:=s_int hx hy (fun w=>by simp[binOp,Op.intArith,IntWalk.i64_in _ hb]) k hd
theorem s_quo {T T':TypeId} {x y:Operand} {m n:Nat} (hx:ρ.ev x= .raw (.int .i64 (m:Int))) (hy:ρ.ev y= .raw (.int .i64 (n:Int))) (hn:n≠0) (hm:m≤9223372036854775807) (k:pops P N all K fl.tail os (upd ρ d (.raw (.int .i64 ((m / n:Nat):Int)))) L) (hd:Nat.blt d N=true:=by rfl):
  pops P N all K fl (⟨some d,.binOp .quo T x y T',ty,pos,af,none⟩::os) ρ L:=s_int hx hy (fun w=>by
   have h1:m / n≤m:=Nat.div_le_self m n
   have h2:((m:Int).tdiv n)=((m / n:Nat):Int):=(Int.ofNat_tdiv m n).symm
   have h3:(n:Int)≠0:=by omega
   simp only[binOp,ne_eq,not_true_eq_false,if_false,Op.intDiv,h3,h2]
   clear h2
   generalize m / n=q at*
   rw[IntWalk.i64_in _ (by constructor<;>omega)];rfl) k hd
theorem s_rem {T T':TypeId} {x y:Operand} {m n:Nat} (hx:ρ.ev x= .raw (.int .i64 (m:Int))) (hy:ρ.ev y= .raw (.int .i64 (n:Int))) (hn:n≠0) (k:pops P N all K fl.tail os (upd ρ d (.raw (.int .i64 ((m % n:Nat):Int)))) L) (hd:Nat.blt d N=true:=by rfl):
  pops P N all K fl (⟨some d,.binOp .rem T x y T',ty,pos,af,none⟩::os) ρ L:=s_int hx hy (fun w=>by
   have h2:((m:Int).tmod n)=((m % n:Nat):Int):=(Int.ofNat_tmod m n).symm
   have h3:(n:Int)≠0:=by omega
   simp only[binOp,ne_eq,not_true_eq_false,if_false,Op.intDiv,h3,h2];rfl) k hd
class TBool (P:Program) (T:Nat):Prop where
 out:P.underlying T=some .bool
theorem s_eqB {T T':TypeId} [hT:TBool P T] {x y:Operand} {a b:Bool} (hx:ρ.ev x= .raw (.bool a)) (hy:ρ.ev y= .raw (.bool b)) (k:pops P N all K fl.tail os (upd ρ d (.raw (.bool (decide (a=b))))) L) (hd:Nat.blt d N=true:=by rfl):
  pops P N all K fl (⟨some d,.binOp .eql T x y T',ty,pos,af,none⟩::os) ρ L:=
 s_bin hx hy (fun w=>by unfold eqGuard;simp[run_underlying hT.out]) (fun w=>by
  simp[binOp,Op.equal,Op.maxDepth,run_equalIn_bool w 9999 T a b hT.out];cases a<;>cases b<;>rfl) k hd
theorem s_max {T₁ T₂:TypeId} {x y:Operand} {m n:Int} (hx:ρ.ev x= .raw (.int .i64 m)) (hy:ρ.ev y= .raw (.int .i64 n)) (k:pops P N all K fl.tail os (upd ρ d (.raw (.int .i64 (max m n)))) L) (hd:Nat.blt d N=true:=by rfl):
  pops P N all K fl (⟨some d,.call { callee:= .builtin .max,args:= #[x,y],argTypes:= #[T₁,T₂] },ty,pos,af,none⟩::os) ρ L:=
 step_q hd (qop_of_run fun a w g ha hi=>⟨.int .i64 (max m n),by
  have h1:=evRaw ha (x:=x) (by simp[Op.operands,Call.operands]) hx
  have h2:=evRaw ha (x:=y) (by simp[Op.operands,Call.operands]) hy
  have he:execOp a.eval ⟨some d,.call { callee:= .builtin .max,args:= #[x,y],argTypes:= #[T₁,T₂] },ty,pos,af,none⟩=(do pure (.value (←Builtin.max_ #[T₁,T₂] ty (#[x,y].map a.eval)))):=rfl
  rw[he]
  simp[Builtin.max_,Builtin.max2,h1,h2];omega,.raw _⟩) k
theorem s_nilCheckP {x:Operand} {ad:Addr} (hx:ρ.ev x= .raw (.pointer (some ad))) (k:pops P N all K fl.tail os (upd ρ d (.raw (.pointer (some ad)))) L) (hd:Nat.blt d N=true:=by rfl):pops P N all K fl (⟨some d,.nilCheck x,ty,pos,af,none⟩::os) ρ L:=
 step_q hd (qop_of_run fun a w g ha hi=>⟨.pointer (some ad),by
  have h1:=evRaw ha (x:=x) (by simp[Op.operands]) hx
  simp[execOp,h1],.raw _⟩) k
class BoxAt (b:Nat) (L:List Res) (cs:outParam (List PV)):Prop where
 out: ∃ T,Res.box b T cs∈L
instance {b T:Nat} {cs:List PV} {L:List Res}:BoxAt b (.box b T cs::L) cs:=⟨T,by simp⟩
instance (priority:=low) {b:Nat} {cs:List PV} {r:Res} {L:List Res} [h:BoxAt b L cs]:BoxAt b (r::L) cs:=⟨by obtain⟨T,h⟩:=h.out;exact⟨T,List.mem_cons_of_mem _ h⟩⟩
class UpdC (b:Nat) (cs cs':List PV) (L:List Res) (L':outParam (List Res)):Prop where
 out:Upd b cs cs' L L'
instance {b T:Nat} {cs cs':List PV} {L:List Res}:UpdC b cs cs' (.box b T cs::L) (.box b T cs'::L):=⟨.here⟩
instance (priority:=low) {b:Nat} {cs cs':List PV} {r:Res} {L L':List Res} [h:UpdC b cs cs' L L']:UpdC b cs cs' (r::L) (r::L'):=⟨.there h.out⟩
theorem s_storeC {T:TypeId} {x y:Operand} {b off sz by_:Nat} {a:PV} {cs cs' new:List PV} {L':List Res} [hT:TSz P T sz by_]
  (hx:ρ.ev x= .raw (.pointer (some ⟨b,off,none⟩))) (hy:ρ.ev y=a) [hC:CellsC a new] [hB:BoxAt b L cs] [hp:Put cs off new cs'] [hu:UpdC b cs cs' L L'] [hf:Flat new] [hlen:LenIs new sz]
  (k:pops P N all K fl.tail os ρ L') (hfl:fl.headD true=true:=by rfl):pops P N all K fl (⟨none,.store T x y,ty,pos,af,none⟩::os) ρ L:=
 pops_n rfl (fun _ e=>by cases e) hfl (opN_store hx (hy ▸ hC.out) hlen.out hf.out hp.out.1 hp.out.2 hu.out k)
theorem s_storeX {T:TypeId} {x y:Operand} {b sz by_:Nat} {cs new:List PV} {L':List Res} [hT:TSz P T sz by_]
  (hx:ρ.ev x= .raw (.pointer (some ⟨b,0,none⟩))) (hy:ρ.ev y= .agg new) [hB:BoxAt b L cs] [hu:UpdC b cs new L L'] [hf:Flat new] [hlen:LenIs new sz] [hcs:LenIs cs sz]
  (k:pops P N all K fl.tail os ρ L') (hfl:fl.headD true=true:=by rfl):pops P N all K fl (⟨none,.store T x y,ty,pos,af,none⟩::os) ρ L:=s_storeW hx hy hu.out hlen.out hcs.out k hfl
theorem s_loadAL {T n:Nat} [hT:TAgg P T n] {x:Operand} {cs:List PV} (hx:ρ.ev x= .pt cs 0) [hl:LenIs cs n] (k:pops P N all K fl.tail os (upd ρ d (.agg cs)) L) (hd:Nat.blt d N=true:=by rfl):
  pops P N all K fl (⟨some d,.load T x,ty,pos,af,none⟩::os) ρ L:=s_loadA0 hx hl.out k hd
theorem s_loadBL {T n:Nat} [hT:TAgg P T n] {x:Operand} {b T':Nat} {cs:List PV} (hx:ρ.ev x= .raw (.pointer (some ⟨b,0,none⟩))) (hm:Res.box b T' cs∈L) [hl:LenIs cs n] (k:pops P N all K fl.tail os (upd ρ d (.agg cs)) L) (hd:Nat.blt d N=true:=by rfl):
  pops P N all K fl (⟨some d,.load T x,ty,pos,af,none⟩::os) ρ L:=s_loadBA0 hx hm hl.out k hd
theorem s_fldBq {S f off' q:Nat} [hF:TFld P S f off'] {x:Operand} {b off:Nat} (hx:ρ.ev x= .raw (.pointer (some ⟨b,off,none⟩))) (hq:off+off'=q) (k:pops P N all K fl.tail os (upd ρ d (.raw (.pointer (some ⟨b,q,none⟩)))) L) (hd:Nat.blt d N=true:=by rfl):
  pops P N all K fl (⟨some d,.fieldAddr S x f,ty,pos,af,none⟩::os) ρ L:=s_fldB hx (by rw[hq];exact k) hd
theorem s_bs0 {T sz by_:Nat} [hE:TApp P T sz by_] (k:pops P N all K fl.tail os (upd ρ d (.slice [] .nil)) L) (hd:Nat.blt d N=true:=by rfl):pops P N all K fl (⟨some d,.buildSlice T 0 #[],ty,pos,af,none⟩::os) ρ L:=
 step_q hd (by
  intro a w g ha hi
  obtain⟨E,i,z,t1,t2,t3,t4,t5,t6,t7,t8⟩:=hE.out
  obtain⟨j1,j2,j3⟩:=hi.lay [] E
  have hr:(execOp a.eval ⟨some d,.buildSlice T 0 #[],ty,pos,af,none⟩).run P w= .ok (.value (.slice (some ⟨w.heap.size,0,none⟩) 0 0)) { w with heap:=w.heap.push (.cells [].toArray E (0,0)) }:=by
   show(do pure (Next.value (←Instr.buildSlice T 0 ((#[]:Array (Nat × Operand)).map fun(p:Nat × Operand)=>(p.1,a.eval p.2)))):Sem Next).run P w=_
   have hzv:(zeroValue E).run P w= .ok z w:=by simp[zeroValue,typeInfo,t2,t5]
   simp only[Instr.buildSlice,Sem.run_bind,run_underlying t1,Result.andThen_ok,sizeOf,typeInfo,run_program,t2,Sem.run_pure,t3]
   rw[if_neg (by simp)]
   split
   ·simp[Instr.fill,newRow];congr 2;apply Array.eq_empty_of_size_eq_zero;simp
   ·simp[hzv,Instr.fill,newRow];congr 2;apply Array.eq_empty_of_size_eq_zero;simp
  refine Oper.wq_of_run hr ?_
  exact⟨_,.slice [] .nil,_,L,rfl,.nilN _ (by simp),j1,j2,.refl _ _,rfl,rfl⟩) k
theorem s_build0 {T:Nat} {z:List PV} [hS:TStruct P T] [hZ:ZeroE P T z] (k:pops P N all K fl.tail os (upd ρ d (.agg z)) L) (hd:Nat.blt d N=true:=by rfl):pops P N all K fl (⟨some d,.build T #[],ty,pos,af,none⟩::os) ρ L:=
 step_q hd (qop_build (ps:= []) rfl (by simp) .nil) k
theorem s_le {op:Op} {x y:PV} (hl:Le x y) (hq:QOp P ⟨some d,op,ty,pos,af,none⟩ ρ L x) (k:pops P N all K fl.tail os (upd ρ d y) L) (hd:Nat.blt d N=true:=by rfl):pops P N all K fl (⟨some d,op,ty,pos,af,none⟩::os) ρ L:=
 step_q hd (fun a w g ha hi=>(hq a w g ha hi).mono fun _ _ ⟨v,x',g',L',h1,h2,h3,h4,h5,h6,h7⟩=>⟨v,y,g',L',h1,hl _ _ (h6 ▸ h2),h3,h4,h5,rfl,h7⟩) k
theorem s_moveN {x:Operand} {a b:PV} (ha:ρ.ev x=a) [hn:Norm a b] (k:pops P N all K fl.tail os (upd ρ d b) L) (hd:Nat.blt d N=true:=by rfl):pops P N all K fl (⟨some d,.move x,ty,pos,af,none⟩::os) ρ L:=
 s_le hn.out (qop_of_run fun a' w g ha' hi=>⟨a'.eval x,rfl,ha ▸ ha' x (by simp[Op.operands])⟩) k hd
theorem s_assignN {x:Operand} {a b:PV} (ha:ρ.ev x=a) [hn:Norm a b] (k:pops P N all K fl.tail os (upd ρ d b) L) (hd:Nat.blt d N=true:=by rfl):pops P N all K fl (⟨some d,.assign x,ty,pos,af,none⟩::os) ρ L:=
 s_le hn.out (qop_of_run fun a' w g ha' hi=>⟨a'.eval x,rfl,ha ▸ ha' x (by simp[Op.operands])⟩) k hd
theorem fn_args {f:FuncId} {as bs:List PV} {X:PV} (hl:as.length=bs.length) (h: ∀ i (h1:i < as.length) (h2:i < bs.length),Le as[i] bs[i]) (hc:Fn P f bs X):Fn P f as X:=fun vs w g LF hv hi=>
 hc vs w g LF ⟨hv.len.trans hl,fun i h1 h2=>h i (by omega) h2 g _ (hv.at_ i h1 (by omega))⟩ hi
theorem b_build1 {T f0 o0 s0:Nat} {x0:Operand} {a0:PV} {z c0 r0:List PV} [hS:TStruct P T] [hZ:ZeroE P T z] [hF0:TFldS P T f0 o0 s0] (h0:ρ.ev x0=a0) [hC0:CellsC a0 c0] [hP0:Put z o0 c0 r0] [hl0:LenIs c0 s0]
  (k:pops P N all K fl.tail os (upd ρ d (.agg r0)) L) (hd:Nat.blt d N=true:=by rfl):pops P N all K fl (⟨some d,.build T #[(f0,x0)],ty,pos,af,none⟩::os) ρ L:=
 s_build1 (h0 ▸ hC0.out) hl0.out k hd
theorem b_build2 {T f0 f1 o0 o1 s0 s1:Nat} {x0 x1:Operand} {a0 a1:PV} {z c0 c1 r0 r1:List PV} [hS:TStruct P T] [hZ:ZeroE P T z] [hF0:TFldS P T f0 o0 s0] [hF1:TFldS P T f1 o1 s1] (h0:ρ.ev x0=a0) (h1:ρ.ev x1=a1) [hC0:CellsC a0 c0] [hC1:CellsC a1 c1] [hP0:Put z o0 c0 r0] [hP1:Put r0 o1 c1 r1] [hl0:LenIs c0 s0] [hl1:LenIs c1 s1]
  (k:pops P N all K fl.tail os (upd ρ d (.agg r1)) L) (hd:Nat.blt d N=true:=by rfl):pops P N all K fl (⟨some d,.build T #[(f0,x0),(f1,x1)],ty,pos,af,none⟩::os) ρ L:=
 s_build2 (h0 ▸ hC0.out) (h1 ▸ hC1.out) hl0.out hl1.out k hd
theorem b_build3 {T f0 f1 f2 o0 o1 o2 s0 s1 s2:Nat} {x0 x1 x2:Operand} {a0 a1 a2:PV} {z c0 c1 c2 r0 r1 r2:List PV} [hS:TStruct P T] [hZ:ZeroE P T z] [hF0:TFldS P T f0 o0 s0] [hF1:TFldS P T f1 o1 s1] [hF2:TFldS P T f2 o2 s2] (h0:ρ.ev x0=a0) (h1:ρ.ev x1=a1) (h2:ρ.ev x2=a2) [hC0:CellsC a0 c0] [hC1:CellsC a1 c1] [hC2:CellsC a2 c2] [hP0:Put z o0 c0 r0] [hP1:Put r0 o1 c1 r1] [hP2:Put r1 o2 c2 r2] [hl0:LenIs c0 s0] [hl1:LenIs c1 s1] [hl2:LenIs c2 s2]
  (k:pops P N all K fl.tail os (upd ρ d (.agg r2)) L) (hd:Nat.blt d N=true:=by rfl):pops P N all K fl (⟨some d,.build T #[(f0,x0),(f1,x1),(f2,x2)],ty,pos,af,none⟩::os) ρ L:=
 s_build3 (h0 ▸ hC0.out) (h1 ▸ hC1.out) (h2 ▸ hC2.out) hl0.out hl1.out hl2.out k hd
theorem b_build4 {T f0 f1 f2 f3 o0 o1 o2 o3 s0 s1 s2 s3:Nat} {x0 x1 x2 x3:Operand} {a0 a1 a2 a3:PV} {z c0 c1 c2 c3 r0 r1 r2 r3:List PV} [hS:TStruct P T] [hZ:ZeroE P T z] [hF0:TFldS P T f0 o0 s0] [hF1:TFldS P T f1 o1 s1] [hF2:TFldS P T f2 o2 s2] [hF3:TFldS P T f3 o3 s3] (h0:ρ.ev x0=a0) (h1:ρ.ev x1=a1) (h2:ρ.ev x2=a2) (h3:ρ.ev x3=a3) [hC0:CellsC a0 c0] [hC1:CellsC a1 c1] [hC2:CellsC a2 c2] [hC3:CellsC a3 c3] [hP0:Put z o0 c0 r0] [hP1:Put r0 o1 c1 r1] [hP2:Put r1 o2 c2 r2] [hP3:Put r2 o3 c3 r3] [hl0:LenIs c0 s0] [hl1:LenIs c1 s1] [hl2:LenIs c2 s2] [hl3:LenIs c3 s3]
  (k:pops P N all K fl.tail os (upd ρ d (.agg r3)) L) (hd:Nat.blt d N=true:=by rfl):pops P N all K fl (⟨some d,.build T #[(f0,x0),(f1,x1),(f2,x2),(f3,x3)],ty,pos,af,none⟩::os) ρ L:=
 s_build4 (h0 ▸ hC0.out) (h1 ▸ hC1.out) (h2 ▸ hC2.out) (h3 ▸ hC3.out) hl0.out hl1.out hl2.out hl3.out k hd
theorem b_build5 {T f0 f1 f2 f3 f4 o0 o1 o2 o3 o4 s0 s1 s2 s3 s4:Nat} {x0 x1 x2 x3 x4:Operand} {a0 a1 a2 a3 a4:PV} {z c0 c1 c2 c3 c4 r0 r1 r2 r3 r4:List PV} [hS:TStruct P T] [hZ:ZeroE P T z] [hF0:TFldS P T f0 o0 s0] [hF1:TFldS P T f1 o1 s1] [hF2:TFldS P T f2 o2 s2] [hF3:TFldS P T f3 o3 s3] [hF4:TFldS P T f4 o4 s4] (h0:ρ.ev x0=a0) (h1:ρ.ev x1=a1) (h2:ρ.ev x2=a2) (h3:ρ.ev x3=a3) (h4:ρ.ev x4=a4) [hC0:CellsC a0 c0] [hC1:CellsC a1 c1] [hC2:CellsC a2 c2] [hC3:CellsC a3 c3] [hC4:CellsC a4 c4] [hP0:Put z o0 c0 r0] [hP1:Put r0 o1 c1 r1] [hP2:Put r1 o2 c2 r2] [hP3:Put r2 o3 c3 r3] [hP4:Put r3 o4 c4 r4] [hl0:LenIs c0 s0] [hl1:LenIs c1 s1] [hl2:LenIs c2 s2] [hl3:LenIs c3 s3] [hl4:LenIs c4 s4]
  (k:pops P N all K fl.tail os (upd ρ d (.agg r4)) L) (hd:Nat.blt d N=true:=by rfl):pops P N all K fl (⟨some d,.build T #[(f0,x0),(f1,x1),(f2,x2),(f3,x3),(f4,x4)],ty,pos,af,none⟩::os) ρ L:=
 s_build5 (h0 ▸ hC0.out) (h1 ▸ hC1.out) (h2 ▸ hC2.out) (h3 ▸ hC3.out) (h4 ▸ hC4.out) hl0.out hl1.out hl2.out hl3.out hl4.out k hd
theorem b_build6 {T f0 f1 f2 f3 f4 f5 o0 o1 o2 o3 o4 o5 s0 s1 s2 s3 s4 s5:Nat} {x0 x1 x2 x3 x4 x5:Operand} {a0 a1 a2 a3 a4 a5:PV} {z c0 c1 c2 c3 c4 c5 r0 r1 r2 r3 r4 r5:List PV} [hS:TStruct P T] [hZ:ZeroE P T z] [hF0:TFldS P T f0 o0 s0] [hF1:TFldS P T f1 o1 s1] [hF2:TFldS P T f2 o2 s2] [hF3:TFldS P T f3 o3 s3] [hF4:TFldS P T f4 o4 s4] [hF5:TFldS P T f5 o5 s5] (h0:ρ.ev x0=a0) (h1:ρ.ev x1=a1) (h2:ρ.ev x2=a2) (h3:ρ.ev x3=a3) (h4:ρ.ev x4=a4) (h5:ρ.ev x5=a5) [hC0:CellsC a0 c0] [hC1:CellsC a1 c1] [hC2:CellsC a2 c2] [hC3:CellsC a3 c3] [hC4:CellsC a4 c4] [hC5:CellsC a5 c5] [hP0:Put z o0 c0 r0] [hP1:Put r0 o1 c1 r1] [hP2:Put r1 o2 c2 r2] [hP3:Put r2 o3 c3 r3] [hP4:Put r3 o4 c4 r4] [hP5:Put r4 o5 c5 r5] [hl0:LenIs c0 s0] [hl1:LenIs c1 s1] [hl2:LenIs c2 s2] [hl3:LenIs c3 s3] [hl4:LenIs c4 s4] [hl5:LenIs c5 s5]
  (k:pops P N all K fl.tail os (upd ρ d (.agg r5)) L) (hd:Nat.blt d N=true:=by rfl):pops P N all K fl (⟨some d,.build T #[(f0,x0),(f1,x1),(f2,x2),(f3,x3),(f4,x4),(f5,x5)],ty,pos,af,none⟩::os) ρ L:=
 s_build6 (h0 ▸ hC0.out) (h1 ▸ hC1.out) (h2 ▸ hC2.out) (h3 ▸ hC3.out) (h4 ▸ hC4.out) (h5 ▸ hC5.out) hl0.out hl1.out hl2.out hl3.out hl4.out hl5.out k hd
theorem s_bs1 {T sz by_:Nat} [hE:TApp P T sz by_] {x0:Operand} {a0:PV} {α:Type} {f:α→List PV} {e0:α} (q0:ρ.ev x0=a0) [hC0:EncC a0 f e0] [hf:Len f sz] (h24:1*sz≤16777216)
  (k:pops P N all K fl.tail os (upd ρ d (.slice ([e0].map f) .ro)) L) (hd:Nat.blt d N=true:=by rfl):pops P N all K fl (⟨some d,.buildSlice T 1 #[(0,x0)],ty,pos,af,none⟩::os) ρ L:=
 step_q hd (qop_bs (xs:= [x0]) (cs:= [e0].map f) rfl rfl h24 (by decide) (fun i h1 h2=>by
  match i,h1,h2 with
  |0,_,_=>exact⟨q0 ▸ hC0.out,hf.out e0⟩
  |m+1,h1,_=>exact absurd h1 (by simp only[List.length_cons,List.length_nil];omega))) k
theorem s_bs2 {T sz by_:Nat} [hE:TApp P T sz by_] {x0 x1:Operand} {a0 a1:PV} {α:Type} {f:α→List PV} {e0 e1:α} (q0:ρ.ev x0=a0) (q1:ρ.ev x1=a1) [hC0:EncC a0 f e0] [hC1:EncC a1 f e1] [hf:Len f sz] (h24:2*sz≤16777216)
  (k:pops P N all K fl.tail os (upd ρ d (.slice ([e0,e1].map f) .ro)) L) (hd:Nat.blt d N=true:=by rfl):pops P N all K fl (⟨some d,.buildSlice T 2 #[(0,x0),(1,x1)],ty,pos,af,none⟩::os) ρ L:=
 step_q hd (qop_bs (xs:= [x0,x1]) (cs:= [e0,e1].map f) rfl rfl h24 (by decide) (fun i h1 h2=>by
  match i,h1,h2 with
  |0,_,_=>exact⟨q0 ▸ hC0.out,hf.out e0⟩
  |1,_,_=>exact⟨q1 ▸ hC1.out,hf.out e1⟩
  |m+2,h1,_=>exact absurd h1 (by simp only[List.length_cons,List.length_nil];omega))) k
theorem s_bs3 {T sz by_:Nat} [hE:TApp P T sz by_] {x0 x1 x2:Operand} {a0 a1 a2:PV} {α:Type} {f:α→List PV} {e0 e1 e2:α} (q0:ρ.ev x0=a0) (q1:ρ.ev x1=a1) (q2:ρ.ev x2=a2) [hC0:EncC a0 f e0] [hC1:EncC a1 f e1] [hC2:EncC a2 f e2] [hf:Len f sz] (h24:3*sz≤16777216)
  (k:pops P N all K fl.tail os (upd ρ d (.slice ([e0,e1,e2].map f) .ro)) L) (hd:Nat.blt d N=true:=by rfl):pops P N all K fl (⟨some d,.buildSlice T 3 #[(0,x0),(1,x1),(2,x2)],ty,pos,af,none⟩::os) ρ L:=
 step_q hd (qop_bs (xs:= [x0,x1,x2]) (cs:= [e0,e1,e2].map f) rfl rfl h24 (by decide) (fun i h1 h2=>by
  match i,h1,h2 with
  |0,_,_=>exact⟨q0 ▸ hC0.out,hf.out e0⟩
  |1,_,_=>exact⟨q1 ▸ hC1.out,hf.out e1⟩
  |2,_,_=>exact⟨q2 ▸ hC2.out,hf.out e2⟩
  |m+3,h1,_=>exact absurd h1 (by simp only[List.length_cons,List.length_nil];omega))) k
theorem s_bs4 {T sz by_:Nat} [hE:TApp P T sz by_] {x0 x1 x2 x3:Operand} {a0 a1 a2 a3:PV} {α:Type} {f:α→List PV} {e0 e1 e2 e3:α} (q0:ρ.ev x0=a0) (q1:ρ.ev x1=a1) (q2:ρ.ev x2=a2) (q3:ρ.ev x3=a3) [hC0:EncC a0 f e0] [hC1:EncC a1 f e1] [hC2:EncC a2 f e2] [hC3:EncC a3 f e3] [hf:Len f sz] (h24:4*sz≤16777216)
  (k:pops P N all K fl.tail os (upd ρ d (.slice ([e0,e1,e2,e3].map f) .ro)) L) (hd:Nat.blt d N=true:=by rfl):pops P N all K fl (⟨some d,.buildSlice T 4 #[(0,x0),(1,x1),(2,x2),(3,x3)],ty,pos,af,none⟩::os) ρ L:=
 step_q hd (qop_bs (xs:= [x0,x1,x2,x3]) (cs:= [e0,e1,e2,e3].map f) rfl rfl h24 (by decide) (fun i h1 h2=>by
  match i,h1,h2 with
  |0,_,_=>exact⟨q0 ▸ hC0.out,hf.out e0⟩
  |1,_,_=>exact⟨q1 ▸ hC1.out,hf.out e1⟩
  |2,_,_=>exact⟨q2 ▸ hC2.out,hf.out e2⟩
  |3,_,_=>exact⟨q3 ▸ hC3.out,hf.out e3⟩
  |m+4,h1,_=>exact absurd h1 (by simp only[List.length_cons,List.length_nil];omega))) k
theorem s_bs5 {T sz by_:Nat} [hE:TApp P T sz by_] {x0 x1 x2 x3 x4:Operand} {a0 a1 a2 a3 a4:PV} {α:Type} {f:α→List PV} {e0 e1 e2 e3 e4:α} (q0:ρ.ev x0=a0) (q1:ρ.ev x1=a1) (q2:ρ.ev x2=a2) (q3:ρ.ev x3=a3) (q4:ρ.ev x4=a4) [hC0:EncC a0 f e0] [hC1:EncC a1 f e1] [hC2:EncC a2 f e2] [hC3:EncC a3 f e3] [hC4:EncC a4 f e4] [hf:Len f sz] (h24:5*sz≤16777216)
  (k:pops P N all K fl.tail os (upd ρ d (.slice ([e0,e1,e2,e3,e4].map f) .ro)) L) (hd:Nat.blt d N=true:=by rfl):pops P N all K fl (⟨some d,.buildSlice T 5 #[(0,x0),(1,x1),(2,x2),(3,x3),(4,x4)],ty,pos,af,none⟩::os) ρ L:=
 step_q hd (qop_bs (xs:= [x0,x1,x2,x3,x4]) (cs:= [e0,e1,e2,e3,e4].map f) rfl rfl h24 (by decide) (fun i h1 h2=>by
  match i,h1,h2 with
  |0,_,_=>exact⟨q0 ▸ hC0.out,hf.out e0⟩
  |1,_,_=>exact⟨q1 ▸ hC1.out,hf.out e1⟩
  |2,_,_=>exact⟨q2 ▸ hC2.out,hf.out e2⟩
  |3,_,_=>exact⟨q3 ▸ hC3.out,hf.out e3⟩
  |4,_,_=>exact⟨q4 ▸ hC4.out,hf.out e4⟩
  |m+5,h1,_=>exact absurd h1 (by simp only[List.length_cons,List.length_nil];omega))) k
theorem s_bs6 {T sz by_:Nat} [hE:TApp P T sz by_] {x0 x1 x2 x3 x4 x5:Operand} {a0 a1 a2 a3 a4 a5:PV} {α:Type} {f:α→List PV} {e0 e1 e2 e3 e4 e5:α} (q0:ρ.ev x0=a0) (q1:ρ.ev x1=a1) (q2:ρ.ev x2=a2) (q3:ρ.ev x3=a3) (q4:ρ.ev x4=a4) (q5:ρ.ev x5=a5) [hC0:EncC a0 f e0] [hC1:EncC a1 f e1] [hC2:EncC a2 f e2] [hC3:EncC a3 f e3] [hC4:EncC a4 f e4] [hC5:EncC a5 f e5] [hf:Len f sz] (h24:6*sz≤16777216)
  (k:pops P N all K fl.tail os (upd ρ d (.slice ([e0,e1,e2,e3,e4,e5].map f) .ro)) L) (hd:Nat.blt d N=true:=by rfl):pops P N all K fl (⟨some d,.buildSlice T 6 #[(0,x0),(1,x1),(2,x2),(3,x3),(4,x4),(5,x5)],ty,pos,af,none⟩::os) ρ L:=
 step_q hd (qop_bs (xs:= [x0,x1,x2,x3,x4,x5]) (cs:= [e0,e1,e2,e3,e4,e5].map f) rfl rfl h24 (by decide) (fun i h1 h2=>by
  match i,h1,h2 with
  |0,_,_=>exact⟨q0 ▸ hC0.out,hf.out e0⟩
  |1,_,_=>exact⟨q1 ▸ hC1.out,hf.out e1⟩
  |2,_,_=>exact⟨q2 ▸ hC2.out,hf.out e2⟩
  |3,_,_=>exact⟨q3 ▸ hC3.out,hf.out e3⟩
  |4,_,_=>exact⟨q4 ▸ hC4.out,hf.out e4⟩
  |5,_,_=>exact⟨q5 ▸ hC5.out,hf.out e5⟩
  |m+6,h1,_=>exact absurd h1 (by simp only[List.length_cons,List.length_nil];omega))) k
theorem j_call0 {f:Nat} {X:PV} {ats:Array TypeId} [hf:TFun P f] [hc:FnC P f [] X] (k:pops P N all K fl.tail os (upd ρ d X) L) (hd:Nat.blt d N=true:=by rfl):
  pops P N all K fl (⟨some d,.call { callee:= .value (.func f),args:= #[],argTypes:=ats },ty,pos,af,none⟩::os) ρ L:=
 step_q hd (q_call (xs:= []) rfl hc.out) k
theorem j_call1 {f:Nat} {X:PV} {ats:Array TypeId} {x0:Operand} {a0 b0:PV} [hf:TFun P f] (q0:ρ.ev x0=a0) [hN0:Norm a0 b0] [hc:FnC P f [b0] X] (k:pops P N all K fl.tail os (upd ρ d X) L) (hd:Nat.blt d N=true:=by rfl):
  pops P N all K fl (⟨some d,.call { callee:= .value (.func f),args:= #[x0],argTypes:=ats },ty,pos,af,none⟩::os) ρ L:=
 step_q hd (q_call (xs:= [x0]) (by simp only[List.map_cons,List.map_nil,q0]) (fn_args (as:= [a0]) (bs:= [b0]) rfl (fun i h1 h2=>by
  match i,h1,h2 with
  |0,_,_=>exact hN0.out
  |m+1,h1,_=>exact absurd h1 (by simp only[List.length_cons,List.length_nil];omega)) hc.out)) k
theorem j_call2 {f:Nat} {X:PV} {ats:Array TypeId} {x0 x1:Operand} {a0 a1 b0 b1:PV} [hf:TFun P f] (q0:ρ.ev x0=a0) (q1:ρ.ev x1=a1) [hN0:Norm a0 b0] [hN1:Norm a1 b1] [hc:FnC P f [b0,b1] X] (k:pops P N all K fl.tail os (upd ρ d X) L) (hd:Nat.blt d N=true:=by rfl):
  pops P N all K fl (⟨some d,.call { callee:= .value (.func f),args:= #[x0,x1],argTypes:=ats },ty,pos,af,none⟩::os) ρ L:=
 step_q hd (q_call (xs:= [x0,x1]) (by simp only[List.map_cons,List.map_nil,q0,q1]) (fn_args (as:= [a0,a1]) (bs:= [b0,b1]) rfl (fun i h1 h2=>by
  match i,h1,h2 with
  |0,_,_=>exact hN0.out
  |1,_,_=>exact hN1.out
  |m+2,h1,_=>exact absurd h1 (by simp only[List.length_cons,List.length_nil];omega)) hc.out)) k
theorem j_call3 {f:Nat} {X:PV} {ats:Array TypeId} {x0 x1 x2:Operand} {a0 a1 a2 b0 b1 b2:PV} [hf:TFun P f] (q0:ρ.ev x0=a0) (q1:ρ.ev x1=a1) (q2:ρ.ev x2=a2) [hN0:Norm a0 b0] [hN1:Norm a1 b1] [hN2:Norm a2 b2] [hc:FnC P f [b0,b1,b2] X] (k:pops P N all K fl.tail os (upd ρ d X) L) (hd:Nat.blt d N=true:=by rfl):
  pops P N all K fl (⟨some d,.call { callee:= .value (.func f),args:= #[x0,x1,x2],argTypes:=ats },ty,pos,af,none⟩::os) ρ L:=
 step_q hd (q_call (xs:= [x0,x1,x2]) (by simp only[List.map_cons,List.map_nil,q0,q1,q2]) (fn_args (as:= [a0,a1,a2]) (bs:= [b0,b1,b2]) rfl (fun i h1 h2=>by
  match i,h1,h2 with
  |0,_,_=>exact hN0.out
  |1,_,_=>exact hN1.out
  |2,_,_=>exact hN2.out
  |m+3,h1,_=>exact absurd h1 (by simp only[List.length_cons,List.length_nil];omega)) hc.out)) k
theorem j_call4 {f:Nat} {X:PV} {ats:Array TypeId} {x0 x1 x2 x3:Operand} {a0 a1 a2 a3 b0 b1 b2 b3:PV} [hf:TFun P f] (q0:ρ.ev x0=a0) (q1:ρ.ev x1=a1) (q2:ρ.ev x2=a2) (q3:ρ.ev x3=a3) [hN0:Norm a0 b0] [hN1:Norm a1 b1] [hN2:Norm a2 b2] [hN3:Norm a3 b3] [hc:FnC P f [b0,b1,b2,b3] X] (k:pops P N all K fl.tail os (upd ρ d X) L) (hd:Nat.blt d N=true:=by rfl):
  pops P N all K fl (⟨some d,.call { callee:= .value (.func f),args:= #[x0,x1,x2,x3],argTypes:=ats },ty,pos,af,none⟩::os) ρ L:=
 step_q hd (q_call (xs:= [x0,x1,x2,x3]) (by simp only[List.map_cons,List.map_nil,q0,q1,q2,q3]) (fn_args (as:= [a0,a1,a2,a3]) (bs:= [b0,b1,b2,b3]) rfl (fun i h1 h2=>by
  match i,h1,h2 with
  |0,_,_=>exact hN0.out
  |1,_,_=>exact hN1.out
  |2,_,_=>exact hN2.out
  |3,_,_=>exact hN3.out
  |m+4,h1,_=>exact absurd h1 (by simp only[List.length_cons,List.length_nil];omega)) hc.out)) k
end
end Go.Q
namespace Go.Q
open Go
def Dig.at (d:Dig) (i:Nat):UInt8:=d.bs.getD i 0
theorem Dig.ext_at {a b:Dig} (h: ∀ i,i < 32→a.at i=b.at i):a=b:=Dig.ext (List.ext_getElem (by rw[a.len,b.len]) fun i h1 h2=>by
 have:=h i (by rw[←a.len];exact h1)
 simpa [Dig.at,h1,h2]using this)
section
variable {P:Program} {N:Nat} {all:Array Oper} {K:Env→List Res→Prop} {fl:List Bool} {os:List Oper} {ρ:Env} {L:List Res}
variable {d:Nat} {ty:TypeId} {pos:String} {af:Array Edge}
theorem s_indexB {T n E sz by_:Nat} [hT:TArr P T n E] [hE:TSz P E sz by_] {x y:Operand} {b off:Nat} {kk:IntKind} {i:Nat} (hx:ρ.ev x= .raw (.pointer (some ⟨b,off,none⟩))) (hy:ρ.ev y= .raw (.int kk (i:Int))) (hi:i < n)
  (k:pops P N all K fl.tail os (upd ρ d (.raw (.pointer (some ⟨b,off+i*sz,none⟩)))) L) (hd:Nat.blt d N=true:=by rfl):pops P N all K fl (⟨some d,.indexAddr T x y,ty,pos,af,none⟩::os) ρ L:=
 step_q hd (qop_of_run fun a w g ha hI=>by
  have h1:=evRaw ha (x:=x) (by simp[Op.operands]) hx
  have h2:=evRaw ha (x:=y) (by simp[Op.operands]) hy
  refine⟨.pointer (some ⟨b,off+i*sz,none⟩),?_,.raw _⟩
  have h3:(0:Int)≤(i:Int)∧(i:Int) < (n:Int):=by omega
  simp[execOp,Instr.indexAt,h1,h2,asIntOf,run_und hT.out,Instr.sureAddr,h3,TSz.run hE,add_plain];intro h4;omega) k
theorem s_indexZ {T:TypeId} {E sz by_:Nat} [hT:TSl P T E] [hE:TSz P E sz by_] {x y:Operand} {α:Type} {f:α→List PV} [hf:Len f sz] {l:List α} {t:Tag} {kk:IntKind} {n:Int} (hx:ρ.ev x= .slice (l.map f) t) (hy:ρ.ev y= .raw (.int kk n)) (h0:0≤n) (hn:n.toNat < l.length)
  (k:pops P N all K fl.tail os (upd ρ d (.pt (f l[n.toNat]) 0)) L) (hd:Nat.blt d N=true:=by rfl):
  pops P N all K fl (⟨some d,.indexAddr T x y,ty,pos,af,none⟩::os) ρ L:=
 s_index hx hy h0 (by simpa using hn) (by simp[hf.out]) (by simpa using k) hd
theorem s_loadD {T:Nat} [hT:TScal P T] {x:Operand} {b off i T':Nat} {dd:Dig} (hx:ρ.ev x= .raw (.pointer (some ⟨b,0+i*1,none⟩))) (hm:Res.box b T' (eDig dd)∈L) (hi:i < 32) (k:pops P N all K fl.tail os (upd ρ d (.raw (.int .u8 ((dd.at i).toNat:Int)))) L) (hd:Nat.blt d N=true:=by rfl) (_:off=0:=by rfl):
  pops P N all K fl (⟨some d,.load T x,ty,pos,af,none⟩::os) ρ L:=
 s_loadBS hx hm (by
  have h:i < dd.bs.length:=by rw[dd.len];exact hi
  simp[eDig,h,eU8,u8,Dig.at]) k hd
theorem s_buildA0 {T n E sz by_:Nat} {z:List PV} [hT:TArr P T n E] [hE:TSz P E sz by_] [hZ:ZeroE P T z] (k:pops P N all K fl.tail os (upd ρ d (.agg z)) L) (hd:Nat.blt d N=true:=by rfl):pops P N all K fl (⟨some d,.build T #[],ty,pos,af,none⟩::os) ρ L:=
 step_q hd (qop_of_run fun a w g ha hi=>by
  obtain⟨i,v,us,h1,h2,h3,h4⟩:=hZ.out
  refine⟨.agg us.toArray,?_,(h4 g).agg⟩
  show(do pure (Next.value (←Instr.build T ((#[]:Array (Nat × Operand)).map fun(p:Nat × Operand)=>(p.1,a.eval p.2)))):Sem Next).run P w=_
  simp only[Instr.build,Sem.run_bind,zeroValue,typeInfo,run_program,h1,Sem.run_pure,Result.andThen_ok,h2,run_underlying hT.out,TSz.run hE,h3]
  simp[Instr.fill]) k
theorem s_append0 {T T₂ E₂ sz bytes:Nat} [hT:TApp P T sz bytes] [hT₂:TSl P T₂ E₂] {x y:Operand} {α:Type} {f:α→List PV} [hf:Len f sz] [hff:FlatF f] {m:List α} {u:Tag}
  (hx:ρ.ev x= .slice [] .nil) (hy:ρ.ev y= .slice (m.map f) u) (hb:m.length*bytes≤140737488355328) (hm:m.length≤140737488355328)
  (k: ∀ t',pops P N all K fl.tail os (upd ρ d (.slice (m.map f) t')) (.tok t' m.length sz::L)) (hd:Nat.blt d N=true:=by rfl) (hfl:fl.headD true=true:=by rfl):
  pops P N all K fl (⟨some d,.call { callee:= .builtin .append,args:= #[x,y],argTypes:= #[T,T₂] },ty,pos,af,none⟩::os) ρ L:=
 pops_n rfl (dlt hd) hfl (fun a w g ha hi=>by
  have h:=opN_append (P:=P) (T:=T) (T₂:=T₂) (dst:=some d) (ty:=ty) (pos:=pos) (af:=af) (gd:=none) (ρ:=ρ) (L:= .tok .nil 0 sz::L) (L':=fun t'=> .tok t' ([].length+(m.map f).length) sz::L) (xs:= []) (t:= .nil) hx hy (by simp) (fun e he=>by obtain⟨a,_,rfl⟩:=List.mem_map.1 he;exact hf.out a) (fun e he=>by obtain⟨a,_,rfl⟩:=List.mem_map.1 he;exact hff.out a)
   (by simpa using hb) (by simp;exact hm) (fun t'=> .here) (Ψ:=fun x' L'=>pops P N all K fl.tail os (upd ρ d x') L') (fun t'=>by simpa using k t') a w g ha (hi.tok sz)
  exact h)
theorem pops_yesA {dst:Option Nat} {op:Op} {j:Nat} {b p:Bool} {s:Nat} (hs:(all[j]?).bind (·.dst)=some s) (h:ρ s= .raw (.bool p)) (hp:p=b) (k:pops P N all K fl (⟨dst,op,ty,pos,af,none⟩::os) ρ L):
  pops P N all K fl (⟨dst,op,ty,pos,af,some (j,b)⟩::os) ρ L:=pops_yes hs (hp ▸ h) k
theorem pops_noT {j:Nat} {op:Op} {p:Bool} {s:Nat} (hs:(all[j]?).bind (·.dst)=some s) (h:ρ s= .raw (.bool p)) (hp:p=false) (k:pops P N all K fl.tail os (upd ρ d (.raw undef)) L) (hd:Nat.blt d N=true:=by rfl):
  pops P N all K fl (⟨some d,op,ty,pos,af,some (j,true)⟩::os) ρ L:=pops_no hs h (by subst hp;simp) (dlt hd) k
theorem pops_noF {j:Nat} {op:Op} {p:Bool} {s:Nat} (hs:(all[j]?).bind (·.dst)=some s) (h:ρ s= .raw (.bool p)) (hp:p=true) (k:pops P N all K fl.tail os (upd ρ d (.raw undef)) L) (hd:Nat.blt d N=true:=by rfl):
  pops P N all K fl (⟨some d,op,ty,pos,af,some (j,false)⟩::os) ρ L:=pops_no hs h (by subst hp;simp) (dlt hd) k
theorem pops_noU {j:Nat} {b:Bool} {op:Op} {s:Nat} (hs:(all[j]?).bind (·.dst)=some s) (h:ρ s= .raw undef) (k:pops P N all K fl.tail os (upd ρ d (.raw undef)) L) (hd:Nat.blt d N=true:=by rfl):
  pops P N all K fl (⟨some d,op,ty,pos,af,some (j,b)⟩::os) ρ L:=pops_no hs h (by simp[undef]) (dlt hd) k
theorem pops_if {dst:Option Nat} {op:Op} {j:Nat} {b p:Bool} {s:Nat} (kT:p=true→pops P N all K fl (⟨dst,op,ty,pos,af,some (j,b)⟩::os) ρ L) (kF:p=false→pops P N all K fl (⟨dst,op,ty,pos,af,some (j,b)⟩::os) ρ L)
  (_:(all[j]?).bind (·.dst)=some s:=by rfl) (_:ρ s= .raw (.bool p):=by conv=>lhs;whnf):pops P N all K fl (⟨dst,op,ty,pos,af,some (j,b)⟩::os) ρ L:=by
 cases p
 ·exact kF rfl
 ·exact kT rfl
theorem s_pickTA {c x y:Operand} {p:Bool} {v:PV} (hc:ρ.ev c= .raw (.bool p)) (hp:p=true) (hv:ρ.ev x=v) (k:pops P N all K fl.tail os (upd ρ d v) L) (hd:Nat.blt d N=true:=by rfl):pops P N all K fl (⟨some d,.pick c x y,ty,pos,af,none⟩::os) ρ L:=s_pickT (hp ▸ hc) (by rw[hv];exact k) hd
theorem s_pickFA {c x y:Operand} {p:Bool} {v:PV} (hc:ρ.ev c= .raw (.bool p)) (hp:p=false) (hv:ρ.ev y=v) (k:pops P N all K fl.tail os (upd ρ d v) L) (hd:Nat.blt d N=true:=by rfl):pops P N all K fl (⟨some d,.pick c x y,ty,pos,af,none⟩::os) ρ L:=s_pickF (hp ▸ hc) (by rw[hv];exact k) hd
theorem pwp_condT {s:Nat} {x y:Code} {Q:PPost} (hc:ρ s= .raw (.bool true)) (h:pwp P N x Q ρ L):pwp P N (.cond (.tmp s) x y) Q ρ L:=pwp_cond hc (fun _=>h) (by simp)
theorem pwp_condF {s:Nat} {x y:Code} {Q:PPost} (hc:ρ s= .raw (.bool false)) (h:pwp P N y Q ρ L):pwp P N (.cond (.tmp s) x y) Q ρ L:=pwp_cond hc (by simp) (fun _=>h)
end
end Go.Q
namespace Go.Q
open Go
def addW (a b:Nat):Nat:=(a+b) % 4294967296
def andW (a b:Nat):Nat:=(a % 4294967296)&&& (b % 4294967296)
def orW (a b:Nat):Nat:=(a % 4294967296)|||(b % 4294967296)
def xorW (a b:Nat):Nat:=(a % 4294967296) ^^^ (b % 4294967296)
def notW (a:Nat):Nat:=4294967295 ^^^ (a % 4294967296)
def shrW (a n:Nat):Nat:=a / 2 ^ (min n 32)
def shlW (a n:Nat):Nat:=(a*2 ^ (min n 32)) % 4294967296
theorem ofInt_nat (a:Nat):(BitVec.ofInt 32 (a:Int)).toNat=a % 4294967296:=by
 rw[BitVec.toNat_ofInt];norm_cast
theorem u32_wrap_nat (a:Nat) (h:a < 4294967296):IntKind.u32.wrap (a:Int)=(a:Int):=IntWalk.u32_in _ ⟨by omega,by omega⟩
theorem u32_wrap_mod (a:Nat):IntKind.u32.wrap (a:Int)=((a % 4294967296:Nat):Int):=by rw[IntKind.wrap_u32];omega
theorem pow2_cast (n:Nat):((2:Int) ^ n)=((2 ^ n:Nat):Int):=by norm_cast
theorem fdiv_pow (a n:Nat):((a:Int).fdiv (2 ^ n))=((a / 2 ^ n:Nat):Int):=by
 rw[pow2_cast,Int.fdiv_eq_ediv_of_nonneg _ (Int.natCast_nonneg _)];norm_cast
theorem mul_pow (a n:Nat):((a:Int)*(2 ^ n))=((a*2 ^ n:Nat):Int):=by rw[pow2_cast];norm_cast
theorem bits_xor (a b:Nat):Op.intBits .xor .u32 (a:Int) (b:Int)=pure (.int .u32 ((xorW a b:Nat):Int)):=by
 have h:(BitVec.ofInt 32 (a:Int) ^^^ BitVec.ofInt 32 (b:Int)).toNat=xorW a b:=by rw[BitVec.toNat_xor,ofInt_nat,ofInt_nat];rfl
 have h2:xorW a b < 4294967296:=by rw[←h];exact BitVec.isLt _
 show pure (Value.int .u32 (IntKind.u32.wrap ((BitVec.ofInt 32 (a:Int) ^^^ BitVec.ofInt 32 (b:Int)).toNat:Int)))=_
 rw[h,u32_wrap_nat _ h2]
theorem bits_and (a b:Nat):Op.intBits .and .u32 (a:Int) (b:Int)=pure (.int .u32 ((andW a b:Nat):Int)):=by
 have h:(BitVec.ofInt 32 (a:Int)&&& BitVec.ofInt 32 (b:Int)).toNat=andW a b:=by rw[BitVec.toNat_and,ofInt_nat,ofInt_nat];rfl
 have h2:andW a b < 4294967296:=by rw[←h];exact BitVec.isLt _
 show pure (Value.int .u32 (IntKind.u32.wrap ((BitVec.ofInt 32 (a:Int)&&& BitVec.ofInt 32 (b:Int)).toNat:Int)))=_
 rw[h,u32_wrap_nat _ h2]
theorem bits_or (a b:Nat):Op.intBits .or .u32 (a:Int) (b:Int)=pure (.int .u32 ((orW a b:Nat):Int)):=by
 have h:(BitVec.ofInt 32 (a:Int)|||BitVec.ofInt 32 (b:Int)).toNat=orW a b:=by rw[BitVec.toNat_or,ofInt_nat,ofInt_nat];rfl
 have h2:orW a b < 4294967296:=by rw[←h];exact BitVec.isLt _
 show pure (Value.int .u32 (IntKind.u32.wrap ((BitVec.ofInt 32 (a:Int)|||BitVec.ofInt 32 (b:Int)).toNat:Int)))=_
 rw[h,u32_wrap_nat _ h2]
section
variable {P:Program} {N:Nat} {all:Array Oper} {K:Env→List Res→Prop} {fl:List Bool} {os:List Oper} {ρ:Env} {L:List Res}
variable {d:Nat} {ty:TypeId} {pos:String} {af:Array Edge} {T T':TypeId} {x y:Operand} {a b:Nat}
theorem s_addW (hx:ρ.ev x= .raw (.int .u32 (a:Int))) (hy:ρ.ev y= .raw (.int .u32 (b:Int))) (k:pops P N all K fl.tail os (upd ρ d (.raw (.int .u32 (addW a b:Nat)))) L) (hd:Nat.blt d N=true:=by rfl):
  pops P N all K fl (⟨some d,.binOp .add T x y T',ty,pos,af,none⟩::os) ρ L:=s_int hx hy (fun w=>by
   have e:((a:Int)+(b:Int))=((a+b:Nat):Int):=by omega
   simp only[binOp,ne_eq,not_true_eq_false,if_false,Op.intArith,e,u32_wrap_mod,addW];rfl) k hd
theorem s_xorW (hx:ρ.ev x= .raw (.int .u32 (a:Int))) (hy:ρ.ev y= .raw (.int .u32 (b:Int))) (k:pops P N all K fl.tail os (upd ρ d (.raw (.int .u32 (xorW a b:Nat)))) L) (hd:Nat.blt d N=true:=by rfl):
  pops P N all K fl (⟨some d,.binOp .xor T x y T',ty,pos,af,none⟩::os) ρ L:=s_int hx hy (fun w=>by simp only[binOp,ne_eq,not_true_eq_false,if_false,bits_xor];rfl) k hd
theorem s_andW (hx:ρ.ev x= .raw (.int .u32 (a:Int))) (hy:ρ.ev y= .raw (.int .u32 (b:Int))) (k:pops P N all K fl.tail os (upd ρ d (.raw (.int .u32 (andW a b:Nat)))) L) (hd:Nat.blt d N=true:=by rfl):
  pops P N all K fl (⟨some d,.binOp .and T x y T',ty,pos,af,none⟩::os) ρ L:=s_int hx hy (fun w=>by simp only[binOp,ne_eq,not_true_eq_false,if_false,bits_and];rfl) k hd
theorem s_orW (hx:ρ.ev x= .raw (.int .u32 (a:Int))) (hy:ρ.ev y= .raw (.int .u32 (b:Int))) (k:pops P N all K fl.tail os (upd ρ d (.raw (.int .u32 (orW a b:Nat)))) L) (hd:Nat.blt d N=true:=by rfl):
  pops P N all K fl (⟨some d,.binOp .or T x y T',ty,pos,af,none⟩::os) ρ L:=s_int hx hy (fun w=>by simp only[binOp,ne_eq,not_true_eq_false,if_false,bits_or];rfl) k hd
theorem s_notW (hx:ρ.ev x= .raw (.int .u32 (a:Int))) (k:pops P N all K fl.tail os (upd ρ d (.raw (.int .u32 (notW a:Nat)))) L) (hd:Nat.blt d N=true:=by rfl):pops P N all K fl (⟨some d,.unOp .xor T x,ty,pos,af,none⟩::os) ρ L:=
 step_q hd (qop_of_run fun a' w g ha hi=>⟨.int .u32 (notW a:Nat),by
  have h1:=evRaw ha (x:=x) (by simp[Op.operands]) hx
  have e:IntKind.u32.max=((4294967295:Nat):Int):=by decide
  have hs:IntKind.u32.signed=false:=rfl
  have e2:xorW 4294967295 a=notW a:=rfl
  simp only[execOp,h1,Op.unary,hs,Bool.false_eq_true,if_false,e,bits_xor,e2];rfl,.raw _⟩) k
theorem s_shrW (hx:ρ.ev x= .raw (.int .u32 (a:Int))) (hy:ρ.ev y= .raw (.int .u64 (b:Int))) (k:pops P N all K fl.tail os (upd ρ d (.raw (.int .u32 (shrW a b:Nat)))) L) (hd:Nat.blt d N=true:=by rfl):
  pops P N all K fl (⟨some d,.binOp .shr T x y T',ty,pos,af,none⟩::os) ρ L:=s_int hx hy (fun w=>by
   have h0: ¬(b:Int) < 0:=by omega
   simp only[binOp,Op.shift,h0,if_false,IntKind.bits,Int.toNat_natCast]
   rw[fdiv_pow];rfl) k hd
theorem s_shlW (hx:ρ.ev x= .raw (.int .u32 (a:Int))) (hy:ρ.ev y= .raw (.int .u64 (b:Int))) (k:pops P N all K fl.tail os (upd ρ d (.raw (.int .u32 (shlW a b:Nat)))) L) (hd:Nat.blt d N=true:=by rfl):
  pops P N all K fl (⟨some d,.binOp .shl T x y T',ty,pos,af,none⟩::os) ρ L:=s_int hx hy (fun w=>by
   have h0: ¬(b:Int) < 0:=by omega
   simp only[binOp,Op.shift,h0,if_false,IntKind.bits,Int.toNat_natCast]
   rw[mul_pow,u32_wrap_mod];rfl) k hd
theorem s_subU (hx:ρ.ev x= .raw (.int .u64 (a:Int))) (hy:ρ.ev y= .raw (.int .u64 (b:Int))) (h1:b≤a) (h2:a≤18446744073709551615) (k:pops P N all K fl.tail os (upd ρ d (.raw (.int .u64 ((a - b:Nat):Int)))) L) (hd:Nat.blt d N=true:=by rfl):
  pops P N all K fl (⟨some d,.binOp .sub T x y T',ty,pos,af,none⟩::os) ρ L:=s_int hx hy (fun w=>by
   have e:((a:Int) - (b:Int))=((a - b:Nat):Int):=by omega
   simp only[binOp,ne_eq,not_true_eq_false,if_false,Op.intArith,e]
   rw[IntWalk.u64_in _ ⟨by omega,by omega⟩];rfl) k hd
theorem s_mulU (hx:ρ.ev x= .raw (.int .u64 (a:Int))) (hy:ρ.ev y= .raw (.int .u64 (b:Int))) (h2:a*b≤18446744073709551615) (k:pops P N all K fl.tail os (upd ρ d (.raw (.int .u64 ((a*b:Nat):Int)))) L) (hd:Nat.blt d N=true:=by rfl):
  pops P N all K fl (⟨some d,.binOp .mul T x y T',ty,pos,af,none⟩::os) ρ L:=s_int hx hy (fun w=>by
   have e:((a:Int)*(b:Int))=((a*b:Nat):Int):=by norm_cast
   simp only[binOp,ne_eq,not_true_eq_false,if_false,Op.intArith,e]
   rw[IntWalk.u64_in _ ⟨by omega,by omega⟩];rfl) k hd
theorem s_shrU (hx:ρ.ev x= .raw (.int .u64 (a:Int))) (hy:ρ.ev y= .raw (.int .u64 (b:Int))) (k:pops P N all K fl.tail os (upd ρ d (.raw (.int .u64 ((a / 2 ^ (min b 64):Nat):Int)))) L) (hd:Nat.blt d N=true:=by rfl):
  pops P N all K fl (⟨some d,.binOp .shr T x y T',ty,pos,af,none⟩::os) ρ L:=s_int hx hy (fun w=>by
   have h0: ¬(b:Int) < 0:=by omega
   simp only[binOp,Op.shift,h0,if_false,IntKind.bits,Int.toNat_natCast]
   rw[fdiv_pow];rfl) k hd
theorem s_convB {S:TypeId} {k':IntKind} [hS:TInt P S k'] [hT:TInt P T .u8] {k₀:IntKind} (hx:ρ.ev x= .raw (.int k₀ (a:Int))) (k:pops P N all K fl.tail os (upd ρ d (.raw (.int .u8 ((UInt8.ofNat a).toNat:Int)))) L) (hd:Nat.blt d N=true:=by rfl):
  pops P N all K fl (⟨some d,.convert S T x,ty,pos,af,none⟩::os) ρ L:=s_convI' hx k hd
 where s_convI' (hx:ρ.ev x= .raw (.int k₀ (a:Int))) (k:pops P N all K fl.tail os (upd ρ d (.raw (.int .u8 ((UInt8.ofNat a).toNat:Int)))) L) (hd:Nat.blt d N=true):pops P N all K fl (⟨some d,.convert S T x,ty,pos,af,none⟩::os) ρ L:=
  s_conv hx (by
   have e:IntKind.u8.wrap (a:Int)=((UInt8.ofNat a).toNat:Int):=by
    rw[IntKind.wrap_u8,UInt8.toNat_ofNat'];omega
   rw[e];exact k) hd
theorem s_convW {S:TypeId} {k':IntKind} [hS:TInt P S k'] [hT:TInt P T .u32] {k₀:IntKind} (hx:ρ.ev x= .raw (.int k₀ (a:Int))) (k:pops P N all K fl.tail os (upd ρ d (.raw (.int .u32 ((a % 4294967296:Nat):Int)))) L) (hd:Nat.blt d N=true:=by rfl):
  pops P N all K fl (⟨some d,.convert S T x,ty,pos,af,none⟩::os) ρ L:=s_conv hx (by rw[u32_wrap_mod];exact k) hd
theorem s_convU {S:TypeId} {k':IntKind} [hS:TInt P S k'] [hT:TInt P T .u64] {k₀:IntKind} (hx:ρ.ev x= .raw (.int k₀ (a:Int))) (ha:a≤18446744073709551615) (k:pops P N all K fl.tail os (upd ρ d (.raw (.int .u64 (a:Int)))) L) (hd:Nat.blt d N=true:=by rfl):
  pops P N all K fl (⟨some d,.convert S T x,ty,pos,af,none⟩::os) ρ L:=s_convI hx (IntWalk.u64_in _ ⟨by omega,by omega⟩) k hd
theorem s_neg {n:Int} (hx:ρ.ev x= .raw (.int .i64 n)) (hb: -9223372036854775807≤n∧n≤9223372036854775807) (k:pops P N all K fl.tail os (upd ρ d (.raw (.int .i64 (-n)))) L) (hd:Nat.blt d N=true:=by rfl):pops P N all K fl (⟨some d,.unOp .neg T x,ty,pos,af,none⟩::os) ρ L:=
 step_q hd (qop_of_run fun a' w g ha hi=>⟨.int .i64 (-n),by
  have h1:=evRaw ha (x:=x) (by simp[Op.operands]) hx
  simp only[execOp,h1,Op.unary,Op.intArith,Int.zero_sub]
  rw[IntWalk.i64_in _ ⟨by omega,by omega⟩];rfl,.raw _⟩) k
def eBy (b:UInt8):List PV:= [.raw (.int .u8 (b.toNat:Int))]
end
instance :Len eBy 1:=⟨fun _=>rfl⟩
instance :FlatF eBy:=⟨fun _=>flat_raw rfl flat_nil⟩
instance (b:UInt8):EncC (.raw (.int .u8 (b.toNat:Int))) eBy b:=⟨.one (FlatF.out (f:=eBy) b)⟩
instance (d:Dig):Sub (eDig d) 0 32 (eDig d):=⟨by rw[List.drop_zero,List.take_of_length_le (by simp)];simp⟩
class TByt (P:Program) (T:Nat):Prop where
 out: ∃ E,P.underlying T=some (.slice E)∧P.underlying E=some (.int .u8)
section
variable {P:Program} {N:Nat} {all:Array Oper} {K:Env→List Res→Prop} {fl:List Bool} {os:List Oper} {ρ:Env} {L:List Res}
variable {d:Nat} {ty:TypeId} {pos:String} {af:Array Edge} {T T':TypeId} {x y:Operand} {a b:Nat}
theorem s_strB {S:TypeId} [hS:TByt P S] [hT:TStr P T] {bs:Str} {t:Tag} (hx:ρ.ev x= .slice (bs.map eBy) t) (k:pops P N all K fl.tail os (upd ρ d (.str bs)) L) (hd:Nat.blt d N=true:=by rfl):
  pops P N all K fl (⟨some d,.convert S T x,ty,pos,af,none⟩::os) ρ L:=
 step_q hd (qop_of_run fun a' w g ha hi=>by
  obtain⟨E,e1,e2⟩:=hS.out
  have h1:=ha x (by simp[Op.operands])
  rw[hx]at h1
  have hbd:=h1.bd.slice_map
  refine⟨.string ⟨bs.toArray⟩,?_,.str hbd⟩
  show(do pure (Next.value (←convert S T (a'.eval x))):Sem Next).run P w=_
  have key:(convert S T (a'.eval x)).run P w= .ok (.string ⟨bs.toArray⟩) w:=by
   generalize a'.eval x=v at h1
   cases bs with
   |nil=>
    have hn: ∃ o cap,v= .slice o 0 cap:=by
     cases h1 with
     |nilN=>exact⟨_,_,rfl⟩
     |nilR=>exact⟨_,_,rfl⟩
     |slice sz f hl hc hm hs hH hv ht hn=>simp at hl;subst hl;exact⟨_,_,rfl⟩
    obtain⟨o,cap,rfl⟩:=hn
    cases o with
    |none=>rw[run_convert_bytes_string w S T E _ _ _ e1 e2 hT.out];simp[Conv.bytesToString];rfl
    |some ad=>exact run_convert_bytes_back w S T E ad cap [] e1 e2 hT.out (fun j hj=>by simp at hj)
   |cons b0 bs=>
    generalize hl0:b0::bs=l at h1
    generalize hxs:List.map eBy l=xs at h1
    have hne:xs≠ []:=by rw[←hxs,←hl0];simp
    cases h1 with
    |nilN=>exact absurd rfl hne
    |nilR=>exact absurd rfl hne
    |slice sz f hl hc hm hs hH hv ht hn=>
     subst hxs
     rename_i b off len cap
     have hsz:sz=1:=by
      have:=hs (eBy b0) (by rw[←hl0];simp)
      simpa [eBy]using this.symm
     subst hsz
     simp only[List.length_map]at hl
     subst hl
     refine run_convert_bytes_back w S T E _ cap l e1 e2 hT.out (fun j hj=>?_)
     rw[add_plain]
     have h2:=hi.sat _ _ _ (hH j 0 hj (by omega))
     have h3:=hv j (by simpa using hj) 0 (by simp[eBy])
     simp only[Nat.mul_one,Nat.add_zero,List.getElem_map,eBy,List.getElem_cons_zero]at h2 h3
     rw[h2,h3.raw_inv]
  simp only[Sem.run_bind,key,Result.andThen_ok,Sem.run_pure]) k
theorem s_sliceD [hT:TDig P T] {bb off:Nat} (hx:ρ.ev x= .raw (.pointer (some ⟨bb,off,none⟩))) (k:pops P N all K fl.tail os (upd ρ d (.raw (.slice (some ⟨bb,off,none⟩) 32 32))) L) (hd:Nat.blt d N=true:=by rfl):
  pops P N all K fl (⟨some d,.slice T x none none none,ty,pos,af,none⟩::os) ρ L:=
 step_q hd (qop_of_run fun a' w g ha hi=>by
  obtain⟨E,i,e1,e2,e3,e4⟩:=hT.arr
  have h1:=evRaw ha (x:=x) (by simp[Op.operands]) hx
  refine⟨.slice (some ⟨bb,off,none⟩) 32 32,?_,.raw _⟩
  show(do pure (Next.value (←Instr.sliceAt T (a'.eval x) none none none)):Sem Next).run P w=_
  simp[Instr.sliceAt,run_und e1,h1,Instr.sureAddr,Instr.sliceBounds,sizeOf,typeInfo,e3,e4,add_plain]) k
theorem s_strBox {S:TypeId} [hS:TByt P S] [hT:TStr P T] {bb off T₂:Nat} {cs:List PV} {dg:Dig} (hx:ρ.ev x= .raw (.slice (some ⟨bb,off,none⟩) 32 32)) (hm:Res.box bb T₂ cs∈L) [hs:Sub cs off 32 (eDig dg)] (k:pops P N all K fl.tail os (upd ρ d (.str dg.bs)) L) (hd:Nat.blt d N=true:=by rfl):
  pops P N all K fl (⟨some d,.convert S T x,ty,pos,af,none⟩::os) ρ L:=
 step_q hd (qop_of_run fun a' w g ha hi=>by
  obtain⟨E,e1,e2⟩:=hS.out
  have h1:=evRaw ha (x:=x) (by simp[Op.operands]) hx
  obtain⟨vs,hb,hv,_,_⟩:=hi.res _ hm
  obtain⟨q1,q2⟩:=hs.out
  refine⟨.string ⟨dg.bs.toArray⟩,?_,.str (by rw[dg.len];decide)⟩
  have key:=run_convert_bytes_back w S T E ⟨bb,off,none⟩ 32 dg.bs e1 e2 hT.out (fun j hj=>by
   rw[add_plain]
   have hj':j < 32:=by rw[←dg.len];exact hj
   have hlt:off+j < vs.length:=by rw[hv.len];omega
   rw[cell_of_box hb (off+j) hlt]
   have h2:=hv.at_ (off+j) hlt (by omega)
   have h3:cs[off+j]'(by omega)=eU8 dg.bs[j]:=by
    have:=congrArg (fun l=>l[j]?) q1
    simp only[List.getElem?_take,hj',if_true,List.getElem?_drop,eDig,List.getElem?_map,List.getElem?_eq_getElem hj]at this
    rw[List.getElem?_eq_getElem (by omega)]at this
    simpa using this
   rw[h3]at h2
   rw[h2.raw_inv];rfl)
  rw[dg.len]at key
  show(do pure (Next.value (←convert S T (a'.eval x))):Sem Next).run P w=_
  simp only[h1,Sem.run_bind,key,Result.andThen_ok,Sem.run_pure]) k
def eW (l:List Nat):List PV:=l.map fun(a:Nat)=>PV.raw (.int .u32 (a:Int))
@[simp] theorem len_eW (l:List Nat):(eW l).length=l.length:=by simp[eW]
theorem eW_flat (l:List Nat):flat (eW l):=fun x hx=>by
 obtain⟨a,_,rfl⟩:=List.mem_map.1 hx
 exact flat_raw (v:= .int .u32 (a:Int)) rfl flat_nil _ (by simp)
instance (l:List Nat):Flat (eW l):=⟨eW_flat l⟩
theorem s_loadW [hT:TScal P T] {bb i T₂:Nat} {l:List Nat} (hx:ρ.ev x= .raw (.pointer (some ⟨bb,0+i*1,none⟩))) (hm:Res.box bb T₂ (eW l)∈L) (hi:i < l.length) (k:pops P N all K fl.tail os (upd ρ d (.raw (.int .u32 ((l.getD i 0:Nat):Int)))) L) (hd:Nat.blt d N=true:=by rfl):
  pops P N all K fl (⟨some d,.load T x,ty,pos,af,none⟩::os) ρ L:=s_loadBS hx hm (by simp[eW,hi,List.getD]) k hd
theorem s_storeW32 {by_:Nat} {bb i T₂ v:Nat} {l:List Nat} {L':List Res} [hT:TSz P T 1 by_] (hx:ρ.ev x= .raw (.pointer (some ⟨bb,0+i*1,none⟩))) (hy:ρ.ev y= .raw (.int .u32 (v:Int))) (_:Res.box bb T₂ (eW l)∈L) (hi:i < l.length) [hu:UpdC bb (eW l) (eW (l.set i v)) L L']
  (k:pops P N all K fl.tail os ρ L') (hfl:fl.headD true=true:=by rfl):pops P N all K fl (⟨none,.store T x y,ty,pos,af,none⟩::os) ρ L:=
 pops_n rfl (fun _ e=>by cases e) hfl (opN_store (new:= [.raw (.int .u32 (v:Int))]) hx (by rw[hy];exact Cells.one (flat_raw rfl flat_nil)) rfl (flat_raw rfl flat_nil) (by
  simp only[List.length_singleton,Nat.zero_add,Nat.mul_one,eW]
  rw[List.map_set,List.set_eq_take_append_cons_drop,if_pos (by simpa using hi)]
  simp) (by simp;omega) hu.out k)
def Dig.put (dg:Dig) (i:Nat) (v:UInt8):Dig:=⟨dg.bs.set i v,by rw[List.length_set];exact dg.len⟩
theorem s_storeD {by_:Nat} {bb i T₂:Nat} {v:UInt8} {dg:Dig} {L':List Res} [hT:TSz P T 1 by_] (hx:ρ.ev x= .raw (.pointer (some ⟨bb,0+i*1,none⟩))) (hy:ρ.ev y= .raw (.int .u8 (v.toNat:Int))) (_:Res.box bb T₂ (eDig dg)∈L) (hi:i < 32) [hu:UpdC bb (eDig dg) (eDig (dg.put i v)) L L']
  (k:pops P N all K fl.tail os ρ L') (hfl:fl.headD true=true:=by rfl):pops P N all K fl (⟨none,.store T x y,ty,pos,af,none⟩::os) ρ L:=
 pops_n rfl (fun _ e=>by cases e) hfl (opN_store (new:= [.raw (.int .u8 (v.toNat:Int))]) hx (by rw[hy];exact Cells.one (flat_raw rfl flat_nil)) rfl (flat_raw rfl flat_nil) (by
  simp only[List.length_singleton,Nat.zero_add,Nat.mul_one,eDig,Dig.put]
  rw[List.map_set,List.set_eq_take_append_cons_drop,if_pos (by simpa [dg.len]using hi)]
  simp[eU8,u8]) (by simp;omega) hu.out k)
theorem s_buildW {n E by_:Nat} {z:List PV} [hT:TArr P T n E] [hE:TSz P E 1 by_] [hZ:ZeroE P T z] {xs:List Operand} (ws:List Nat) (hx:xs.map ρ.ev=eW ws) (hz:z.length=ws.length) (hn:xs.length=ws.length)
  (k:pops P N all K fl.tail os (upd ρ d (.agg (eW ws))) L) (hd:Nat.blt d N=true:=by rfl):pops P N all K fl (⟨some d,.build T ((xs.zipIdx.map fun p=>(p.2,p.1)).toArray),ty,pos,af,none⟩::os) ρ L:=
 step_q hd (qop_of_run fun a' w g ha hi=>by
  obtain⟨i,v,us,h1,h2,h3,h4⟩:=hZ.out
  let cs:List Value:=ws.map fun(a:Nat)=>Value.int .u32 (a:Int)
  have hop:(Op.build T ((xs.zipIdx.map fun p=>(p.2,p.1)).toArray)).operands=xs.toArray:=by
   unfold Op.operands
   simp only[List.map_map]
   have:((fun(x:Nat × Operand)=>x.2) ∘ fun(p:Operand × Nat)=>(p.2,p.1))=Prod.fst:=by funext p;rfl
   rw[this,List.zipIdx_map_fst]
  have hev:xs.map a'.eval=cs:=by
   refine List.ext_getElem (by simp[cs,hn]) fun j j1 j2=>?_
   simp only[List.length_map]at j1
   have hj:j < ws.length:=by omega
   have e1:ρ.ev xs[j]= .raw (.int .u32 (ws[j]:Int)):=by
    have:=congrArg (fun l=>l[j]?) hx
    simp only[List.getElem?_map,List.getElem?_eq_getElem j1,eW,List.getElem?_eq_getElem hj,Option.map_some]at this
    exact Option.some.inj this
   have e2:=ha xs[j] (by rw[hop];simp)
   rw[e1]at e2
   simp[cs,e2.raw_inv]
  refine⟨.agg cs.toArray,?_,VRl.agg ⟨by simp[cs],fun j j1 j2=>by simp[cs,eW];exact .raw _⟩⟩
  have hparts:(((xs.zipIdx.map fun p=>(p.2,p.1)).toArray).map fun(p:Nat × Operand)=>(p.1,a'.eval p.2)).toList=((xs.map a'.eval).zipIdx 0).map fun p=>(p.2,p.1):=by
   simp only[List.map_toArray,List.map_map]
   rw[List.zipIdx_map,List.map_map]
   rfl
  have hus:us.length=ws.length:=by rw[(h4 g).len,hz]
  have hfill:Instr.fill (fun i=>some (i*1,1)) us.toArray (((xs.map a'.eval).zipIdx 0).map fun p=>(p.2,p.1))=some cs.toArray:=by
   rw[hev,fill_all (sz:=1) (cs.map fun v=> [v]) cs 0 us (by simp) (fun j j1 j2=>by simp[cs,Value.cells]) (by simp[cs,hus])]
   have:(cs.map fun v=> [v]).flatten=cs:=by
    generalize cs=l
    induction l with
    |nil=>rfl
    |cons a l ih=>simp[ih]
   simp[this]
  show(do pure (Next.value (←Instr.build T (((xs.zipIdx.map fun p=>(p.2,p.1)).toArray).map fun(p:Nat × Operand)=>(p.1,a'.eval p.2)))):Sem Next).run P w=_
  simp only[Instr.build,Sem.run_bind,zeroValue,typeInfo,run_program,h1,Sem.run_pure,Result.andThen_ok,h2,run_underlying hT.out,TSz.run hE,h3,hparts,hfill]) k
end
end Go.Q
namespace Go.Q
open Go
section
variable {P:Program} {N:Nat} {all:Array Oper} {K:Env→List Res→Prop} {fl:List Bool} {os:List Oper} {ρ:Env} {L:List Res} {Q:PPost} {c:Code} {ty:TypeId} {pos:String} {af:Array Edge}
theorem g_guard {j:Nat} {b:Bool} {o:Op} {dst:Option Nat} (k:pops P N all K fl (⟨dst,o,ty,pos,af,some (j,b)⟩::os) ρ L):pops P N all K fl (⟨dst,o,ty,pos,af,some (j,b)⟩::os) ρ L:=k
theorem g_move {x:Operand} {dst:Option Nat} (k:pops P N all K fl (⟨dst,.move x,ty,pos,af,none⟩::os) ρ L):pops P N all K fl (⟨dst,.move x,ty,pos,af,none⟩::os) ρ L:=k
theorem g_assign {x:Operand} {dst:Option Nat} (k:pops P N all K fl (⟨dst,.assign x,ty,pos,af,none⟩::os) ρ L):pops P N all K fl (⟨dst,.assign x,ty,pos,af,none⟩::os) ρ L:=k
theorem g_load {T:TypeId} {x:Operand} {dst:Option Nat} (k:pops P N all K fl (⟨dst,.load T x,ty,pos,af,none⟩::os) ρ L):pops P N all K fl (⟨dst,.load T x,ty,pos,af,none⟩::os) ρ L:=k
theorem g_fld {S f:Nat} {x:Operand} {dst:Option Nat} (k:pops P N all K fl (⟨dst,.fieldAddr S x f,ty,pos,af,none⟩::os) ρ L):pops P N all K fl (⟨dst,.fieldAddr S x f,ty,pos,af,none⟩::os) ρ L:=k
theorem g_len {x:Operand} {T:TypeId} {dst:Option Nat} (k:pops P N all K fl (⟨dst,.call { callee:= .builtin .len,args:= #[x],argTypes:= #[T] },ty,pos,af,none⟩::os) ρ L):pops P N all K fl (⟨dst,.call { callee:= .builtin .len,args:= #[x],argTypes:= #[T] },ty,pos,af,none⟩::os) ρ L:=k
theorem g_call {f:Nat} {xs:Array Operand} {ats:Array TypeId} {dst:Option Nat} (k:pops P N all K fl (⟨dst,.call { callee:= .value (.func f),args:=xs,argTypes:=ats },ty,pos,af,none⟩::os) ρ L):pops P N all K fl (⟨dst,.call { callee:= .value (.func f),args:=xs,argTypes:=ats },ty,pos,af,none⟩::os) ρ L:=k
theorem g_bi {f:Builtin} {xs:Array Operand} {ats:Array TypeId} {dst:Option Nat} (k:pops P N all K fl (⟨dst,.call { callee:= .builtin f,args:=xs,argTypes:=ats },ty,pos,af,none⟩::os) ρ L):pops P N all K fl (⟨dst,.call { callee:= .builtin f,args:=xs,argTypes:=ats },ty,pos,af,none⟩::os) ρ L:=k
theorem g_bin {o:BinOp} {T T₂:TypeId} {x y:Operand} {dst:Option Nat} (k:pops P N all K fl (⟨dst,.binOp o T x y T₂,ty,pos,af,none⟩::os) ρ L):pops P N all K fl (⟨dst,.binOp o T x y T₂,ty,pos,af,none⟩::os) ρ L:=k
theorem g_ix {T:TypeId} {x y:Operand} {dst:Option Nat} (k:pops P N all K fl (⟨dst,.indexAddr T x y,ty,pos,af,none⟩::os) ρ L):pops P N all K fl (⟨dst,.indexAddr T x y,ty,pos,af,none⟩::os) ρ L:=k
theorem g_ext {i:Nat} {x:Operand} {dst:Option Nat} (k:pops P N all K fl (⟨dst,.extract x i,ty,pos,af,none⟩::os) ρ L):pops P N all K fl (⟨dst,.extract x i,ty,pos,af,none⟩::os) ρ L:=k
theorem g_pick {c x y:Operand} {dst:Option Nat} (k:pops P N all K fl (⟨dst,.pick c x y,ty,pos,af,none⟩::os) ρ L):pops P N all K fl (⟨dst,.pick c x y,ty,pos,af,none⟩::os) ρ L:=k
theorem g_un {o:UnOp} {T:TypeId} {x:Operand} {dst:Option Nat} (k:pops P N all K fl (⟨dst,.unOp o T x,ty,pos,af,none⟩::os) ρ L):pops P N all K fl (⟨dst,.unOp o T x,ty,pos,af,none⟩::os) ρ L:=k
theorem g_store {T:TypeId} {x y:Operand} {dst:Option Nat} (k:pops P N all K fl (⟨dst,.store T x y,ty,pos,af,none⟩::os) ρ L):pops P N all K fl (⟨dst,.store T x y,ty,pos,af,none⟩::os) ρ L:=k
theorem g_bs {T n:Nat} {ps:Array (Nat × Operand)} {dst:Option Nat} (k:pops P N all K fl (⟨dst,.buildSlice T n ps,ty,pos,af,none⟩::os) ρ L):pops P N all K fl (⟨dst,.buildSlice T n ps,ty,pos,af,none⟩::os) ρ L:=k
theorem g_build {T:Nat} {ps:Array (Nat × Operand)} {dst:Option Nat} (k:pops P N all K fl (⟨dst,.build T ps,ty,pos,af,none⟩::os) ρ L):pops P N all K fl (⟨dst,.build T ps,ty,pos,af,none⟩::os) ρ L:=k
theorem g_slice {T:TypeId} {x:Operand} {lo hi mx:Option Operand} {dst:Option Nat} (k:pops P N all K fl (⟨dst,.slice T x lo hi mx,ty,pos,af,none⟩::os) ρ L):pops P N all K fl (⟨dst,.slice T x lo hi mx,ty,pos,af,none⟩::os) ρ L:=k
theorem g_conv {S T:TypeId} {x:Operand} {dst:Option Nat} (k:pops P N all K fl (⟨dst,.convert S T x,ty,pos,af,none⟩::os) ρ L):pops P N all K fl (⟨dst,.convert S T x,ty,pos,af,none⟩::os) ρ L:=k
theorem g_index {T:TypeId} {x y:Operand} {dst:Option Nat} (k:pops P N all K fl (⟨dst,.index T x y,ty,pos,af,none⟩::os) ρ L):pops P N all K fl (⟨dst,.index T x y,ty,pos,af,none⟩::os) ρ L:=k
theorem g_nck {x:Operand} {dst:Option Nat} (k:pops P N all K fl (⟨dst,.nilCheck x,ty,pos,af,none⟩::os) ρ L):pops P N all K fl (⟨dst,.nilCheck x,ty,pos,af,none⟩::os) ρ L:=k
structure Wrap (B:Prop):Prop where
 out:B
structure WrapF {α:Type} (B:α→Prop):Prop where
 out: ∀ a,B a
theorem walk {A B:Prop} (k:B) (h:Wrap B→A:=by
  intro hB
  repeat(first
   |refine pops_nil ?_
   |(refine g_guard ?_;first|refine pops_yes rfl (by rfl) ?_|refine pops_yesA rfl (by first|((conv=>lhs;whnf);done)|fail) (by assumption) ?_|refine pops_noT rfl (by first|((conv=>lhs;whnf);done)|fail) (by assumption) ?_|refine pops_noF rfl (by first|((conv=>lhs;whnf);done)|fail) (by assumption) ?_|refine pops_noU rfl (by rfl) ?_|refine pops_noT rfl (by rfl) rfl ?_|refine pops_noF rfl (by rfl) rfl ?_)
   |(refine g_move ?_;first|refine s_moveN (by(conv=>lhs;whnf);done) ?_)
   |(refine g_assign ?_;first|refine s_assignN (by(conv=>lhs;whnf);done) ?_)
   |(refine g_load ?_;first|refine s_loadAL (by rfl) (hl:=(by first|infer_instance|fail)) ?_|refine s_loadS (by rfl) rfl ?_|refine s_loadBL (by rfl) (by repeat(first|exact List.mem_cons_self|apply List.mem_cons_of_mem)) (hl:=(by first|infer_instance|fail)) ?_|refine s_loadBF (by rfl) (by repeat(first|exact List.mem_cons_self|apply List.mem_cons_of_mem)) (hs:=(by first|infer_instance|fail)) ?_|refine s_loadBG (by rfl) (by repeat(first|exact List.mem_cons_self|apply List.mem_cons_of_mem)) (hs:=(by first|infer_instance|fail)) ?_|refine s_loadD (by rfl) (by repeat(first|exact List.mem_cons_self|apply List.mem_cons_of_mem)) (by omega) ?_|refine s_loadW (by rfl) (by repeat(first|exact List.mem_cons_self|apply List.mem_cons_of_mem)) (by omega) ?_)
   |(refine g_fld ?_;first|refine s_fldF (by rfl) (hr:=(by first|infer_instance|fail)) ?_|refine s_fldBq (by rfl) (by(conv=>lhs;whnf);done) ?_)
   |(refine g_len ?_;first|refine s_lenM (by rfl) ?_|refine s_lenS (by(conv=>lhs;whnf);done) (jx:=(by first|infer_instance|fail)) ?_|refine s_len (by rfl) ?_)
   |(refine g_call ?_;first|refine j_call1 (by(conv=>lhs;whnf);done) (hN0:=(by first|infer_instance|fail)) (hc:=(by first|infer_instance|fail)) ?_|refine j_call2 (by(conv=>lhs;whnf);done) (by(conv=>lhs;whnf);done) (hN0:=(by first|infer_instance|fail)) (hN1:=(by first|infer_instance|fail)) (hc:=(by first|infer_instance|fail)) ?_|refine j_call3 (by(conv=>lhs;whnf);done) (by(conv=>lhs;whnf);done) (by(conv=>lhs;whnf);done) (hN0:=(by first|infer_instance|fail)) (hN1:=(by first|infer_instance|fail)) (hN2:=(by first|infer_instance|fail)) (hc:=(by first|infer_instance|fail)) ?_|refine j_call0 (hc:=(by first|infer_instance|fail)) ?_|refine j_call4 (by(conv=>lhs;whnf);done) (by(conv=>lhs;whnf);done) (by(conv=>lhs;whnf);done) (by(conv=>lhs;whnf);done) (hN0:=(by first|infer_instance|fail)) (hN1:=(by first|infer_instance|fail)) (hN2:=(by first|infer_instance|fail)) (hN3:=(by first|infer_instance|fail)) (hc:=(by first|infer_instance|fail)) ?_|refine j_call5 (by(conv=>lhs;whnf);done) (by(conv=>lhs;whnf);done) (by(conv=>lhs;whnf);done) (by(conv=>lhs;whnf);done) (by(conv=>lhs;whnf);done) (hN0:=(by first|infer_instance|fail)) (hN1:=(by first|infer_instance|fail)) (hN2:=(by first|infer_instance|fail)) (hN3:=(by first|infer_instance|fail)) (hN4:=(by first|infer_instance|fail)) (hc:=(by first|infer_instance|fail)) ?_|refine j_call6 (by(conv=>lhs;whnf);done) (by(conv=>lhs;whnf);done) (by(conv=>lhs;whnf);done) (by(conv=>lhs;whnf);done) (by(conv=>lhs;whnf);done) (by(conv=>lhs;whnf);done) (hN0:=(by first|infer_instance|fail)) (hN1:=(by first|infer_instance|fail)) (hN2:=(by first|infer_instance|fail)) (hN3:=(by first|infer_instance|fail)) (hN4:=(by first|infer_instance|fail)) (hN5:=(by first|infer_instance|fail)) (hc:=(by first|infer_instance|fail)) ?_)
   |(refine g_bi ?_;first|refine s_min (by rfl) (by rfl) ?_|refine s_max (by rfl) (by rfl) ?_)
   |(refine g_bin ?_;first|refine s_lss (by rfl) (by rfl) ?_|refine s_leq (by rfl) (by rfl) ?_|refine s_gtr (by rfl) (by rfl) ?_|refine s_geq (by rfl) (by rfl) ?_|refine s_eqi (by rfl) (by rfl) ?_|refine s_nei (by rfl) (by rfl) ?_|refine s_add (by rfl) (by rfl) (by constructor<;>omega) ?_|refine s_sub (by rfl) (by rfl) (by constructor<;>omega) ?_|refine s_eqDig (by rfl) (by rfl) ?_|refine s_neDig (by rfl) (by rfl) ?_|refine s_eqId (by rfl) (by rfl) ?_|refine s_neId (by rfl) (by rfl) ?_|refine s_eqS (by(conv=>lhs;whnf);done) (by(conv=>lhs;whnf);done) (jx:=(by first|infer_instance|fail)) (jy:=(by first|infer_instance|fail)) ?_|refine s_neS (by(conv=>lhs;whnf);done) (by(conv=>lhs;whnf);done) (jx:=(by first|infer_instance|fail)) (jy:=(by first|infer_instance|fail)) ?_|refine s_eqB (by rfl) (by rfl) ?_|refine s_neB (by rfl) (by rfl) ?_|refine s_cat (by(conv=>lhs;whnf);done) (by(conv=>lhs;whnf);done) (jx:=(by first|infer_instance|fail)) (jy:=(by first|infer_instance|fail)) (by first|omega|(simp only[List.length_append,List.length_cons,List.length_nil,Nat.zero_add];omega)) ?_|refine s_mul (by rfl) (by rfl) (by constructor<;>omega) ?_|refine s_quo (by rfl) (by rfl) (by omega) (by omega) ?_|refine s_rem (by rfl) (by rfl) (by omega) ?_|refine s_addW (by rfl) (by rfl) ?_|refine s_xorW (by rfl) (by rfl) ?_|refine s_andW (by rfl) (by rfl) ?_|refine s_orW (by rfl) (by rfl) ?_|refine s_shrW (by rfl) (by rfl) ?_|refine s_shlW (by rfl) (by rfl) ?_|refine s_shrU (by rfl) (by rfl) ?_|refine s_subU (by rfl) (by rfl) (by omega) (by omega) ?_|refine s_mulU (by rfl) (by rfl) (by omega) ?_)
   |(refine g_ix ?_;first|refine s_indexN (by rfl) (by rfl) (by omega) ?_|refine s_indexB (by rfl) (by rfl) (by omega) ?_|refine s_indexZ (by rfl) (by rfl) (by omega) (by omega) ?_)
   |(refine g_ext ?_;first|refine s_extract (by rfl) rfl ?_)
   |(refine g_pick ?_;first|refine s_pickTA (by rfl) rfl (by(conv=>lhs;whnf);done) ?_|refine s_pickFA (by rfl) rfl (by(conv=>lhs;whnf);done) ?_|refine s_pickTA (by first|((conv=>lhs;whnf);done)|fail) (by assumption) (by(conv=>lhs;whnf);done) ?_|refine s_pickFA (by first|((conv=>lhs;whnf);done)|fail) (by assumption) (by(conv=>lhs;whnf);done) ?_)
   |(refine g_un ?_;first|refine s_not (by rfl) ?_|refine s_neg (by rfl) (by constructor<;>omega) ?_|refine s_notW (by rfl) ?_)
   |(refine g_store ?_;first|refine s_storeC (by rfl) (by(conv=>lhs;whnf);done) (hC:=(by first|infer_instance|fail)) (hB:=(by first|infer_instance|fail)) (hp:=(by first|infer_instance|fail)) (hu:=(by first|infer_instance|fail)) (hf:=(by first|infer_instance|fail)) (hlen:=(by first|infer_instance|fail)) ?_|refine s_storeX (by rfl) (by rfl) (hB:=(by first|infer_instance|fail)) (hu:=(by first|infer_instance|fail)) (hf:=(by first|infer_instance|fail)) (hlen:=(by first|infer_instance|fail)) (hcs:=(by first|infer_instance|fail)) ?_|refine s_storeW32 (by rfl) (by rfl) (by repeat(first|exact List.mem_cons_self|apply List.mem_cons_of_mem)) (by omega) (hu:=(by first|infer_instance|fail)) ?_|refine s_storeD (by rfl) (by rfl) (by repeat(first|exact List.mem_cons_self|apply List.mem_cons_of_mem)) (by omega) (hu:=(by first|infer_instance|fail)) ?_)
   |(refine g_bs ?_;first|refine s_bs0 ?_|refine s_bs1 (by(conv=>lhs;whnf);done) (hC0:=(by first|infer_instance|fail)) (hf:=(by first|infer_instance|fail)) (by decide) ?_|refine s_bs2 (by(conv=>lhs;whnf);done) (by(conv=>lhs;whnf);done) (hC0:=(by first|infer_instance|fail)) (hC1:=(by first|infer_instance|fail)) (hf:=(by first|infer_instance|fail)) (by decide) ?_|refine s_bs3 (by(conv=>lhs;whnf);done) (by(conv=>lhs;whnf);done) (by(conv=>lhs;whnf);done) (hC0:=(by first|infer_instance|fail)) (hC1:=(by first|infer_instance|fail)) (hC2:=(by first|infer_instance|fail)) (hf:=(by first|infer_instance|fail)) (by decide) ?_|refine s_bs4 (by(conv=>lhs;whnf);done) (by(conv=>lhs;whnf);done) (by(conv=>lhs;whnf);done) (by(conv=>lhs;whnf);done) (hC0:=(by first|infer_instance|fail)) (hC1:=(by first|infer_instance|fail)) (hC2:=(by first|infer_instance|fail)) (hC3:=(by first|infer_instance|fail)) (hf:=(by first|infer_instance|fail)) (by decide) ?_|refine s_bs5 (by(conv=>lhs;whnf);done) (by(conv=>lhs;whnf);done) (by(conv=>lhs;whnf);done) (by(conv=>lhs;whnf);done) (by(conv=>lhs;whnf);done) (hC0:=(by first|infer_instance|fail)) (hC1:=(by first|infer_instance|fail)) (hC2:=(by first|infer_instance|fail)) (hC3:=(by first|infer_instance|fail)) (hC4:=(by first|infer_instance|fail)) (hf:=(by first|infer_instance|fail)) (by decide) ?_|refine s_bs6 (by(conv=>lhs;whnf);done) (by(conv=>lhs;whnf);done) (by(conv=>lhs;whnf);done) (by(conv=>lhs;whnf);done) (by(conv=>lhs;whnf);done) (by(conv=>lhs;whnf);done) (hC0:=(by first|infer_instance|fail)) (hC1:=(by first|infer_instance|fail)) (hC2:=(by first|infer_instance|fail)) (hC3:=(by first|infer_instance|fail)) (hC4:=(by first|infer_instance|fail)) (hC5:=(by first|infer_instance|fail)) (hf:=(by first|infer_instance|fail)) (by decide) ?_)
   |(refine g_build ?_;first|refine s_build0 ?_|refine s_buildA0 ?_|refine b_build1 (by(conv=>lhs;whnf);done) (hC0:=(by first|infer_instance|fail)) (hP0:=(by first|infer_instance|fail)) (hl0:=(by first|infer_instance|fail)) ?_|refine b_build2 (by(conv=>lhs;whnf);done) (by(conv=>lhs;whnf);done) (hC0:=(by first|infer_instance|fail)) (hC1:=(by first|infer_instance|fail)) (hP0:=(by first|infer_instance|fail)) (hP1:=(by first|infer_instance|fail)) (hl0:=(by first|infer_instance|fail)) (hl1:=(by first|infer_instance|fail)) ?_|refine b_build3 (by(conv=>lhs;whnf);done) (by(conv=>lhs;whnf);done) (by(conv=>lhs;whnf);done) (hC0:=(by first|infer_instance|fail)) (hC1:=(by first|infer_instance|fail)) (hC2:=(by first|infer_instance|fail)) (hP0:=(by first|infer_instance|fail)) (hP1:=(by first|infer_instance|fail)) (hP2:=(by first|infer_instance|fail)) (hl0:=(by first|infer_instance|fail)) (hl1:=(by first|infer_instance|fail)) (hl2:=(by first|infer_instance|fail)) ?_|refine b_build4 (by(conv=>lhs;whnf);done) (by(conv=>lhs;whnf);done) (by(conv=>lhs;whnf);done) (by(conv=>lhs;whnf);done) (hC0:=(by first|infer_instance|fail)) (hC1:=(by first|infer_instance|fail)) (hC2:=(by first|infer_instance|fail)) (hC3:=(by first|infer_instance|fail)) (hP0:=(by first|infer_instance|fail)) (hP1:=(by first|infer_instance|fail)) (hP2:=(by first|infer_instance|fail)) (hP3:=(by first|infer_instance|fail)) (hl0:=(by first|infer_instance|fail)) (hl1:=(by first|infer_instance|fail)) (hl2:=(by first|infer_instance|fail)) (hl3:=(by first|infer_instance|fail)) ?_|refine b_build5 (by(conv=>lhs;whnf);done) (by(conv=>lhs;whnf);done) (by(conv=>lhs;whnf);done) (by(conv=>lhs;whnf);done) (by(conv=>lhs;whnf);done) (hC0:=(by first|infer_instance|fail)) (hC1:=(by first|infer_instance|fail)) (hC2:=(by first|infer_instance|fail)) (hC3:=(by first|infer_instance|fail)) (hC4:=(by first|infer_instance|fail)) (hP0:=(by first|infer_instance|fail)) (hP1:=(by first|infer_instance|fail)) (hP2:=(by first|infer_instance|fail)) (hP3:=(by first|infer_instance|fail)) (hP4:=(by first|infer_instance|fail)) (hl0:=(by first|infer_instance|fail)) (hl1:=(by first|infer_instance|fail)) (hl2:=(by first|infer_instance|fail)) (hl3:=(by first|infer_instance|fail)) (hl4:=(by first|infer_instance|fail)) ?_|refine b_build6 (by(conv=>lhs;whnf);done) (by(conv=>lhs;whnf);done) (by(conv=>lhs;whnf);done) (by(conv=>lhs;whnf);done) (by(conv=>lhs;whnf);done) (by(conv=>lhs;whnf);done) (hC0:=(by first|infer_instance|fail)) (hC1:=(by first|infer_instance|fail)) (hC2:=(by first|infer_instance|fail)) (hC3:=(by first|infer_instance|fail)) (hC4:=(by first|infer_instance|fail)) (hC5:=(by first|infer_instance|fail)) (hP0:=(by first|infer_instance|fail)) (hP1:=(by first|infer_instance|fail)) (hP2:=(by first|infer_instance|fail)) (hP3:=(by first|infer_instance|fail)) (hP4:=(by first|infer_instance|fail)) (hP5:=(by first|infer_instance|fail)) (hl0:=(by first|infer_instance|fail)) (hl1:=(by first|infer_instance|fail)) (hl2:=(by first|infer_instance|fail)) (hl3:=(by first|infer_instance|fail)) (hl4:=(by first|infer_instance|fail)) (hl5:=(by first|infer_instance|fail)) ?_|refine b_build7 (by(conv=>lhs;whnf);done) (by(conv=>lhs;whnf);done) (by(conv=>lhs;whnf);done) (by(conv=>lhs;whnf);done) (by(conv=>lhs;whnf);done) (by(conv=>lhs;whnf);done) (by(conv=>lhs;whnf);done) (hC0:=(by first|infer_instance|fail)) (hC1:=(by first|infer_instance|fail)) (hC2:=(by first|infer_instance|fail)) (hC3:=(by first|infer_instance|fail)) (hC4:=(by first|infer_instance|fail)) (hC5:=(by first|infer_instance|fail)) (hC6:=(by first|infer_instance|fail)) (hP0:=(by first|infer_instance|fail)) (hP1:=(by first|infer_instance|fail)) (hP2:=(by first|infer_instance|fail)) (hP3:=(by first|infer_instance|fail)) (hP4:=(by first|infer_instance|fail)) (hP5:=(by first|infer_instance|fail)) (hP6:=(by first|infer_instance|fail)) (hl0:=(by first|infer_instance|fail)) (hl1:=(by first|infer_instance|fail)) (hl2:=(by first|infer_instance|fail)) (hl3:=(by first|infer_instance|fail)) (hl4:=(by first|infer_instance|fail)) (hl5:=(by first|infer_instance|fail)) (hl6:=(by first|infer_instance|fail)) ?_|refine b_build8 (by(conv=>lhs;whnf);done) (by(conv=>lhs;whnf);done) (by(conv=>lhs;whnf);done) (by(conv=>lhs;whnf);done) (by(conv=>lhs;whnf);done) (by(conv=>lhs;whnf);done) (by(conv=>lhs;whnf);done) (by(conv=>lhs;whnf);done) (hC0:=(by first|infer_instance|fail)) (hC1:=(by first|infer_instance|fail)) (hC2:=(by first|infer_instance|fail)) (hC3:=(by first|infer_instance|fail)) (hC4:=(by first|infer_instance|fail)) (hC5:=(by first|infer_instance|fail)) (hC6:=(by first|infer_instance|fail)) (hC7:=(by first|infer_instance|fail)) (hP0:=(by first|infer_instance|fail)) (hP1:=(by first|infer_instance|fail)) (hP2:=(by first|infer_instance|fail)) (hP3:=(by first|infer_instance|fail)) (hP4:=(by first|infer_instance|fail)) (hP5:=(by first|infer_instance|fail)) (hP6:=(by first|infer_instance|fail)) (hP7:=(by first|infer_instance|fail)) (hl0:=(by first|infer_instance|fail)) (hl1:=(by first|infer_instance|fail)) (hl2:=(by first|infer_instance|fail)) (hl3:=(by first|infer_instance|fail)) (hl4:=(by first|infer_instance|fail)) (hl5:=(by first|infer_instance|fail)) (hl6:=(by first|infer_instance|fail)) (hl7:=(by first|infer_instance|fail)) ?_)
   |(refine g_slice ?_;first|refine s_cutL (by rfl) (by rfl) (by omega) ?_|refine s_cutH (by rfl) (by rfl) (by omega) ?_|refine s_cutS (by(conv=>lhs;whnf);done) (by rfl) (by rfl) (jx:=(by first|infer_instance|fail)) (by omega) (by omega) (by omega) ?_|refine s_cutSL (by(conv=>lhs;whnf);done) (by rfl) (jx:=(by first|infer_instance|fail)) (by omega) (by omega) ?_|refine s_sliceD (by rfl) ?_)
   |(refine g_conv ?_;first|refine s_convB (by rfl) ?_|refine s_convW (by rfl) ?_|refine s_convU (by rfl) (by omega) ?_|refine s_strB (by rfl) ?_|refine s_strBox (by rfl) (by repeat(first|exact List.mem_cons_self|apply List.mem_cons_of_mem)) (hs:=(by first|infer_instance|fail)) ?_)
   |(refine g_index ?_;first|refine s_indexS (by(conv=>lhs;whnf);done) (by rfl) (jx:=(by first|infer_instance|fail)) (by omega) ?_)
   |(refine g_nck ?_;first|refine s_nilCheckP (by rfl) ?_)
   |refine pwp_seq ?_
   |refine pwp_region (by kernel_rfl) ?_
   |refine pwp_block ?_
   |refine pwp_skip ?_
   |refine pwp_ret ?_
   |refine pwp_exit ?_
   |refine pwp_drawQ (by decide+kernel) ?_
   |refine pwp_condT (by rfl) ?_
   |refine pwp_condF (by rfl) ?_)
  exact hB.out):A:=h ⟨k⟩
theorem walkp {A B:Prop} (k:B) (h:Wrap B→A:=by
  intro hB
  refine walk ?_
  exact hB.out):A:=h ⟨k⟩
theorem walkb {A:Prop} {B:Nat→Prop} (k: ∀ b,B b) (h:WrapF B→A:=by
  intro hB
  refine walk ?_
  first|refine s_box (by rfl) fun b=>?_|refine s_alloc fun b=>?_
  refine walk ?_
  exact hB.out b):A:=h ⟨k⟩
theorem walkbp {A:Prop} {B:Nat→Prop} (k: ∀ b,B b) (h:WrapF B→A:=by
  intro hB
  refine walkb fun b=>?_
  exact hB.out b):A:=h ⟨k⟩
theorem walka {A:Prop} {B:Tag→Prop} (k: ∀ t,B t) (h:WrapF B→A:=by
  intro hB
  refine walk ?_
  first|refine s_append0 (by rfl) (by rfl) (by simp only[List.length_append,List.length_cons,List.length_nil,List.length_map,List.length_take,List.length_drop,Nat.zero_add];omega) (by simp only[List.length_append,List.length_cons,List.length_nil,List.length_map,List.length_take,List.length_drop,Nat.zero_add];omega) fun t=>?_|refine s_append (by rfl) (by rfl) (by simp only[List.length_append,List.length_cons,List.length_nil,List.length_map,List.length_take,List.length_drop,Nat.zero_add];omega) (by simp only[List.length_append,List.length_cons,List.length_nil,List.length_map,List.length_take,List.length_drop,Nat.zero_add];omega) (fun t=>by first|exact .here|exact(.there .here)|exact(.there (.there .here))|exact(.there (.there (.there .here)))|exact(.there (.there (.there (.there .here))))|exact(.there (.there (.there (.there (.there .here)))))|exact(.there (.there (.there (.there (.there (.there .here))))))|exact(.there (.there (.there (.there (.there (.there (.there .here)))))))|exact(.there (.there (.there (.there (.there (.there (.there (.there .here))))))))) fun t=>?_
  refine walk ?_
  exact hB.out t):A:=h ⟨k⟩
theorem walkap {A:Prop} {B:Tag→Prop} (k: ∀ t,B t) (h:WrapF B→A:=by
  intro hB
  refine walka fun t=>?_
  exact hB.out t):A:=h ⟨k⟩
end
end Go.Q
