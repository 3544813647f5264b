/- The small logic, fourteenth text: steps over strings, numbers, structs and slices by their forms. Library, no statement of its own. -/
import Derived.Test.YtpebdiofdfpooaaGreatDoorUac
import Derived.Laws.IdiomStrings
set_option linter.unusedSimpArgs false
set_option linter.unusedVariables false
namespace Go.Q
open Go
def xJ (P:Program) (T:Nat):Option (Nat × Nat):=
 match P.underlying T with
 |some (.slice E)=>match P.info? E with
  |some i=>match i.zero with
   |some z=>if z.cells.size=i.size∧i.bytes≠0∧i.size≠0∧i.size≤i.bytes then some (i.size,i.bytes)else none
   |none=>none
  |none=>none
 |_=>none
theorem Fy.of {P:Program} {T sz bytes:Nat} (h:xJ P T=some (sz,bytes)):Fy P T sz bytes:=⟨by
 unfold xJ at h
 split at h
 ·rename_i E hu
  split at h
  ·rename_i i hi
   split at h
   ·rename_i z hz
    split at h
    ·rename_i hc
     simp only[Fo,Prod.mk.injEq]at h
     obtain⟨rfl,rfl⟩:=h
     exact⟨E,i,z,hu,hi,rfl,rfl,hz,hc.1,hc.2.1,hc.2.2⟩
    ·cases h
   ·cases h
  ·cases h
 ·cases h⟩
def cN (P:Program) (T:Nat):Bool:=
 match P.underlying T with
 |some (.struct fs)=>fs.all fun f=>(P.info? f.type).isSome
 |_=>false
theorem CV.of {P:Program} {T:Nat} (h:cN P T=true):CV P T:=⟨by
 unfold cN at h
 split at h
 ·rename_i fs hu
  refine⟨fs,hu,fun f hf=>?_⟩
  have:=Array.all_eq_true'.1 h f hf
  exact E5.1 this
 ·cases h⟩
def qq (P:Program) (S k:Nat):Option (Nat × Nat):=
 match P.underlying S with
 |some (.struct fs)=>match fs[k]? with
  |some f=>match P.info? f.type with
   |some i=>some (f.offset,i.size)
   |none=>none
  |none=>none
 |_=>none
theorem Bb.of {P:Program} {S k off sz:Nat} (h:qq P S k=some (off,sz)):Bb P S k off sz:=⟨by
 unfold qq at h
 split at h
 ·rename_i fs hu
  split at h
  ·rename_i f hf
   split at h
   ·rename_i i hi
    simp only[Fo,Prod.mk.injEq]at h
    exact⟨fs,f,i,hu,hf,h.1,hi,h.2⟩
   ·cases h
  ·cases h
 ·cases h⟩
def ri:PV→Option Value
 | .raw v=>some v
 | .slice [] .ro=>some (.slice none 0 0)
 | .str []=>some (.string ⟨#[]⟩)
 |_=>none
theorem mn {x:PV} {v:Value} (h:ri x=some v) (g:Gh):VR g v x:=by
 unfold ri at h
 split at h
 ·cases h;exact .raw _
 ·cases h;exact .nilR
 ·cases h;exact .str (Nat.zero_le _)
 ·cases h
theorem Ch.of {P:Program} {T:Nat} {z:List PV} {us:List Value} (h:((P.info? T).bind (·.zero)).map (·.cells.toList)=some us) (hz:z.map ri=us.map some):Ch P T z:=⟨by
 obtain⟨v,h1,h2⟩:=Bj.1 h
 obtain⟨i,h3,h4⟩:=El.1 h1
 have hl:z.length=us.length:=by simpa using congrArg List.length hz
 refine⟨i,v,us,h3,h4,by rw[←h2],fun g=>⟨hl.symm,fun i h5 h6=>mn ?_ g⟩⟩
 have:=congrArg (fun l=>l[i]?) hz
 simp only[H9,AZ h5,AZ h6,FG]at this
 exact BX this⟩
section
variable {P:Program} {N:Nat} {all:Array Oper} {K:Env→List Res→Prop} {fl:List Bool} {os:List Oper} {ρ:Env} {L:List Res}
variable {d:Nat} {ty:TypeId} {pos:String} {af:Array Edge}
theorem Vd {op:BinOp} {T T':TypeId} {x y:Operand} {a b v:Value} {r:PV} (hx: ∀ g u,VR g u (ρ.ev x)→u=a) (hy: ∀ g u,VR g u (ρ.ev y)→u=b) (hg: ∀ w,(eqGuard op T x y a b).run P w= .ok () w)
  (hr: ∀ w,(binOp op T a b).run P w= .ok v w) (hv: ∀ g,VR g v r) (k:AY P N all K fl.tail os (CN ρ d r) L) (hd:Nat.blt d N=true:=by rfl):
  AY P N all K fl (⟨some d,.binOp op T x y T',ty,pos,af,none⟩::os) ρ L:=
 Bg hd (B7 fun a' w g ha hi=>⟨v,by
  have h1:=hx g _ (ha x (by simp[Op.operands]))
  have h2:=hy g _ (ha y (by simp[Op.operands]))
  simp only[execOp,h1,h2,Sem.run_bind,hg,Result.andThen_ok,hr,Sem.run_pure],hv g⟩) k
theorem qa {op:BinOp} {T T':TypeId} {x y:Operand} {a b v:Value} (hx:ρ.ev x= .raw a) (hy:ρ.ev y= .raw b) (hg: ∀ w,(eqGuard op T x y a b).run P w= .ok () w)
  (hr: ∀ w,(binOp op T a b).run P w= .ok v w) (k:AY P N all K fl.tail os (CN ρ d (.raw v)) L) (hd:Nat.blt d N=true:=by rfl):
  AY P N all K fl (⟨some d,.binOp op T x y T',ty,pos,af,none⟩::os) ρ L:=
 Vd (fun g u h=>by rw[hx]at h;exact h.raw_inv) (fun g u h=>by rw[hy]at h;exact h.raw_inv) hg hr (fun g=> .raw v) k hd
theorem qX {T T':TypeId} {x y:Operand} {s t:Str} {ax ay:PV} (hx:ρ.ev x=ax) [jx:IX ax s] (hy:ρ.ev y=ay) [jy:IX ay t] (hl:s.length+t.length≤140737488355328) (k:AY P N all K fl.tail os (CN ρ d (.str (s++t))) L) (hd:Nat.blt d N=true:=by rfl):
  AY P N all K fl (⟨some d,.binOp .add T x y T',ty,pos,af,none⟩::os) ρ L:=
 Vd (v:= .string (sB (s++t))) (hx ▸ jx.out) (hy ▸ jy.out) (fun w=>by unfold eqGuard;rfl) (fun w=>by
  rw[binOp_string_add,Op.stringOp]
  have: ¬(((sB s).size+(sB t).size:Nat):Int) > IntKind.i64.max:=by
   have e:IntKind.i64.max=9223372036854775807:=by decide
   rw[e,Q5,Q5];omega
  simp only[this,if_false,Sem.run_pure]
  congr 3) (fun g=> .str (by rw[A8];exact hl)) k hd
theorem dw (s t:Str):(s==t)=decide (s=t):=by
 by_cases h:s=t<;>simp[h]
theorem vg {T T':TypeId} [hT:Pg P T] {x y:Operand} {s t:Str} {ax ay:PV} (hx:ρ.ev x=ax) [jx:IX ax s] (hy:ρ.ev y=ay) [jy:IX ay t] (k:AY P N all K fl.tail os (CN ρ d (.raw (.bool (decide (s=t))))) L) (hd:Nat.blt d N=true:=by rfl):
  AY P N all K fl (⟨some d,.binOp .eql T x y T',ty,pos,af,none⟩::os) ρ L:=
 Vd (hx ▸ jx.out) (hy ▸ jy.out) (fun w=>by unfold eqGuard;rfl) (fun w=>by rw[binOp_string_eql,IJ,IJ,Sem.run_pure,dw]) (fun g=> .raw _) k hd
theorem vX {T T':TypeId} [hT:Pg P T] {x y:Operand} {s t:Str} {ax ay:PV} (hx:ρ.ev x=ax) [jx:IX ax s] (hy:ρ.ev y=ay) [jy:IX ay t] (k:AY P N all K fl.tail os (CN ρ d (.raw (.bool (!decide (s=t))))) L) (hd:Nat.blt d N=true:=by rfl):
  AY P N all K fl (⟨some d,.binOp .neq T x y T',ty,pos,af,none⟩::os) ρ L:=
 Vd (hx ▸ jx.out) (hy ▸ jy.out) (fun w=>by unfold eqGuard;rfl) (fun w=>by rw[binOp_string_neq,IJ,IJ,Sem.run_pure,dw]) (fun g=> .raw _) k hd
theorem jA {T:TypeId} [hT:Pg P T] {x:Operand} {s:Str} {ax:PV} (hx:ρ.ev x=ax) [jx:IX ax s] (k:AY P N all K fl.tail os (CN ρ d (.raw (.int .i64 s.length))) L) (hd:Nat.blt d N=true:=by rfl):
  AY P N all K fl (⟨some d,.call { callee:= .builtin .len,args:= #[x],argTypes:= #[T] },ty,pos,af,none⟩::os) ρ L:=
 Bg hd (B7 fun a w g ha hi=>⟨.int .i64 s.length,by
  have h1:=jx.out g _ (hx ▸ ha x (by simp[Op.operands,Call.operands]))
  have he:execOp a.eval ⟨some d,.call { callee:= .builtin .len,args:= #[x],argTypes:= #[T] },ty,pos,af,none⟩=(do pure (.value (←Builtin.len_ #[T] ty (#[x].map a.eval)))):=rfl
  rw[he]
  simp[Builtin.len_,h1,Hx hT.out,goInt],.raw _⟩) k
theorem YJ {T:TypeId} [hT:Pg P T] {x y:Operand} {s:Str} {ax:PV} {kk:IntKind} {n:Nat} (hx:ρ.ev x=ax) [jx:IX ax s] (hy:ρ.ev y= .raw (.int kk (n:Int))) (hn:n < s.length) (k:AY P N all K fl.tail os (CN ρ d (.raw (.int .u8 (s[n].toNat:Int)))) L) (hd:Nat.blt d N=true:=by rfl):
  AY P N all K fl (⟨some d,.index T x y,ty,pos,af,none⟩::os) ρ L:=
 Bg hd (B7 fun a w g ha hi=>⟨_,by
  have h1:=jx.out g _ (hx ▸ ha x (by simp[Op.operands]))
  have h2:=CR ha (x:=y) (by simp[Op.operands]) hy
  show(do pure (Next.value (←Instr.index T (a.eval x) (a.eval y))):Sem Next).run P w=_
  rw[h1,h2,Sem.run_bind,run_index_string (h:=hT.out),dif_pos ⟨by omega,by rw[Q5];omega⟩]
  rfl,by
  have e:(sB s)[(n:Int).toNat]'(by rw[Q5];omega)=s[n]:=by
   simp only[Br]
   show(sB s).data[n]'(by simpa [sB]using hn)=_
   simp[sB]
  rw[e];exact .raw _⟩) k
theorem Wh {T:TypeId} [hT:Pg P T] {x y z:Operand} {s:Str} {ax:PV} {k₁ k₂:IntKind} {i j:Nat} (hx:ρ.ev x=ax) [jx:IX ax s] (hy:ρ.ev y= .raw (.int k₁ (i:Int))) (hz:ρ.ev z= .raw (.int k₂ (j:Int))) (hij:i≤j) (hj:j≤s.length) (hS:s.length≤140737488355328)
  (k:AY P N all K fl.tail os (CN ρ d (.str ((s.drop i).take (j - i)))) L) (hd:Nat.blt d N=true:=by rfl):
  AY P N all K fl (⟨some d,.slice T x (some y) (some z) none,ty,pos,af,none⟩::os) ρ L:=
 Bg hd (B7 fun a w g ha hi=>⟨_,by
  have h1:=jx.out g _ (hx ▸ ha x (by simp[Op.operands]))
  have h2:=CR ha (x:=y) (by simp[Op.operands]) hy
  have h3:=CR ha (x:=z) (by simp[Op.operands]) hz
  show(do pure (Next.value (←Instr.sliceAt T (a.eval x) (some (a.eval y)) (some (a.eval z)) none)):Sem Next).run P w=_
  have hb:(Instr.sliceBounds false (sB s).size (sB s).size (some (a.eval y)) (some (a.eval z)) none).run P w= .ok (i,j,(sB s).size) w:=by
   unfold Instr.sliceBounds
   simp[h2,h3,Instr.sliceBound,asIntOf]
   rw[if_pos (by omega)]
   simp
   omega
  rw[Sem.run_bind]
  simp only[Instr.sliceAt,Sem.run_bind,run_underlying hT.out,Result.andThen_ok,Instr.slice,h1,Option.isSome_none,BQ,if_false,hb,Sem.run_pure]
  rfl,by
  have e:(sB s).extract i j=sB ((s.drop i).take (j - i)):=by
   apply ByteArray.ext
   simp[sB,vI]
  rw[e];exact .str (by simp only[AV,Ao];show _≤140737488355328;omega)⟩) k
theorem cf {T:TypeId} [hT:Pg P T] {x y:Operand} {s:Str} {ax:PV} {k₁:IntKind} {i:Nat} (hx:ρ.ev x=ax) [jx:IX ax s] (hy:ρ.ev y= .raw (.int k₁ (i:Int))) (hi:i≤s.length) (hS:s.length≤140737488355328)
  (k:AY P N all K fl.tail os (CN ρ d (.str (s.drop i))) L) (hd:Nat.blt d N=true:=by rfl):
  AY P N all K fl (⟨some d,.slice T x (some y) none none,ty,pos,af,none⟩::os) ρ L:=
 Bg hd (B7 fun a w g ha hi'=>⟨_,by
  have h1:=jx.out g _ (hx ▸ ha x (by simp[Op.operands]))
  have h2:=CR ha (x:=y) (by simp[Op.operands]) hy
  show(do pure (Next.value (←Instr.sliceAt T (a.eval x) (some (a.eval y)) none none)):Sem Next).run P w=_
  have hb:(Instr.sliceBounds false (sB s).size (sB s).size (some (a.eval y)) none none).run P w= .ok (i,s.length,(sB s).size) w:=by
   unfold Instr.sliceBounds
   simp[h2,Instr.sliceBound,asIntOf]
   omega
  rw[Sem.run_bind]
  simp only[Instr.sliceAt,Sem.run_bind,run_underlying hT.out,Result.andThen_ok,Instr.slice,h1,Option.isSome_none,BQ,if_false,hb,Sem.run_pure]
  rfl,by
  have e:(sB s).extract i s.length=sB (s.drop i):=by
   apply ByteArray.ext
   simp[sB,vI]
   rw[AA (by simp)]
  rw[e];exact .str (by simp only[Ao];show _≤140737488355328;omega)⟩) k
theorem Wi {S T:TypeId} {k' kT:IntKind} [hS:My P S k'] [hT:My P T kT] {x:Operand} {k₀:IntKind} {n:Int} (hx:ρ.ev x= .raw (.int k₀ n)) (k:AY P N all K fl.tail os (CN ρ d (.raw (.int kT (kT.wrap n)))) L) (hd:Nat.blt d N=true:=by rfl):
  AY P N all K fl (⟨some d,.convert S T x,ty,pos,af,none⟩::os) ρ L:=
 Bg hd (B7 fun a w g ha hi=>⟨_,by
  have h1:=CR ha (x:=x) (by simp[Op.operands]) hx
  show(do pure (Next.value (←convert S T (a.eval x))):Sem Next).run P w=_
  simp only[convert,Sem.run_bind,run_underlying hS.out,run_underlying hT.out,Result.andThen_ok,h1,Conv.intToInt,Sem.run_pure],.raw _⟩) k
theorem cn {S T:TypeId} {k' kT:IntKind} [hS:My P S k'] [hT:My P T kT] {x:Operand} {k₀:IntKind} {n:Int} (hx:ρ.ev x= .raw (.int k₀ n)) (hw:kT.wrap n=n) (k:AY P N all K fl.tail os (CN ρ d (.raw (.int kT n))) L) (hd:Nat.blt d N=true:=by rfl):
  AY P N all K fl (⟨some d,.convert S T x,ty,pos,af,none⟩::os) ρ L:=Wi hx (by rw[hw];exact k) hd
theorem qQ {T T':TypeId} {x y:Operand} {m n:Int} (hx:ρ.ev x= .raw (.int .i64 m)) (hy:ρ.ev y= .raw (.int .i64 n)) (hb: -9223372036854775808≤m*n∧m*n≤9223372036854775807) (k:AY P N all K fl.tail os (CN ρ d (.raw (.int .i64 (m*n)))) L) (hd:Nat.blt d N=true:=by rfl):
  AY P N all K fl (⟨some d,.binOp .mul T x y T',ty,pos,af,none⟩::os) ρ L:=Gp hx hy (fun w=>by simp[binOp,Op.intArith,IntWalk.i64_in _ hb]) k hd
theorem YB {T T':TypeId} {x y:Operand} {m n:Nat} (hx:ρ.ev x= .raw (.int .i64 (m:Int))) (hy:ρ.ev y= .raw (.int .i64 (n:Int))) (hn:n≠0) (hm:m≤9223372036854775807) (k:AY P N all K fl.tail os (CN ρ d (.raw (.int .i64 ((m / n:Nat):Int)))) L) (hd:Nat.blt d N=true:=by rfl):
  AY P N all K fl (⟨some d,.binOp .quo T x y T',ty,pos,af,none⟩::os) ρ L:=Gp hx hy (fun w=>by
   have h1:m / n≤m:=Nat.div_le_self m n
   have h2:((m:Int).tdiv n)=((m / n:Nat):Int):=(Int.ofNat_tdiv m n).symm
   have h3:(n:Int)≠0:=by omega
   simp only[binOp,ne_eq,not_true_eq_false,if_false,Op.intDiv,h3,h2]
   clear h2
   generalize m / n=q at*
   rw[IntWalk.i64_in _ (by constructor<;>omega)];rfl) k hd
theorem YA {T T':TypeId} {x y:Operand} {m n:Nat} (hx:ρ.ev x= .raw (.int .i64 (m:Int))) (hy:ρ.ev y= .raw (.int .i64 (n:Int))) (hn:n≠0) (k:AY P N all K fl.tail os (CN ρ d (.raw (.int .i64 ((m % n:Nat):Int)))) L) (hd:Nat.blt d N=true:=by rfl):
  AY P N all K fl (⟨some d,.binOp .rem T x y T',ty,pos,af,none⟩::os) ρ L:=Gp hx hy (fun w=>by
   have h2:((m:Int).tmod n)=((m % n:Nat):Int):=(Int.ofNat_tmod m n).symm
   have h3:(n:Int)≠0:=by omega
   simp only[binOp,ne_eq,not_true_eq_false,if_false,Op.intDiv,h3,h2];rfl) k hd
class zI (P:Program) (T:Nat):Prop where
 out:P.underlying T=some .bool
theorem YE {x:Operand} {ad:Addr} (hx:ρ.ev x= .raw (.pointer (some ad))) (k:AY P N all K fl.tail os (CN ρ d (.raw (.pointer (some ad)))) L) (hd:Nat.blt d N=true:=by rfl):AY P N all K fl (⟨some d,.nilCheck x,ty,pos,af,none⟩::os) ρ L:=
 Bg hd (B7 fun a w g ha hi=>⟨.pointer (some ad),by
  have h1:=CR ha (x:=x) (by simp[Op.operands]) hx
  simp[execOp,h1],.raw _⟩) k
class S6 (b:Nat) (L:List Res) (cs:outParam (List PV)):Prop where
 out: ∃ T,Res.box b T cs∈L
instance {b T:Nat} {cs:List PV} {L:List Res}:S6 b (.box b T cs::L) cs:=⟨T,by simp⟩
instance (priority:=low) {b:Nat} {cs:List PV} {r:Res} {L:List Res} [h:S6 b L cs]:S6 b (r::L) cs:=⟨by obtain⟨T,h⟩:=h.out;exact⟨T,AD _ h⟩⟩
class Ur (b:Nat) (cs cs':List PV) (L:List Res) (L':outParam (List Res)):Prop where
 out:pn b cs cs' L L'
instance {b T:Nat} {cs cs':List PV} {L:List Res}:Ur b cs cs' (.box b T cs::L) (.box b T cs'::L):=⟨.here⟩
instance (priority:=low) {b:Nat} {cs cs':List PV} {r:Res} {L L':List Res} [h:Ur b cs cs' L L']:Ur b cs cs' (r::L) (r::L'):=⟨.there h.out⟩
theorem im {T:TypeId} {x y:Operand} {b off sz by_:Nat} {a:PV} {cs cs' new:List PV} {L':List Res} [hT:ER P T sz by_]
  (hx:ρ.ev x= .raw (.pointer (some ⟨b,off,none⟩))) (hy:ρ.ev y=a) [hC:Dt a new] [hB:S6 b L cs] [hp:Et cs off new cs'] [hu:Ur b cs cs' L L'] [hf:EU new] [hlen:Cw new sz]
  (k:AY P N all K fl.tail os ρ L') (hfl:fl.headD true=true:=by rfl):AY P N all K fl (⟨none,.store T x y,ty,pos,af,none⟩::os) ρ L:=
 Dr rfl (fun _ e=>by cases e) hfl (JJ hx (hy ▸ hC.out) hlen.out hf.out hp.out.1 hp.out.2 hu.out k)
theorem Y6 {T:TypeId} {x y:Operand} {b sz by_:Nat} {cs new:List PV} {L':List Res} [hT:ER P T sz by_]
  (hx:ρ.ev x= .raw (.pointer (some ⟨b,0,none⟩))) (hy:ρ.ev y= .agg new) [hB:S6 b L cs] [hu:Ur b cs new L L'] [hf:EU new] [hlen:Cw new sz] [hcs:Cw cs sz]
  (k:AY P N all K fl.tail os ρ L') (hfl:fl.headD true=true:=by rfl):AY P N all K fl (⟨none,.store T x y,ty,pos,af,none⟩::os) ρ L:=ie hx hy hu.out hlen.out hcs.out k hfl
theorem YI {T n:Nat} [hT:FL P T n] {x:Operand} {cs:List PV} (hx:ρ.ev x= .pt cs 0) [hl:Cw cs n] (k:AY P N all K fl.tail os (CN ρ d (.agg cs)) L) (hd:Nat.blt d N=true:=by rfl):
  AY P N all K fl (⟨some d,.load T x,ty,pos,af,none⟩::os) ρ L:=j9 hx hl.out k hd
theorem YG {T n:Nat} [hT:FL P T n] {x:Operand} {b T':Nat} {cs:List PV} (hx:ρ.ev x= .raw (.pointer (some ⟨b,0,none⟩))) (hm:Res.box b T' cs∈L) [hl:Cw cs n] (k:AY P N all K fl.tail os (CN ρ d (.agg cs)) L) (hd:Nat.blt d N=true:=by rfl):
  AY P N all K fl (⟨some d,.load T x,ty,pos,af,none⟩::os) ρ L:=eU hx hm hl.out k hd
theorem cd {S f off' q:Nat} [hF:CF P S f off'] {x:Operand} {b off:Nat} (hx:ρ.ev x= .raw (.pointer (some ⟨b,off,none⟩))) (hq:off+off'=q) (k:AY P N all K fl.tail os (CN ρ d (.raw (.pointer (some ⟨b,q,none⟩)))) L) (hd:Nat.blt d N=true:=by rfl):
  AY P N all K fl (⟨some d,.fieldAddr S x f,ty,pos,af,none⟩::os) ρ L:=sA hx (by rw[hq];exact k) hd
theorem qZ {T sz by_:Nat} [hE:Fy P T sz by_] (k:AY P N all K fl.tail os (CN ρ d (.slice [] .nil)) L) (hd:Nat.blt d N=true:=by rfl):AY P N all K fl (⟨some d,.buildSlice T 0 #[],ty,pos,af,none⟩::os) ρ L:=
 Bg hd (by
  intro a w g ha hi
  obtain⟨E,i,z,t1,t2,t3,t4,t5,t6,t7,t8⟩:=hE.out
  obtain⟨j1,j2,j3⟩:=hi.lay [] E
  have hr:(execOp a.eval ⟨some d,.buildSlice T 0 #[],ty,pos,af,none⟩).run P w= .ok (.value (.slice (some ⟨w.heap.size,0,none⟩) 0 0)) { w with heap:=w.heap.push (.cells [].toArray E (0,0)) }:=by
   show(do pure (Next.value (←Instr.buildSlice T 0 ((#[]:Array (Nat × Operand)).map fun(p:Nat × Operand)=>(p.1,a.eval p.2)))):Sem Next).run P w=_
   have hzv:(zeroValue E).run P w= .ok z w:=by simp[zeroValue,typeInfo,t2,t5]
   simp only[Instr.buildSlice,Sem.run_bind,run_underlying t1,Result.andThen_ok,sizeOf,typeInfo,run_program,t2,Sem.run_pure,t3]
   rw[if_neg (by simp)]
   split
   ·simp[Instr.fill,newRow];congr 2;apply Hg;simp
   ·simp[hzv,Instr.fill,newRow];congr 2;apply Hg;simp
  refine Oper.wq_of_run hr ?_
  exact⟨_,.slice [] .nil,_,L,rfl,.nilN _ (by simp),j1,j2,.refl _ _,rfl,rfl⟩) k
theorem YN {T:Nat} {z:List PV} [hS:CV P T] [hZ:Ch P T z] (k:AY P N all K fl.tail os (CN ρ d (.agg z)) L) (hd:Nat.blt d N=true:=by rfl):AY P N all K fl (⟨some d,.build T #[],ty,pos,af,none⟩::os) ρ L:=
 Bg hd (JI (ps:= []) rfl (by simp) .nil) k
theorem vY {op:Op} {x y:PV} (hl:Le x y) (hq:gL P ⟨some d,op,ty,pos,af,none⟩ ρ L x) (k:AY P N all K fl.tail os (CN ρ d y) L) (hd:Nat.blt d N=true:=by rfl):AY P N all K fl (⟨some d,op,ty,pos,af,none⟩::os) ρ L:=
 Bg hd (fun a w g ha hi=>(hq a w g ha hi).mono fun _ _ ⟨v,x',g',L',h1,h2,h3,h4,h5,h6,h7⟩=>⟨v,y,g',L',h1,hl _ _ (h6 ▸ h2),h3,h4,h5,rfl,h7⟩) k
theorem KA {x:Operand} {a b:PV} (ha:ρ.ev x=a) [hn:Jt a b] (k:AY P N all K fl.tail os (CN ρ d b) L) (hd:Nat.blt d N=true:=by rfl):AY P N all K fl (⟨some d,.move x,ty,pos,af,none⟩::os) ρ L:=
 vY hn.out (B7 fun a' w g ha' hi=>⟨a'.eval x,rfl,ha ▸ ha' x (by simp[Op.operands])⟩) k hd
theorem VS {x:Operand} {a b:PV} (ha:ρ.ev x=a) [hn:Jt a b] (k:AY P N all K fl.tail os (CN ρ d b) L) (hd:Nat.blt d N=true:=by rfl):AY P N all K fl (⟨some d,.assign x,ty,pos,af,none⟩::os) ρ L:=
 vY hn.out (B7 fun a' w g ha' hi=>⟨a'.eval x,rfl,ha ▸ ha' x (by simp[Op.operands])⟩) k hd
theorem SQ {f:FuncId} {as bs:List PV} {X:PV} (hl:as.length=bs.length) (h: ∀ i (h1:i < as.length) (h2:i < bs.length),Le as[i] bs[i]) (hc:Fn P f bs X):Fn P f as X:=fun vs w g LF hv hi=>
 hc vs w g LF ⟨hv.len.trans hl,fun i h1 h2=>h i (by omega) h2 g _ (hv.at_ i h1 (by omega))⟩ hi
theorem lV {T f0 o0 s0:Nat} {x0:Operand} {a0:PV} {z c0 r0:List PV} [hS:CV P T] [hZ:Ch P T z] [hF0:Bb P T f0 o0 s0] (h0:ρ.ev x0=a0) [hC0:Dt a0 c0] [hP0:Et z o0 c0 r0] [hl0:Cw c0 s0]
  (k:AY P N all K fl.tail os (CN ρ d (.agg r0)) L) (hd:Nat.blt d N=true:=by rfl):AY P N all K fl (⟨some d,.build T #[(f0,x0)],ty,pos,af,none⟩::os) ρ L:=
 jN (h0 ▸ hC0.out) hl0.out k hd
theorem lU {T f0 f1 o0 o1 s0 s1:Nat} {x0 x1:Operand} {a0 a1:PV} {z c0 c1 r0 r1:List PV} [hS:CV P T] [hZ:Ch P T z] [hF0:Bb P T f0 o0 s0] [hF1:Bb P T f1 o1 s1] (h0:ρ.ev x0=a0) (h1:ρ.ev x1=a1) [hC0:Dt a0 c0] [hC1:Dt a1 c1] [hP0:Et z o0 c0 r0] [hP1:Et r0 o1 c1 r1] [hl0:Cw c0 s0] [hl1:Cw c1 s1]
  (k:AY P N all K fl.tail os (CN ρ d (.agg r1)) L) (hd:Nat.blt d N=true:=by rfl):AY P N all K fl (⟨some d,.build T #[(f0,x0),(f1,x1)],ty,pos,af,none⟩::os) ρ L:=
 YM (h0 ▸ hC0.out) (h1 ▸ hC1.out) hl0.out hl1.out k hd
theorem lS {T f0 f1 f2 o0 o1 o2 s0 s1 s2:Nat} {x0 x1 x2:Operand} {a0 a1 a2:PV} {z c0 c1 c2 r0 r1 r2:List PV} [hS:CV P T] [hZ:Ch P T z] [hF0:Bb P T f0 o0 s0] [hF1:Bb P T f1 o1 s1] [hF2:Bb P T f2 o2 s2] (h0:ρ.ev x0=a0) (h1:ρ.ev x1=a1) (h2:ρ.ev x2=a2) [hC0:Dt a0 c0] [hC1:Dt a1 c1] [hC2:Dt a2 c2] [hP0:Et z o0 c0 r0] [hP1:Et r0 o1 c1 r1] [hP2:Et r1 o2 c2 r2] [hl0:Cw c0 s0] [hl1:Cw c1 s1] [hl2:Cw c2 s2]
  (k:AY P N all K fl.tail os (CN ρ d (.agg r2)) L) (hd:Nat.blt d N=true:=by rfl):AY P N all K fl (⟨some d,.build T #[(f0,x0),(f1,x1),(f2,x2)],ty,pos,af,none⟩::os) ρ L:=
 jM (h0 ▸ hC0.out) (h1 ▸ hC1.out) (h2 ▸ hC2.out) hl0.out hl1.out hl2.out k hd
theorem lR {T f0 f1 f2 f3 o0 o1 o2 o3 s0 s1 s2 s3:Nat} {x0 x1 x2 x3:Operand} {a0 a1 a2 a3:PV} {z c0 c1 c2 c3 r0 r1 r2 r3:List PV} [hS:CV P T] [hZ:Ch P T z] [hF0:Bb P T f0 o0 s0] [hF1:Bb P T f1 o1 s1] [hF2:Bb P T f2 o2 s2] [hF3:Bb P T f3 o3 s3] (h0:ρ.ev x0=a0) (h1:ρ.ev x1=a1) (h2:ρ.ev x2=a2) (h3:ρ.ev x3=a3) [hC0:Dt a0 c0] [hC1:Dt a1 c1] [hC2:Dt a2 c2] [hC3:Dt a3 c3] [hP0:Et z o0 c0 r0] [hP1:Et r0 o1 c1 r1] [hP2:Et r1 o2 c2 r2] [hP3:Et r2 o3 c3 r3] [hl0:Cw c0 s0] [hl1:Cw c1 s1] [hl2:Cw c2 s2] [hl3:Cw c3 s3]
  (k:AY P N all K fl.tail os (CN ρ d (.agg r3)) L) (hd:Nat.blt d N=true:=by rfl):AY P N all K fl (⟨some d,.build T #[(f0,x0),(f1,x1),(f2,x2),(f3,x3)],ty,pos,af,none⟩::os) ρ L:=
 jL (h0 ▸ hC0.out) (h1 ▸ hC1.out) (h2 ▸ hC2.out) (h3 ▸ hC3.out) hl0.out hl1.out hl2.out hl3.out k hd
theorem lQ {T f0 f1 f2 f3 f4 o0 o1 o2 o3 o4 s0 s1 s2 s3 s4:Nat} {x0 x1 x2 x3 x4:Operand} {a0 a1 a2 a3 a4:PV} {z c0 c1 c2 c3 c4 r0 r1 r2 r3 r4:List PV} [hS:CV P T] [hZ:Ch P T z] [hF0:Bb P T f0 o0 s0] [hF1:Bb P T f1 o1 s1] [hF2:Bb P T f2 o2 s2] [hF3:Bb P T f3 o3 s3] [hF4:Bb P T f4 o4 s4] (h0:ρ.ev x0=a0) (h1:ρ.ev x1=a1) (h2:ρ.ev x2=a2) (h3:ρ.ev x3=a3) (h4:ρ.ev x4=a4) [hC0:Dt a0 c0] [hC1:Dt a1 c1] [hC2:Dt a2 c2] [hC3:Dt a3 c3] [hC4:Dt a4 c4] [hP0:Et z o0 c0 r0] [hP1:Et r0 o1 c1 r1] [hP2:Et r1 o2 c2 r2] [hP3:Et r2 o3 c3 r3] [hP4:Et r3 o4 c4 r4] [hl0:Cw c0 s0] [hl1:Cw c1 s1] [hl2:Cw c2 s2] [hl3:Cw c3 s3] [hl4:Cw c4 s4]
  (k:AY P N all K fl.tail os (CN ρ d (.agg r4)) L) (hd:Nat.blt d N=true:=by rfl):AY P N all K fl (⟨some d,.build T #[(f0,x0),(f1,x1),(f2,x2),(f3,x3),(f4,x4)],ty,pos,af,none⟩::os) ρ L:=
 jK (h0 ▸ hC0.out) (h1 ▸ hC1.out) (h2 ▸ hC2.out) (h3 ▸ hC3.out) (h4 ▸ hC4.out) hl0.out hl1.out hl2.out hl3.out hl4.out k hd
theorem lP {T f0 f1 f2 f3 f4 f5 o0 o1 o2 o3 o4 o5 s0 s1 s2 s3 s4 s5:Nat} {x0 x1 x2 x3 x4 x5:Operand} {a0 a1 a2 a3 a4 a5:PV} {z c0 c1 c2 c3 c4 c5 r0 r1 r2 r3 r4 r5:List PV} [hS:CV P T] [hZ:Ch P T z] [hF0:Bb P T f0 o0 s0] [hF1:Bb P T f1 o1 s1] [hF2:Bb P T f2 o2 s2] [hF3:Bb P T f3 o3 s3] [hF4:Bb P T f4 o4 s4] [hF5:Bb P T f5 o5 s5] (h0:ρ.ev x0=a0) (h1:ρ.ev x1=a1) (h2:ρ.ev x2=a2) (h3:ρ.ev x3=a3) (h4:ρ.ev x4=a4) (h5:ρ.ev x5=a5) [hC0:Dt a0 c0] [hC1:Dt a1 c1] [hC2:Dt a2 c2] [hC3:Dt a3 c3] [hC4:Dt a4 c4] [hC5:Dt a5 c5] [hP0:Et z o0 c0 r0] [hP1:Et r0 o1 c1 r1] [hP2:Et r1 o2 c2 r2] [hP3:Et r2 o3 c3 r3] [hP4:Et r3 o4 c4 r4] [hP5:Et r4 o5 c5 r5] [hl0:Cw c0 s0] [hl1:Cw c1 s1] [hl2:Cw c2 s2] [hl3:Cw c3 s3] [hl4:Cw c4 s4] [hl5:Cw c5 s5]
  (k:AY P N all K fl.tail os (CN ρ d (.agg r5)) L) (hd:Nat.blt d N=true:=by rfl):AY P N all K fl (⟨some d,.build T #[(f0,x0),(f1,x1),(f2,x2),(f3,x3),(f4,x4),(f5,x5)],ty,pos,af,none⟩::os) ρ L:=
 jJ (h0 ▸ hC0.out) (h1 ▸ hC1.out) (h2 ▸ hC2.out) (h3 ▸ hC3.out) (h4 ▸ hC4.out) (h5 ▸ hC5.out) hl0.out hl1.out hl2.out hl3.out hl4.out hl5.out k hd
theorem qY {T sz by_:Nat} [hE:Fy P T sz by_] {x0:Operand} {a0:PV} {α:Type} {f:α→List PV} {e0:α} (q0:ρ.ev x0=a0) [hC0:Fx a0 f e0] [hf:Kz f sz] (h24:1*sz≤16777216)
  (k:AY P N all K fl.tail os (CN ρ d (.slice ([e0].map f) .ro)) L) (hd:Nat.blt d N=true:=by rfl):AY P N all K fl (⟨some d,.buildSlice T 1 #[(0,x0)],ty,pos,af,none⟩::os) ρ L:=
 Bg hd (RF (xs:= [x0]) (cs:= [e0].map f) rfl rfl h24 (by decide) (fun i h1 h2=>by
  match i,h1,h2 with
  |0,_,_=>exact⟨q0 ▸ hC0.out,hf.out e0⟩
  |m+1,h1,_=>exact absurd h1 (by simp only[AH,Aa];omega))) k
theorem vl {T sz by_:Nat} [hE:Fy P T sz by_] {x0 x1:Operand} {a0 a1:PV} {α:Type} {f:α→List PV} {e0 e1:α} (q0:ρ.ev x0=a0) (q1:ρ.ev x1=a1) [hC0:Fx a0 f e0] [hC1:Fx a1 f e1] [hf:Kz f sz] (h24:2*sz≤16777216)
  (k:AY P N all K fl.tail os (CN ρ d (.slice ([e0,e1].map f) .ro)) L) (hd:Nat.blt d N=true:=by rfl):AY P N all K fl (⟨some d,.buildSlice T 2 #[(0,x0),(1,x1)],ty,pos,af,none⟩::os) ρ L:=
 Bg hd (RF (xs:= [x0,x1]) (cs:= [e0,e1].map f) rfl rfl h24 (by decide) (fun i h1 h2=>by
  match i,h1,h2 with
  |0,_,_=>exact⟨q0 ▸ hC0.out,hf.out e0⟩
  |1,_,_=>exact⟨q1 ▸ hC1.out,hf.out e1⟩
  |m+2,h1,_=>exact absurd h1 (by simp only[AH,Aa];omega))) k
theorem vk {T sz by_:Nat} [hE:Fy P T sz by_] {x0 x1 x2:Operand} {a0 a1 a2:PV} {α:Type} {f:α→List PV} {e0 e1 e2:α} (q0:ρ.ev x0=a0) (q1:ρ.ev x1=a1) (q2:ρ.ev x2=a2) [hC0:Fx a0 f e0] [hC1:Fx a1 f e1] [hC2:Fx a2 f e2] [hf:Kz f sz] (h24:3*sz≤16777216)
  (k:AY P N all K fl.tail os (CN ρ d (.slice ([e0,e1,e2].map f) .ro)) L) (hd:Nat.blt d N=true:=by rfl):AY P N all K fl (⟨some d,.buildSlice T 3 #[(0,x0),(1,x1),(2,x2)],ty,pos,af,none⟩::os) ρ L:=
 Bg hd (RF (xs:= [x0,x1,x2]) (cs:= [e0,e1,e2].map f) rfl rfl h24 (by decide) (fun i h1 h2=>by
  match i,h1,h2 with
  |0,_,_=>exact⟨q0 ▸ hC0.out,hf.out e0⟩
  |1,_,_=>exact⟨q1 ▸ hC1.out,hf.out e1⟩
  |2,_,_=>exact⟨q2 ▸ hC2.out,hf.out e2⟩
  |m+3,h1,_=>exact absurd h1 (by simp only[AH,Aa];omega))) k
theorem vj {T sz by_:Nat} [hE:Fy P T sz by_] {x0 x1 x2 x3:Operand} {a0 a1 a2 a3:PV} {α:Type} {f:α→List PV} {e0 e1 e2 e3:α} (q0:ρ.ev x0=a0) (q1:ρ.ev x1=a1) (q2:ρ.ev x2=a2) (q3:ρ.ev x3=a3) [hC0:Fx a0 f e0] [hC1:Fx a1 f e1] [hC2:Fx a2 f e2] [hC3:Fx a3 f e3] [hf:Kz f sz] (h24:4*sz≤16777216)
  (k:AY P N all K fl.tail os (CN ρ d (.slice ([e0,e1,e2,e3].map f) .ro)) L) (hd:Nat.blt d N=true:=by rfl):AY P N all K fl (⟨some d,.buildSlice T 4 #[(0,x0),(1,x1),(2,x2),(3,x3)],ty,pos,af,none⟩::os) ρ L:=
 Bg hd (RF (xs:= [x0,x1,x2,x3]) (cs:= [e0,e1,e2,e3].map f) rfl rfl h24 (by decide) (fun i h1 h2=>by
  match i,h1,h2 with
  |0,_,_=>exact⟨q0 ▸ hC0.out,hf.out e0⟩
  |1,_,_=>exact⟨q1 ▸ hC1.out,hf.out e1⟩
  |2,_,_=>exact⟨q2 ▸ hC2.out,hf.out e2⟩
  |3,_,_=>exact⟨q3 ▸ hC3.out,hf.out e3⟩
  |m+4,h1,_=>exact absurd h1 (by simp only[AH,Aa];omega))) k
theorem vi {T sz by_:Nat} [hE:Fy P T sz by_] {x0 x1 x2 x3 x4:Operand} {a0 a1 a2 a3 a4:PV} {α:Type} {f:α→List PV} {e0 e1 e2 e3 e4:α} (q0:ρ.ev x0=a0) (q1:ρ.ev x1=a1) (q2:ρ.ev x2=a2) (q3:ρ.ev x3=a3) (q4:ρ.ev x4=a4) [hC0:Fx a0 f e0] [hC1:Fx a1 f e1] [hC2:Fx a2 f e2] [hC3:Fx a3 f e3] [hC4:Fx a4 f e4] [hf:Kz f sz] (h24:5*sz≤16777216)
  (k:AY P N all K fl.tail os (CN ρ d (.slice ([e0,e1,e2,e3,e4].map f) .ro)) L) (hd:Nat.blt d N=true:=by rfl):AY P N all K fl (⟨some d,.buildSlice T 5 #[(0,x0),(1,x1),(2,x2),(3,x3),(4,x4)],ty,pos,af,none⟩::os) ρ L:=
 Bg hd (RF (xs:= [x0,x1,x2,x3,x4]) (cs:= [e0,e1,e2,e3,e4].map f) rfl rfl h24 (by decide) (fun i h1 h2=>by
  match i,h1,h2 with
  |0,_,_=>exact⟨q0 ▸ hC0.out,hf.out e0⟩
  |1,_,_=>exact⟨q1 ▸ hC1.out,hf.out e1⟩
  |2,_,_=>exact⟨q2 ▸ hC2.out,hf.out e2⟩
  |3,_,_=>exact⟨q3 ▸ hC3.out,hf.out e3⟩
  |4,_,_=>exact⟨q4 ▸ hC4.out,hf.out e4⟩
  |m+5,h1,_=>exact absurd h1 (by simp only[AH,Aa];omega))) k
theorem vh {T sz by_:Nat} [hE:Fy P T sz by_] {x0 x1 x2 x3 x4 x5:Operand} {a0 a1 a2 a3 a4 a5:PV} {α:Type} {f:α→List PV} {e0 e1 e2 e3 e4 e5:α} (q0:ρ.ev x0=a0) (q1:ρ.ev x1=a1) (q2:ρ.ev x2=a2) (q3:ρ.ev x3=a3) (q4:ρ.ev x4=a4) (q5:ρ.ev x5=a5) [hC0:Fx a0 f e0] [hC1:Fx a1 f e1] [hC2:Fx a2 f e2] [hC3:Fx a3 f e3] [hC4:Fx a4 f e4] [hC5:Fx a5 f e5] [hf:Kz f sz] (h24:6*sz≤16777216)
  (k:AY P N all K fl.tail os (CN ρ d (.slice ([e0,e1,e2,e3,e4,e5].map f) .ro)) L) (hd:Nat.blt d N=true:=by rfl):AY P N all K fl (⟨some d,.buildSlice T 6 #[(0,x0),(1,x1),(2,x2),(3,x3),(4,x4),(5,x5)],ty,pos,af,none⟩::os) ρ L:=
 Bg hd (RF (xs:= [x0,x1,x2,x3,x4,x5]) (cs:= [e0,e1,e2,e3,e4,e5].map f) rfl rfl h24 (by decide) (fun i h1 h2=>by
  match i,h1,h2 with
  |0,_,_=>exact⟨q0 ▸ hC0.out,hf.out e0⟩
  |1,_,_=>exact⟨q1 ▸ hC1.out,hf.out e1⟩
  |2,_,_=>exact⟨q2 ▸ hC2.out,hf.out e2⟩
  |3,_,_=>exact⟨q3 ▸ hC3.out,hf.out e3⟩
  |4,_,_=>exact⟨q4 ▸ hC4.out,hf.out e4⟩
  |5,_,_=>exact⟨q5 ▸ hC5.out,hf.out e5⟩
  |m+6,h1,_=>exact absurd h1 (by simp only[AH,Aa];omega))) k
theorem dV {f:Nat} {X:PV} {ats:Array TypeId} [hf:Ax P f] [hc:Bl P f [] X] (k:AY P N all K fl.tail os (CN ρ d X) L) (hd:Nat.blt d N=true:=by rfl):
  AY P N all K fl (⟨some d,.call { callee:= .value (.func f),args:= #[],argTypes:=ats },ty,pos,af,none⟩::os) ρ L:=
 Bg hd (TJ (xs:= []) rfl hc.out) k
theorem XE {f:Nat} {X:PV} {ats:Array TypeId} {x0:Operand} {a0 b0:PV} [hf:Ax P f] (q0:ρ.ev x0=a0) [hN0:Jt a0 b0] [hc:Bl P f [b0] X] (k:AY P N all K fl.tail os (CN ρ d X) L) (hd:Nat.blt d N=true:=by rfl):
  AY P N all K fl (⟨some d,.call { callee:= .value (.func f),args:= #[x0],argTypes:=ats },ty,pos,af,none⟩::os) ρ L:=
 Bg hd (TJ (xs:= [x0]) (by simp only[BG,CY,q0]) (SQ (as:= [a0]) (bs:= [b0]) rfl (fun i h1 h2=>by
  match i,h1,h2 with
  |0,_,_=>exact hN0.out
  |m+1,h1,_=>exact absurd h1 (by simp only[AH,Aa];omega)) hc.out)) k
theorem dU {f:Nat} {X:PV} {ats:Array TypeId} {x0 x1:Operand} {a0 a1 b0 b1:PV} [hf:Ax P f] (q0:ρ.ev x0=a0) (q1:ρ.ev x1=a1) [hN0:Jt a0 b0] [hN1:Jt a1 b1] [hc:Bl P f [b0,b1] X] (k:AY P N all K fl.tail os (CN ρ d X) L) (hd:Nat.blt d N=true:=by rfl):
  AY P N all K fl (⟨some d,.call { callee:= .value (.func f),args:= #[x0,x1],argTypes:=ats },ty,pos,af,none⟩::os) ρ L:=
 Bg hd (TJ (xs:= [x0,x1]) (by simp only[BG,CY,q0,q1]) (SQ (as:= [a0,a1]) (bs:= [b0,b1]) rfl (fun i h1 h2=>by
  match i,h1,h2 with
  |0,_,_=>exact hN0.out
  |1,_,_=>exact hN1.out
  |m+2,h1,_=>exact absurd h1 (by simp only[AH,Aa];omega)) hc.out)) k
theorem dT {f:Nat} {X:PV} {ats:Array TypeId} {x0 x1 x2:Operand} {a0 a1 a2 b0 b1 b2:PV} [hf:Ax P f] (q0:ρ.ev x0=a0) (q1:ρ.ev x1=a1) (q2:ρ.ev x2=a2) [hN0:Jt a0 b0] [hN1:Jt a1 b1] [hN2:Jt a2 b2] [hc:Bl P f [b0,b1,b2] X] (k:AY P N all K fl.tail os (CN ρ d X) L) (hd:Nat.blt d N=true:=by rfl):
  AY P N all K fl (⟨some d,.call { callee:= .value (.func f),args:= #[x0,x1,x2],argTypes:=ats },ty,pos,af,none⟩::os) ρ L:=
 Bg hd (TJ (xs:= [x0,x1,x2]) (by simp only[BG,CY,q0,q1,q2]) (SQ (as:= [a0,a1,a2]) (bs:= [b0,b1,b2]) rfl (fun i h1 h2=>by
  match i,h1,h2 with
  |0,_,_=>exact hN0.out
  |1,_,_=>exact hN1.out
  |2,_,_=>exact hN2.out
  |m+3,h1,_=>exact absurd h1 (by simp only[AH,Aa];omega)) hc.out)) k
theorem dS {f:Nat} {X:PV} {ats:Array TypeId} {x0 x1 x2 x3:Operand} {a0 a1 a2 a3 b0 b1 b2 b3:PV} [hf:Ax P f] (q0:ρ.ev x0=a0) (q1:ρ.ev x1=a1) (q2:ρ.ev x2=a2) (q3:ρ.ev x3=a3) [hN0:Jt a0 b0] [hN1:Jt a1 b1] [hN2:Jt a2 b2] [hN3:Jt a3 b3] [hc:Bl P f [b0,b1,b2,b3] X] (k:AY P N all K fl.tail os (CN ρ d X) L) (hd:Nat.blt d N=true:=by rfl):
  AY P N all K fl (⟨some d,.call { callee:= .value (.func f),args:= #[x0,x1,x2,x3],argTypes:=ats },ty,pos,af,none⟩::os) ρ L:=
 Bg hd (TJ (xs:= [x0,x1,x2,x3]) (by simp only[BG,CY,q0,q1,q2,q3]) (SQ (as:= [a0,a1,a2,a3]) (bs:= [b0,b1,b2,b3]) rfl (fun i h1 h2=>by
  match i,h1,h2 with
  |0,_,_=>exact hN0.out
  |1,_,_=>exact hN1.out
  |2,_,_=>exact hN2.out
  |3,_,_=>exact hN3.out
  |m+4,h1,_=>exact absurd h1 (by simp only[AH,Aa];omega)) hc.out)) k
end
def Dig.at (d:Dig) (i:Nat):UInt8:=d.bs.getD i 0
theorem Dig.ext_at {a b:Dig} (h: ∀ i,i < 32→a.at i=b.at i):a=b:=Dig.ext (GX (by rw[a.len,b.len]) fun i h1 h2=>by
 have:=h i (by rw[←a.len];exact h1)
 simpa [Dig.at,h1,h2]using this)
section
variable {P:Program} {N:Nat} {all:Array Oper} {K:Env→List Res→Prop} {fl:List Bool} {os:List Oper} {ρ:Env} {L:List Res}
variable {d:Nat} {ty:TypeId} {pos:String} {af:Array Edge}
theorem Q3 {T n E sz by_:Nat} [hT:Uv P T n E] [hE:ER P E sz by_] {x y:Operand} {b off:Nat} {kk:IntKind} {i:Nat} (hx:ρ.ev x= .raw (.pointer (some ⟨b,off,none⟩))) (hy:ρ.ev y= .raw (.int kk (i:Int))) (hi:i < n)
  (k:AY P N all K fl.tail os (CN ρ d (.raw (.pointer (some ⟨b,off+i*sz,none⟩)))) L) (hd:Nat.blt d N=true:=by rfl):AY P N all K fl (⟨some d,.indexAddr T x y,ty,pos,af,none⟩::os) ρ L:=
 Bg hd (B7 fun a w g ha hI=>by
  have h1:=CR ha (x:=x) (by simp[Op.operands]) hx
  have h2:=CR ha (x:=y) (by simp[Op.operands]) hy
  refine⟨.pointer (some ⟨b,off+i*sz,none⟩),?_,.raw _⟩
  have h3:(0:Int)≤(i:Int)∧(i:Int) < (n:Int):=by omega
  simp[execOp,Instr.indexAt,h1,h2,asIntOf,Hx hT.out,Instr.sureAddr,h3,ER.run hE,DN];intro h4;omega) k
theorem jD {T:TypeId} {E sz by_:Nat} [hT:LK P T E] [hE:ER P E sz by_] {x y:Operand} {α:Type} {f:α→List PV} [hf:Kz f sz] {l:List α} {t:CW} {kk:IntKind} {n:Int} (hx:ρ.ev x= .slice (l.map f) t) (hy:ρ.ev y= .raw (.int kk n)) (h0:0≤n) (hn:n.toNat < l.length)
  (k:AY P N all K fl.tail os (CN ρ d (.pt (f l[n.toNat]) 0)) L) (hd:Nat.blt d N=true:=by rfl):
  AY P N all K fl (⟨some d,.indexAddr T x y,ty,pos,af,none⟩::os) ρ L:=
 cZ hx hy h0 (by simpa using hn) (by simp[hf.out]) (by simpa using k) hd
theorem cY {T:Nat} [hT:DE P T] {x:Operand} {b off i T':Nat} {dd:Dig} (hx:ρ.ev x= .raw (.pointer (some ⟨b,0+i*1,none⟩))) (hm:Res.box b T' (eDig dd)∈L) (hi:i < 32) (k:AY P N all K fl.tail os (CN ρ d (.raw (.int .u8 ((dd.at i).toNat:Int)))) L) (hd:Nat.blt d N=true:=by rfl) (_:off=0:=by rfl):
  AY P N all K fl (⟨some d,.load T x,ty,pos,af,none⟩::os) ρ L:=
 Sk hx hm (by
  have h:i < dd.bs.length:=by rw[dd.len];exact hi
  simp[eDig,h,eU8,u8,Dig.at]) k hd
theorem VO {T n E sz by_:Nat} {z:List PV} [hT:Uv P T n E] [hE:ER P E sz by_] [hZ:Ch P T z] (k:AY P N all K fl.tail os (CN ρ d (.agg z)) L) (hd:Nat.blt d N=true:=by rfl):AY P N all K fl (⟨some d,.build T #[],ty,pos,af,none⟩::os) ρ L:=
 Bg hd (B7 fun a w g ha hi=>by
  obtain⟨i,v,us,h1,h2,h3,h4⟩:=hZ.out
  refine⟨.agg us.toArray,?_,(h4 g).agg⟩
  show(do pure (Next.value (←Instr.build T ((#[]:Array (Nat × Operand)).map fun(p:Nat × Operand)=>(p.1,a.eval p.2)))):Sem Next).run P w=_
  simp only[Instr.build,Sem.run_bind,zeroValue,typeInfo,run_program,h1,Sem.run_pure,Result.andThen_ok,h2,run_underlying hT.out,ER.run hE,h3]
  simp[Instr.fill]) k
theorem VT {T T₂ E₂ sz bytes:Nat} [hT:Fy P T sz bytes] [hT₂:LK P T₂ E₂] {x y:Operand} {α:Type} {f:α→List PV} [hf:Kz f sz] [hff:Gw f] {m:List α} {u:CW}
  (hx:ρ.ev x= .slice [] .nil) (hy:ρ.ev y= .slice (m.map f) u) (hb:m.length*bytes≤140737488355328) (hm:m.length≤140737488355328)
  (k: ∀ t',AY P N all K fl.tail os (CN ρ d (.slice (m.map f) t')) (.tok t' m.length sz::L)) (hd:Nat.blt d N=true:=by rfl) (hfl:fl.headD true=true:=by rfl):
  AY P N all K fl (⟨some d,.call { callee:= .builtin .append,args:= #[x,y],argTypes:= #[T,T₂] },ty,pos,af,none⟩::os) ρ L:=
 Dr rfl (Qn hd) hfl (fun a w g ha hi=>by
  have h:=TS (P:=P) (T:=T) (T₂:=T₂) (dst:=some d) (ty:=ty) (pos:=pos) (af:=af) (gd:=none) (ρ:=ρ) (L:= .tok .nil 0 sz::L) (L':=fun t'=> .tok t' ([].length+(m.map f).length) sz::L) (xs:= []) (t:= .nil) hx hy (by simp) (fun e he=>by obtain⟨a,_,rfl⟩:=AU.1 he;exact hf.out a) (fun e he=>by obtain⟨a,_,rfl⟩:=AU.1 he;exact hff.out a)
   (by simpa using hb) (by simp;exact hm) (fun t'=> .here) (Ψ:=fun x' L'=>AY P N all K fl.tail os (CN ρ d x') L') (fun t'=>by simpa using k t') a w g ha (hi.tok sz)
  exact h)
theorem fI {dst:Option Nat} {op:Op} {j:Nat} {b p:Bool} {s:Nat} (hs:(all[j]?).bind (·.dst)=some s) (h:ρ s= .raw (.bool p)) (hp:p=b) (k:AY P N all K fl (⟨dst,op,ty,pos,af,none⟩::os) ρ L):
  AY P N all K fl (⟨dst,op,ty,pos,af,some (j,b)⟩::os) ρ L:=Yj hs (hp ▸ h) k
theorem Yk {j:Nat} {op:Op} {p:Bool} {s:Nat} (hs:(all[j]?).bind (·.dst)=some s) (h:ρ s= .raw (.bool p)) (hp:p=false) (k:AY P N all K fl.tail os (CN ρ d (.raw undef)) L) (hd:Nat.blt d N=true:=by rfl):
  AY P N all K fl (⟨some d,op,ty,pos,af,some (j,true)⟩::os) ρ L:=X6 hs h (by subst hp;simp) (Qn hd) k
theorem Yl {j:Nat} {op:Op} {p:Bool} {s:Nat} (hs:(all[j]?).bind (·.dst)=some s) (h:ρ s= .raw (.bool p)) (hp:p=true) (k:AY P N all K fl.tail os (CN ρ d (.raw undef)) L) (hd:Nat.blt d N=true:=by rfl):
  AY P N all K fl (⟨some d,op,ty,pos,af,some (j,false)⟩::os) ρ L:=X6 hs h (by subst hp;simp) (Qn hd) k
theorem jo {j:Nat} {b:Bool} {op:Op} {s:Nat} (hs:(all[j]?).bind (·.dst)=some s) (h:ρ s= .raw undef) (k:AY P N all K fl.tail os (CN ρ d (.raw undef)) L) (hd:Nat.blt d N=true:=by rfl):
  AY P N all K fl (⟨some d,op,ty,pos,af,some (j,b)⟩::os) ρ L:=X6 hs h (by simp[undef]) (Qn hd) k
theorem An {dst:Option Nat} {op:Op} {j:Nat} {b p:Bool} {s:Nat} (kT:p=true→AY P N all K fl (⟨dst,op,ty,pos,af,some (j,b)⟩::os) ρ L) (kF:p=false→AY P N all K fl (⟨dst,op,ty,pos,af,some (j,b)⟩::os) ρ L)
  (_:(all[j]?).bind (·.dst)=some s:=by rfl) (_:ρ s= .raw (.bool p):=by conv=>lhs;whnf):AY P N all K fl (⟨dst,op,ty,pos,af,some (j,b)⟩::os) ρ L:=by
 cases p
 ·exact kF rfl
 ·exact kT rfl
theorem YC {c x y:Operand} {p:Bool} {v:PV} (hc:ρ.ev c= .raw (.bool p)) (hp:p=true) (hv:ρ.ev x=v) (k:AY P N all K fl.tail os (CN ρ d v) L) (hd:Nat.blt d N=true:=by rfl):AY P N all K fl (⟨some d,.pick c x y,ty,pos,af,none⟩::os) ρ L:=nQ (hp ▸ hc) (by rw[hv];exact k) hd
theorem YD {c x y:Operand} {p:Bool} {v:PV} (hc:ρ.ev c= .raw (.bool p)) (hp:p=false) (hv:ρ.ev y=v) (k:AY P N all K fl.tail os (CN ρ d v) L) (hd:Nat.blt d N=true:=by rfl):AY P N all K fl (⟨some d,.pick c x y,ty,pos,af,none⟩::os) ρ L:=nR (hp ▸ hc) (by rw[hv];exact k) hd
theorem IK {s:Nat} {x y:Code} {Q:PPost} (hc:ρ s= .raw (.bool true)) (h:EG P N x Q ρ L):EG P N (.cond (.tmp s) x y) Q ρ L:=Lv hc (fun _=>h) (by simp)
theorem IL {s:Nat} {x y:Code} {Q:PPost} (hc:ρ s= .raw (.bool false)) (h:EG P N y Q ρ L):EG P N (.cond (.tmp s) x y) Q ρ L:=Lv hc (by simp) (fun _=>h)
end
def NP (a b:Nat):Nat:=(a+b) % 4294967296
def Xk (a b:Nat):Nat:=(a % 4294967296)&&& (b % 4294967296)
def fM (a b:Nat):Nat:=(a % 4294967296)|||(b % 4294967296)
def Lk (a b:Nat):Nat:=(a % 4294967296) ^^^ (b % 4294967296)
def oJ (a:Nat):Nat:=4294967295 ^^^ (a % 4294967296)
def Wa (a n:Nat):Nat:=a / 2 ^ (min n 32)
def Y3 (a n:Nat):Nat:=(a*2 ^ (min n 32)) % 4294967296
theorem KP (a:Nat):(BitVec.ofInt 32 (a:Int)).toNat=a % 4294967296:=by
 rw[BitVec.toNat_ofInt];norm_cast
theorem ML (a:Nat) (h:a < 4294967296):IntKind.u32.wrap (a:Int)=(a:Int):=IntWalk.u32_in _ ⟨by omega,by omega⟩
theorem MM (a:Nat):IntKind.u32.wrap (a:Int)=((a % 4294967296:Nat):Int):=by rw[IntKind.wrap_u32];omega
theorem Ve (n:Nat):((2:Int) ^ n)=((2 ^ n:Nat):Int):=by norm_cast
theorem Qd (a n:Nat):((a:Int).fdiv (2 ^ n))=((a / 2 ^ n:Nat):Int):=by
 rw[Ve,Int.fdiv_eq_ediv_of_nonneg _ (Int.natCast_nonneg _)];norm_cast
theorem oU (a n:Nat):((a:Int)*(2 ^ n))=((a*2 ^ n:Nat):Int):=by rw[Ve];norm_cast
theorem Zn (a b:Nat):Op.intBits .xor .u32 (a:Int) (b:Int)=pure (.int .u32 ((Lk a b:Nat):Int)):=by
 have h:(BitVec.ofInt 32 (a:Int) ^^^ BitVec.ofInt 32 (b:Int)).toNat=Lk a b:=by rw[BitVec.toNat_xor,KP,KP];rfl
 have h2:Lk a b < 4294967296:=by rw[←h];exact BitVec.isLt _
 show pure (Value.int .u32 (IntKind.u32.wrap ((BitVec.ofInt 32 (a:Int) ^^^ BitVec.ofInt 32 (b:Int)).toNat:Int)))=_
 rw[h,ML _ h2]
theorem lL (a b:Nat):Op.intBits .and .u32 (a:Int) (b:Int)=pure (.int .u32 ((Xk a b:Nat):Int)):=by
 have h:(BitVec.ofInt 32 (a:Int)&&& BitVec.ofInt 32 (b:Int)).toNat=Xk a b:=by rw[BitVec.toNat_and,KP,KP];rfl
 have h2:Xk a b < 4294967296:=by rw[←h];exact BitVec.isLt _
 show pure (Value.int .u32 (IntKind.u32.wrap ((BitVec.ofInt 32 (a:Int)&&& BitVec.ofInt 32 (b:Int)).toNat:Int)))=_
 rw[h,ML _ h2]
theorem pZ (a b:Nat):Op.intBits .or .u32 (a:Int) (b:Int)=pure (.int .u32 ((fM a b:Nat):Int)):=by
 have h:(BitVec.ofInt 32 (a:Int)|||BitVec.ofInt 32 (b:Int)).toNat=fM a b:=by rw[BitVec.toNat_or,KP,KP];rfl
 have h2:fM a b < 4294967296:=by rw[←h];exact BitVec.isLt _
 show pure (Value.int .u32 (IntKind.u32.wrap ((BitVec.ofInt 32 (a:Int)|||BitVec.ofInt 32 (b:Int)).toNat:Int)))=_
 rw[h,ML _ h2]
section
variable {P:Program} {N:Nat} {all:Array Oper} {K:Env→List Res→Prop} {fl:List Bool} {os:List Oper} {ρ:Env} {L:List Res}
variable {d:Nat} {ty:TypeId} {pos:String} {af:Array Edge} {T T':TypeId} {x y:Operand} {a b:Nat}
theorem jS (hx:ρ.ev x= .raw (.int .u32 (a:Int))) (hy:ρ.ev y= .raw (.int .u32 (b:Int))) (k:AY P N all K fl.tail os (CN ρ d (.raw (.int .u32 (NP a b:Nat)))) L) (hd:Nat.blt d N=true:=by rfl):
  AY P N all K fl (⟨some d,.binOp .add T x y T',ty,pos,af,none⟩::os) ρ L:=Gp hx hy (fun w=>by
   have e:((a:Int)+(b:Int))=((a+b:Nat):Int):=by omega
   simp only[binOp,ne_eq,not_true_eq_false,if_false,Op.intArith,e,MM,NP];rfl) k hd
theorem ib (hx:ρ.ev x= .raw (.int .u32 (a:Int))) (hy:ρ.ev y= .raw (.int .u32 (b:Int))) (k:AY P N all K fl.tail os (CN ρ d (.raw (.int .u32 (Lk a b:Nat)))) L) (hd:Nat.blt d N=true:=by rfl):
  AY P N all K fl (⟨some d,.binOp .xor T x y T',ty,pos,af,none⟩::os) ρ L:=Gp hx hy (fun w=>by simp only[binOp,ne_eq,not_true_eq_false,if_false,Zn];rfl) k hd
theorem jR (hx:ρ.ev x= .raw (.int .u32 (a:Int))) (hy:ρ.ev y= .raw (.int .u32 (b:Int))) (k:AY P N all K fl.tail os (CN ρ d (.raw (.int .u32 (Xk a b:Nat)))) L) (hd:Nat.blt d N=true:=by rfl):
  AY P N all K fl (⟨some d,.binOp .and T x y T',ty,pos,af,none⟩::os) ρ L:=Gp hx hy (fun w=>by simp only[binOp,ne_eq,not_true_eq_false,if_false,lL];rfl) k hd
theorem qN (hx:ρ.ev x= .raw (.int .u32 (a:Int))) (hy:ρ.ev y= .raw (.int .u32 (b:Int))) (k:AY P N all K fl.tail os (CN ρ d (.raw (.int .u32 (fM a b:Nat)))) L) (hd:Nat.blt d N=true:=by rfl):
  AY P N all K fl (⟨some d,.binOp .or T x y T',ty,pos,af,none⟩::os) ρ L:=Gp hx hy (fun w=>by simp only[binOp,ne_eq,not_true_eq_false,if_false,pZ];rfl) k hd
theorem iy (hx:ρ.ev x= .raw (.int .u32 (a:Int))) (k:AY P N all K fl.tail os (CN ρ d (.raw (.int .u32 (oJ a:Nat)))) L) (hd:Nat.blt d N=true:=by rfl):AY P N all K fl (⟨some d,.unOp .xor T x,ty,pos,af,none⟩::os) ρ L:=
 Bg hd (B7 fun a' w g ha hi=>⟨.int .u32 (oJ a:Nat),by
  have h1:=CR ha (x:=x) (by simp[Op.operands]) hx
  have e:IntKind.u32.max=((4294967295:Nat):Int):=by decide
  have hs:IntKind.u32.signed=false:=rfl
  have e2:Lk 4294967295 a=oJ a:=rfl
  simp only[execOp,h1,Op.unary,hs,BQ,if_false,e,Zn,e2];rfl,.raw _⟩) k
theorem ir (hx:ρ.ev x= .raw (.int .u32 (a:Int))) (hy:ρ.ev y= .raw (.int .u64 (b:Int))) (k:AY P N all K fl.tail os (CN ρ d (.raw (.int .u32 (Wa a b:Nat)))) L) (hd:Nat.blt d N=true:=by rfl):
  AY P N all K fl (⟨some d,.binOp .shr T x y T',ty,pos,af,none⟩::os) ρ L:=Gp hx hy (fun w=>by
   have h0: ¬(b:Int) < 0:=by omega
   simp only[binOp,Op.shift,h0,if_false,IntKind.bits,Br]
   rw[Qd];rfl) k hd
theorem iw (hx:ρ.ev x= .raw (.int .u32 (a:Int))) (hy:ρ.ev y= .raw (.int .u64 (b:Int))) (k:AY P N all K fl.tail os (CN ρ d (.raw (.int .u32 (Y3 a b:Nat)))) L) (hd:Nat.blt d N=true:=by rfl):
  AY P N all K fl (⟨some d,.binOp .shl T x y T',ty,pos,af,none⟩::os) ρ L:=Gp hx hy (fun w=>by
   have h0: ¬(b:Int) < 0:=by omega
   simp only[binOp,Op.shift,h0,if_false,IntKind.bits,Br]
   rw[oU,MM];rfl) k hd
theorem Wc (hx:ρ.ev x= .raw (.int .u64 (a:Int))) (hy:ρ.ev y= .raw (.int .u64 (b:Int))) (h1:b≤a) (h2:a≤18446744073709551615) (k:AY P N all K fl.tail os (CN ρ d (.raw (.int .u64 ((a - b:Nat):Int)))) L) (hd:Nat.blt d N=true:=by rfl):
  AY P N all K fl (⟨some d,.binOp .sub T x y T',ty,pos,af,none⟩::os) ρ L:=Gp hx hy (fun w=>by
   have e:((a:Int) - (b:Int))=((a - b:Nat):Int):=by omega
   simp only[binOp,ne_eq,not_true_eq_false,if_false,Op.intArith,e]
   rw[IntWalk.u64_in _ ⟨by omega,by omega⟩];rfl) k hd
theorem We (hx:ρ.ev x= .raw (.int .u64 (a:Int))) (hy:ρ.ev y= .raw (.int .u64 (b:Int))) (h2:a*b≤18446744073709551615) (k:AY P N all K fl.tail os (CN ρ d (.raw (.int .u64 ((a*b:Nat):Int)))) L) (hd:Nat.blt d N=true:=by rfl):
  AY P N all K fl (⟨some d,.binOp .mul T x y T',ty,pos,af,none⟩::os) ρ L:=Gp hx hy (fun w=>by
   have e:((a:Int)*(b:Int))=((a*b:Nat):Int):=by norm_cast
   simp only[binOp,ne_eq,not_true_eq_false,if_false,Op.intArith,e]
   rw[IntWalk.u64_in _ ⟨by omega,by omega⟩];rfl) k hd
theorem iu (hx:ρ.ev x= .raw (.int .u64 (a:Int))) (hy:ρ.ev y= .raw (.int .u64 (b:Int))) (k:AY P N all K fl.tail os (CN ρ d (.raw (.int .u64 ((a / 2 ^ (min b 64):Nat):Int)))) L) (hd:Nat.blt d N=true:=by rfl):
  AY P N all K fl (⟨some d,.binOp .shr T x y T',ty,pos,af,none⟩::os) ρ L:=Gp hx hy (fun w=>by
   have h0: ¬(b:Int) < 0:=by omega
   simp only[binOp,Op.shift,h0,if_false,IntKind.bits,Br]
   rw[Qd];rfl) k hd
theorem cu {S:TypeId} {k':IntKind} [hS:My P S k'] [hT:My P T .u8] {k₀:IntKind} (hx:ρ.ev x= .raw (.int k₀ (a:Int))) (k:AY P N all K fl.tail os (CN ρ d (.raw (.int .u8 ((UInt8.ofNat a).toNat:Int)))) L) (hd:Nat.blt d N=true:=by rfl):
  AY P N all K fl (⟨some d,.convert S T x,ty,pos,af,none⟩::os) ρ L:=s_convI' hx k hd
 where
 s_convI' (hx:ρ.ev x= .raw (.int k₀ (a:Int))) (k:AY P N all K fl.tail os (CN ρ d (.raw (.int .u8 ((UInt8.ofNat a).toNat:Int)))) L) (hd:Nat.blt d N=true):AY P N all K fl (⟨some d,.convert S T x,ty,pos,af,none⟩::os) ρ L:=
  Wi hx (by
   have e:IntKind.u8.wrap (a:Int)=((UInt8.ofNat a).toNat:Int):=by
    rw[IntKind.wrap_u8,UInt8.toNat_ofNat'];omega
   rw[e];exact k) hd
theorem ch {S:TypeId} {k':IntKind} [hS:My P S k'] [hT:My P T .u32] {k₀:IntKind} (hx:ρ.ev x= .raw (.int k₀ (a:Int))) (k:AY P N all K fl.tail os (CN ρ d (.raw (.int .u32 ((a % 4294967296:Nat):Int)))) L) (hd:Nat.blt d N=true:=by rfl):
  AY P N all K fl (⟨some d,.convert S T x,ty,pos,af,none⟩::os) ρ L:=Wi hx (by rw[MM];exact k) hd
theorem SK {S:TypeId} {k':IntKind} [hS:My P S k'] [hT:My P T .u64] {k₀:IntKind} (hx:ρ.ev x= .raw (.int k₀ (a:Int))) (ha:a≤18446744073709551615) (k:AY P N all K fl.tail os (CN ρ d (.raw (.int .u64 (a:Int)))) L) (hd:Nat.blt d N=true:=by rfl):
  AY P N all K fl (⟨some d,.convert S T x,ty,pos,af,none⟩::os) ρ L:=cn hx (IntWalk.u64_in _ ⟨by omega,by omega⟩) k hd
theorem qP {n:Int} (hx:ρ.ev x= .raw (.int .i64 n)) (hb: -9223372036854775807≤n∧n≤9223372036854775807) (k:AY P N all K fl.tail os (CN ρ d (.raw (.int .i64 (-n)))) L) (hd:Nat.blt d N=true:=by rfl):AY P N all K fl (⟨some d,.unOp .neg T x,ty,pos,af,none⟩::os) ρ L:=
 Bg hd (B7 fun a' w g ha hi=>⟨.int .i64 (-n),by
  have h1:=CR ha (x:=x) (by simp[Op.operands]) hx
  simp only[execOp,h1,Op.unary,Op.intArith,Int.zero_sub]
  rw[IntWalk.i64_in _ ⟨by omega,by omega⟩];rfl,.raw _⟩) k
def eBy (b:UInt8):List PV:= [.raw (.int .u8 (b.toNat:Int))]
end
instance :Kz eBy 1:=⟨fun _=>rfl⟩
instance :Gw eBy:=⟨fun _=>Gu rfl Hr⟩
instance (b:UInt8):Fx (.raw (.int .u8 (b.toNat:Int))) eBy b:=⟨.one (Gw.out (f:=eBy) b)⟩
instance (d:Dig):Xl (eDig d) 0 32 (eDig d):=⟨by rw[Lg,AA (by simp)];simp⟩
class lh (P:Program) (T:Nat):Prop where
 out: ∃ E,P.underlying T=some (.slice E)∧P.underlying E=some (.int .u8)
section
variable {P:Program} {N:Nat} {all:Array Oper} {K:Env→List Res→Prop} {fl:List Bool} {os:List Oper} {ρ:Env} {L:List Res}
variable {d:Nat} {ty:TypeId} {pos:String} {af:Array Edge} {T T':TypeId} {x y:Operand} {a b:Nat}
theorem ic {S:TypeId} [hS:lh P S] [hT:Pg P T] {bs:Str} {t:CW} (hx:ρ.ev x= .slice (bs.map eBy) t) (k:AY P N all K fl.tail os (CN ρ d (.str bs)) L) (hd:Nat.blt d N=true:=by rfl):
  AY P N all K fl (⟨some d,.convert S T x,ty,pos,af,none⟩::os) ρ L:=
 Bg hd (B7 fun a' w g ha hi=>by
  obtain⟨E,e1,e2⟩:=hS.out
  have h1:=ha x (by simp[Op.operands])
  rw[hx]at h1
  have hbd:=h1.bd.slice_map
  refine⟨.string ⟨bs.toArray⟩,?_,.str hbd⟩
  show(do pure (Next.value (←convert S T (a'.eval x))):Sem Next).run P w=_
  have key:(convert S T (a'.eval x)).run P w= .ok (.string ⟨bs.toArray⟩) w:=by
   generalize a'.eval x=v at h1
   cases bs with
   |nil=>
    have hn: ∃ o cap,v= .slice o 0 cap:=by
     cases h1 with
     |nilN=>exact⟨_,_,rfl⟩
     |nilR=>exact⟨_,_,rfl⟩
     |slice sz f hl hc hm hs hH hv ht hn=>simp at hl;subst hl;exact⟨_,_,rfl⟩
    obtain⟨o,cap,rfl⟩:=hn
    cases o with
    |none=>rw[run_convert_bytes_string w S T E _ _ _ e1 e2 hT.out];simp[Conv.bytesToString];rfl
    |some ad=>exact run_convert_bytes_back w S T E ad cap [] e1 e2 hT.out (fun j hj=>by simp at hj)
   |cons b0 bs=>
    generalize hl0:b0::bs=l at h1
    generalize hxs:List.map eBy l=xs at h1
    have hne:xs≠ []:=by rw[←hxs,←hl0];simp
    cases h1 with
    |nilN=>exact absurd rfl hne
    |nilR=>exact absurd rfl hne
    |slice sz f hl hc hm hs hH hv ht hn=>
     subst hxs
     rename_i b off len cap
     have hsz:sz=1:=by
      have:=hs (eBy b0) (by rw[←hl0];simp)
      simpa [eBy]using this.symm
     subst hsz
     simp only[AR]at hl
     subst hl
     refine run_convert_bytes_back w S T E _ cap l e1 e2 hT.out (fun j hj=>?_)
     rw[DN]
     have h2:=hi.sat _ _ _ (hH j 0 hj (by omega))
     have h3:=hv j (by simpa using hj) 0 (by simp[eBy])
     simp only[JS,DP,BT,eBy,B9]at h2 h3
     rw[h2,h3.raw_inv]
  simp only[Sem.run_bind,key,Result.andThen_ok,Sem.run_pure]) k
theorem Y9 [hT:Uu P T] {bb off:Nat} (hx:ρ.ev x= .raw (.pointer (some ⟨bb,off,none⟩))) (k:AY P N all K fl.tail os (CN ρ d (.raw (.slice (some ⟨bb,off,none⟩) 32 32))) L) (hd:Nat.blt d N=true:=by rfl):
  AY P N all K fl (⟨some d,.slice T x none none none,ty,pos,af,none⟩::os) ρ L:=
 Bg hd (B7 fun a' w g ha hi=>by
  obtain⟨E,i,e1,e2,e3,e4⟩:=hT.arr
  have h1:=CR ha (x:=x) (by simp[Op.operands]) hx
  refine⟨.slice (some ⟨bb,off,none⟩) 32 32,?_,.raw _⟩
  show(do pure (Next.value (←Instr.sliceAt T (a'.eval x) none none none)):Sem Next).run P w=_
  simp[Instr.sliceAt,Hx e1,h1,Instr.sureAddr,Instr.sliceBounds,sizeOf,typeInfo,e3,e4,DN]) k
theorem Y5 {S:TypeId} [hS:lh P S] [hT:Pg P T] {bb off T₂:Nat} {cs:List PV} {dg:Dig} (hx:ρ.ev x= .raw (.slice (some ⟨bb,off,none⟩) 32 32)) (hm:Res.box bb T₂ cs∈L) [hs:Xl cs off 32 (eDig dg)] (k:AY P N all K fl.tail os (CN ρ d (.str dg.bs)) L) (hd:Nat.blt d N=true:=by rfl):
  AY P N all K fl (⟨some d,.convert S T x,ty,pos,af,none⟩::os) ρ L:=
 Bg hd (B7 fun a' w g ha hi=>by
  obtain⟨E,e1,e2⟩:=hS.out
  have h1:=CR ha (x:=x) (by simp[Op.operands]) hx
  obtain⟨vs,hb,hv,_,_⟩:=hi.res _ hm
  obtain⟨q1,q2⟩:=hs.out
  refine⟨.string ⟨dg.bs.toArray⟩,?_,.str (by rw[dg.len];decide)⟩
  have key:=run_convert_bytes_back w S T E ⟨bb,off,none⟩ 32 dg.bs e1 e2 hT.out (fun j hj=>by
   rw[DN]
   have hj':j < 32:=by rw[←dg.len];exact hj
   have hlt:off+j < vs.length:=by rw[hv.len];omega
   rw[HH hb (off+j) hlt]
   have h2:=hv.at_ (off+j) hlt (by omega)
   have h3:cs[off+j]'(by omega)=eU8 dg.bs[j]:=by
    have:=congrArg (fun l=>l[j]?) q1
    simp only[Gl,hj',if_true,Gm,eDig,H9,AZ hj]at this
    rw[AZ (by omega)]at this
    simpa using this
   rw[h3]at h2
   rw[h2.raw_inv];rfl)
  rw[dg.len]at key
  show(do pure (Next.value (←convert S T (a'.eval x))):Sem Next).run P w=_
  simp only[h1,Sem.run_bind,key,Result.andThen_ok,Sem.run_pure]) k
def eW (l:List Nat):List PV:=l.map fun(a:Nat)=>PV.raw (.int .u32 (a:Int))
@[simp] theorem H3 (l:List Nat):(eW l).length=l.length:=by simp[eW]
theorem pG (l:List Nat):Jl (eW l):=fun x hx=>by
 obtain⟨a,_,rfl⟩:=AU.1 hx
 exact Gu (v:= .int .u32 (a:Int)) rfl Hr _ (by simp)
instance (l:List Nat):EU (eW l):=⟨pG l⟩
theorem cW [hT:DE P T] {bb i T₂:Nat} {l:List Nat} (hx:ρ.ev x= .raw (.pointer (some ⟨bb,0+i*1,none⟩))) (hm:Res.box bb T₂ (eW l)∈L) (hi:i < l.length) (k:AY P N all K fl.tail os (CN ρ d (.raw (.int .u32 ((l.getD i 0:Nat):Int)))) L) (hd:Nat.blt d N=true:=by rfl):
  AY P N all K fl (⟨some d,.load T x,ty,pos,af,none⟩::os) ρ L:=Sk hx hm (by simp[eW,hi,List.getD]) k hd
theorem Sj {by_:Nat} {bb i T₂ v:Nat} {l:List Nat} {L':List Res} [hT:ER P T 1 by_] (hx:ρ.ev x= .raw (.pointer (some ⟨bb,0+i*1,none⟩))) (hy:ρ.ev y= .raw (.int .u32 (v:Int))) (_:Res.box bb T₂ (eW l)∈L) (hi:i < l.length) [hu:Ur bb (eW l) (eW (l.set i v)) L L']
  (k:AY P N all K fl.tail os ρ L') (hfl:fl.headD true=true:=by rfl):AY P N all K fl (⟨none,.store T x y,ty,pos,af,none⟩::os) ρ L:=
 Dr rfl (fun _ e=>by cases e) hfl (JJ (new:= [.raw (.int .u32 (v:Int))]) hx (by rw[hy];exact E4.one (Gu rfl Hr)) rfl (Gu rfl Hr) (by
  simp only[CJ,B4,JS,eW]
  rw[UJ,H0,if_pos (by simpa using hi)]
  simp) (by simp;omega) hu.out k)
def Dig.put (dg:Dig) (i:Nat) (v:UInt8):Dig:=⟨dg.bs.set i v,by rw[Bm];exact dg.len⟩
theorem Y7 {by_:Nat} {bb i T₂:Nat} {v:UInt8} {dg:Dig} {L':List Res} [hT:ER P T 1 by_] (hx:ρ.ev x= .raw (.pointer (some ⟨bb,0+i*1,none⟩))) (hy:ρ.ev y= .raw (.int .u8 (v.toNat:Int))) (_:Res.box bb T₂ (eDig dg)∈L) (hi:i < 32) [hu:Ur bb (eDig dg) (eDig (dg.put i v)) L L']
  (k:AY P N all K fl.tail os ρ L') (hfl:fl.headD true=true:=by rfl):AY P N all K fl (⟨none,.store T x y,ty,pos,af,none⟩::os) ρ L:=
 Dr rfl (fun _ e=>by cases e) hfl (JJ (new:= [.raw (.int .u8 (v.toNat:Int))]) hx (by rw[hy];exact E4.one (Gu rfl Hr)) rfl (Gu rfl Hr) (by
  simp only[CJ,B4,JS,eDig,Dig.put]
  rw[UJ,H0,if_pos (by simpa [dg.len]using hi)]
  simp[eU8,u8]) (by simp;omega) hu.out k)
theorem jI {n E by_:Nat} {z:List PV} [hT:Uv P T n E] [hE:ER P E 1 by_] [hZ:Ch P T z] {xs:List Operand} (ws:List Nat) (hx:xs.map ρ.ev=eW ws) (hz:z.length=ws.length) (hn:xs.length=ws.length)
  (k:AY P N all K fl.tail os (CN ρ d (.agg (eW ws))) L) (hd:Nat.blt d N=true:=by rfl):AY P N all K fl (⟨some d,.build T ((xs.zipIdx.map fun p=>(p.2,p.1)).toArray),ty,pos,af,none⟩::os) ρ L:=
 Bg hd (B7 fun a' w g ha hi=>by
  obtain⟨i,v,us,h1,h2,h3,h4⟩:=hZ.out
  let cs:List Value:=ws.map fun(a:Nat)=>Value.int .u32 (a:Int)
  have hop:(Op.build T ((xs.zipIdx.map fun p=>(p.2,p.1)).toArray)).operands=xs.toArray:=by
   unfold Op.operands
   simp only[DI]
   have:((fun(x:Nat × Operand)=>x.2) ∘ fun(p:Operand × Nat)=>(p.2,p.1))=Prod.fst:=by funext p;rfl
   rw[this,List.zipIdx_map_fst]
  have hev:xs.map a'.eval=cs:=by
   refine GX (by simp[cs,hn]) fun j j1 j2=>?_
   simp only[AR]at j1
   have hj:j < ws.length:=by omega
   have e1:ρ.ev xs[j]= .raw (.int .u32 (ws[j]:Int)):=by
    have:=congrArg (fun l=>l[j]?) hx
    simp only[H9,AZ j1,eW,AZ hj,FG]at this
    exact BX this
   have e2:=ha xs[j] (by rw[hop];simp)
   rw[e1]at e2
   simp[cs,e2.raw_inv]
  refine⟨.agg cs.toArray,?_,E8.agg ⟨by simp[cs],fun j j1 j2=>by simp[cs,eW];exact .raw _⟩⟩
  have hparts:(((xs.zipIdx.map fun p=>(p.2,p.1)).toArray).map fun(p:Nat × Operand)=>(p.1,a'.eval p.2)).toList=((xs.map a'.eval).zipIdx 0).map fun p=>(p.2,p.1):=by
   simp only[Hf,DI]
   rw[qB,DI]
   rfl
  have hus:us.length=ws.length:=by rw[(h4 g).len,hz]
  have hfill:Instr.fill (fun i=>some (i*1,1)) us.toArray (((xs.map a'.eval).zipIdx 0).map fun p=>(p.2,p.1))=some cs.toArray:=by
   rw[hev,Nu (sz:=1) (cs.map fun v=> [v]) cs 0 us (by simp) (fun j j1 j2=>by simp[cs,Value.cells]) (by simp[cs,hus])]
   have:(cs.map fun v=> [v]).flatten=cs:=by
    generalize cs=l
    induction l with
    |nil=>rfl
    |cons a l ih=>simp[ih]
   simp[this]
  show(do pure (Next.value (←Instr.build T (((xs.zipIdx.map fun p=>(p.2,p.1)).toArray).map fun(p:Nat × Operand)=>(p.1,a'.eval p.2)))):Sem Next).run P w=_
  simp only[Instr.build,Sem.run_bind,zeroValue,typeInfo,run_program,h1,Sem.run_pure,Result.andThen_ok,h2,run_underlying hT.out,ER.run hE,h3,hparts,hfill]) k
end
structure Brn where
 name:Str
 ids:List Dig
 deriving DecidableEq
def Brn.zero:Brn:=⟨[],[]⟩
def eBrn (c:Brn):List PV:= [.str c.name]++([.slice ((c.ids).map eDig) .ro])
@[simp] theorem kQ (c:Brn):(eBrn c).length=2:=by unfold eBrn;simp
instance :Kz eBrn 2:=⟨kQ⟩
instance (c:Brn):EU (eBrn c):=by unfold eBrn;infer_instance
instance :Gw eBrn:=⟨fun c=>(inferInstance:EU (eBrn c)).out⟩
instance (c:Brn):Fx (.agg (eBrn c)) eBrn c:=⟨E4.agg _⟩
instance ov (c:Brn):J1 (eBrn c) 0 [.str c.name]:=by unfold eBrn;exact Cd
instance nt (c:Brn) (x:Str):Et (eBrn c) 0 [.str x] (eBrn { c with name:=x }):=by unfold eBrn;exact Cr (by simp)
instance qv (c:Brn):J1 (eBrn c) 1 [.slice ((c.ids).map eDig) .ro]:=by unfold eBrn;exact Af (n:=1) (off:=0) (by simp) (Ir)
instance Yf (c:Brn) (x:List Dig):Et (eBrn c) 1 [.slice ((x).map eDig) .ro] (eBrn { c with ids:=x }):=by unfold eBrn;exact Ae (n:=1) (off:=0) (by simp) (Ij (by simp))
structure Tgg where
 name:Str
 note:Str
 tops:List Dig
 deriving DecidableEq
def Tgg.zero:Tgg:=⟨[],[],[]⟩
def eTgg (c:Tgg):List PV:= [.str c.name]++([.str c.note]++([.slice ((c.tops).map eDig) .ro]))
@[simp] theorem kL (c:Tgg):(eTgg c).length=3:=by unfold eTgg;simp
instance :Kz eTgg 3:=⟨kL⟩
instance (c:Tgg):EU (eTgg c):=by unfold eTgg;infer_instance
instance :Gw eTgg:=⟨fun c=>(inferInstance:EU (eTgg c)).out⟩
instance oq (c:Tgg):J1 (eTgg c) 0 [.str c.name]:=by unfold eTgg;exact Cd
instance ni (c:Tgg) (x:Str):Et (eTgg c) 0 [.str x] (eTgg { c with name:=x }):=by unfold eTgg;exact Cr (by simp)
instance oo (c:Tgg):J1 (eTgg c) 1 [.str c.note]:=by unfold eTgg;exact Af (n:=1) (off:=0) (by simp) (Cd)
instance nh (c:Tgg) (x:Str):Et (eTgg c) 1 [.str x] (eTgg { c with note:=x }):=by unfold eTgg;exact Ae (n:=1) (off:=0) (by simp) (Cr (by simp))
instance om (c:Tgg):J1 (eTgg c) 2 [.slice ((c.tops).map eDig) .ro]:=by unfold eTgg;exact Af (n:=1) (off:=1) (by simp) (Af (n:=1) (off:=0) (by simp) (Ir))
instance ng (c:Tgg) (x:List Dig):Et (eTgg c) 2 [.slice ((x).map eDig) .ro] (eTgg { c with tops:=x }):=by unfold eTgg;exact Ae (n:=1) (off:=1) (by simp) (Ae (n:=1) (off:=0) (by simp) (Ij (by simp)))
structure Repo where
 pool:List Sto
 branches:List Brn
 tags:List Tgg
 current:Str
 deriving DecidableEq
def Repo.zero:Repo:=⟨[],[],[],[]⟩
def Ay (c:Repo):List PV:= [.slice ((c.pool).map eSto) .ro]++([.slice ((c.branches).map eBrn) .ro]++([.slice ((c.tags).map eTgg) .ro]++([.str c.current])))
@[simp] theorem fZ (c:Repo):(Ay c).length=4:=by unfold Ay;simp
instance :Kz Ay 4:=⟨fZ⟩
instance (c:Repo):EU (Ay c):=by unfold Ay;infer_instance
instance Ud (c:Repo):J1 (Ay c) 0 [.slice ((c.pool).map eSto) .ro]:=by unfold Ay;exact Cd
instance pg (c:Repo):At (Ay c) 0 (.slice ((c.pool).map eSto) .ro):=GQ (Ud c)
instance mW (c:Repo) (x:List Sto):Et (Ay c) 0 [.slice ((x).map eSto) .ro] (Ay { c with pool:=x }):=by unfold Ay;exact Cr (by simp)
instance QX (c:Repo):J1 (Ay c) 1 [.slice ((c.branches).map eBrn) .ro]:=by unfold Ay;exact Af (n:=1) (off:=0) (by simp) (Cd)
instance gG (c:Repo):At (Ay c) 1 (.slice ((c.branches).map eBrn) .ro):=GQ (QX c)
instance dD (c:Repo) (x:List Brn):Et (Ay c) 1 [.slice ((x).map eBrn) .ro] (Ay { c with branches:=x }):=by unfold Ay;exact Ae (n:=1) (off:=0) (by simp) (Cr (by simp))
instance Uc (c:Repo):J1 (Ay c) 2 [.slice ((c.tags).map eTgg) .ro]:=by unfold Ay;exact Af (n:=1) (off:=1) (by simp) (Af (n:=1) (off:=0) (by simp) (Cd))
instance pf (c:Repo):At (Ay c) 2 (.slice ((c.tags).map eTgg) .ro):=GQ (Uc c)
instance mV (c:Repo) (x:List Tgg):Et (Ay c) 2 [.slice ((x).map eTgg) .ro] (Ay { c with tags:=x }):=by unfold Ay;exact Ae (n:=1) (off:=1) (by simp) (Ae (n:=1) (off:=0) (by simp) (Cr (by simp)))
instance RZ (c:Repo):J1 (Ay c) 3 [.str c.current]:=by unfold Ay;exact Af (n:=1) (off:=2) (by simp) (Af (n:=1) (off:=1) (by simp) (Af (n:=1) (off:=0) (by simp) (Ir)))
instance gi (c:Repo):At (Ay c) 3 (.str c.current):=GQ (RZ c)
instance fE (c:Repo) (x:Str):Et (Ay c) 3 [.str x] (Ay { c with current:=x }):=by unfold Ay;exact Ae (n:=1) (off:=2) (by simp) (Ae (n:=1) (off:=1) (by simp) (Ae (n:=1) (off:=0) (by simp) (Ij (by simp))))
structure Deed where
 kind:Int
 name:Str
 other:Str
 patch:Pat
 id:Dig
 set:List Sto
 deriving DecidableEq
def Deed.zero:Deed:=⟨0,[],[],Pat.zero,Dig.zero,[]⟩
def DM (c:Deed):List PV:= [.raw (.int .i64 c.kind)]++([.str c.name]++([.str c.other]++((CP c.patch)++((eDig c.id)++([.slice ((c.set).map eSto) .ro])))))
@[simp] theorem fa (c:Deed):(DM c).length=41:=by unfold DM;simp
instance :Kz DM 41:=⟨fa⟩
instance (c:Deed):EU (DM c):=by unfold DM;infer_instance
instance me (c:Deed):J1 (DM c) 0 [.raw (.int .i64 c.kind)]:=by unfold DM;exact Cd
instance mc (c:Deed):J1 (DM c) 1 [.str c.name]:=by unfold DM;exact Af (n:=1) (off:=0) (by simp) (Cd)
instance ki (c:Deed):J1 (DM c) 2 [.str c.other]:=by unfold DM;exact Af (n:=1) (off:=1) (by simp) (Af (n:=1) (off:=0) (by simp) (Cd))
instance kh (c:Deed):J1 (DM c) 3 (CP c.patch):=by unfold DM;exact Af (n:=1) (off:=2) (by simp) (Af (n:=1) (off:=1) (by simp) (Af (n:=1) (off:=0) (by simp) (Cd)))
instance qu (c:Deed):J1 (DM c) 8 (eDig c.id):=by unfold DM;exact Af (n:=1) (off:=7) (by simp) (Af (n:=1) (off:=6) (by simp) (Af (n:=1) (off:=5) (by simp) (Af (n:=5) (off:=0) (by simp) (Cd))))
instance ou (c:Deed):J1 (DM c) 40 [.slice ((c.set).map eSto) .ro]:=by unfold DM;exact Af (n:=1) (off:=39) (by simp) (Af (n:=1) (off:=38) (by simp) (Af (n:=1) (off:=37) (by simp) (Af (n:=5) (off:=32) (by simp) (Af (n:=32) (off:=0) (by simp) (Ir)))))
end Go.Q
