/- The small logic, fourteenth text: steps over strings, numbers, structs and slices by their forms. Library, no statement of its own. -/
import Derived.Test.YtaibdmankdppkaaGreatDoorUac
import Derived.Laws.IdiomStrings
set_option linter.unusedSimpArgs false
set_option linter.unusedVariables false
namespace Go.Q
open Go
def xw (P:Program) (T:Nat):Option (Nat × Nat):=
 match P.underlying T with
 |some (.slice E)=>match P.info? E with
  |some i=>match i.zero with
   |some z=>if z.cells.size=i.size∧i.bytes≠0∧i.size≠0∧i.size≤i.bytes then some (i.size,i.bytes)else none
   |none=>none
  |none=>none
 |_=>none
theorem GA.of {P:Program} {T sz bytes:Nat} (h:xw P T=some (sz,bytes)):GA P T sz bytes:=⟨by
 unfold xw at h
 split at h
 ·rename_i E hu
  split at h
  ·rename_i i hi
   split at h
   ·rename_i z hz
    split at h
    ·rename_i hc
     simp only[Iw,Prod.mk.injEq]at h
     obtain⟨rfl,rfl⟩:=h
     exact⟨E,i,z,hu,hi,rfl,rfl,hz,hc.1,hc.2.1,hc.2.2⟩
    ·cases h
   ·cases h
  ·cases h
 ·cases h⟩
def cz (P:Program) (T:Nat):Bool:=
 match P.underlying T with
 |some (.struct fs)=>fs.all fun f=>(P.info? f.type).isSome
 |_=>false
theorem Ch.of {P:Program} {T:Nat} (h:cz P T=true):Ch P T:=⟨by
 unfold cz at h
 split at h
 ·rename_i fs hu
  refine⟨fs,hu,fun f hf=>?_⟩
  have:=Array.all_eq_true'.1 h f hf
  exact Ff.1 this
 ·cases h⟩
def rJ (P:Program) (S k:Nat):Option (Nat × Nat):=
 match P.underlying S with
 |some (.struct fs)=>match fs[k]? with
  |some f=>match P.info? f.type with
   |some i=>some (f.offset,i.size)
   |none=>none
  |none=>none
 |_=>none
theorem BT.of {P:Program} {S k off sz:Nat} (h:rJ P S k=some (off,sz)):BT P S k off sz:=⟨by
 unfold rJ at h
 split at h
 ·rename_i fs hu
  split at h
  ·rename_i f hf
   split at h
   ·rename_i i hi
    simp only[Iw,Prod.mk.injEq]at h
    exact⟨fs,f,i,hu,hf,h.1,hi,h.2⟩
   ·cases h
  ·cases h
 ·cases h⟩
def sC:PV→Option Value
 | .raw v=>some v
 | .slice [] .ro=>some (.slice none 0 0)
 | .str []=>some (.string ⟨#[]⟩)
 |_=>none
theorem mc {x:PV} {v:Value} (h:sC x=some v) (g:Gh):VR g v x:=by
 unfold sC at h
 split at h
 ·cases h;exact .raw _
 ·cases h;exact .nilR
 ·cases h;exact .str (Xv _)
 ·cases h
theorem Ck.of {P:Program} {T:Nat} {z:List PV} {us:List Value} (h:((P.info? T).bind (·.zero)).map (·.cells.toList)=some us) (hz:z.map sC=us.map some):Ck P T z:=⟨by
 obtain⟨v,h1,h2⟩:=BR.1 h
 obtain⟨i,h3,h4⟩:=Da.1 h1
 have hl:z.length=us.length:=by simpa using congrArg List.length hz
 refine⟨i,v,us,h3,h4,by rw[←h2],fun g=>⟨hl.symm,fun i h5 h6=>mc ?_ g⟩⟩
 have:=congrArg (fun l=>l[i]?) hz
 simp only[HA,AY h5,AY h6,H6]at this
 exact Cr this⟩
section
variable {P:Program} {N:Nat} {all:Array Oper} {K:Env→List Res→Prop} {fl:List Bool} {os:List Oper} {ρ:Env} {L:List Res}
variable {d:Nat} {ty:TypeId} {pos:String} {af:Array Edge}
theorem dX {op:BinOp} {T T':TypeId} {x y:Operand} {a b v:Value} {r:PV} (hx: ∀ g u,VR g u (ρ.ev x)→u=a) (hy: ∀ g u,VR g u (ρ.ev y)→u=b) (hg: ∀ w,(eqGuard op T x y a b).run P w= .ok () w)
  (hr: ∀ w,(binOp op T a b).run P w= .ok v w) (hv: ∀ g,VR g v r) (k:AV P N all K fl.tail os (CV ρ d r) L) (hd:Nat.blt d N=true:=by rfl):
  AV P N all K fl (⟨some d,.binOp op T x y T',ty,pos,af,none⟩::os) ρ L:=
 Bg hd (BC fun a' w g ha hi=>⟨v,by
  have h1:=hx g _ (ha x (by simp[Op.operands]))
  have h2:=hy g _ (ha y (by simp[Op.operands]))
  simp only[execOp,h1,h2,Sem.run_bind,hg,Result.andThen_ok,hr,Sem.run_pure],hv g⟩) k
theorem jX {op:BinOp} {T T':TypeId} {x y:Operand} {a b v:Value} (hx:ρ.ev x= .raw a) (hy:ρ.ev y= .raw b) (hg: ∀ w,(eqGuard op T x y a b).run P w= .ok () w)
  (hr: ∀ w,(binOp op T a b).run P w= .ok v w) (k:AV P N all K fl.tail os (CV ρ d (.raw v)) L) (hd:Nat.blt d N=true:=by rfl):
  AV P N all K fl (⟨some d,.binOp op T x y T',ty,pos,af,none⟩::os) ρ L:=
 dX (fun g u h=>by rw[hx]at h;exact h.raw_inv) (fun g u h=>by rw[hy]at h;exact h.raw_inv) hg hr (fun g=> .raw v) k hd
theorem qh {T T':TypeId} {x y:Operand} {s t:Str} {ax ay:PV} (hx:ρ.ev x=ax) [jx:K6 ax s] (hy:ρ.ev y=ay) [jy:K6 ay t] (hl:s.length+t.length≤140737488355328) (k:AV P N all K fl.tail os (CV ρ d (.str (s++t))) L) (hd:Nat.blt d N=true:=by rfl):
  AV P N all K fl (⟨some d,.binOp .add T x y T',ty,pos,af,none⟩::os) ρ L:=
 dX (v:= .string (sB (s++t))) (hx ▸ jx.out) (hy ▸ jy.out) (fun w=>by unfold eqGuard;rfl) (fun w=>by
  rw[binOp_string_add,Op.stringOp]
  have: ¬(((sB s).size+(sB t).size:Nat):Int) > IntKind.i64.max:=by
   have e:IntKind.i64.max=9223372036854775807:=by decide
   rw[e,QN,QN];omega
  simp only[this,if_false,Sem.run_pure]
  congr 3) (fun g=> .str (by rw[AD];exact hl)) k hd
theorem eT (s t:Str):(s==t)=decide (s=t):=by
 by_cases h:s=t<;>simp[h]
theorem wV {T T':TypeId} [hT:S3 P T] {x y:Operand} {s t:Str} {ax ay:PV} (hx:ρ.ev x=ax) [jx:K6 ax s] (hy:ρ.ev y=ay) [jy:K6 ay t] (k:AV P N all K fl.tail os (CV ρ d (.raw (.bool (decide (s=t))))) L) (hd:Nat.blt d N=true:=by rfl):
  AV P N all K fl (⟨some d,.binOp .eql T x y T',ty,pos,af,none⟩::os) ρ L:=
 dX (hx ▸ jx.out) (hy ▸ jy.out) (fun w=>by unfold eqGuard;rfl) (fun w=>by rw[binOp_string_eql,Oe,Oe,Sem.run_pure,eT]) (fun g=> .raw _) k hd
theorem wI {T T':TypeId} [hT:S3 P T] {x y:Operand} {s t:Str} {ax ay:PV} (hx:ρ.ev x=ax) [jx:K6 ax s] (hy:ρ.ev y=ay) [jy:K6 ay t] (k:AV P N all K fl.tail os (CV ρ d (.raw (.bool (!decide (s=t))))) L) (hd:Nat.blt d N=true:=by rfl):
  AV P N all K fl (⟨some d,.binOp .neq T x y T',ty,pos,af,none⟩::os) ρ L:=
 dX (hx ▸ jx.out) (hy ▸ jy.out) (fun w=>by unfold eqGuard;rfl) (fun w=>by rw[binOp_string_neq,Oe,Oe,Sem.run_pure,eT]) (fun g=> .raw _) k hd
theorem jG {T:TypeId} [hT:S3 P T] {x:Operand} {s:Str} {ax:PV} (hx:ρ.ev x=ax) [jx:K6 ax s] (k:AV P N all K fl.tail os (CV ρ d (.raw (.int .i64 s.length))) L) (hd:Nat.blt d N=true:=by rfl):
  AV P N all K fl (⟨some d,.call { callee:= .builtin .len,args:= #[x],argTypes:= #[T] },ty,pos,af,none⟩::os) ρ L:=
 Bg hd (BC fun a w g ha hi=>⟨.int .i64 s.length,by
  have h1:=jx.out g _ (hx ▸ ha x (by simp[Op.operands,Call.operands]))
  have he:execOp a.eval ⟨some d,.call { callee:= .builtin .len,args:= #[x],argTypes:= #[T] },ty,pos,af,none⟩=(do pure (.value (←Builtin.len_ #[T] ty (#[x].map a.eval)))):=rfl
  rw[he]
  simp[Builtin.len_,h1,Hy hT.out,goInt],.raw _⟩) k
theorem YZ {T:TypeId} [hT:S3 P T] {x y:Operand} {s:Str} {ax:PV} {kk:IntKind} {n:Nat} (hx:ρ.ev x=ax) [jx:K6 ax s] (hy:ρ.ev y= .raw (.int kk (n:Int))) (hn:n < s.length) (k:AV P N all K fl.tail os (CV ρ d (.raw (.int .u8 (s[n].toNat:Int)))) L) (hd:Nat.blt d N=true:=by rfl):
  AV P N all K fl (⟨some d,.index T x y,ty,pos,af,none⟩::os) ρ L:=
 Bg hd (BC fun a w g ha hi=>⟨_,by
  have h1:=jx.out g _ (hx ▸ ha x (by simp[Op.operands]))
  have h2:=Cg ha (x:=y) (by simp[Op.operands]) hy
  show(do pure (Next.value (←Instr.index T (a.eval x) (a.eval y))):Sem Next).run P w=_
  rw[h1,h2,Sem.run_bind,run_index_string (h:=hT.out),dif_pos ⟨by omega,by rw[QN];omega⟩]
  rfl,by
  have e:(sB s)[(n:Int).toNat]'(by rw[QN];omega)=s[n]:=by
   simp only[E4]
   show(sB s).data[n]'(by simpa [sB]using hn)=_
   simp[sB]
  rw[e];exact .raw _⟩) k
theorem Wu {T:TypeId} [hT:S3 P T] {x y z:Operand} {s:Str} {ax:PV} {k₁ k₂:IntKind} {i j:Nat} (hx:ρ.ev x=ax) [jx:K6 ax s] (hy:ρ.ev y= .raw (.int k₁ (i:Int))) (hz:ρ.ev z= .raw (.int k₂ (j:Int))) (hij:i≤j) (hj:j≤s.length) (hS:s.length≤140737488355328)
  (k:AV P N all K fl.tail os (CV ρ d (.str ((s.drop i).take (j - i)))) L) (hd:Nat.blt d N=true:=by rfl):
  AV P N all K fl (⟨some d,.slice T x (some y) (some z) none,ty,pos,af,none⟩::os) ρ L:=
 Bg hd (BC fun a w g ha hi=>⟨_,by
  have h1:=jx.out g _ (hx ▸ ha x (by simp[Op.operands]))
  have h2:=Cg ha (x:=y) (by simp[Op.operands]) hy
  have h3:=Cg ha (x:=z) (by simp[Op.operands]) hz
  show(do pure (Next.value (←Instr.sliceAt T (a.eval x) (some (a.eval y)) (some (a.eval z)) none)):Sem Next).run P w=_
  have hb:(Instr.sliceBounds false (sB s).size (sB s).size (some (a.eval y)) (some (a.eval z)) none).run P w= .ok (i,j,(sB s).size) w:=by
   unfold Instr.sliceBounds
   simp[h2,h3,Instr.sliceBound,asIntOf]
   rw[if_pos (by omega)]
   simp
   omega
  rw[Sem.run_bind]
  simp only[Instr.sliceAt,Sem.run_bind,run_underlying hT.out,Result.andThen_ok,Instr.slice,h1,Ca,BX,if_false,hb,Sem.run_pure]
  rfl,by
  have e:(sB s).extract i j=sB ((s.drop i).take (j - i)):=by
   apply ByteArray.ext
   simp[sB,vz]
  rw[e];exact .str (by simp only[Ab,B8];show _≤140737488355328;omega)⟩) k
theorem dN {T:TypeId} [hT:S3 P T] {x y:Operand} {s:Str} {ax:PV} {k₁:IntKind} {i:Nat} (hx:ρ.ev x=ax) [jx:K6 ax s] (hy:ρ.ev y= .raw (.int k₁ (i:Int))) (hi:i≤s.length) (hS:s.length≤140737488355328)
  (k:AV P N all K fl.tail os (CV ρ d (.str (s.drop i))) L) (hd:Nat.blt d N=true:=by rfl):
  AV P N all K fl (⟨some d,.slice T x (some y) none none,ty,pos,af,none⟩::os) ρ L:=
 Bg hd (BC fun a w g ha hi'=>⟨_,by
  have h1:=jx.out g _ (hx ▸ ha x (by simp[Op.operands]))
  have h2:=Cg ha (x:=y) (by simp[Op.operands]) hy
  show(do pure (Next.value (←Instr.sliceAt T (a.eval x) (some (a.eval y)) none none)):Sem Next).run P w=_
  have hb:(Instr.sliceBounds false (sB s).size (sB s).size (some (a.eval y)) none none).run P w= .ok (i,s.length,(sB s).size) w:=by
   unfold Instr.sliceBounds
   simp[h2,Instr.sliceBound,asIntOf]
   omega
  rw[Sem.run_bind]
  simp only[Instr.sliceAt,Sem.run_bind,run_underlying hT.out,Result.andThen_ok,Instr.slice,h1,Ca,BX,if_false,hb,Sem.run_pure]
  rfl,by
  have e:(sB s).extract i s.length=sB (s.drop i):=by
   apply ByteArray.ext
   simp[sB,vz]
   rw[AA (by simp)]
  rw[e];exact .str (by simp only[B8];show _≤140737488355328;omega)⟩) k
theorem Wx {S T:TypeId} {k' kT:IntKind} [hS:NJ P S k'] [hT:NJ P T kT] {x:Operand} {k₀:IntKind} {n:Int} (hx:ρ.ev x= .raw (.int k₀ n)) (k:AV P N all K fl.tail os (CV ρ d (.raw (.int kT (kT.wrap n)))) L) (hd:Nat.blt d N=true:=by rfl):
  AV P N all K fl (⟨some d,.convert S T x,ty,pos,af,none⟩::os) ρ L:=
 Bg hd (BC fun a w g ha hi=>⟨_,by
  have h1:=Cg ha (x:=x) (by simp[Op.operands]) hx
  show(do pure (Next.value (←convert S T (a.eval x))):Sem Next).run P w=_
  simp only[convert,Sem.run_bind,run_underlying hS.out,run_underlying hT.out,Result.andThen_ok,h1,Conv.intToInt,Sem.run_pure],.raw _⟩) k
theorem Wv {S T:TypeId} {k' kT:IntKind} [hS:NJ P S k'] [hT:NJ P T kT] {x:Operand} {k₀:IntKind} {n:Int} (hx:ρ.ev x= .raw (.int k₀ n)) (hw:kT.wrap n=n) (k:AV P N all K fl.tail os (CV ρ d (.raw (.int kT n))) L) (hd:Nat.blt d N=true:=by rfl):
  AV P N all K fl (⟨some d,.convert S T x,ty,pos,af,none⟩::os) ρ L:=Wx hx (by rw[hw];exact k) hd
theorem qb {T T':TypeId} {x y:Operand} {m n:Int} (hx:ρ.ev x= .raw (.int .i64 m)) (hy:ρ.ev y= .raw (.int .i64 n)) (hb: -9223372036854775808≤m*n∧m*n≤9223372036854775807) (k:AV P N all K fl.tail os (CV ρ d (.raw (.int .i64 (m*n)))) L) (hd:Nat.blt d N=true:=by rfl):
  AV P N all K fl (⟨some d,.binOp .mul T x y T',ty,pos,af,none⟩::os) ρ L:=Gk hx hy (fun w=>by simp[binOp,Op.intArith,IntWalk.i64_in _ hb]) k hd
theorem YR {T T':TypeId} {x y:Operand} {m n:Nat} (hx:ρ.ev x= .raw (.int .i64 (m:Int))) (hy:ρ.ev y= .raw (.int .i64 (n:Int))) (hn:n≠0) (hm:m≤9223372036854775807) (k:AV P N all K fl.tail os (CV ρ d (.raw (.int .i64 ((m / n:Nat):Int)))) L) (hd:Nat.blt d N=true:=by rfl):
  AV P N all K fl (⟨some d,.binOp .quo T x y T',ty,pos,af,none⟩::os) ρ L:=Gk hx hy (fun w=>by
   have h1:m / n≤m:=Nat.div_le_self m n
   have h2:((m:Int).tdiv n)=((m / n:Nat):Int):=(Int.ofNat_tdiv m n).symm
   have h3:(n:Int)≠0:=by omega
   simp only[binOp,ne_eq,not_true_eq_false,if_false,Op.intDiv,h3,h2]
   clear h2
   generalize m / n=q at*
   rw[IntWalk.i64_in _ (by constructor<;>omega)];rfl) k hd
theorem YP {T T':TypeId} {x y:Operand} {m n:Nat} (hx:ρ.ev x= .raw (.int .i64 (m:Int))) (hy:ρ.ev y= .raw (.int .i64 (n:Int))) (hn:n≠0) (k:AV P N all K fl.tail os (CV ρ d (.raw (.int .i64 ((m % n:Nat):Int)))) L) (hd:Nat.blt d N=true:=by rfl):
  AV P N all K fl (⟨some d,.binOp .rem T x y T',ty,pos,af,none⟩::os) ρ L:=Gk hx hy (fun w=>by
   have h2:((m:Int).tmod n)=((m % n:Nat):Int):=(Int.ofNat_tmod m n).symm
   have h3:(n:Int)≠0:=by omega
   simp only[binOp,ne_eq,not_true_eq_false,if_false,Op.intDiv,h3,h2];rfl) k hd
class rr (P:Program) (T:Nat):Prop where
 out:P.underlying T=some .bool
theorem wX {T T':TypeId} [hT:rr P T] {x y:Operand} {a b:Bool} (hx:ρ.ev x= .raw (.bool a)) (hy:ρ.ev y= .raw (.bool b)) (k:AV P N all K fl.tail os (CV ρ d (.raw (.bool (decide (a=b))))) L) (hd:Nat.blt d N=true:=by rfl):
  AV P N all K fl (⟨some d,.binOp .eql T x y T',ty,pos,af,none⟩::os) ρ L:=
 jX hx hy (fun w=>by unfold eqGuard;simp[run_underlying hT.out]) (fun w=>by
  simp[binOp,Op.equal,Op.maxDepth,run_equalIn_bool w 9999 T a b hT.out];cases a<;>cases b<;>rfl) k hd
theorem YU {x:Operand} {ad:Addr} (hx:ρ.ev x= .raw (.pointer (some ad))) (k:AV P N all K fl.tail os (CV ρ d (.raw (.pointer (some ad)))) L) (hd:Nat.blt d N=true:=by rfl):AV P N all K fl (⟨some d,.nilCheck x,ty,pos,af,none⟩::os) ρ L:=
 Bg hd (BC fun a w g ha hi=>⟨.pointer (some ad),by
  have h1:=Cg ha (x:=x) (by simp[Op.operands]) hx
  simp[execOp,h1],.raw _⟩) k
class SL (b:Nat) (L:List Res) (cs:outParam (List PV)):Prop where
 out: ∃ T,Res.box b T cs∈L
instance {b T:Nat} {cs:List PV} {L:List Res}:SL b (.box b T cs::L) cs:=⟨T,by simp⟩
instance (priority:=low) {b:Nat} {cs:List PV} {r:Res} {L:List Res} [h:SL b L cs]:SL b (r::L) cs:=⟨by obtain⟨T,h⟩:=h.out;exact⟨T,AL _ h⟩⟩
class Ux (b:Nat) (cs cs':List PV) (L:List Res) (L':outParam (List Res)):Prop where
 out:pv b cs cs' L L'
instance {b T:Nat} {cs cs':List PV} {L:List Res}:Ux b cs cs' (.box b T cs::L) (.box b T cs'::L):=⟨.here⟩
instance (priority:=low) {b:Nat} {cs cs':List PV} {r:Res} {L L':List Res} [h:Ux b cs cs' L L']:Ux b cs cs' (r::L) (r::L'):=⟨.there h.out⟩
theorem iy {T:TypeId} {x y:Operand} {b off sz by_:Nat} {a:PV} {cs cs' new:List PV} {L':List Res} [hT:Eg P T sz by_]
  (hx:ρ.ev x= .raw (.pointer (some ⟨b,off,none⟩))) (hy:ρ.ev y=a) [hC:EA a new] [hB:SL b L cs] [hp:FA cs off new cs'] [hu:Ux b cs cs' L L'] [hf:Dn new] [hlen:DA new sz]
  (k:AV P N all K fl.tail os ρ L') (hfl:fl.headD true=true:=by rfl):AV P N all K fl (⟨none,.store T x y,ty,pos,af,none⟩::os) ρ L:=
 Dd rfl (fun _ e=>by cases e) hfl (JC hx (hy ▸ hC.out) hlen.out hf.out hp.out.1 hp.out.2 hu.out k)
theorem YL {T:TypeId} {x y:Operand} {b sz by_:Nat} {cs new:List PV} {L':List Res} [hT:Eg P T sz by_]
  (hx:ρ.ev x= .raw (.pointer (some ⟨b,0,none⟩))) (hy:ρ.ev y= .agg new) [hB:SL b L cs] [hu:Ux b cs new L L'] [hf:Dn new] [hlen:DA new sz] [hcs:DA cs sz]
  (k:AV P N all K fl.tail os ρ L') (hfl:fl.headD true=true:=by rfl):AV P N all K fl (⟨none,.store T x y,ty,pos,af,none⟩::os) ρ L:=Lq hx hy hu.out hlen.out hcs.out k hfl
theorem YY {T n:Nat} [hT:Ek P T n] {x:Operand} {cs:List PV} (hx:ρ.ev x= .pt cs 0) [hl:DA cs n] (k:AV P N all K fl.tail os (CV ρ d (.agg cs)) L) (hd:Nat.blt d N=true:=by rfl):
  AV P N all K fl (⟨some d,.load T x,ty,pos,af,none⟩::os) ρ L:=jF hx hl.out k hd
theorem YV {T n:Nat} [hT:Ek P T n] {x:Operand} {b T':Nat} {cs:List PV} (hx:ρ.ev x= .raw (.pointer (some ⟨b,0,none⟩))) (hm:Res.box b T' cs∈L) [hl:DA cs n] (k:AV P N all K fl.tail os (CV ρ d (.agg cs)) L) (hd:Nat.blt d N=true:=by rfl):
  AV P N all K fl (⟨some d,.load T x,ty,pos,af,none⟩::os) ρ L:=VQ hx hm hl.out k hd
theorem dK {S f off' q:Nat} [hF:CY P S f off'] {x:Operand} {b off:Nat} (hx:ρ.ev x= .raw (.pointer (some ⟨b,off,none⟩))) (hq:off+off'=q) (k:AV P N all K fl.tail os (CV ρ d (.raw (.pointer (some ⟨b,q,none⟩)))) L) (hd:Nat.blt d N=true:=by rfl):
  AV P N all K fl (⟨some d,.fieldAddr S x f,ty,pos,af,none⟩::os) ρ L:=sd hx (by rw[hq];exact k) hd
theorem qj {T sz by_:Nat} [hE:GA P T sz by_] (k:AV P N all K fl.tail os (CV ρ d (.slice [] .nil)) L) (hd:Nat.blt d N=true:=by rfl):AV P N all K fl (⟨some d,.buildSlice T 0 #[],ty,pos,af,none⟩::os) ρ L:=
 Bg hd (by
  intro a w g ha hi
  obtain⟨E,i,z,t1,t2,t3,t4,t5,t6,t7,t8⟩:=hE.out
  obtain⟨j1,j2,j3⟩:=hi.lay [] E
  have hr:(execOp a.eval ⟨some d,.buildSlice T 0 #[],ty,pos,af,none⟩).run P w= .ok (.value (.slice (some ⟨w.heap.size,0,none⟩) 0 0)) { w with heap:=w.heap.push (.cells [].toArray E (0,0)) }:=by
   show(do pure (Next.value (←Instr.buildSlice T 0 ((#[]:Array (Nat × Operand)).map fun(p:Nat × Operand)=>(p.1,a.eval p.2)))):Sem Next).run P w=_
   have hzv:(zeroValue E).run P w= .ok z w:=by simp[zeroValue,typeInfo,t2,t5]
   simp only[Instr.buildSlice,Sem.run_bind,run_underlying t1,Result.andThen_ok,sizeOf,typeInfo,run_program,t2,Sem.run_pure,t3]
   rw[if_neg (by simp)]
   split
   ·simp[Instr.fill,newRow];congr 2;apply Hg;simp
   ·simp[hzv,Instr.fill,newRow];congr 2;apply Hg;simp
  refine Oper.wq_of_run hr ?_
  exact⟨_,.slice [] .nil,_,L,rfl,.nilN _ (by simp),j1,j2,.refl _ _,rfl,rfl⟩) k
theorem Yc {T:Nat} {z:List PV} [hS:Ch P T] [hZ:Ck P T z] (k:AV P N all K fl.tail os (CV ρ d (.agg z)) L) (hd:Nat.blt d N=true:=by rfl):AV P N all K fl (⟨some d,.build T #[],ty,pos,af,none⟩::os) ρ L:=
 Bg hd (JB (ps:= []) rfl (by simp) .nil) k
theorem wM {op:Op} {x y:PV} (hl:Le x y) (hq:gu P ⟨some d,op,ty,pos,af,none⟩ ρ L x) (k:AV P N all K fl.tail os (CV ρ d y) L) (hd:Nat.blt d N=true:=by rfl):AV P N all K fl (⟨some d,op,ty,pos,af,none⟩::os) ρ L:=
 Bg hd (fun a w g ha hi=>(hq a w g ha hi).mono fun _ _ ⟨v,x',g',L',h1,h2,h3,h4,h5,h6,h7⟩=>⟨v,y,g',L',h1,hl _ _ (h6 ▸ h2),h3,h4,h5,rfl,h7⟩) k
theorem KB {x:Operand} {a b:PV} (ha:ρ.ev x=a) [hn:Jl a b] (k:AV P N all K fl.tail os (CV ρ d b) L) (hd:Nat.blt d N=true:=by rfl):AV P N all K fl (⟨some d,.move x,ty,pos,af,none⟩::os) ρ L:=
 wM hn.out (BC fun a' w g ha' hi=>⟨a'.eval x,rfl,ha ▸ ha' x (by simp[Op.operands])⟩) k hd
theorem VU {x:Operand} {a b:PV} (ha:ρ.ev x=a) [hn:Jl a b] (k:AV P N all K fl.tail os (CV ρ d b) L) (hd:Nat.blt d N=true:=by rfl):AV P N all K fl (⟨some d,.assign x,ty,pos,af,none⟩::os) ρ L:=
 wM hn.out (BC fun a' w g ha' hi=>⟨a'.eval x,rfl,ha ▸ ha' x (by simp[Op.operands])⟩) k hd
theorem Sg {f:FuncId} {as bs:List PV} {X:PV} (hl:as.length=bs.length) (h: ∀ i (h1:i < as.length) (h2:i < bs.length),Le as[i] bs[i]) (hc:Fn P f bs X):Fn P f as X:=fun vs w g LF hv hi=>
 hc vs w g LF ⟨hv.len.trans hl,fun i h1 h2=>h i (by omega) h2 g _ (hv.at_ i h1 (by omega))⟩ hi
theorem lX {T f0 o0 s0:Nat} {x0:Operand} {a0:PV} {z c0 r0:List PV} [hS:Ch P T] [hZ:Ck P T z] [hF0:BT P T f0 o0 s0] (h0:ρ.ev x0=a0) [hC0:EA a0 c0] [hP0:FA z o0 c0 r0] [hl0:DA c0 s0]
  (k:AV P N all K fl.tail os (CV ρ d (.agg r0)) L) (hd:Nat.blt d N=true:=by rfl):AV P N all K fl (⟨some d,.build T #[(f0,x0)],ty,pos,af,none⟩::os) ρ L:=
 jV (h0 ▸ hC0.out) hl0.out k hd
theorem lV {T f0 f1 o0 o1 s0 s1:Nat} {x0 x1:Operand} {a0 a1:PV} {z c0 c1 r0 r1:List PV} [hS:Ch P T] [hZ:Ck P T z] [hF0:BT P T f0 o0 s0] [hF1:BT P T f1 o1 s1] (h0:ρ.ev x0=a0) (h1:ρ.ev x1=a1) [hC0:EA a0 c0] [hC1:EA a1 c1] [hP0:FA z o0 c0 r0] [hP1:FA r0 o1 c1 r1] [hl0:DA c0 s0] [hl1:DA c1 s1]
  (k:AV P N all K fl.tail os (CV ρ d (.agg r1)) L) (hd:Nat.blt d N=true:=by rfl):AV P N all K fl (⟨some d,.build T #[(f0,x0),(f1,x1)],ty,pos,af,none⟩::os) ρ L:=
 Yb (h0 ▸ hC0.out) (h1 ▸ hC1.out) hl0.out hl1.out k hd
theorem lU {T f0 f1 f2 o0 o1 o2 s0 s1 s2:Nat} {x0 x1 x2:Operand} {a0 a1 a2:PV} {z c0 c1 c2 r0 r1 r2:List PV} [hS:Ch P T] [hZ:Ck P T z] [hF0:BT P T f0 o0 s0] [hF1:BT P T f1 o1 s1] [hF2:BT P T f2 o2 s2] (h0:ρ.ev x0=a0) (h1:ρ.ev x1=a1) (h2:ρ.ev x2=a2) [hC0:EA a0 c0] [hC1:EA a1 c1] [hC2:EA a2 c2] [hP0:FA z o0 c0 r0] [hP1:FA r0 o1 c1 r1] [hP2:FA r1 o2 c2 r2] [hl0:DA c0 s0] [hl1:DA c1 s1] [hl2:DA c2 s2]
  (k:AV P N all K fl.tail os (CV ρ d (.agg r2)) L) (hd:Nat.blt d N=true:=by rfl):AV P N all K fl (⟨some d,.build T #[(f0,x0),(f1,x1),(f2,x2)],ty,pos,af,none⟩::os) ρ L:=
 QM (h0 ▸ hC0.out) (h1 ▸ hC1.out) (h2 ▸ hC2.out) hl0.out hl1.out hl2.out k hd
theorem lS {T f0 f1 f2 f3 o0 o1 o2 o3 s0 s1 s2 s3:Nat} {x0 x1 x2 x3:Operand} {a0 a1 a2 a3:PV} {z c0 c1 c2 c3 r0 r1 r2 r3:List PV} [hS:Ch P T] [hZ:Ck P T z] [hF0:BT P T f0 o0 s0] [hF1:BT P T f1 o1 s1] [hF2:BT P T f2 o2 s2] [hF3:BT P T f3 o3 s3] (h0:ρ.ev x0=a0) (h1:ρ.ev x1=a1) (h2:ρ.ev x2=a2) (h3:ρ.ev x3=a3) [hC0:EA a0 c0] [hC1:EA a1 c1] [hC2:EA a2 c2] [hC3:EA a3 c3] [hP0:FA z o0 c0 r0] [hP1:FA r0 o1 c1 r1] [hP2:FA r1 o2 c2 r2] [hP3:FA r2 o3 c3 r3] [hl0:DA c0 s0] [hl1:DA c1 s1] [hl2:DA c2 s2] [hl3:DA c3 s3]
  (k:AV P N all K fl.tail os (CV ρ d (.agg r3)) L) (hd:Nat.blt d N=true:=by rfl):AV P N all K fl (⟨some d,.build T #[(f0,x0),(f1,x1),(f2,x2),(f3,x3)],ty,pos,af,none⟩::os) ρ L:=
 jU (h0 ▸ hC0.out) (h1 ▸ hC1.out) (h2 ▸ hC2.out) (h3 ▸ hC3.out) hl0.out hl1.out hl2.out hl3.out k hd
theorem lR {T f0 f1 f2 f3 f4 o0 o1 o2 o3 o4 s0 s1 s2 s3 s4:Nat} {x0 x1 x2 x3 x4:Operand} {a0 a1 a2 a3 a4:PV} {z c0 c1 c2 c3 c4 r0 r1 r2 r3 r4:List PV} [hS:Ch P T] [hZ:Ck P T z] [hF0:BT P T f0 o0 s0] [hF1:BT P T f1 o1 s1] [hF2:BT P T f2 o2 s2] [hF3:BT P T f3 o3 s3] [hF4:BT P T f4 o4 s4] (h0:ρ.ev x0=a0) (h1:ρ.ev x1=a1) (h2:ρ.ev x2=a2) (h3:ρ.ev x3=a3) (h4:ρ.ev x4=a4) [hC0:EA a0 c0] [hC1:EA a1 c1] [hC2:EA a2 c2] [hC3:EA a3 c3] [hC4:EA a4 c4] [hP0:FA z o0 c0 r0] [hP1:FA r0 o1 c1 r1] [hP2:FA r1 o2 c2 r2] [hP3:FA r2 o3 c3 r3] [hP4:FA r3 o4 c4 r4] [hl0:DA c0 s0] [hl1:DA c1 s1] [hl2:DA c2 s2] [hl3:DA c3 s3] [hl4:DA c4 s4]
  (k:AV P N all K fl.tail os (CV ρ d (.agg r4)) L) (hd:Nat.blt d N=true:=by rfl):AV P N all K fl (⟨some d,.build T #[(f0,x0),(f1,x1),(f2,x2),(f3,x3),(f4,x4)],ty,pos,af,none⟩::os) ρ L:=
 jT (h0 ▸ hC0.out) (h1 ▸ hC1.out) (h2 ▸ hC2.out) (h3 ▸ hC3.out) (h4 ▸ hC4.out) hl0.out hl1.out hl2.out hl3.out hl4.out k hd
theorem lQ {T f0 f1 f2 f3 f4 f5 o0 o1 o2 o3 o4 o5 s0 s1 s2 s3 s4 s5:Nat} {x0 x1 x2 x3 x4 x5:Operand} {a0 a1 a2 a3 a4 a5:PV} {z c0 c1 c2 c3 c4 c5 r0 r1 r2 r3 r4 r5:List PV} [hS:Ch P T] [hZ:Ck P T z] [hF0:BT P T f0 o0 s0] [hF1:BT P T f1 o1 s1] [hF2:BT P T f2 o2 s2] [hF3:BT P T f3 o3 s3] [hF4:BT P T f4 o4 s4] [hF5:BT P T f5 o5 s5] (h0:ρ.ev x0=a0) (h1:ρ.ev x1=a1) (h2:ρ.ev x2=a2) (h3:ρ.ev x3=a3) (h4:ρ.ev x4=a4) (h5:ρ.ev x5=a5) [hC0:EA a0 c0] [hC1:EA a1 c1] [hC2:EA a2 c2] [hC3:EA a3 c3] [hC4:EA a4 c4] [hC5:EA a5 c5] [hP0:FA z o0 c0 r0] [hP1:FA r0 o1 c1 r1] [hP2:FA r1 o2 c2 r2] [hP3:FA r2 o3 c3 r3] [hP4:FA r3 o4 c4 r4] [hP5:FA r4 o5 c5 r5] [hl0:DA c0 s0] [hl1:DA c1 s1] [hl2:DA c2 s2] [hl3:DA c3 s3] [hl4:DA c4 s4] [hl5:DA c5 s5]
  (k:AV P N all K fl.tail os (CV ρ d (.agg r5)) L) (hd:Nat.blt d N=true:=by rfl):AV P N all K fl (⟨some d,.build T #[(f0,x0),(f1,x1),(f2,x2),(f3,x3),(f4,x4),(f5,x5)],ty,pos,af,none⟩::os) ρ L:=
 jS (h0 ▸ hC0.out) (h1 ▸ hC1.out) (h2 ▸ hC2.out) (h3 ▸ hC3.out) (h4 ▸ hC4.out) (h5 ▸ hC5.out) hl0.out hl1.out hl2.out hl3.out hl4.out hl5.out k hd
theorem qi {T sz by_:Nat} [hE:GA P T sz by_] {x0:Operand} {a0:PV} {α:Type} {f:α→List PV} {e0:α} (q0:ρ.ev x0=a0) [hC0:GB a0 f e0] [hf:NM f sz] (h24:1*sz≤16777216)
  (k:AV P N all K fl.tail os (CV ρ d (.slice ([e0].map f) .ro)) L) (hd:Nat.blt d N=true:=by rfl):AV P N all K fl (⟨some d,.buildSlice T 1 #[(0,x0)],ty,pos,af,none⟩::os) ρ L:=
 Bg hd (RR (xs:= [x0]) (cs:= [e0].map f) rfl rfl h24 (by decide) (fun i h1 h2=>by
  match i,h1,h2 with
  |0,_,_=>exact⟨q0 ▸ hC0.out,hf.out e0⟩
  |m+1,h1,_=>exact absurd h1 (by simp only[AN,Af];omega))) k
theorem we {T sz by_:Nat} [hE:GA P T sz by_] {x0 x1:Operand} {a0 a1:PV} {α:Type} {f:α→List PV} {e0 e1:α} (q0:ρ.ev x0=a0) (q1:ρ.ev x1=a1) [hC0:GB a0 f e0] [hC1:GB a1 f e1] [hf:NM f sz] (h24:2*sz≤16777216)
  (k:AV P N all K fl.tail os (CV ρ d (.slice ([e0,e1].map f) .ro)) L) (hd:Nat.blt d N=true:=by rfl):AV P N all K fl (⟨some d,.buildSlice T 2 #[(0,x0),(1,x1)],ty,pos,af,none⟩::os) ρ L:=
 Bg hd (RR (xs:= [x0,x1]) (cs:= [e0,e1].map f) rfl rfl h24 (by decide) (fun i h1 h2=>by
  match i,h1,h2 with
  |0,_,_=>exact⟨q0 ▸ hC0.out,hf.out e0⟩
  |1,_,_=>exact⟨q1 ▸ hC1.out,hf.out e1⟩
  |m+2,h1,_=>exact absurd h1 (by simp only[AN,Af];omega))) k
theorem wc {T sz by_:Nat} [hE:GA P T sz by_] {x0 x1 x2:Operand} {a0 a1 a2:PV} {α:Type} {f:α→List PV} {e0 e1 e2:α} (q0:ρ.ev x0=a0) (q1:ρ.ev x1=a1) (q2:ρ.ev x2=a2) [hC0:GB a0 f e0] [hC1:GB a1 f e1] [hC2:GB a2 f e2] [hf:NM f sz] (h24:3*sz≤16777216)
  (k:AV P N all K fl.tail os (CV ρ d (.slice ([e0,e1,e2].map f) .ro)) L) (hd:Nat.blt d N=true:=by rfl):AV P N all K fl (⟨some d,.buildSlice T 3 #[(0,x0),(1,x1),(2,x2)],ty,pos,af,none⟩::os) ρ L:=
 Bg hd (RR (xs:= [x0,x1,x2]) (cs:= [e0,e1,e2].map f) rfl rfl h24 (by decide) (fun i h1 h2=>by
  match i,h1,h2 with
  |0,_,_=>exact⟨q0 ▸ hC0.out,hf.out e0⟩
  |1,_,_=>exact⟨q1 ▸ hC1.out,hf.out e1⟩
  |2,_,_=>exact⟨q2 ▸ hC2.out,hf.out e2⟩
  |m+3,h1,_=>exact absurd h1 (by simp only[AN,Af];omega))) k
theorem wb {T sz by_:Nat} [hE:GA P T sz by_] {x0 x1 x2 x3:Operand} {a0 a1 a2 a3:PV} {α:Type} {f:α→List PV} {e0 e1 e2 e3:α} (q0:ρ.ev x0=a0) (q1:ρ.ev x1=a1) (q2:ρ.ev x2=a2) (q3:ρ.ev x3=a3) [hC0:GB a0 f e0] [hC1:GB a1 f e1] [hC2:GB a2 f e2] [hC3:GB a3 f e3] [hf:NM f sz] (h24:4*sz≤16777216)
  (k:AV P N all K fl.tail os (CV ρ d (.slice ([e0,e1,e2,e3].map f) .ro)) L) (hd:Nat.blt d N=true:=by rfl):AV P N all K fl (⟨some d,.buildSlice T 4 #[(0,x0),(1,x1),(2,x2),(3,x3)],ty,pos,af,none⟩::os) ρ L:=
 Bg hd (RR (xs:= [x0,x1,x2,x3]) (cs:= [e0,e1,e2,e3].map f) rfl rfl h24 (by decide) (fun i h1 h2=>by
  match i,h1,h2 with
  |0,_,_=>exact⟨q0 ▸ hC0.out,hf.out e0⟩
  |1,_,_=>exact⟨q1 ▸ hC1.out,hf.out e1⟩
  |2,_,_=>exact⟨q2 ▸ hC2.out,hf.out e2⟩
  |3,_,_=>exact⟨q3 ▸ hC3.out,hf.out e3⟩
  |m+4,h1,_=>exact absurd h1 (by simp only[AN,Af];omega))) k
theorem wa {T sz by_:Nat} [hE:GA P T sz by_] {x0 x1 x2 x3 x4:Operand} {a0 a1 a2 a3 a4:PV} {α:Type} {f:α→List PV} {e0 e1 e2 e3 e4:α} (q0:ρ.ev x0=a0) (q1:ρ.ev x1=a1) (q2:ρ.ev x2=a2) (q3:ρ.ev x3=a3) (q4:ρ.ev x4=a4) [hC0:GB a0 f e0] [hC1:GB a1 f e1] [hC2:GB a2 f e2] [hC3:GB a3 f e3] [hC4:GB a4 f e4] [hf:NM f sz] (h24:5*sz≤16777216)
  (k:AV P N all K fl.tail os (CV ρ d (.slice ([e0,e1,e2,e3,e4].map f) .ro)) L) (hd:Nat.blt d N=true:=by rfl):AV P N all K fl (⟨some d,.buildSlice T 5 #[(0,x0),(1,x1),(2,x2),(3,x3),(4,x4)],ty,pos,af,none⟩::os) ρ L:=
 Bg hd (RR (xs:= [x0,x1,x2,x3,x4]) (cs:= [e0,e1,e2,e3,e4].map f) rfl rfl h24 (by decide) (fun i h1 h2=>by
  match i,h1,h2 with
  |0,_,_=>exact⟨q0 ▸ hC0.out,hf.out e0⟩
  |1,_,_=>exact⟨q1 ▸ hC1.out,hf.out e1⟩
  |2,_,_=>exact⟨q2 ▸ hC2.out,hf.out e2⟩
  |3,_,_=>exact⟨q3 ▸ hC3.out,hf.out e3⟩
  |4,_,_=>exact⟨q4 ▸ hC4.out,hf.out e4⟩
  |m+5,h1,_=>exact absurd h1 (by simp only[AN,Af];omega))) k
theorem wY {T sz by_:Nat} [hE:GA P T sz by_] {x0 x1 x2 x3 x4 x5:Operand} {a0 a1 a2 a3 a4 a5:PV} {α:Type} {f:α→List PV} {e0 e1 e2 e3 e4 e5:α} (q0:ρ.ev x0=a0) (q1:ρ.ev x1=a1) (q2:ρ.ev x2=a2) (q3:ρ.ev x3=a3) (q4:ρ.ev x4=a4) (q5:ρ.ev x5=a5) [hC0:GB a0 f e0] [hC1:GB a1 f e1] [hC2:GB a2 f e2] [hC3:GB a3 f e3] [hC4:GB a4 f e4] [hC5:GB a5 f e5] [hf:NM f sz] (h24:6*sz≤16777216)
  (k:AV P N all K fl.tail os (CV ρ d (.slice ([e0,e1,e2,e3,e4,e5].map f) .ro)) L) (hd:Nat.blt d N=true:=by rfl):AV P N all K fl (⟨some d,.buildSlice T 6 #[(0,x0),(1,x1),(2,x2),(3,x3),(4,x4),(5,x5)],ty,pos,af,none⟩::os) ρ L:=
 Bg hd (RR (xs:= [x0,x1,x2,x3,x4,x5]) (cs:= [e0,e1,e2,e3,e4,e5].map f) rfl rfl h24 (by decide) (fun i h1 h2=>by
  match i,h1,h2 with
  |0,_,_=>exact⟨q0 ▸ hC0.out,hf.out e0⟩
  |1,_,_=>exact⟨q1 ▸ hC1.out,hf.out e1⟩
  |2,_,_=>exact⟨q2 ▸ hC2.out,hf.out e2⟩
  |3,_,_=>exact⟨q3 ▸ hC3.out,hf.out e3⟩
  |4,_,_=>exact⟨q4 ▸ hC4.out,hf.out e4⟩
  |5,_,_=>exact⟨q5 ▸ hC5.out,hf.out e5⟩
  |m+6,h1,_=>exact absurd h1 (by simp only[AN,Af];omega))) k
theorem dr {f:Nat} {X:PV} {ats:Array TypeId} [hf:B1 P f] [hc:C6 P f [] X] (k:AV P N all K fl.tail os (CV ρ d X) L) (hd:Nat.blt d N=true:=by rfl):
  AV P N all K fl (⟨some d,.call { callee:= .value (.func f),args:= #[],argTypes:=ats },ty,pos,af,none⟩::os) ρ L:=
 Bg hd (TT (xs:= []) rfl hc.out) k
theorem XL {f:Nat} {X:PV} {ats:Array TypeId} {x0:Operand} {a0 b0:PV} [hf:B1 P f] (q0:ρ.ev x0=a0) [hN0:Jl a0 b0] [hc:C6 P f [b0] X] (k:AV P N all K fl.tail os (CV ρ d X) L) (hd:Nat.blt d N=true:=by rfl):
  AV P N all K fl (⟨some d,.call { callee:= .value (.func f),args:= #[x0],argTypes:=ats },ty,pos,af,none⟩::os) ρ L:=
 Bg hd (TT (xs:= [x0]) (by simp only[Ar,CF,q0]) (Sg (as:= [a0]) (bs:= [b0]) rfl (fun i h1 h2=>by
  match i,h1,h2 with
  |0,_,_=>exact hN0.out
  |m+1,h1,_=>exact absurd h1 (by simp only[AN,Af];omega)) hc.out)) k
theorem dq {f:Nat} {X:PV} {ats:Array TypeId} {x0 x1:Operand} {a0 a1 b0 b1:PV} [hf:B1 P f] (q0:ρ.ev x0=a0) (q1:ρ.ev x1=a1) [hN0:Jl a0 b0] [hN1:Jl a1 b1] [hc:C6 P f [b0,b1] X] (k:AV P N all K fl.tail os (CV ρ d X) L) (hd:Nat.blt d N=true:=by rfl):
  AV P N all K fl (⟨some d,.call { callee:= .value (.func f),args:= #[x0,x1],argTypes:=ats },ty,pos,af,none⟩::os) ρ L:=
 Bg hd (TT (xs:= [x0,x1]) (by simp only[Ar,CF,q0,q1]) (Sg (as:= [a0,a1]) (bs:= [b0,b1]) rfl (fun i h1 h2=>by
  match i,h1,h2 with
  |0,_,_=>exact hN0.out
  |1,_,_=>exact hN1.out
  |m+2,h1,_=>exact absurd h1 (by simp only[AN,Af];omega)) hc.out)) k
theorem dp {f:Nat} {X:PV} {ats:Array TypeId} {x0 x1 x2:Operand} {a0 a1 a2 b0 b1 b2:PV} [hf:B1 P f] (q0:ρ.ev x0=a0) (q1:ρ.ev x1=a1) (q2:ρ.ev x2=a2) [hN0:Jl a0 b0] [hN1:Jl a1 b1] [hN2:Jl a2 b2] [hc:C6 P f [b0,b1,b2] X] (k:AV P N all K fl.tail os (CV ρ d X) L) (hd:Nat.blt d N=true:=by rfl):
  AV P N all K fl (⟨some d,.call { callee:= .value (.func f),args:= #[x0,x1,x2],argTypes:=ats },ty,pos,af,none⟩::os) ρ L:=
 Bg hd (TT (xs:= [x0,x1,x2]) (by simp only[Ar,CF,q0,q1,q2]) (Sg (as:= [a0,a1,a2]) (bs:= [b0,b1,b2]) rfl (fun i h1 h2=>by
  match i,h1,h2 with
  |0,_,_=>exact hN0.out
  |1,_,_=>exact hN1.out
  |2,_,_=>exact hN2.out
  |m+3,h1,_=>exact absurd h1 (by simp only[AN,Af];omega)) hc.out)) k
theorem dm {f:Nat} {X:PV} {ats:Array TypeId} {x0 x1 x2 x3:Operand} {a0 a1 a2 a3 b0 b1 b2 b3:PV} [hf:B1 P f] (q0:ρ.ev x0=a0) (q1:ρ.ev x1=a1) (q2:ρ.ev x2=a2) (q3:ρ.ev x3=a3) [hN0:Jl a0 b0] [hN1:Jl a1 b1] [hN2:Jl a2 b2] [hN3:Jl a3 b3] [hc:C6 P f [b0,b1,b2,b3] X] (k:AV P N all K fl.tail os (CV ρ d X) L) (hd:Nat.blt d N=true:=by rfl):
  AV P N all K fl (⟨some d,.call { callee:= .value (.func f),args:= #[x0,x1,x2,x3],argTypes:=ats },ty,pos,af,none⟩::os) ρ L:=
 Bg hd (TT (xs:= [x0,x1,x2,x3]) (by simp only[Ar,CF,q0,q1,q2,q3]) (Sg (as:= [a0,a1,a2,a3]) (bs:= [b0,b1,b2,b3]) rfl (fun i h1 h2=>by
  match i,h1,h2 with
  |0,_,_=>exact hN0.out
  |1,_,_=>exact hN1.out
  |2,_,_=>exact hN2.out
  |3,_,_=>exact hN3.out
  |m+4,h1,_=>exact absurd h1 (by simp only[AN,Af];omega)) hc.out)) k
end
def Dig.at (d:Dig) (i:Nat):UInt8:=d.bs.getD i 0
theorem Dig.ext_at {a b:Dig} (h: ∀ i,i < 32→a.at i=b.at i):a=b:=Dig.ext (E3 (by rw[a.len,b.len]) fun i h1 h2=>by
 have:=h i (by rw[←a.len];exact h1)
 simpa [Dig.at,h1,h2]using this)
section
variable {P:Program} {N:Nat} {all:Array Oper} {K:Env→List Res→Prop} {fl:List Bool} {os:List Oper} {ρ:Env} {L:List Res}
variable {d:Nat} {ty:TypeId} {pos:String} {af:Array Edge}
theorem QK {T n E sz by_:Nat} [hT:Uz P T n E] [hE:Eg P E sz by_] {x y:Operand} {b off:Nat} {kk:IntKind} {i:Nat} (hx:ρ.ev x= .raw (.pointer (some ⟨b,off,none⟩))) (hy:ρ.ev y= .raw (.int kk (i:Int))) (hi:i < n)
  (k:AV P N all K fl.tail os (CV ρ d (.raw (.pointer (some ⟨b,off+i*sz,none⟩)))) L) (hd:Nat.blt d N=true:=by rfl):AV P N all K fl (⟨some d,.indexAddr T x y,ty,pos,af,none⟩::os) ρ L:=
 Bg hd (BC fun a w g ha hI=>by
  have h1:=Cg ha (x:=x) (by simp[Op.operands]) hx
  have h2:=Cg ha (x:=y) (by simp[Op.operands]) hy
  refine⟨.pointer (some ⟨b,off+i*sz,none⟩),?_,.raw _⟩
  have h3:(0:Int)≤(i:Int)∧(i:Int) < (n:Int):=by omega
  simp[execOp,Instr.indexAt,h1,h2,asIntOf,Hy hT.out,Instr.sureAddr,h3,Eg.run hE,Dt];intro h4;omega) k
theorem jJ {T:TypeId} {E sz by_:Nat} [hT:MM P T E] [hE:Eg P E sz by_] {x y:Operand} {α:Type} {f:α→List PV} [hf:NM f sz] {l:List α} {t:C9} {kk:IntKind} {n:Int} (hx:ρ.ev x= .slice (l.map f) t) (hy:ρ.ev y= .raw (.int kk n)) (h0:0≤n) (hn:n.toNat < l.length)
  (k:AV P N all K fl.tail os (CV ρ d (.pt (f l[n.toNat]) 0)) L) (hd:Nat.blt d N=true:=by rfl):
  AV P N all K fl (⟨some d,.indexAddr T x y,ty,pos,af,none⟩::os) ρ L:=
 dJ hx hy h0 (by simpa using hn) (by simp[hf.out]) (by simpa using k) hd
theorem dI {T:Nat} [hT:Di P T] {x:Operand} {b off i T':Nat} {dd:Dig} (hx:ρ.ev x= .raw (.pointer (some ⟨b,0+i*1,none⟩))) (hm:Res.box b T' (eDig dd)∈L) (hi:i < 32) (k:AV P N all K fl.tail os (CV ρ d (.raw (.int .u8 ((dd.at i).toNat:Int)))) L) (hd:Nat.blt d N=true:=by rfl) (_:off=0:=by rfl):
  AV P N all K fl (⟨some d,.load T x,ty,pos,af,none⟩::os) ρ L:=
 Sz hx hm (by
  have h:i < dd.bs.length:=by rw[dd.len];exact hi
  simp[eDig,h,eU8,u8,Dig.at]) k hd
theorem VS {T n E sz by_:Nat} {z:List PV} [hT:Uz P T n E] [hE:Eg P E sz by_] [hZ:Ck P T z] (k:AV P N all K fl.tail os (CV ρ d (.agg z)) L) (hd:Nat.blt d N=true:=by rfl):AV P N all K fl (⟨some d,.build T #[],ty,pos,af,none⟩::os) ρ L:=
 Bg hd (BC fun a w g ha hi=>by
  obtain⟨i,v,us,h1,h2,h3,h4⟩:=hZ.out
  refine⟨.agg us.toArray,?_,(h4 g).agg⟩
  show(do pure (Next.value (←Instr.build T ((#[]:Array (Nat × Operand)).map fun(p:Nat × Operand)=>(p.1,a.eval p.2)))):Sem Next).run P w=_
  simp only[Instr.build,Sem.run_bind,zeroValue,typeInfo,run_program,h1,Sem.run_pure,Result.andThen_ok,h2,run_underlying hT.out,Eg.run hE,h3]
  simp[Instr.fill]) k
theorem VV {T T₂ E₂ sz bytes:Nat} [hT:GA P T sz bytes] [hT₂:MM P T₂ E₂] {x y:Operand} {α:Type} {f:α→List PV} [hf:NM f sz] [hff:Jm f] {m:List α} {u:C9}
  (hx:ρ.ev x= .slice [] .nil) (hy:ρ.ev y= .slice (m.map f) u) (hb:m.length*bytes≤140737488355328) (hm:m.length≤140737488355328)
  (k: ∀ t',AV P N all K fl.tail os (CV ρ d (.slice (m.map f) t')) (.tok t' m.length sz::L)) (hd:Nat.blt d N=true:=by rfl) (hfl:fl.headD true=true:=by rfl):
  AV P N all K fl (⟨some d,.call { callee:= .builtin .append,args:= #[x,y],argTypes:= #[T,T₂] },ty,pos,af,none⟩::os) ρ L:=
 Dd rfl (P7 hd) hfl (fun a w g ha hi=>by
  have h:=Te (P:=P) (T:=T) (T₂:=T₂) (dst:=some d) (ty:=ty) (pos:=pos) (af:=af) (gd:=none) (ρ:=ρ) (L:= .tok .nil 0 sz::L) (L':=fun t'=> .tok t' ([].length+(m.map f).length) sz::L) (xs:= []) (t:= .nil) hx hy (by simp) (fun e he=>by obtain⟨a,_,rfl⟩:=AQ.1 he;exact hf.out a) (fun e he=>by obtain⟨a,_,rfl⟩:=AQ.1 he;exact hff.out a)
   (by simpa using hb) (by simp;exact hm) (fun t'=> .here) (Ψ:=fun x' L'=>AV P N all K fl.tail os (CV ρ d x') L') (fun t'=>by simpa using k t') a w g ha (hi.tok sz)
  exact h)
theorem fY {dst:Option Nat} {op:Op} {j:Nat} {b p:Bool} {s:Nat} (hs:(all[j]?).bind (·.dst)=some s) (h:ρ s= .raw (.bool p)) (hp:p=b) (k:AV P N all K fl (⟨dst,op,ty,pos,af,none⟩::os) ρ L):
  AV P N all K fl (⟨dst,op,ty,pos,af,some (j,b)⟩::os) ρ L:=Yw hs (hp ▸ h) k
theorem Yx {j:Nat} {op:Op} {p:Bool} {s:Nat} (hs:(all[j]?).bind (·.dst)=some s) (h:ρ s= .raw (.bool p)) (hp:p=false) (k:AV P N all K fl.tail os (CV ρ d (.raw undef)) L) (hd:Nat.blt d N=true:=by rfl):
  AV P N all K fl (⟨some d,op,ty,pos,af,some (j,true)⟩::os) ρ L:=XB hs h (by subst hp;simp) (P7 hd) k
theorem Yy {j:Nat} {op:Op} {p:Bool} {s:Nat} (hs:(all[j]?).bind (·.dst)=some s) (h:ρ s= .raw (.bool p)) (hp:p=true) (k:AV P N all K fl.tail os (CV ρ d (.raw undef)) L) (hd:Nat.blt d N=true:=by rfl):
  AV P N all K fl (⟨some d,op,ty,pos,af,some (j,false)⟩::os) ρ L:=XB hs h (by subst hp;simp) (P7 hd) k
theorem kA {j:Nat} {b:Bool} {op:Op} {s:Nat} (hs:(all[j]?).bind (·.dst)=some s) (h:ρ s= .raw undef) (k:AV P N all K fl.tail os (CV ρ d (.raw undef)) L) (hd:Nat.blt d N=true:=by rfl):
  AV P N all K fl (⟨some d,op,ty,pos,af,some (j,b)⟩::os) ρ L:=XB hs h (by simp[undef]) (P7 hd) k
theorem Aq {dst:Option Nat} {op:Op} {j:Nat} {b p:Bool} {s:Nat} (kT:p=true→AV P N all K fl (⟨dst,op,ty,pos,af,some (j,b)⟩::os) ρ L) (kF:p=false→AV P N all K fl (⟨dst,op,ty,pos,af,some (j,b)⟩::os) ρ L)
  (_:(all[j]?).bind (·.dst)=some s:=by rfl) (_:ρ s= .raw (.bool p):=by conv=>lhs;whnf):AV P N all K fl (⟨dst,op,ty,pos,af,some (j,b)⟩::os) ρ L:=by
 cases p
 ·exact kF rfl
 ·exact kT rfl
theorem YS {c x y:Operand} {p:Bool} {v:PV} (hc:ρ.ev c= .raw (.bool p)) (hp:p=true) (hv:ρ.ev x=v) (k:AV P N all K fl.tail os (CV ρ d v) L) (hd:Nat.blt d N=true:=by rfl):AV P N all K fl (⟨some d,.pick c x y,ty,pos,af,none⟩::os) ρ L:=nR (hp ▸ hc) (by rw[hv];exact k) hd
theorem YT {c x y:Operand} {p:Bool} {v:PV} (hc:ρ.ev c= .raw (.bool p)) (hp:p=false) (hv:ρ.ev y=v) (k:AV P N all K fl.tail os (CV ρ d v) L) (hd:Nat.blt d N=true:=by rfl):AV P N all K fl (⟨some d,.pick c x y,ty,pos,af,none⟩::os) ρ L:=nS (hp ▸ hc) (by rw[hv];exact k) hd
theorem IQ {s:Nat} {x y:Code} {Q:PPost} (hc:ρ s= .raw (.bool true)) (h:Eb P N x Q ρ L):Eb P N (.cond (.tmp s) x y) Q ρ L:=Ka hc (fun _=>h) (by simp)
theorem HP {s:Nat} {x y:Code} {Q:PPost} (hc:ρ s= .raw (.bool false)) (h:Eb P N y Q ρ L):Eb P N (.cond (.tmp s) x y) Q ρ L:=Ka hc (by simp) (fun _=>h)
end
def Nf (a b:Nat):Nat:=(a+b) % 4294967296
def Xt (a b:Nat):Nat:=(a % 4294967296)&&& (b % 4294967296)
def fi (a b:Nat):Nat:=(a % 4294967296)|||(b % 4294967296)
def Ln (a b:Nat):Nat:=(a % 4294967296) ^^^ (b % 4294967296)
def oO (a:Nat):Nat:=4294967295 ^^^ (a % 4294967296)
def Wh (a n:Nat):Nat:=a / 2 ^ (min n 32)
def YJ (a n:Nat):Nat:=(a*2 ^ (min n 32)) % 4294967296
theorem KQ (a:Nat):(BitVec.ofInt 32 (a:Int)).toNat=a % 4294967296:=by
 rw[BitVec.toNat_ofInt];norm_cast
theorem Me (a:Nat) (h:a < 4294967296):IntKind.u32.wrap (a:Int)=(a:Int):=IntWalk.u32_in _ ⟨by omega,by omega⟩
theorem Mf (a:Nat):IntKind.u32.wrap (a:Int)=((a % 4294967296:Nat):Int):=by rw[IntKind.wrap_u32];omega
theorem Vf (n:Nat):((2:Int) ^ n)=((2 ^ n:Nat):Int):=by norm_cast
theorem Qo (a n:Nat):((a:Int).fdiv (2 ^ n))=((a / 2 ^ n:Nat):Int):=by
 rw[Vf,Int.fdiv_eq_ediv_of_nonneg _ (Int.natCast_nonneg _)];norm_cast
theorem oY (a n:Nat):((a:Int)*(2 ^ n))=((a*2 ^ n:Nat):Int):=by rw[Vf];norm_cast
theorem aG (a b:Nat):Op.intBits .xor .u32 (a:Int) (b:Int)=pure (.int .u32 ((Ln a b:Nat):Int)):=by
 have h:(BitVec.ofInt 32 (a:Int) ^^^ BitVec.ofInt 32 (b:Int)).toNat=Ln a b:=by rw[BitVec.toNat_xor,KQ,KQ];rfl
 have h2:Ln a b < 4294967296:=by rw[←h];exact BitVec.isLt _
 show pure (Value.int .u32 (IntKind.u32.wrap ((BitVec.ofInt 32 (a:Int) ^^^ BitVec.ofInt 32 (b:Int)).toNat:Int)))=_
 rw[h,Me _ h2]
theorem lP (a b:Nat):Op.intBits .and .u32 (a:Int) (b:Int)=pure (.int .u32 ((Xt a b:Nat):Int)):=by
 have h:(BitVec.ofInt 32 (a:Int)&&& BitVec.ofInt 32 (b:Int)).toNat=Xt a b:=by rw[BitVec.toNat_and,KQ,KQ];rfl
 have h2:Xt a b < 4294967296:=by rw[←h];exact BitVec.isLt _
 show pure (Value.int .u32 (IntKind.u32.wrap ((BitVec.ofInt 32 (a:Int)&&& BitVec.ofInt 32 (b:Int)).toNat:Int)))=_
 rw[h,Me _ h2]
theorem pb (a b:Nat):Op.intBits .or .u32 (a:Int) (b:Int)=pure (.int .u32 ((fi a b:Nat):Int)):=by
 have h:(BitVec.ofInt 32 (a:Int)|||BitVec.ofInt 32 (b:Int)).toNat=fi a b:=by rw[BitVec.toNat_or,KQ,KQ];rfl
 have h2:fi a b < 4294967296:=by rw[←h];exact BitVec.isLt _
 show pure (Value.int .u32 (IntKind.u32.wrap ((BitVec.ofInt 32 (a:Int)|||BitVec.ofInt 32 (b:Int)).toNat:Int)))=_
 rw[h,Me _ h2]
section
variable {P:Program} {N:Nat} {all:Array Oper} {K:Env→List Res→Prop} {fl:List Bool} {os:List Oper} {ρ:Env} {L:List Res}
variable {d:Nat} {ty:TypeId} {pos:String} {af:Array Edge} {T T':TypeId} {x y:Operand} {a b:Nat}
theorem ja (hx:ρ.ev x= .raw (.int .u32 (a:Int))) (hy:ρ.ev y= .raw (.int .u32 (b:Int))) (k:AV P N all K fl.tail os (CV ρ d (.raw (.int .u32 (Nf a b:Nat)))) L) (hd:Nat.blt d N=true:=by rfl):
  AV P N all K fl (⟨some d,.binOp .add T x y T',ty,pos,af,none⟩::os) ρ L:=Gk hx hy (fun w=>by
   have e:((a:Int)+(b:Int))=((a+b:Nat):Int):=by omega
   simp only[binOp,ne_eq,not_true_eq_false,if_false,Op.intArith,e,Mf,Nf];rfl) k hd
theorem ir (hx:ρ.ev x= .raw (.int .u32 (a:Int))) (hy:ρ.ev y= .raw (.int .u32 (b:Int))) (k:AV P N all K fl.tail os (CV ρ d (.raw (.int .u32 (Ln a b:Nat)))) L) (hd:Nat.blt d N=true:=by rfl):
  AV P N all K fl (⟨some d,.binOp .xor T x y T',ty,pos,af,none⟩::os) ρ L:=Gk hx hy (fun w=>by simp only[binOp,ne_eq,not_true_eq_false,if_false,aG];rfl) k hd
theorem jZ (hx:ρ.ev x= .raw (.int .u32 (a:Int))) (hy:ρ.ev y= .raw (.int .u32 (b:Int))) (k:AV P N all K fl.tail os (CV ρ d (.raw (.int .u32 (Xt a b:Nat)))) L) (hd:Nat.blt d N=true:=by rfl):
  AV P N all K fl (⟨some d,.binOp .and T x y T',ty,pos,af,none⟩::os) ρ L:=Gk hx hy (fun w=>by simp only[binOp,ne_eq,not_true_eq_false,if_false,lP];rfl) k hd
theorem qY (hx:ρ.ev x= .raw (.int .u32 (a:Int))) (hy:ρ.ev y= .raw (.int .u32 (b:Int))) (k:AV P N all K fl.tail os (CV ρ d (.raw (.int .u32 (fi a b:Nat)))) L) (hd:Nat.blt d N=true:=by rfl):
  AV P N all K fl (⟨some d,.binOp .or T x y T',ty,pos,af,none⟩::os) ρ L:=Gk hx hy (fun w=>by simp only[binOp,ne_eq,not_true_eq_false,if_false,pb];rfl) k hd
theorem jC (hx:ρ.ev x= .raw (.int .u32 (a:Int))) (k:AV P N all K fl.tail os (CV ρ d (.raw (.int .u32 (oO a:Nat)))) L) (hd:Nat.blt d N=true:=by rfl):AV P N all K fl (⟨some d,.unOp .xor T x,ty,pos,af,none⟩::os) ρ L:=
 Bg hd (BC fun a' w g ha hi=>⟨.int .u32 (oO a:Nat),by
  have h1:=Cg ha (x:=x) (by simp[Op.operands]) hx
  have e:IntKind.u32.max=((4294967295:Nat):Int):=by decide
  have hs:IntKind.u32.signed=false:=rfl
  have e2:Ln 4294967295 a=oO a:=rfl
  simp only[execOp,h1,Op.unary,hs,BX,if_false,e,aG,e2];rfl,.raw _⟩) k
theorem j0 (hx:ρ.ev x= .raw (.int .u32 (a:Int))) (hy:ρ.ev y= .raw (.int .u64 (b:Int))) (k:AV P N all K fl.tail os (CV ρ d (.raw (.int .u32 (Wh a b:Nat)))) L) (hd:Nat.blt d N=true:=by rfl):
  AV P N all K fl (⟨some d,.binOp .shr T x y T',ty,pos,af,none⟩::os) ρ L:=Gk hx hy (fun w=>by
   have h0: ¬(b:Int) < 0:=by omega
   simp only[binOp,Op.shift,h0,if_false,IntKind.bits,E4]
   rw[Qo];rfl) k hd
theorem jA (hx:ρ.ev x= .raw (.int .u32 (a:Int))) (hy:ρ.ev y= .raw (.int .u64 (b:Int))) (k:AV P N all K fl.tail os (CV ρ d (.raw (.int .u32 (YJ a b:Nat)))) L) (hd:Nat.blt d N=true:=by rfl):
  AV P N all K fl (⟨some d,.binOp .shl T x y T',ty,pos,af,none⟩::os) ρ L:=Gk hx hy (fun w=>by
   have h0: ¬(b:Int) < 0:=by omega
   simp only[binOp,Op.shift,h0,if_false,IntKind.bits,E4]
   rw[oY,Mf];rfl) k hd
theorem Wj (hx:ρ.ev x= .raw (.int .u64 (a:Int))) (hy:ρ.ev y= .raw (.int .u64 (b:Int))) (h1:b≤a) (h2:a≤18446744073709551615) (k:AV P N all K fl.tail os (CV ρ d (.raw (.int .u64 ((a - b:Nat):Int)))) L) (hd:Nat.blt d N=true:=by rfl):
  AV P N all K fl (⟨some d,.binOp .sub T x y T',ty,pos,af,none⟩::os) ρ L:=Gk hx hy (fun w=>by
   have e:((a:Int) - (b:Int))=((a - b:Nat):Int):=by omega
   simp only[binOp,ne_eq,not_true_eq_false,if_false,Op.intArith,e]
   rw[IntWalk.u64_in _ ⟨by omega,by omega⟩];rfl) k hd
theorem Wm (hx:ρ.ev x= .raw (.int .u64 (a:Int))) (hy:ρ.ev y= .raw (.int .u64 (b:Int))) (h2:a*b≤18446744073709551615) (k:AV P N all K fl.tail os (CV ρ d (.raw (.int .u64 ((a*b:Nat):Int)))) L) (hd:Nat.blt d N=true:=by rfl):
  AV P N all K fl (⟨some d,.binOp .mul T x y T',ty,pos,af,none⟩::os) ρ L:=Gk hx hy (fun w=>by
   have e:((a:Int)*(b:Int))=((a*b:Nat):Int):=by norm_cast
   simp only[binOp,ne_eq,not_true_eq_false,if_false,Op.intArith,e]
   rw[IntWalk.u64_in _ ⟨by omega,by omega⟩];rfl) k hd
theorem j9 (hx:ρ.ev x= .raw (.int .u64 (a:Int))) (hy:ρ.ev y= .raw (.int .u64 (b:Int))) (k:AV P N all K fl.tail os (CV ρ d (.raw (.int .u64 ((a / 2 ^ (min b 64):Nat):Int)))) L) (hd:Nat.blt d N=true:=by rfl):
  AV P N all K fl (⟨some d,.binOp .shr T x y T',ty,pos,af,none⟩::os) ρ L:=Gk hx hy (fun w=>by
   have h0: ¬(b:Int) < 0:=by omega
   simp only[binOp,Op.shift,h0,if_false,IntKind.bits,E4]
   rw[Qo];rfl) k hd
theorem dQ {S:TypeId} {k':IntKind} [hS:NJ P S k'] [hT:NJ P T .u8] {k₀:IntKind} (hx:ρ.ev x= .raw (.int k₀ (a:Int))) (k:AV P N all K fl.tail os (CV ρ d (.raw (.int .u8 ((UInt8.ofNat a).toNat:Int)))) L) (hd:Nat.blt d N=true:=by rfl):
  AV P N all K fl (⟨some d,.convert S T x,ty,pos,af,none⟩::os) ρ L:=s_convI' hx k hd
 where
 s_convI' (hx:ρ.ev x= .raw (.int k₀ (a:Int))) (k:AV P N all K fl.tail os (CV ρ d (.raw (.int .u8 ((UInt8.ofNat a).toNat:Int)))) L) (hd:Nat.blt d N=true):AV P N all K fl (⟨some d,.convert S T x,ty,pos,af,none⟩::os) ρ L:=
  Wx hx (by
   have e:IntKind.u8.wrap (a:Int)=((UInt8.ofNat a).toNat:Int):=by
    rw[IntKind.wrap_u8,UInt8.toNat_ofNat'];omega
   rw[e];exact k) hd
theorem dP {S:TypeId} {k':IntKind} [hS:NJ P S k'] [hT:NJ P T .u32] {k₀:IntKind} (hx:ρ.ev x= .raw (.int k₀ (a:Int))) (k:AV P N all K fl.tail os (CV ρ d (.raw (.int .u32 ((a % 4294967296:Nat):Int)))) L) (hd:Nat.blt d N=true:=by rfl):
  AV P N all K fl (⟨some d,.convert S T x,ty,pos,af,none⟩::os) ρ L:=Wx hx (by rw[Mf];exact k) hd
theorem Sd {S:TypeId} {k':IntKind} [hS:NJ P S k'] [hT:NJ P T .u64] {k₀:IntKind} (hx:ρ.ev x= .raw (.int k₀ (a:Int))) (ha:a≤18446744073709551615) (k:AV P N all K fl.tail os (CV ρ d (.raw (.int .u64 (a:Int)))) L) (hd:Nat.blt d N=true:=by rfl):
  AV P N all K fl (⟨some d,.convert S T x,ty,pos,af,none⟩::os) ρ L:=Wv hx (IntWalk.u64_in _ ⟨by omega,by omega⟩) k hd
theorem qa {n:Int} (hx:ρ.ev x= .raw (.int .i64 n)) (hb: -9223372036854775807≤n∧n≤9223372036854775807) (k:AV P N all K fl.tail os (CV ρ d (.raw (.int .i64 (-n)))) L) (hd:Nat.blt d N=true:=by rfl):AV P N all K fl (⟨some d,.unOp .neg T x,ty,pos,af,none⟩::os) ρ L:=
 Bg hd (BC fun a' w g ha hi=>⟨.int .i64 (-n),by
  have h1:=Cg ha (x:=x) (by simp[Op.operands]) hx
  simp only[execOp,h1,Op.unary,Op.intArith,Int.zero_sub]
  rw[IntWalk.i64_in _ ⟨by omega,by omega⟩];rfl,.raw _⟩) k
def eBy (b:UInt8):List PV:= [.raw (.int .u8 (b.toNat:Int))]
end
instance :NM eBy 1:=⟨fun _=>rfl⟩
instance :Jm eBy:=⟨fun _=>FM rfl Gn⟩
instance (b:UInt8):GB (.raw (.int .u8 (b.toNat:Int))) eBy b:=⟨.one (Jm.out (f:=eBy) b)⟩
instance (d:Dig):Q4 (eDig d) 0 32 (eDig d):=⟨by rw[Ll,AA (by simp)];simp⟩
class lj (P:Program) (T:Nat):Prop where
 out: ∃ E,P.underlying T=some (.slice E)∧P.underlying E=some (.int .u8)
section
variable {P:Program} {N:Nat} {all:Array Oper} {K:Env→List Res→Prop} {fl:List Bool} {os:List Oper} {ρ:Env} {L:List Res}
variable {d:Nat} {ty:TypeId} {pos:String} {af:Array Edge} {T T':TypeId} {x y:Operand} {a b:Nat}
theorem iu {S:TypeId} [hS:lj P S] [hT:S3 P T] {bs:Str} {t:C9} (hx:ρ.ev x= .slice (bs.map eBy) t) (k:AV P N all K fl.tail os (CV ρ d (.str bs)) L) (hd:Nat.blt d N=true:=by rfl):
  AV P N all K fl (⟨some d,.convert S T x,ty,pos,af,none⟩::os) ρ L:=
 Bg hd (BC fun a' w g ha hi=>by
  obtain⟨E,e1,e2⟩:=hS.out
  have h1:=ha x (by simp[Op.operands])
  rw[hx]at h1
  have hbd:=h1.bd.slice_map
  refine⟨.string ⟨bs.toArray⟩,?_,.str hbd⟩
  show(do pure (Next.value (←convert S T (a'.eval x))):Sem Next).run P w=_
  have key:(convert S T (a'.eval x)).run P w= .ok (.string ⟨bs.toArray⟩) w:=by
   generalize a'.eval x=v at h1
   cases bs with
   |nil=>
    have hn: ∃ o cap,v= .slice o 0 cap:=by
     cases h1 with
     |nilN=>exact⟨_,_,rfl⟩
     |nilR=>exact⟨_,_,rfl⟩
     |slice sz f hl hc hm hs hH hv ht hn=>simp at hl;subst hl;exact⟨_,_,rfl⟩
    obtain⟨o,cap,rfl⟩:=hn
    cases o with
    |none=>rw[run_convert_bytes_string w S T E _ _ _ e1 e2 hT.out];simp[Conv.bytesToString];rfl
    |some ad=>exact run_convert_bytes_back w S T E ad cap [] e1 e2 hT.out (fun j hj=>by simp at hj)
   |cons b0 bs=>
    generalize hl0:b0::bs=l at h1
    generalize hxs:List.map eBy l=xs at h1
    have hne:xs≠ []:=by rw[←hxs,←hl0];simp
    cases h1 with
    |nilN=>exact absurd rfl hne
    |nilR=>exact absurd rfl hne
    |slice sz f hl hc hm hs hH hv ht hn=>
     subst hxs
     rename_i b off len cap
     have hsz:sz=1:=by
      have:=hs (eBy b0) (by rw[←hl0];simp)
      simpa [eBy]using this.symm
     subst hsz
     simp only[AU]at hl
     subst hl
     refine run_convert_bytes_back w S T E _ cap l e1 e2 hT.out (fun j hj=>?_)
     rw[Dt]
     have h2:=hi.sat _ _ _ (hH j 0 hj (by omega))
     have h3:=hv j (by simpa using hj) 0 (by simp[eBy])
     simp only[IB,Dv,B4,eBy,BK]at h2 h3
     rw[h2,h3.raw_inv]
  simp only[Sem.run_bind,key,Result.andThen_ok,Sem.run_pure]) k
theorem YO [hT:Uy P T] {bb off:Nat} (hx:ρ.ev x= .raw (.pointer (some ⟨bb,off,none⟩))) (k:AV P N all K fl.tail os (CV ρ d (.raw (.slice (some ⟨bb,off,none⟩) 32 32))) L) (hd:Nat.blt d N=true:=by rfl):
  AV P N all K fl (⟨some d,.slice T x none none none,ty,pos,af,none⟩::os) ρ L:=
 Bg hd (BC fun a' w g ha hi=>by
  obtain⟨E,i,e1,e2,e3,e4⟩:=hT.arr
  have h1:=Cg ha (x:=x) (by simp[Op.operands]) hx
  refine⟨.slice (some ⟨bb,off,none⟩) 32 32,?_,.raw _⟩
  show(do pure (Next.value (←Instr.sliceAt T (a'.eval x) none none none)):Sem Next).run P w=_
  simp[Instr.sliceAt,Hy e1,h1,Instr.sureAddr,Instr.sliceBounds,sizeOf,typeInfo,e3,e4,Dt]) k
theorem YK {S:TypeId} [hS:lj P S] [hT:S3 P T] {bb off T₂:Nat} {cs:List PV} {dg:Dig} (hx:ρ.ev x= .raw (.slice (some ⟨bb,off,none⟩) 32 32)) (hm:Res.box bb T₂ cs∈L) [hs:Q4 cs off 32 (eDig dg)] (k:AV P N all K fl.tail os (CV ρ d (.str dg.bs)) L) (hd:Nat.blt d N=true:=by rfl):
  AV P N all K fl (⟨some d,.convert S T x,ty,pos,af,none⟩::os) ρ L:=
 Bg hd (BC fun a' w g ha hi=>by
  obtain⟨E,e1,e2⟩:=hS.out
  have h1:=Cg ha (x:=x) (by simp[Op.operands]) hx
  obtain⟨vs,hb,hv,_,_⟩:=hi.res _ hm
  obtain⟨q1,q2⟩:=hs.out
  refine⟨.string ⟨dg.bs.toArray⟩,?_,.str (by rw[dg.len];decide)⟩
  have key:=run_convert_bytes_back w S T E ⟨bb,off,none⟩ 32 dg.bs e1 e2 hT.out (fun j hj=>by
   rw[Dt]
   have hj':j < 32:=by rw[←dg.len];exact hj
   have hlt:off+j < vs.length:=by rw[hv.len];omega
   rw[HH hb (off+j) hlt]
   have h2:=hv.at_ (off+j) hlt (by omega)
   have h3:cs[off+j]'(by omega)=eU8 dg.bs[j]:=by
    have:=congrArg (fun l=>l[j]?) q1
    simp only[Fc,hj',if_true,Fe,eDig,HA,AY hj]at this
    rw[AY (by omega)]at this
    simpa using this
   rw[h3]at h2
   rw[h2.raw_inv];rfl)
  rw[dg.len]at key
  show(do pure (Next.value (←convert S T (a'.eval x))):Sem Next).run P w=_
  simp only[h1,Sem.run_bind,key,Result.andThen_ok,Sem.run_pure]) k
def eW (l:List Nat):List PV:=l.map fun(a:Nat)=>PV.raw (.int .u32 (a:Int))
@[simp] theorem Gz (l:List Nat):(eW l).length=l.length:=by simp[eW]
theorem pN (l:List Nat):Ju (eW l):=fun x hx=>by
 obtain⟨a,_,rfl⟩:=AQ.1 hx
 exact FM (v:= .int .u32 (a:Int)) rfl Gn _ (by simp)
instance (l:List Nat):Dn (eW l):=⟨pN l⟩
theorem dF [hT:Di P T] {bb i T₂:Nat} {l:List Nat} (hx:ρ.ev x= .raw (.pointer (some ⟨bb,0+i*1,none⟩))) (hm:Res.box bb T₂ (eW l)∈L) (hi:i < l.length) (k:AV P N all K fl.tail os (CV ρ d (.raw (.int .u32 ((l.getD i 0:Nat):Int)))) L) (hd:Nat.blt d N=true:=by rfl):
  AV P N all K fl (⟨some d,.load T x,ty,pos,af,none⟩::os) ρ L:=Sz hx hm (by simp[eW,hi,List.getD]) k hd
theorem Sv {by_:Nat} {bb i T₂ v:Nat} {l:List Nat} {L':List Res} [hT:Eg P T 1 by_] (hx:ρ.ev x= .raw (.pointer (some ⟨bb,0+i*1,none⟩))) (hy:ρ.ev y= .raw (.int .u32 (v:Int))) (_:Res.box bb T₂ (eW l)∈L) (hi:i < l.length) [hu:Ux bb (eW l) (eW (l.set i v)) L L']
  (k:AV P N all K fl.tail os ρ L') (hfl:fl.headD true=true:=by rfl):AV P N all K fl (⟨none,.store T x y,ty,pos,af,none⟩::os) ρ L:=
 Dd rfl (fun _ e=>by cases e) hfl (JC (new:= [.raw (.int .u32 (v:Int))]) hx (by rw[hy];exact DB.one (FM rfl Gn)) rfl (FM rfl Gn) (by
  simp only[B9,BN,IB,eW]
  rw[zt,Gw,if_pos (by simpa using hi)]
  simp) (by simp;omega) hu.out k)
def Dig.put (dg:Dig) (i:Nat) (v:UInt8):Dig:=⟨dg.bs.set i v,by rw[Ct];exact dg.len⟩
theorem YM {by_:Nat} {bb i T₂:Nat} {v:UInt8} {dg:Dig} {L':List Res} [hT:Eg P T 1 by_] (hx:ρ.ev x= .raw (.pointer (some ⟨bb,0+i*1,none⟩))) (hy:ρ.ev y= .raw (.int .u8 (v.toNat:Int))) (_:Res.box bb T₂ (eDig dg)∈L) (hi:i < 32) [hu:Ux bb (eDig dg) (eDig (dg.put i v)) L L']
  (k:AV P N all K fl.tail os ρ L') (hfl:fl.headD true=true:=by rfl):AV P N all K fl (⟨none,.store T x y,ty,pos,af,none⟩::os) ρ L:=
 Dd rfl (fun _ e=>by cases e) hfl (JC (new:= [.raw (.int .u8 (v.toNat:Int))]) hx (by rw[hy];exact DB.one (FM rfl Gn)) rfl (FM rfl Gn) (by
  simp only[B9,BN,IB,eDig,Dig.put]
  rw[zt,Gw,if_pos (by simpa [dg.len]using hi)]
  simp[eU8,u8]) (by simp;omega) hu.out k)
theorem jQ {n E by_:Nat} {z:List PV} [hT:Uz P T n E] [hE:Eg P E 1 by_] [hZ:Ck P T z] {xs:List Operand} (ws:List Nat) (hx:xs.map ρ.ev=eW ws) (hz:z.length=ws.length) (hn:xs.length=ws.length)
  (k:AV P N all K fl.tail os (CV ρ d (.agg (eW ws))) L) (hd:Nat.blt d N=true:=by rfl):AV P N all K fl (⟨some d,.build T ((xs.zipIdx.map fun p=>(p.2,p.1)).toArray),ty,pos,af,none⟩::os) ρ L:=
 Bg hd (BC fun a' w g ha hi=>by
  obtain⟨i,v,us,h1,h2,h3,h4⟩:=hZ.out
  let cs:List Value:=ws.map fun(a:Nat)=>Value.int .u32 (a:Int)
  have hop:(Op.build T ((xs.zipIdx.map fun p=>(p.2,p.1)).toArray)).operands=xs.toArray:=by
   unfold Op.operands
   simp only[CU]
   have:((fun(x:Nat × Operand)=>x.2) ∘ fun(p:Operand × Nat)=>(p.2,p.1))=Prod.fst:=by funext p;rfl
   rw[this,List.zipIdx_map_fst]
  have hev:xs.map a'.eval=cs:=by
   refine E3 (by simp[cs,hn]) fun j j1 j2=>?_
   simp only[AU]at j1
   have hj:j < ws.length:=by omega
   have e1:ρ.ev xs[j]= .raw (.int .u32 (ws[j]:Int)):=by
    have:=congrArg (fun l=>l[j]?) hx
    simp only[HA,AY j1,eW,AY hj,H6]at this
    exact Cr this
   have e2:=ha xs[j] (by rw[hop];simp)
   rw[e1]at e2
   simp[cs,e2.raw_inv]
  refine⟨.agg cs.toArray,?_,EF.agg ⟨by simp[cs],fun j j1 j2=>by simp[cs,eW];exact .raw _⟩⟩
  have hparts:(((xs.zipIdx.map fun p=>(p.2,p.1)).toArray).map fun(p:Nat × Operand)=>(p.1,a'.eval p.2)).toList=((xs.map a'.eval).zipIdx 0).map fun p=>(p.2,p.1):=by
   simp only[Fb,CU]
   rw[qE,CU]
   rfl
  have hus:us.length=ws.length:=by rw[(h4 g).len,hz]
  have hfill:Instr.fill (fun i=>some (i*1,1)) us.toArray (((xs.map a'.eval).zipIdx 0).map fun p=>(p.2,p.1))=some cs.toArray:=by
   rw[hev,MI (sz:=1) (cs.map fun v=> [v]) cs 0 us (by simp) (fun j j1 j2=>by simp[cs,Value.cells]) (by simp[cs,hus])]
   have:(cs.map fun v=> [v]).flatten=cs:=by
    generalize cs=l
    induction l with
    |nil=>rfl
    |cons a l ih=>simp[ih]
   simp[this]
  show(do pure (Next.value (←Instr.build T (((xs.zipIdx.map fun p=>(p.2,p.1)).toArray).map fun(p:Nat × Operand)=>(p.1,a'.eval p.2)))):Sem Next).run P w=_
  simp only[Instr.build,Sem.run_bind,zeroValue,typeInfo,run_program,h1,Sem.run_pure,Result.andThen_ok,h2,run_underlying hT.out,Eg.run hE,h3,hparts,hfill]) k
end
section
variable {P:Program} {N:Nat} {all:Array Oper} {K:Env→List Res→Prop} {fl:List Bool} {os:List Oper} {ρ:Env} {L:List Res} {Q:PPost} {c:Code} {ty:TypeId} {pos:String} {af:Array Edge}
theorem oq {j:Nat} {b:Bool} {o:Op} {dst:Option Nat} (k:AV P N all K fl (⟨dst,o,ty,pos,af,some (j,b)⟩::os) ρ L):AV P N all K fl (⟨dst,o,ty,pos,af,some (j,b)⟩::os) ρ L:=k
theorem ko {x:Operand} {dst:Option Nat} (k:AV P N all K fl (⟨dst,.move x,ty,pos,af,none⟩::os) ρ L):AV P N all K fl (⟨dst,.move x,ty,pos,af,none⟩::os) ρ L:=k
theorem Zf {x:Operand} {dst:Option Nat} (k:AV P N all K fl (⟨dst,.assign x,ty,pos,af,none⟩::os) ρ L):AV P N all K fl (⟨dst,.assign x,ty,pos,af,none⟩::os) ρ L:=k
theorem kp {T:TypeId} {x:Operand} {dst:Option Nat} (k:AV P N all K fl (⟨dst,.load T x,ty,pos,af,none⟩::os) ρ L):AV P N all K fl (⟨dst,.load T x,ty,pos,af,none⟩::os) ρ L:=k
theorem rE {S f:Nat} {x:Operand} {dst:Option Nat} (k:AV P N all K fl (⟨dst,.fieldAddr S x f,ty,pos,af,none⟩::os) ρ L):AV P N all K fl (⟨dst,.fieldAddr S x f,ty,pos,af,none⟩::os) ρ L:=k
theorem rB {x:Operand} {T:TypeId} {dst:Option Nat} (k:AV P N all K fl (⟨dst,.call { callee:= .builtin .len,args:= #[x],argTypes:= #[T] },ty,pos,af,none⟩::os) ρ L):AV P N all K fl (⟨dst,.call { callee:= .builtin .len,args:= #[x],argTypes:= #[T] },ty,pos,af,none⟩::os) ρ L:=k
theorem bu {f:Nat} {xs:Array Operand} {ats:Array TypeId} {dst:Option Nat} (k:AV P N all K fl (⟨dst,.call { callee:= .value (.func f),args:=xs,argTypes:=ats },ty,pos,af,none⟩::os) ρ L):AV P N all K fl (⟨dst,.call { callee:= .value (.func f),args:=xs,argTypes:=ats },ty,pos,af,none⟩::os) ρ L:=k
theorem dy {o:BinOp} {T T₂:TypeId} {x y:Operand} {dst:Option Nat} (k:AV P N all K fl (⟨dst,.binOp o T x y T₂,ty,pos,af,none⟩::os) ρ L):AV P N all K fl (⟨dst,.binOp o T x y T₂,ty,pos,af,none⟩::os) ρ L:=k
theorem xc {T:TypeId} {x y:Operand} {dst:Option Nat} (k:AV P N all K fl (⟨dst,.indexAddr T x y,ty,pos,af,none⟩::os) ρ L):AV P N all K fl (⟨dst,.indexAddr T x y,ty,pos,af,none⟩::os) ρ L:=k
theorem xd {i:Nat} {x:Operand} {dst:Option Nat} (k:AV P N all K fl (⟨dst,.extract x i,ty,pos,af,none⟩::os) ρ L):AV P N all K fl (⟨dst,.extract x i,ty,pos,af,none⟩::os) ρ L:=k
theorem tn {c x y:Operand} {dst:Option Nat} (k:AV P N all K fl (⟨dst,.pick c x y,ty,pos,af,none⟩::os) ρ L):AV P N all K fl (⟨dst,.pick c x y,ty,pos,af,none⟩::os) ρ L:=k
theorem xZ {o:UnOp} {T:TypeId} {x:Operand} {dst:Option Nat} (k:AV P N all K fl (⟨dst,.unOp o T x,ty,pos,af,none⟩::os) ρ L):AV P N all K fl (⟨dst,.unOp o T x,ty,pos,af,none⟩::os) ρ L:=k
theorem XT {T:TypeId} {x y:Operand} {dst:Option Nat} (k:AV P N all K fl (⟨dst,.store T x y,ty,pos,af,none⟩::os) ρ L):AV P N all K fl (⟨dst,.store T x y,ty,pos,af,none⟩::os) ρ L:=k
theorem xe {T n:Nat} {ps:Array (Nat × Operand)} {dst:Option Nat} (k:AV P N all K fl (⟨dst,.buildSlice T n ps,ty,pos,af,none⟩::os) ρ L):AV P N all K fl (⟨dst,.buildSlice T n ps,ty,pos,af,none⟩::os) ρ L:=k
theorem dx {T:Nat} {ps:Array (Nat × Operand)} {dst:Option Nat} (k:AV P N all K fl (⟨dst,.build T ps,ty,pos,af,none⟩::os) ρ L):AV P N all K fl (⟨dst,.build T ps,ty,pos,af,none⟩::os) ρ L:=k
theorem XU {T:TypeId} {x:Operand} {lo hi mx:Option Operand} {dst:Option Nat} (k:AV P N all K fl (⟨dst,.slice T x lo hi mx,ty,pos,af,none⟩::os) ρ L):AV P N all K fl (⟨dst,.slice T x lo hi mx,ty,pos,af,none⟩::os) ρ L:=k
theorem kq {S T:TypeId} {x:Operand} {dst:Option Nat} (k:AV P N all K fl (⟨dst,.convert S T x,ty,pos,af,none⟩::os) ρ L):AV P N all K fl (⟨dst,.convert S T x,ty,pos,af,none⟩::os) ρ L:=k
theorem dw {T:TypeId} {x y:Operand} {dst:Option Nat} (k:AV P N all K fl (⟨dst,.index T x y,ty,pos,af,none⟩::os) ρ L):AV P N all K fl (⟨dst,.index T x y,ty,pos,af,none⟩::os) ρ L:=k
theorem xb {x:Operand} {dst:Option Nat} (k:AV P N all K fl (⟨dst,.nilCheck x,ty,pos,af,none⟩::os) ρ L):AV P N all K fl (⟨dst,.nilCheck x,ty,pos,af,none⟩::os) ρ L:=k
structure OU (B:Prop):Prop where
 out:B
structure Ks {α:Type} (B:α→Prop):Prop where
 out: ∀ a,B a
theorem oH {A B:Prop} (k:B) (h:OU B→A:=by
  intro hB
  first
   |(refine oq ?_;first|refine Yw rfl (by rfl) ?_|refine fY rfl (by first|((conv=>lhs;whnf);done)|fail) (by assumption) ?_|refine Yx rfl (by first|((conv=>lhs;whnf);done)|fail) (by assumption) ?_|refine Yy rfl (by first|((conv=>lhs;whnf);done)|fail) (by assumption) ?_|refine kA rfl (by rfl) ?_|refine Yx rfl (by rfl) rfl ?_|refine Yy rfl (by rfl) rfl ?_)
   |(refine ko ?_;first|refine KB (by(conv=>lhs;whnf);done) ?_)
   |(refine Zf ?_;first|refine VU (by(conv=>lhs;whnf);done) ?_)
   |(refine kp ?_;first|refine YY (by rfl) (hl:=(by first|infer_instance|fail)) ?_|refine dH (by rfl) rfl ?_|refine YV (by rfl) (by repeat(first|exact AI|apply AL)) (hl:=(by first|infer_instance|fail)) ?_|refine YW (by rfl) (by repeat(first|exact AI|apply AL)) (hs:=(by first|infer_instance|fail)) ?_|refine jE (by rfl) (by repeat(first|exact AI|apply AL)) (hs:=(by first|infer_instance|fail)) ?_|refine dI (by rfl) (by repeat(first|exact AI|apply AL)) (by omega) ?_|refine dF (by rfl) (by repeat(first|exact AI|apply AL)) (by omega) ?_)
   |(refine rE ?_;first|refine av (by rfl) (hr:=(by first|infer_instance|fail)) ?_|refine dK (by rfl) (by(conv=>lhs;whnf);done) ?_)
   |(refine rB ?_;first|refine jH (by rfl) ?_|refine jG (by(conv=>lhs;whnf);done) (jx:=(by first|infer_instance|fail)) ?_|refine jI (by rfl) ?_)
   |(refine bu ?_;first|refine XL (by(conv=>lhs;whnf);done) (hN0:=(by first|infer_instance|fail)) (hc:=(by first|infer_instance|fail)) ?_|refine dq (by(conv=>lhs;whnf);done) (by(conv=>lhs;whnf);done) (hN0:=(by first|infer_instance|fail)) (hN1:=(by first|infer_instance|fail)) (hc:=(by first|infer_instance|fail)) ?_|refine dp (by(conv=>lhs;whnf);done) (by(conv=>lhs;whnf);done) (by(conv=>lhs;whnf);done) (hN0:=(by first|infer_instance|fail)) (hN1:=(by first|infer_instance|fail)) (hN2:=(by first|infer_instance|fail)) (hc:=(by first|infer_instance|fail)) ?_|refine dr (hc:=(by first|infer_instance|fail)) ?_|refine dm (by(conv=>lhs;whnf);done) (by(conv=>lhs;whnf);done) (by(conv=>lhs;whnf);done) (by(conv=>lhs;whnf);done) (hN0:=(by first|infer_instance|fail)) (hN1:=(by first|infer_instance|fail)) (hN2:=(by first|infer_instance|fail)) (hN3:=(by first|infer_instance|fail)) (hc:=(by first|infer_instance|fail)) ?_|refine j_call5 (by(conv=>lhs;whnf);done) (by(conv=>lhs;whnf);done) (by(conv=>lhs;whnf);done) (by(conv=>lhs;whnf);done) (by(conv=>lhs;whnf);done) (hN0:=(by first|infer_instance|fail)) (hN1:=(by first|infer_instance|fail)) (hN2:=(by first|infer_instance|fail)) (hN3:=(by first|infer_instance|fail)) (hN4:=(by first|infer_instance|fail)) (hc:=(by first|infer_instance|fail)) ?_|refine j_call6 (by(conv=>lhs;whnf);done) (by(conv=>lhs;whnf);done) (by(conv=>lhs;whnf);done) (by(conv=>lhs;whnf);done) (by(conv=>lhs;whnf);done) (by(conv=>lhs;whnf);done) (hN0:=(by first|infer_instance|fail)) (hN1:=(by first|infer_instance|fail)) (hN2:=(by first|infer_instance|fail)) (hN3:=(by first|infer_instance|fail)) (hN4:=(by first|infer_instance|fail)) (hN5:=(by first|infer_instance|fail)) (hc:=(by first|infer_instance|fail)) ?_)
   |(refine g_bi ?_;first|refine s_min (by rfl) (by rfl) ?_|refine s_max (by rfl) (by rfl) ?_)
   |(refine dy ?_;first|refine qd (by rfl) (by rfl) ?_|refine qe (by rfl) (by rfl) ?_|refine wT (by rfl) (by rfl) ?_|refine qf (by rfl) (by rfl) ?_|refine wU (by rfl) (by rfl) ?_|refine wH (by rfl) (by rfl) ?_|refine qk (by rfl) (by rfl) (by constructor<;>omega) ?_|refine qX (by rfl) (by rfl) (by constructor<;>omega) ?_|refine nV (by rfl) (by rfl) ?_|refine nT (by rfl) (by rfl) ?_|refine sf (by rfl) (by rfl) ?_|refine sb (by rfl) (by rfl) ?_|refine wV (by(conv=>lhs;whnf);done) (by(conv=>lhs;whnf);done) (jx:=(by first|infer_instance|fail)) (jy:=(by first|infer_instance|fail)) ?_|refine wI (by(conv=>lhs;whnf);done) (by(conv=>lhs;whnf);done) (jx:=(by first|infer_instance|fail)) (jy:=(by first|infer_instance|fail)) ?_|refine wX (by rfl) (by rfl) ?_|refine s_neB (by rfl) (by rfl) ?_|refine qh (by(conv=>lhs;whnf);done) (by(conv=>lhs;whnf);done) (jx:=(by first|infer_instance|fail)) (jy:=(by first|infer_instance|fail)) (by first|omega|(simp only[AD,AN,Af,BN];omega)) ?_|refine qb (by rfl) (by rfl) (by constructor<;>omega) ?_|refine YR (by rfl) (by rfl) (by omega) (by omega) ?_|refine YP (by rfl) (by rfl) (by omega) ?_|refine ja (by rfl) (by rfl) ?_|refine ir (by rfl) (by rfl) ?_|refine jZ (by rfl) (by rfl) ?_|refine qY (by rfl) (by rfl) ?_|refine j0 (by rfl) (by rfl) ?_|refine jA (by rfl) (by rfl) ?_|refine j9 (by rfl) (by rfl) ?_|refine Wj (by rfl) (by rfl) (by omega) (by omega) ?_|refine Wm (by rfl) (by rfl) (by omega) ?_)
   |(refine xc ?_;first|refine jK (by rfl) (by rfl) (by omega) ?_|refine QK (by rfl) (by rfl) (by omega) ?_|refine jJ (by rfl) (by rfl) (by omega) (by omega) ?_)
   |(refine xd ?_;first|refine fF (by rfl) rfl ?_)
   |(refine tn ?_;first|refine YS (by rfl) rfl (by(conv=>lhs;whnf);done) ?_|refine YT (by rfl) rfl (by(conv=>lhs;whnf);done) ?_|refine YS (by first|((conv=>lhs;whnf);done)|fail) (by assumption) (by(conv=>lhs;whnf);done) ?_|refine YT (by first|((conv=>lhs;whnf);done)|fail) (by assumption) (by(conv=>lhs;whnf);done) ?_)
   |(refine xZ ?_;first|refine qZ (by rfl) ?_|refine qa (by rfl) (by constructor<;>omega) ?_|refine jC (by rfl) ?_)
   |(refine XT ?_;first|refine iy (by rfl) (by(conv=>lhs;whnf);done) (hC:=(by first|infer_instance|fail)) (hB:=(by first|infer_instance|fail)) (hp:=(by first|infer_instance|fail)) (hu:=(by first|infer_instance|fail)) (hf:=(by first|infer_instance|fail)) (hlen:=(by first|infer_instance|fail)) ?_|refine YL (by rfl) (by rfl) (hB:=(by first|infer_instance|fail)) (hu:=(by first|infer_instance|fail)) (hf:=(by first|infer_instance|fail)) (hlen:=(by first|infer_instance|fail)) (hcs:=(by first|infer_instance|fail)) ?_|refine Sv (by rfl) (by rfl) (by repeat(first|exact AI|apply AL)) (by omega) (hu:=(by first|infer_instance|fail)) ?_|refine YM (by rfl) (by rfl) (by repeat(first|exact AI|apply AL)) (by omega) (hu:=(by first|infer_instance|fail)) ?_)
   |(refine dx ?_;first|refine Yc ?_|refine VS ?_|refine lX (by(conv=>lhs;whnf);done) (hC0:=(by first|infer_instance|fail)) (hP0:=(by first|infer_instance|fail)) (hl0:=(by first|infer_instance|fail)) ?_|refine lV (by(conv=>lhs;whnf);done) (by(conv=>lhs;whnf);done) (hC0:=(by first|infer_instance|fail)) (hC1:=(by first|infer_instance|fail)) (hP0:=(by first|infer_instance|fail)) (hP1:=(by first|infer_instance|fail)) (hl0:=(by first|infer_instance|fail)) (hl1:=(by first|infer_instance|fail)) ?_|refine lU (by(conv=>lhs;whnf);done) (by(conv=>lhs;whnf);done) (by(conv=>lhs;whnf);done) (hC0:=(by first|infer_instance|fail)) (hC1:=(by first|infer_instance|fail)) (hC2:=(by first|infer_instance|fail)) (hP0:=(by first|infer_instance|fail)) (hP1:=(by first|infer_instance|fail)) (hP2:=(by first|infer_instance|fail)) (hl0:=(by first|infer_instance|fail)) (hl1:=(by first|infer_instance|fail)) (hl2:=(by first|infer_instance|fail)) ?_|refine lS (by(conv=>lhs;whnf);done) (by(conv=>lhs;whnf);done) (by(conv=>lhs;whnf);done) (by(conv=>lhs;whnf);done) (hC0:=(by first|infer_instance|fail)) (hC1:=(by first|infer_instance|fail)) (hC2:=(by first|infer_instance|fail)) (hC3:=(by first|infer_instance|fail)) (hP0:=(by first|infer_instance|fail)) (hP1:=(by first|infer_instance|fail)) (hP2:=(by first|infer_instance|fail)) (hP3:=(by first|infer_instance|fail)) (hl0:=(by first|infer_instance|fail)) (hl1:=(by first|infer_instance|fail)) (hl2:=(by first|infer_instance|fail)) (hl3:=(by first|infer_instance|fail)) ?_|refine lR (by(conv=>lhs;whnf);done) (by(conv=>lhs;whnf);done) (by(conv=>lhs;whnf);done) (by(conv=>lhs;whnf);done) (by(conv=>lhs;whnf);done) (hC0:=(by first|infer_instance|fail)) (hC1:=(by first|infer_instance|fail)) (hC2:=(by first|infer_instance|fail)) (hC3:=(by first|infer_instance|fail)) (hC4:=(by first|infer_instance|fail)) (hP0:=(by first|infer_instance|fail)) (hP1:=(by first|infer_instance|fail)) (hP2:=(by first|infer_instance|fail)) (hP3:=(by first|infer_instance|fail)) (hP4:=(by first|infer_instance|fail)) (hl0:=(by first|infer_instance|fail)) (hl1:=(by first|infer_instance|fail)) (hl2:=(by first|infer_instance|fail)) (hl3:=(by first|infer_instance|fail)) (hl4:=(by first|infer_instance|fail)) ?_|refine lQ (by(conv=>lhs;whnf);done) (by(conv=>lhs;whnf);done) (by(conv=>lhs;whnf);done) (by(conv=>lhs;whnf);done) (by(conv=>lhs;whnf);done) (by(conv=>lhs;whnf);done) (hC0:=(by first|infer_instance|fail)) (hC1:=(by first|infer_instance|fail)) (hC2:=(by first|infer_instance|fail)) (hC3:=(by first|infer_instance|fail)) (hC4:=(by first|infer_instance|fail)) (hC5:=(by first|infer_instance|fail)) (hP0:=(by first|infer_instance|fail)) (hP1:=(by first|infer_instance|fail)) (hP2:=(by first|infer_instance|fail)) (hP3:=(by first|infer_instance|fail)) (hP4:=(by first|infer_instance|fail)) (hP5:=(by first|infer_instance|fail)) (hl0:=(by first|infer_instance|fail)) (hl1:=(by first|infer_instance|fail)) (hl2:=(by first|infer_instance|fail)) (hl3:=(by first|infer_instance|fail)) (hl4:=(by first|infer_instance|fail)) (hl5:=(by first|infer_instance|fail)) ?_|refine b_build7 (by(conv=>lhs;whnf);done) (by(conv=>lhs;whnf);done) (by(conv=>lhs;whnf);done) (by(conv=>lhs;whnf);done) (by(conv=>lhs;whnf);done) (by(conv=>lhs;whnf);done) (by(conv=>lhs;whnf);done) (hC0:=(by first|infer_instance|fail)) (hC1:=(by first|infer_instance|fail)) (hC2:=(by first|infer_instance|fail)) (hC3:=(by first|infer_instance|fail)) (hC4:=(by first|infer_instance|fail)) (hC5:=(by first|infer_instance|fail)) (hC6:=(by first|infer_instance|fail)) (hP0:=(by first|infer_instance|fail)) (hP1:=(by first|infer_instance|fail)) (hP2:=(by first|infer_instance|fail)) (hP3:=(by first|infer_instance|fail)) (hP4:=(by first|infer_instance|fail)) (hP5:=(by first|infer_instance|fail)) (hP6:=(by first|infer_instance|fail)) (hl0:=(by first|infer_instance|fail)) (hl1:=(by first|infer_instance|fail)) (hl2:=(by first|infer_instance|fail)) (hl3:=(by first|infer_instance|fail)) (hl4:=(by first|infer_instance|fail)) (hl5:=(by first|infer_instance|fail)) (hl6:=(by first|infer_instance|fail)) ?_|refine b_build8 (by(conv=>lhs;whnf);done) (by(conv=>lhs;whnf);done) (by(conv=>lhs;whnf);done) (by(conv=>lhs;whnf);done) (by(conv=>lhs;whnf);done) (by(conv=>lhs;whnf);done) (by(conv=>lhs;whnf);done) (by(conv=>lhs;whnf);done) (hC0:=(by first|infer_instance|fail)) (hC1:=(by first|infer_instance|fail)) (hC2:=(by first|infer_instance|fail)) (hC3:=(by first|infer_instance|fail)) (hC4:=(by first|infer_instance|fail)) (hC5:=(by first|infer_instance|fail)) (hC6:=(by first|infer_instance|fail)) (hC7:=(by first|infer_instance|fail)) (hP0:=(by first|infer_instance|fail)) (hP1:=(by first|infer_instance|fail)) (hP2:=(by first|infer_instance|fail)) (hP3:=(by first|infer_instance|fail)) (hP4:=(by first|infer_instance|fail)) (hP5:=(by first|infer_instance|fail)) (hP6:=(by first|infer_instance|fail)) (hP7:=(by first|infer_instance|fail)) (hl0:=(by first|infer_instance|fail)) (hl1:=(by first|infer_instance|fail)) (hl2:=(by first|infer_instance|fail)) (hl3:=(by first|infer_instance|fail)) (hl4:=(by first|infer_instance|fail)) (hl5:=(by first|infer_instance|fail)) (hl6:=(by first|infer_instance|fail)) (hl7:=(by first|infer_instance|fail)) ?_)
   |(refine XU ?_;first|refine jL (by rfl) (by rfl) (by omega) ?_|refine jM (by rfl) (by rfl) (by omega) ?_|refine Wu (by(conv=>lhs;whnf);done) (by rfl) (by rfl) (jx:=(by first|infer_instance|fail)) (by omega) (by omega) (by omega) ?_|refine dN (by(conv=>lhs;whnf);done) (by rfl) (jx:=(by first|infer_instance|fail)) (by omega) (by omega) ?_|refine YO (by rfl) ?_)
   |(refine kq ?_;first|refine dQ (by rfl) ?_|refine dP (by rfl) ?_|refine Sd (by rfl) (by omega) ?_|refine iu (by rfl) ?_|refine YK (by rfl) (by repeat(first|exact AI|apply AL)) (hs:=(by first|infer_instance|fail)) ?_)
   |(refine dw ?_;first|refine YZ (by(conv=>lhs;whnf);done) (by rfl) (jx:=(by first|infer_instance|fail)) (by omega) ?_)
   |(refine xb ?_;first|refine YU (by rfl) ?_)
  exact hB.out):A:=h ⟨k⟩
theorem tQ {A B:Prop} (k:B) (h:OU B→A:=by
  intro hB
  first
   |(refine xe ?_;first|refine qj ?_|refine qi (by(conv=>lhs;whnf);done) (hC0:=(by first|infer_instance|fail)) (hf:=(by first|infer_instance|fail)) (by decide) ?_|refine we (by(conv=>lhs;whnf);done) (by(conv=>lhs;whnf);done) (hC0:=(by first|infer_instance|fail)) (hC1:=(by first|infer_instance|fail)) (hf:=(by first|infer_instance|fail)) (by decide) ?_|refine wc (by(conv=>lhs;whnf);done) (by(conv=>lhs;whnf);done) (by(conv=>lhs;whnf);done) (hC0:=(by first|infer_instance|fail)) (hC1:=(by first|infer_instance|fail)) (hC2:=(by first|infer_instance|fail)) (hf:=(by first|infer_instance|fail)) (by decide) ?_|refine wb (by(conv=>lhs;whnf);done) (by(conv=>lhs;whnf);done) (by(conv=>lhs;whnf);done) (by(conv=>lhs;whnf);done) (hC0:=(by first|infer_instance|fail)) (hC1:=(by first|infer_instance|fail)) (hC2:=(by first|infer_instance|fail)) (hC3:=(by first|infer_instance|fail)) (hf:=(by first|infer_instance|fail)) (by decide) ?_|refine wa (by(conv=>lhs;whnf);done) (by(conv=>lhs;whnf);done) (by(conv=>lhs;whnf);done) (by(conv=>lhs;whnf);done) (by(conv=>lhs;whnf);done) (hC0:=(by first|infer_instance|fail)) (hC1:=(by first|infer_instance|fail)) (hC2:=(by first|infer_instance|fail)) (hC3:=(by first|infer_instance|fail)) (hC4:=(by first|infer_instance|fail)) (hf:=(by first|infer_instance|fail)) (by decide) ?_|refine wY (by(conv=>lhs;whnf);done) (by(conv=>lhs;whnf);done) (by(conv=>lhs;whnf);done) (by(conv=>lhs;whnf);done) (by(conv=>lhs;whnf);done) (by(conv=>lhs;whnf);done) (hC0:=(by first|infer_instance|fail)) (hC1:=(by first|infer_instance|fail)) (hC2:=(by first|infer_instance|fail)) (hC3:=(by first|infer_instance|fail)) (hC4:=(by first|infer_instance|fail)) (hC5:=(by first|infer_instance|fail)) (hf:=(by first|infer_instance|fail)) (by decide) ?_)
  exact hB.out):A:=h ⟨k⟩
theorem AW {A B:Prop} (k:B) (h:OU B→A:=by
  intro hB
  repeat(first
   |refine AE ?_
   |refine oH ?_
   |refine tQ ?_
   |refine DP ?_
   |refine CC (by kernel_rfl) ?_
   |refine IR ?_
   |refine HG ?_
   |refine KE ?_
   |refine Gl ?_
   |refine GN (by decide+kernel) ?_
   |refine IQ (by rfl) ?_
   |refine HP (by rfl) ?_)
  exact hB.out):A:=h ⟨k⟩
theorem Bu {A B:Prop} (k:B) (h:OU B→A:=by
  intro hB
  refine AW ?_
  exact hB.out):A:=h ⟨k⟩
theorem Cz {A:Prop} {B:Nat→Prop} (k: ∀ b,B b) (h:Ks B→A:=by
  intro hB
  refine AW ?_
  first|refine Yd (by rfl) fun b=>?_|refine Bw fun b=>?_
  refine AW ?_
  exact hB.out b):A:=h ⟨k⟩
theorem Ew {A:Prop} {B:Nat→Prop} (k: ∀ b,B b) (h:Ks B→A:=by
  intro hB
  refine Cz fun b=>?_
  exact hB.out b):A:=h ⟨k⟩
theorem H3 {A:Prop} {B:C9→Prop} (k: ∀ t,B t) (h:Ks B→A:=by
  intro hB
  refine AW ?_
  first|refine VV (by rfl) (by rfl) (by simp only[AD,AN,Af,AU,Ab,B8,BN];omega) (by simp only[AD,AN,Af,AU,Ab,B8,BN];omega) fun t=>?_|refine JX (by rfl) (by rfl) (by simp only[AD,AN,Af,AU,Ab,B8,BN];omega) (by simp only[AD,AN,Af,AU,Ab,B8,BN];omega) (fun t=>by first|exact .here|exact(.there .here)|exact(.there (.there .here))|exact(.there (.there (.there .here)))|exact(.there (.there (.there (.there .here))))|exact(.there (.there (.there (.there (.there .here)))))|exact(.there (.there (.there (.there (.there (.there .here))))))|exact(.there (.there (.there (.there (.there (.there (.there .here)))))))|exact(.there (.there (.there (.there (.there (.there (.there (.there .here))))))))) fun t=>?_
  refine AW ?_
  exact hB.out t):A:=h ⟨k⟩
theorem GG {A:Prop} {B:C9→Prop} (k: ∀ t,B t) (h:Ks B→A:=by
  intro hB
  refine H3 fun t=>?_
  exact hB.out t):A:=h ⟨k⟩
end
end Go.Q
