/- The small logic, fourteenth text: steps over strings, numbers, structs and slices by their forms. Library, no statement of its own. -/
import Derived.Test.YtaibdmankdppkaaGreatDoorZac
import Derived.Laws.IdiomStrings
set_option linter.unusedSimpArgs false
set_option linter.unusedVariables false
namespace Go.Q
open Go
def yN (P:Program) (T:Nat):Option (Nat × Nat):=
 match P.underlying T with
 |some (.slice E)=>match P.info? E with
  |some i=>match i.zero with
   |some z=>if z.cells.size=i.size∧i.bytes≠0∧i.size≠0∧i.size≤i.bytes then some (i.size,i.bytes)else none
   |none=>none
  |none=>none
 |_=>none
theorem Gf.of {P:Program} {T sz bytes:Nat} (h:yN P T=some (sz,bytes)):Gf P T sz bytes:=⟨by
 unfold yN at h
 split at h
 ·rename_i E hu
  split at h
  ·rename_i i hi
   split at h
   ·rename_i z hz
    split at h
    ·rename_i hc
     simp only[JA,Prod.mk.injEq]at h
     obtain⟨rfl,rfl⟩:=h
     exact⟨E,i,z,hu,hi,rfl,rfl,hz,hc.1,hc.2.1,hc.2.2⟩
    ·cases h
   ·cases h
  ·cases h
 ·cases h⟩
def dW (P:Program) (T:Nat):Bool:=
 match P.underlying T with
 |some (.struct fs)=>fs.all fun f=>(P.info? f.type).isSome
 |_=>false
theorem Cn.of {P:Program} {T:Nat} (h:dW P T=true):Cn P T:=⟨by
 unfold dW at h
 split at h
 ·rename_i fs hu
  refine⟨fs,hu,fun f hf=>?_⟩
  have:=Array.all_eq_true'.1 h f hf
  exact Fl.1 this
 ·cases h⟩
def s7 (P:Program) (S k:Nat):Option (Nat × Nat):=
 match P.underlying S with
 |some (.struct fs)=>match fs[k]? with
  |some f=>match P.info? f.type with
   |some i=>some (f.offset,i.size)
   |none=>none
  |none=>none
 |_=>none
theorem BU.of {P:Program} {S k off sz:Nat} (h:s7 P S k=some (off,sz)):BU P S k off sz:=⟨by
 unfold s7 at h
 split at h
 ·rename_i fs hu
  split at h
  ·rename_i f hf
   split at h
   ·rename_i i hi
    simp only[JA,Prod.mk.injEq]at h
    exact⟨fs,f,i,hu,hf,h.1,hi,h.2⟩
   ·cases h
  ·cases h
 ·cases h⟩
def si:PV→Option Value
 | .raw v=>some v
 | .slice [] .ro=>some (.slice none 0 0)
 | .str []=>some (.string ⟨#[]⟩)
 |_=>none
theorem nT {x:PV} {v:Value} (h:si x=some v) (g:Gh):VR g v x:=by
 unfold si at h
 split at h
 ·cases h;exact .raw _
 ·cases h;exact .nilR
 ·cases h;exact .str (RQ _)
 ·cases h
theorem Ck.of {P:Program} {T:Nat} {z:List PV} {us:List Value} (h:((P.info? T).bind (·.zero)).map (·.cells.toList)=some us) (hz:z.map si=us.map some):Ck P T z:=⟨by
 obtain⟨v,h1,h2⟩:=Bl.1 h
 obtain⟨i,h3,h4⟩:=Dy.1 h1
 have hl:z.length=us.length:=by simpa using congrArg List.length hz
 refine⟨i,v,us,h3,h4,by rw[←h2],fun g=>⟨hl.symm,fun i h5 h6=>nT ?_ g⟩⟩
 have:=congrArg (fun l=>l[i]?) hz
 simp only[EY,AO h5,AO h6,Eh]at this
 exact CJ this⟩
section
variable {P:Program} {N:Nat} {all:Array Oper} {K:Env→List Res→Prop} {fl:List Bool} {os:List Oper} {ρ:Env} {L:List Res}
variable {d:Nat} {ty:TypeId} {pos:String} {af:Array Edge}
theorem du {op:BinOp} {T T':TypeId} {x y:Operand} {a b v:Value} {r:PV} (hx: ∀ g u,VR g u (ρ.ev x)→u=a) (hy: ∀ g u,VR g u (ρ.ev y)→u=b) (hg: ∀ w,(eqGuard op T x y a b).run P w= .ok () w)
  (hr: ∀ w,(binOp op T a b).run P w= .ok v w) (hv: ∀ g,VR g v r) (k:AU P N all K fl.tail os (CU ρ d r) L) (hd:Nat.blt d N=true:=by rfl):
  AU P N all K fl (⟨some d,.binOp op T x y T',ty,pos,af,none⟩::os) ρ L:=
 Bk hd (B9 fun a' w g ha hi=>⟨v,by
  have h1:=hx g _ (ha x (by simp[Op.operands]))
  have h2:=hy g _ (ha y (by simp[Op.operands]))
  simp only[execOp,h1,h2,Sem.run_bind,hg,Result.andThen_ok,hr,Sem.run_pure],hv g⟩) k
theorem kA {op:BinOp} {T T':TypeId} {x y:Operand} {a b v:Value} (hx:ρ.ev x= .raw a) (hy:ρ.ev y= .raw b) (hg: ∀ w,(eqGuard op T x y a b).run P w= .ok () w)
  (hr: ∀ w,(binOp op T a b).run P w= .ok v w) (k:AU P N all K fl.tail os (CU ρ d (.raw v)) L) (hd:Nat.blt d N=true:=by rfl):
  AU P N all K fl (⟨some d,.binOp op T x y T',ty,pos,af,none⟩::os) ρ L:=
 du (fun g u h=>by rw[hx]at h;exact h.raw_inv) (fun g u h=>by rw[hy]at h;exact h.raw_inv) hg hr (fun g=> .raw v) k hd
theorem rU {T T':TypeId} {x y:Operand} {s t:Str} {ax ay:PV} (hx:ρ.ev x=ax) [jx:K7 ax s] (hy:ρ.ev y=ay) [jy:K7 ay t] (hl:s.length+t.length≤140737488355328) (k:AU P N all K fl.tail os (CU ρ d (.str (s++t))) L) (hd:Nat.blt d N=true:=by rfl):
  AU P N all K fl (⟨some d,.binOp .add T x y T',ty,pos,af,none⟩::os) ρ L:=
 du (v:= .string (sB (s++t))) (hx ▸ jx.out) (hy ▸ jy.out) (fun w=>by unfold eqGuard;rfl) (fun w=>by
  rw[binOp_string_add,Op.stringOp]
  have: ¬(((sB s).size+(sB t).size:Nat):Int) > IntKind.i64.max:=by
   have e:IntKind.i64.max=9223372036854775807:=by decide
   rw[e,Qb,Qb];omega
  simp only[this,if_false,Sem.run_pure]
  congr 3) (fun g=> .str (by rw[AA];exact hl)) k hd
theorem ew (s t:Str):(s==t)=decide (s=t):=by
 by_cases h:s=t<;>simp[h]
theorem x8 {T T':TypeId} [hT:SK P T] {x y:Operand} {s t:Str} {ax ay:PV} (hx:ρ.ev x=ax) [jx:K7 ax s] (hy:ρ.ev y=ay) [jy:K7 ay t] (k:AU P N all K fl.tail os (CU ρ d (.raw (.bool (decide (s=t))))) L) (hd:Nat.blt d N=true:=by rfl):
  AU P N all K fl (⟨some d,.binOp .eql T x y T',ty,pos,af,none⟩::os) ρ L:=
 du (hx ▸ jx.out) (hy ▸ jy.out) (fun w=>by unfold eqGuard;rfl) (fun w=>by rw[binOp_string_eql,Om,Om,Sem.run_pure,ew]) (fun g=> .raw _) k hd
theorem wt {T T':TypeId} [hT:SK P T] {x y:Operand} {s t:Str} {ax ay:PV} (hx:ρ.ev x=ax) [jx:K7 ax s] (hy:ρ.ev y=ay) [jy:K7 ay t] (k:AU P N all K fl.tail os (CU ρ d (.raw (.bool (!decide (s=t))))) L) (hd:Nat.blt d N=true:=by rfl):
  AU P N all K fl (⟨some d,.binOp .neq T x y T',ty,pos,af,none⟩::os) ρ L:=
 du (hx ▸ jx.out) (hy ▸ jy.out) (fun w=>by unfold eqGuard;rfl) (fun w=>by rw[binOp_string_neq,Om,Om,Sem.run_pure,ew]) (fun g=> .raw _) k hd
theorem jj {T:TypeId} [hT:SK P T] {x:Operand} {s:Str} {ax:PV} (hx:ρ.ev x=ax) [jx:K7 ax s] (k:AU P N all K fl.tail os (CU ρ d (.raw (.int .i64 s.length))) L) (hd:Nat.blt d N=true:=by rfl):
  AU P N all K fl (⟨some d,.call { callee:= .builtin .len,args:= #[x],argTypes:= #[T] },ty,pos,af,none⟩::os) ρ L:=
 Bk hd (B9 fun a w g ha hi=>⟨.int .i64 s.length,by
  have h1:=jx.out g _ (hx ▸ ha x (by simp[Op.operands,Call.operands]))
  have he:execOp a.eval ⟨some d,.call { callee:= .builtin .len,args:= #[x],argTypes:= #[T] },ty,pos,af,none⟩=(do pure (.value (←Builtin.len_ #[T] ty (#[x].map a.eval)))):=rfl
  rw[he]
  simp[Builtin.len_,h1,IQ hT.out,goInt],.raw _⟩) k
theorem Yg {T:TypeId} [hT:SK P T] {x y:Operand} {s:Str} {ax:PV} {kk:IntKind} {n:Nat} (hx:ρ.ev x=ax) [jx:K7 ax s] (hy:ρ.ev y= .raw (.int kk (n:Int))) (hn:n < s.length) (k:AU P N all K fl.tail os (CU ρ d (.raw (.int .u8 (s[n].toNat:Int)))) L) (hd:Nat.blt d N=true:=by rfl):
  AU P N all K fl (⟨some d,.index T x y,ty,pos,af,none⟩::os) ρ L:=
 Bk hd (B9 fun a w g ha hi=>⟨_,by
  have h1:=jx.out g _ (hx ▸ ha x (by simp[Op.operands]))
  have h2:=Cc ha (x:=y) (by simp[Op.operands]) hy
  show(do pure (Next.value (←Instr.index T (a.eval x) (a.eval y))):Sem Next).run P w=_
  rw[h1,h2,Sem.run_bind,run_index_string (h:=hT.out),dif_pos ⟨by omega,by rw[Qb];omega⟩]
  rfl,by
  have e:(sB s)[(n:Int).toNat]'(by rw[Qb];omega)=s[n]:=by
   simp only[Dz]
   show(sB s).data[n]'(by simpa [sB]using hn)=_
   simp[sB]
  rw[e];exact .raw _⟩) k
theorem X6 {T:TypeId} [hT:SK P T] {x y z:Operand} {s:Str} {ax:PV} {k₁ k₂:IntKind} {i j:Nat} (hx:ρ.ev x=ax) [jx:K7 ax s] (hy:ρ.ev y= .raw (.int k₁ (i:Int))) (hz:ρ.ev z= .raw (.int k₂ (j:Int))) (hij:i≤j) (hj:j≤s.length) (hS:s.length≤140737488355328)
  (k:AU P N all K fl.tail os (CU ρ d (.str ((s.drop i).take (j - i)))) L) (hd:Nat.blt d N=true:=by rfl):
  AU P N all K fl (⟨some d,.slice T x (some y) (some z) none,ty,pos,af,none⟩::os) ρ L:=
 Bk hd (B9 fun a w g ha hi=>⟨_,by
  have h1:=jx.out g _ (hx ▸ ha x (by simp[Op.operands]))
  have h2:=Cc ha (x:=y) (by simp[Op.operands]) hy
  have h3:=Cc ha (x:=z) (by simp[Op.operands]) hz
  show(do pure (Next.value (←Instr.sliceAt T (a.eval x) (some (a.eval y)) (some (a.eval z)) none)):Sem Next).run P w=_
  have hb:(Instr.sliceBounds false (sB s).size (sB s).size (some (a.eval y)) (some (a.eval z)) none).run P w= .ok (i,j,(sB s).size) w:=by
   unfold Instr.sliceBounds
   simp[h2,h3,Instr.sliceBound,asIntOf]
   rw[if_pos (by omega)]
   simp
   omega
  rw[Sem.run_bind]
  simp only[Instr.sliceAt,Sem.run_bind,run_underlying hT.out,Result.andThen_ok,Instr.slice,h1,CX,BQ,if_false,hb,Sem.run_pure]
  rfl,by
  have e:(sB s).extract i j=sB ((s.drop i).take (j - i)):=by
   apply ByteArray.ext
   simp[sB,wV]
  rw[e];exact .str (by simp only[Aa,B4];show _≤140737488355328;omega)⟩) k
theorem dh {T:TypeId} [hT:SK P T] {x y:Operand} {s:Str} {ax:PV} {k₁:IntKind} {i:Nat} (hx:ρ.ev x=ax) [jx:K7 ax s] (hy:ρ.ev y= .raw (.int k₁ (i:Int))) (hi:i≤s.length) (hS:s.length≤140737488355328)
  (k:AU P N all K fl.tail os (CU ρ d (.str (s.drop i))) L) (hd:Nat.blt d N=true:=by rfl):
  AU P N all K fl (⟨some d,.slice T x (some y) none none,ty,pos,af,none⟩::os) ρ L:=
 Bk hd (B9 fun a w g ha hi'=>⟨_,by
  have h1:=jx.out g _ (hx ▸ ha x (by simp[Op.operands]))
  have h2:=Cc ha (x:=y) (by simp[Op.operands]) hy
  show(do pure (Next.value (←Instr.sliceAt T (a.eval x) (some (a.eval y)) none none)):Sem Next).run P w=_
  have hb:(Instr.sliceBounds false (sB s).size (sB s).size (some (a.eval y)) none none).run P w= .ok (i,s.length,(sB s).size) w:=by
   unfold Instr.sliceBounds
   simp[h2,Instr.sliceBound,asIntOf]
   omega
  rw[Sem.run_bind]
  simp only[Instr.sliceAt,Sem.run_bind,run_underlying hT.out,Result.andThen_ok,Instr.slice,h1,CX,BQ,if_false,hb,Sem.run_pure]
  rfl,by
  have e:(sB s).extract i s.length=sB (s.drop i):=by
   apply ByteArray.ext
   simp[sB,wV]
   rw[AF (by simp)]
  rw[e];exact .str (by simp only[B4];show _≤140737488355328;omega)⟩) k
theorem X8 {S T:TypeId} {k' kT:IntKind} [hS:NQ P S k'] [hT:NQ P T kT] {x:Operand} {k₀:IntKind} {n:Int} (hx:ρ.ev x= .raw (.int k₀ n)) (k:AU P N all K fl.tail os (CU ρ d (.raw (.int kT (kT.wrap n)))) L) (hd:Nat.blt d N=true:=by rfl):
  AU P N all K fl (⟨some d,.convert S T x,ty,pos,af,none⟩::os) ρ L:=
 Bk hd (B9 fun a w g ha hi=>⟨_,by
  have h1:=Cc ha (x:=x) (by simp[Op.operands]) hx
  show(do pure (Next.value (←convert S T (a.eval x))):Sem Next).run P w=_
  simp only[convert,Sem.run_bind,run_underlying hS.out,run_underlying hT.out,Result.andThen_ok,h1,Conv.intToInt,Sem.run_pure],.raw _⟩) k
theorem X7 {S T:TypeId} {k' kT:IntKind} [hS:NQ P S k'] [hT:NQ P T kT] {x:Operand} {k₀:IntKind} {n:Int} (hx:ρ.ev x= .raw (.int k₀ n)) (hw:kT.wrap n=n) (k:AU P N all K fl.tail os (CU ρ d (.raw (.int kT n))) L) (hd:Nat.blt d N=true:=by rfl):
  AU P N all K fl (⟨some d,.convert S T x,ty,pos,af,none⟩::os) ρ L:=X8 hx (by rw[hw];exact k) hd
theorem rM {T T':TypeId} {x y:Operand} {m n:Int} (hx:ρ.ev x= .raw (.int .i64 m)) (hy:ρ.ev y= .raw (.int .i64 n)) (hb: -9223372036854775808≤m*n∧m*n≤9223372036854775807) (k:AU P N all K fl.tail os (CU ρ d (.raw (.int .i64 (m*n)))) L) (hd:Nat.blt d N=true:=by rfl):
  AU P N all K fl (⟨some d,.binOp .mul T x y T',ty,pos,af,none⟩::os) ρ L:=Gu hx hy (fun w=>by simp[binOp,Op.intArith,IntWalk.i64_in _ hb]) k hd
theorem YY {T T':TypeId} {x y:Operand} {m n:Nat} (hx:ρ.ev x= .raw (.int .i64 (m:Int))) (hy:ρ.ev y= .raw (.int .i64 (n:Int))) (hn:n≠0) (hm:m≤9223372036854775807) (k:AU P N all K fl.tail os (CU ρ d (.raw (.int .i64 ((m / n:Nat):Int)))) L) (hd:Nat.blt d N=true:=by rfl):
  AU P N all K fl (⟨some d,.binOp .quo T x y T',ty,pos,af,none⟩::os) ρ L:=Gu hx hy (fun w=>by
   have h1:m / n≤m:=Nat.div_le_self m n
   have h2:((m:Int).tdiv n)=((m / n:Nat):Int):=(Int.ofNat_tdiv m n).symm
   have h3:(n:Int)≠0:=by omega
   simp only[binOp,ne_eq,not_true_eq_false,if_false,Op.intDiv,h3,h2]
   clear h2
   generalize m / n=q at*
   rw[IntWalk.i64_in _ (by constructor<;>omega)];rfl) k hd
theorem YX {T T':TypeId} {x y:Operand} {m n:Nat} (hx:ρ.ev x= .raw (.int .i64 (m:Int))) (hy:ρ.ev y= .raw (.int .i64 (n:Int))) (hn:n≠0) (k:AU P N all K fl.tail os (CU ρ d (.raw (.int .i64 ((m % n:Nat):Int)))) L) (hd:Nat.blt d N=true:=by rfl):
  AU P N all K fl (⟨some d,.binOp .rem T x y T',ty,pos,af,none⟩::os) ρ L:=Gu hx hy (fun w=>by
   have h2:((m:Int).tmod n)=((m % n:Nat):Int):=(Int.ofNat_tmod m n).symm
   have h3:(n:Int)≠0:=by omega
   simp only[binOp,ne_eq,not_true_eq_false,if_false,Op.intDiv,h3,h2];rfl) k hd
class sX (P:Program) (T:Nat):Prop where
 out:P.underlying T=some .bool
theorem x9 {T T':TypeId} [hT:sX P T] {x y:Operand} {a b:Bool} (hx:ρ.ev x= .raw (.bool a)) (hy:ρ.ev y= .raw (.bool b)) (k:AU P N all K fl.tail os (CU ρ d (.raw (.bool (decide (a=b))))) L) (hd:Nat.blt d N=true:=by rfl):
  AU P N all K fl (⟨some d,.binOp .eql T x y T',ty,pos,af,none⟩::os) ρ L:=
 kA hx hy (fun w=>by unfold eqGuard;simp[run_underlying hT.out]) (fun w=>by
  simp[binOp,Op.equal,Op.maxDepth,run_equalIn_bool w 9999 T a b hT.out];cases a<;>cases b<;>rfl) k hd
theorem Yb {x:Operand} {ad:Addr} (hx:ρ.ev x= .raw (.pointer (some ad))) (k:AU P N all K fl.tail os (CU ρ d (.raw (.pointer (some ad)))) L) (hd:Nat.blt d N=true:=by rfl):AU P N all K fl (⟨some d,.nilCheck x,ty,pos,af,none⟩::os) ρ L:=
 Bk hd (B9 fun a w g ha hi=>⟨.pointer (some ad),by
  have h1:=Cc ha (x:=x) (by simp[Op.operands]) hx
  simp[execOp,h1],.raw _⟩) k
class Sj (b:Nat) (L:List Res) (cs:outParam (List PV)):Prop where
 out: ∃ T,Res.box b T cs∈L
instance {b T:Nat} {cs:List PV} {L:List Res}:Sj b (.box b T cs::L) cs:=⟨T,by simp⟩
instance (priority:=low) {b:Nat} {cs:List PV} {r:Res} {L:List Res} [h:Sj b L cs]:Sj b (r::L) cs:=⟨by obtain⟨T,h⟩:=h.out;exact⟨T,AJ _ h⟩⟩
class VK (b:Nat) (cs cs':List PV) (L:List Res) (L':outParam (List Res)):Prop where
 out:qe b cs cs' L L'
instance {b T:Nat} {cs cs':List PV} {L:List Res}:VK b cs cs' (.box b T cs::L) (.box b T cs'::L):=⟨.here⟩
instance (priority:=low) {b:Nat} {cs cs':List PV} {r:Res} {L L':List Res} [h:VK b cs cs' L L']:VK b cs cs' (r::L) (r::L'):=⟨.there h.out⟩
theorem jZ {T:TypeId} {x y:Operand} {b off sz by_:Nat} {a:PV} {cs cs' new:List PV} {L':List Res} [hT:Ea P T sz by_]
  (hx:ρ.ev x= .raw (.pointer (some ⟨b,off,none⟩))) (hy:ρ.ev y=a) [hC:E0 a new] [hB:Sj b L cs] [hp:FO cs off new cs'] [hu:VK b cs cs' L L'] [hf:Dx new] [hlen:Cy new sz]
  (k:AU P N all K fl.tail os ρ L') (hfl:fl.headD true=true:=by rfl):AU P N all K fl (⟨none,.store T x y,ty,pos,af,none⟩::os) ρ L:=
 Dd rfl (fun _ e=>by cases e) hfl (JR hx (hy ▸ hC.out) hlen.out hf.out hp.out.1 hp.out.2 hu.out k)
theorem YT {T:TypeId} {x y:Operand} {b sz by_:Nat} {cs new:List PV} {L':List Res} [hT:Ea P T sz by_]
  (hx:ρ.ev x= .raw (.pointer (some ⟨b,0,none⟩))) (hy:ρ.ev y= .agg new) [hB:Sj b L cs] [hu:VK b cs new L L'] [hf:Dx new] [hlen:Cy new sz] [hcs:Cy cs sz]
  (k:AU P N all K fl.tail os ρ L') (hfl:fl.headD true=true:=by rfl):AU P N all K fl (⟨none,.store T x y,ty,pos,af,none⟩::os) ρ L:=QX hx hy hu.out hlen.out hcs.out k hfl
theorem Yf {T n:Nat} [hT:FA P T n] {x:Operand} {cs:List PV} (hx:ρ.ev x= .pt cs 0) [hl:Cy cs n] (k:AU P N all K fl.tail os (CU ρ d (.agg cs)) L) (hd:Nat.blt d N=true:=by rfl):
  AU P N all K fl (⟨some d,.load T x,ty,pos,af,none⟩::os) ρ L:=ji hx hl.out k hd
theorem Yc {T n:Nat} [hT:FA P T n] {x:Operand} {b T':Nat} {cs:List PV} (hx:ρ.ev x= .raw (.pointer (some ⟨b,0,none⟩))) (hm:Res.box b T' cs∈L) [hl:Cy cs n] (k:AU P N all K fl.tail os (CU ρ d (.agg cs)) L) (hd:Nat.blt d N=true:=by rfl):
  AU P N all K fl (⟨some d,.load T x,ty,pos,af,none⟩::os) ρ L:=Vf hx hm hl.out k hd
theorem de {S f off' q:Nat} [hF:CP P S f off'] {x:Operand} {b off:Nat} (hx:ρ.ev x= .raw (.pointer (some ⟨b,off,none⟩))) (hq:off+off'=q) (k:AU P N all K fl.tail os (CU ρ d (.raw (.pointer (some ⟨b,q,none⟩)))) L) (hd:Nat.blt d N=true:=by rfl):
  AU P N all K fl (⟨some d,.fieldAddr S x f,ty,pos,af,none⟩::os) ρ L:=tJ hx (by rw[hq];exact k) hd
theorem rY {T sz by_:Nat} [hE:Gf P T sz by_] (k:AU P N all K fl.tail os (CU ρ d (.slice [] .nil)) L) (hd:Nat.blt d N=true:=by rfl):AU P N all K fl (⟨some d,.buildSlice T 0 #[],ty,pos,af,none⟩::os) ρ L:=
 Bk hd (by
  intro a w g ha hi
  obtain⟨E,i,z,t1,t2,t3,t4,t5,t6,t7,t8⟩:=hE.out
  obtain⟨j1,j2,j3⟩:=hi.lay [] E
  have hr:(execOp a.eval ⟨some d,.buildSlice T 0 #[],ty,pos,af,none⟩).run P w= .ok (.value (.slice (some ⟨w.heap.size,0,none⟩) 0 0)) { w with heap:=w.heap.push (.cells [].toArray E (0,0)) }:=by
   show(do pure (Next.value (←Instr.buildSlice T 0 ((#[]:Array (Nat × Operand)).map fun(p:Nat × Operand)=>(p.1,a.eval p.2)))):Sem Next).run P w=_
   have hzv:(zeroValue E).run P w= .ok z w:=by simp[zeroValue,typeInfo,t2,t5]
   simp only[Instr.buildSlice,Sem.run_bind,run_underlying t1,Result.andThen_ok,sizeOf,typeInfo,run_program,t2,Sem.run_pure,t3]
   rw[if_neg (by simp)]
   split
   ·simp[Instr.fill,newRow];congr 2;apply Hy;simp
   ·simp[hzv,Instr.fill,newRow];congr 2;apply Hy;simp
  refine Oper.wq_of_run hr ?_
  exact⟨_,.slice [] .nil,_,L,rfl,.nilN _ (by simp),j1,j2,.refl _ _,rfl,rfl⟩) k
theorem Yj {T:Nat} {z:List PV} [hS:Cn P T] [hZ:Ck P T z] (k:AU P N all K fl.tail os (CU ρ d (.agg z)) L) (hd:Nat.blt d N=true:=by rfl):AU P N all K fl (⟨some d,.build T #[],ty,pos,af,none⟩::os) ρ L:=
 Bk hd (JQ (ps:= []) rfl (by simp) .nil) k
theorem wv {op:Op} {x y:PV} (hl:Le x y) (hq:ie P ⟨some d,op,ty,pos,af,none⟩ ρ L x) (k:AU P N all K fl.tail os (CU ρ d y) L) (hd:Nat.blt d N=true:=by rfl):AU P N all K fl (⟨some d,op,ty,pos,af,none⟩::os) ρ L:=
 Bk hd (fun a w g ha hi=>(hq a w g ha hi).mono fun _ _ ⟨v,x',g',L',h1,h2,h3,h4,h5,h6,h7⟩=>⟨v,y,g',L',h1,hl _ _ (h6 ▸ h2),h3,h4,h5,rfl,h7⟩) k
theorem KD {x:Operand} {a b:PV} (ha:ρ.ev x=a) [hn:Js a b] (k:AU P N all K fl.tail os (CU ρ d b) L) (hd:Nat.blt d N=true:=by rfl):AU P N all K fl (⟨some d,.move x,ty,pos,af,none⟩::os) ρ L:=
 wv hn.out (B9 fun a' w g ha' hi=>⟨a'.eval x,rfl,ha ▸ ha' x (by simp[Op.operands])⟩) k hd
theorem Vi {x:Operand} {a b:PV} (ha:ρ.ev x=a) [hn:Js a b] (k:AU P N all K fl.tail os (CU ρ d b) L) (hd:Nat.blt d N=true:=by rfl):AU P N all K fl (⟨some d,.assign x,ty,pos,af,none⟩::os) ρ L:=
 wv hn.out (B9 fun a' w g ha' hi=>⟨a'.eval x,rfl,ha ▸ ha' x (by simp[Op.operands])⟩) k hd
theorem TI {f:FuncId} {as bs:List PV} {X:PV} (hl:as.length=bs.length) (h: ∀ i (h1:i < as.length) (h2:i < bs.length),Le as[i] bs[i]) (hc:Fn P f bs X):Fn P f as X:=fun vs w g LF hv hi=>
 hc vs w g LF ⟨hv.len.trans hl,fun i h1 h2=>h i (by omega) h2 g _ (hv.at_ i h1 (by omega))⟩ hi
theorem mM {T f0 o0 s0:Nat} {x0:Operand} {a0:PV} {z c0 r0:List PV} [hS:Cn P T] [hZ:Ck P T z] [hF0:BU P T f0 o0 s0] (h0:ρ.ev x0=a0) [hC0:E0 a0 c0] [hP0:FO z o0 c0 r0] [hl0:Cy c0 s0]
  (k:AU P N all K fl.tail os (CU ρ d (.agg r0)) L) (hd:Nat.blt d N=true:=by rfl):AU P N all K fl (⟨some d,.build T #[(f0,x0)],ty,pos,af,none⟩::os) ρ L:=
 jz (h0 ▸ hC0.out) hl0.out k hd
theorem mL {T f0 f1 o0 o1 s0 s1:Nat} {x0 x1:Operand} {a0 a1:PV} {z c0 c1 r0 r1:List PV} [hS:Cn P T] [hZ:Ck P T z] [hF0:BU P T f0 o0 s0] [hF1:BU P T f1 o1 s1] (h0:ρ.ev x0=a0) (h1:ρ.ev x1=a1) [hC0:E0 a0 c0] [hC1:E0 a1 c1] [hP0:FO z o0 c0 r0] [hP1:FO r0 o1 c1 r1] [hl0:Cy c0 s0] [hl1:Cy c1 s1]
  (k:AU P N all K fl.tail os (CU ρ d (.agg r1)) L) (hd:Nat.blt d N=true:=by rfl):AU P N all K fl (⟨some d,.build T #[(f0,x0),(f1,x1)],ty,pos,af,none⟩::os) ρ L:=
 Yi (h0 ▸ hC0.out) (h1 ▸ hC1.out) hl0.out hl1.out k hd
theorem mJ {T f0 f1 f2 o0 o1 o2 s0 s1 s2:Nat} {x0 x1 x2:Operand} {a0 a1 a2:PV} {z c0 c1 c2 r0 r1 r2:List PV} [hS:Cn P T] [hZ:Ck P T z] [hF0:BU P T f0 o0 s0] [hF1:BU P T f1 o1 s1] [hF2:BU P T f2 o2 s2] (h0:ρ.ev x0=a0) (h1:ρ.ev x1=a1) (h2:ρ.ev x2=a2) [hC0:E0 a0 c0] [hC1:E0 a1 c1] [hC2:E0 a2 c2] [hP0:FO z o0 c0 r0] [hP1:FO r0 o1 c1 r1] [hP2:FO r1 o2 c2 r2] [hl0:Cy c0 s0] [hl1:Cy c1 s1] [hl2:Cy c2 s2]
  (k:AU P N all K fl.tail os (CU ρ d (.agg r2)) L) (hd:Nat.blt d N=true:=by rfl):AU P N all K fl (⟨some d,.build T #[(f0,x0),(f1,x1),(f2,x2)],ty,pos,af,none⟩::os) ρ L:=
 TX (h0 ▸ hC0.out) (h1 ▸ hC1.out) (h2 ▸ hC2.out) hl0.out hl1.out hl2.out k hd
theorem mI {T f0 f1 f2 f3 o0 o1 o2 o3 s0 s1 s2 s3:Nat} {x0 x1 x2 x3:Operand} {a0 a1 a2 a3:PV} {z c0 c1 c2 c3 r0 r1 r2 r3:List PV} [hS:Cn P T] [hZ:Ck P T z] [hF0:BU P T f0 o0 s0] [hF1:BU P T f1 o1 s1] [hF2:BU P T f2 o2 s2] [hF3:BU P T f3 o3 s3] (h0:ρ.ev x0=a0) (h1:ρ.ev x1=a1) (h2:ρ.ev x2=a2) (h3:ρ.ev x3=a3) [hC0:E0 a0 c0] [hC1:E0 a1 c1] [hC2:E0 a2 c2] [hC3:E0 a3 c3] [hP0:FO z o0 c0 r0] [hP1:FO r0 o1 c1 r1] [hP2:FO r1 o2 c2 r2] [hP3:FO r2 o3 c3 r3] [hl0:Cy c0 s0] [hl1:Cy c1 s1] [hl2:Cy c2 s2] [hl3:Cy c3 s3]
  (k:AU P N all K fl.tail os (CU ρ d (.agg r3)) L) (hd:Nat.blt d N=true:=by rfl):AU P N all K fl (⟨some d,.build T #[(f0,x0),(f1,x1),(f2,x2),(f3,x3)],ty,pos,af,none⟩::os) ρ L:=
 jw (h0 ▸ hC0.out) (h1 ▸ hC1.out) (h2 ▸ hC2.out) (h3 ▸ hC3.out) hl0.out hl1.out hl2.out hl3.out k hd
theorem mH {T f0 f1 f2 f3 f4 o0 o1 o2 o3 o4 s0 s1 s2 s3 s4:Nat} {x0 x1 x2 x3 x4:Operand} {a0 a1 a2 a3 a4:PV} {z c0 c1 c2 c3 c4 r0 r1 r2 r3 r4:List PV} [hS:Cn P T] [hZ:Ck P T z] [hF0:BU P T f0 o0 s0] [hF1:BU P T f1 o1 s1] [hF2:BU P T f2 o2 s2] [hF3:BU P T f3 o3 s3] [hF4:BU P T f4 o4 s4] (h0:ρ.ev x0=a0) (h1:ρ.ev x1=a1) (h2:ρ.ev x2=a2) (h3:ρ.ev x3=a3) (h4:ρ.ev x4=a4) [hC0:E0 a0 c0] [hC1:E0 a1 c1] [hC2:E0 a2 c2] [hC3:E0 a3 c3] [hC4:E0 a4 c4] [hP0:FO z o0 c0 r0] [hP1:FO r0 o1 c1 r1] [hP2:FO r1 o2 c2 r2] [hP3:FO r2 o3 c3 r3] [hP4:FO r3 o4 c4 r4] [hl0:Cy c0 s0] [hl1:Cy c1 s1] [hl2:Cy c2 s2] [hl3:Cy c3 s3] [hl4:Cy c4 s4]
  (k:AU P N all K fl.tail os (CU ρ d (.agg r4)) L) (hd:Nat.blt d N=true:=by rfl):AU P N all K fl (⟨some d,.build T #[(f0,x0),(f1,x1),(f2,x2),(f3,x3),(f4,x4)],ty,pos,af,none⟩::os) ρ L:=
 jv (h0 ▸ hC0.out) (h1 ▸ hC1.out) (h2 ▸ hC2.out) (h3 ▸ hC3.out) (h4 ▸ hC4.out) hl0.out hl1.out hl2.out hl3.out hl4.out k hd
theorem mG {T f0 f1 f2 f3 f4 f5 o0 o1 o2 o3 o4 o5 s0 s1 s2 s3 s4 s5:Nat} {x0 x1 x2 x3 x4 x5:Operand} {a0 a1 a2 a3 a4 a5:PV} {z c0 c1 c2 c3 c4 c5 r0 r1 r2 r3 r4 r5:List PV} [hS:Cn P T] [hZ:Ck P T z] [hF0:BU P T f0 o0 s0] [hF1:BU P T f1 o1 s1] [hF2:BU P T f2 o2 s2] [hF3:BU P T f3 o3 s3] [hF4:BU P T f4 o4 s4] [hF5:BU P T f5 o5 s5] (h0:ρ.ev x0=a0) (h1:ρ.ev x1=a1) (h2:ρ.ev x2=a2) (h3:ρ.ev x3=a3) (h4:ρ.ev x4=a4) (h5:ρ.ev x5=a5) [hC0:E0 a0 c0] [hC1:E0 a1 c1] [hC2:E0 a2 c2] [hC3:E0 a3 c3] [hC4:E0 a4 c4] [hC5:E0 a5 c5] [hP0:FO z o0 c0 r0] [hP1:FO r0 o1 c1 r1] [hP2:FO r1 o2 c2 r2] [hP3:FO r2 o3 c3 r3] [hP4:FO r3 o4 c4 r4] [hP5:FO r4 o5 c5 r5] [hl0:Cy c0 s0] [hl1:Cy c1 s1] [hl2:Cy c2 s2] [hl3:Cy c3 s3] [hl4:Cy c4 s4] [hl5:Cy c5 s5]
  (k:AU P N all K fl.tail os (CU ρ d (.agg r5)) L) (hd:Nat.blt d N=true:=by rfl):AU P N all K fl (⟨some d,.build T #[(f0,x0),(f1,x1),(f2,x2),(f3,x3),(f4,x4),(f5,x5)],ty,pos,af,none⟩::os) ρ L:=
 ju (h0 ▸ hC0.out) (h1 ▸ hC1.out) (h2 ▸ hC2.out) (h3 ▸ hC3.out) (h4 ▸ hC4.out) (h5 ▸ hC5.out) hl0.out hl1.out hl2.out hl3.out hl4.out hl5.out k hd
theorem rV {T sz by_:Nat} [hE:Gf P T sz by_] {x0:Operand} {a0:PV} {α:Type} {f:α→List PV} {e0:α} (q0:ρ.ev x0=a0) [hC0:GP a0 f e0] [hf:NS f sz] (h24:1*sz≤16777216)
  (k:AU P N all K fl.tail os (CU ρ d (.slice ([e0].map f) .ro)) L) (hd:Nat.blt d N=true:=by rfl):AU P N all K fl (⟨some d,.buildSlice T 1 #[(0,x0)],ty,pos,af,none⟩::os) ρ L:=
 Bk hd (Rm (xs:= [x0]) (cs:= [e0].map f) rfl rfl h24 (by decide) (fun i h1 h2=>by
  match i,h1,h2 with
  |0,_,_=>exact⟨q0 ▸ hC0.out,hf.out e0⟩
  |m+1,h1,_=>exact absurd h1 (by simp only[AL,Af];omega))) k
theorem xE {T sz by_:Nat} [hE:Gf P T sz by_] {x0 x1:Operand} {a0 a1:PV} {α:Type} {f:α→List PV} {e0 e1:α} (q0:ρ.ev x0=a0) (q1:ρ.ev x1=a1) [hC0:GP a0 f e0] [hC1:GP a1 f e1] [hf:NS f sz] (h24:2*sz≤16777216)
  (k:AU P N all K fl.tail os (CU ρ d (.slice ([e0,e1].map f) .ro)) L) (hd:Nat.blt d N=true:=by rfl):AU P N all K fl (⟨some d,.buildSlice T 2 #[(0,x0),(1,x1)],ty,pos,af,none⟩::os) ρ L:=
 Bk hd (Rm (xs:= [x0,x1]) (cs:= [e0,e1].map f) rfl rfl h24 (by decide) (fun i h1 h2=>by
  match i,h1,h2 with
  |0,_,_=>exact⟨q0 ▸ hC0.out,hf.out e0⟩
  |1,_,_=>exact⟨q1 ▸ hC1.out,hf.out e1⟩
  |m+2,h1,_=>exact absurd h1 (by simp only[AL,Af];omega))) k
theorem xD {T sz by_:Nat} [hE:Gf P T sz by_] {x0 x1 x2:Operand} {a0 a1 a2:PV} {α:Type} {f:α→List PV} {e0 e1 e2:α} (q0:ρ.ev x0=a0) (q1:ρ.ev x1=a1) (q2:ρ.ev x2=a2) [hC0:GP a0 f e0] [hC1:GP a1 f e1] [hC2:GP a2 f e2] [hf:NS f sz] (h24:3*sz≤16777216)
  (k:AU P N all K fl.tail os (CU ρ d (.slice ([e0,e1,e2].map f) .ro)) L) (hd:Nat.blt d N=true:=by rfl):AU P N all K fl (⟨some d,.buildSlice T 3 #[(0,x0),(1,x1),(2,x2)],ty,pos,af,none⟩::os) ρ L:=
 Bk hd (Rm (xs:= [x0,x1,x2]) (cs:= [e0,e1,e2].map f) rfl rfl h24 (by decide) (fun i h1 h2=>by
  match i,h1,h2 with
  |0,_,_=>exact⟨q0 ▸ hC0.out,hf.out e0⟩
  |1,_,_=>exact⟨q1 ▸ hC1.out,hf.out e1⟩
  |2,_,_=>exact⟨q2 ▸ hC2.out,hf.out e2⟩
  |m+3,h1,_=>exact absurd h1 (by simp only[AL,Af];omega))) k
theorem xC {T sz by_:Nat} [hE:Gf P T sz by_] {x0 x1 x2 x3:Operand} {a0 a1 a2 a3:PV} {α:Type} {f:α→List PV} {e0 e1 e2 e3:α} (q0:ρ.ev x0=a0) (q1:ρ.ev x1=a1) (q2:ρ.ev x2=a2) (q3:ρ.ev x3=a3) [hC0:GP a0 f e0] [hC1:GP a1 f e1] [hC2:GP a2 f e2] [hC3:GP a3 f e3] [hf:NS f sz] (h24:4*sz≤16777216)
  (k:AU P N all K fl.tail os (CU ρ d (.slice ([e0,e1,e2,e3].map f) .ro)) L) (hd:Nat.blt d N=true:=by rfl):AU P N all K fl (⟨some d,.buildSlice T 4 #[(0,x0),(1,x1),(2,x2),(3,x3)],ty,pos,af,none⟩::os) ρ L:=
 Bk hd (Rm (xs:= [x0,x1,x2,x3]) (cs:= [e0,e1,e2,e3].map f) rfl rfl h24 (by decide) (fun i h1 h2=>by
  match i,h1,h2 with
  |0,_,_=>exact⟨q0 ▸ hC0.out,hf.out e0⟩
  |1,_,_=>exact⟨q1 ▸ hC1.out,hf.out e1⟩
  |2,_,_=>exact⟨q2 ▸ hC2.out,hf.out e2⟩
  |3,_,_=>exact⟨q3 ▸ hC3.out,hf.out e3⟩
  |m+4,h1,_=>exact absurd h1 (by simp only[AL,Af];omega))) k
theorem xB {T sz by_:Nat} [hE:Gf P T sz by_] {x0 x1 x2 x3 x4:Operand} {a0 a1 a2 a3 a4:PV} {α:Type} {f:α→List PV} {e0 e1 e2 e3 e4:α} (q0:ρ.ev x0=a0) (q1:ρ.ev x1=a1) (q2:ρ.ev x2=a2) (q3:ρ.ev x3=a3) (q4:ρ.ev x4=a4) [hC0:GP a0 f e0] [hC1:GP a1 f e1] [hC2:GP a2 f e2] [hC3:GP a3 f e3] [hC4:GP a4 f e4] [hf:NS f sz] (h24:5*sz≤16777216)
  (k:AU P N all K fl.tail os (CU ρ d (.slice ([e0,e1,e2,e3,e4].map f) .ro)) L) (hd:Nat.blt d N=true:=by rfl):AU P N all K fl (⟨some d,.buildSlice T 5 #[(0,x0),(1,x1),(2,x2),(3,x3),(4,x4)],ty,pos,af,none⟩::os) ρ L:=
 Bk hd (Rm (xs:= [x0,x1,x2,x3,x4]) (cs:= [e0,e1,e2,e3,e4].map f) rfl rfl h24 (by decide) (fun i h1 h2=>by
  match i,h1,h2 with
  |0,_,_=>exact⟨q0 ▸ hC0.out,hf.out e0⟩
  |1,_,_=>exact⟨q1 ▸ hC1.out,hf.out e1⟩
  |2,_,_=>exact⟨q2 ▸ hC2.out,hf.out e2⟩
  |3,_,_=>exact⟨q3 ▸ hC3.out,hf.out e3⟩
  |4,_,_=>exact⟨q4 ▸ hC4.out,hf.out e4⟩
  |m+5,h1,_=>exact absurd h1 (by simp only[AL,Af];omega))) k
theorem xA {T sz by_:Nat} [hE:Gf P T sz by_] {x0 x1 x2 x3 x4 x5:Operand} {a0 a1 a2 a3 a4 a5:PV} {α:Type} {f:α→List PV} {e0 e1 e2 e3 e4 e5:α} (q0:ρ.ev x0=a0) (q1:ρ.ev x1=a1) (q2:ρ.ev x2=a2) (q3:ρ.ev x3=a3) (q4:ρ.ev x4=a4) (q5:ρ.ev x5=a5) [hC0:GP a0 f e0] [hC1:GP a1 f e1] [hC2:GP a2 f e2] [hC3:GP a3 f e3] [hC4:GP a4 f e4] [hC5:GP a5 f e5] [hf:NS f sz] (h24:6*sz≤16777216)
  (k:AU P N all K fl.tail os (CU ρ d (.slice ([e0,e1,e2,e3,e4,e5].map f) .ro)) L) (hd:Nat.blt d N=true:=by rfl):AU P N all K fl (⟨some d,.buildSlice T 6 #[(0,x0),(1,x1),(2,x2),(3,x3),(4,x4),(5,x5)],ty,pos,af,none⟩::os) ρ L:=
 Bk hd (Rm (xs:= [x0,x1,x2,x3,x4,x5]) (cs:= [e0,e1,e2,e3,e4,e5].map f) rfl rfl h24 (by decide) (fun i h1 h2=>by
  match i,h1,h2 with
  |0,_,_=>exact⟨q0 ▸ hC0.out,hf.out e0⟩
  |1,_,_=>exact⟨q1 ▸ hC1.out,hf.out e1⟩
  |2,_,_=>exact⟨q2 ▸ hC2.out,hf.out e2⟩
  |3,_,_=>exact⟨q3 ▸ hC3.out,hf.out e3⟩
  |4,_,_=>exact⟨q4 ▸ hC4.out,hf.out e4⟩
  |5,_,_=>exact⟨q5 ▸ hC5.out,hf.out e5⟩
  |m+6,h1,_=>exact absurd h1 (by simp only[AL,Af];omega))) k
theorem eN {f:Nat} {X:PV} {ats:Array TypeId} [hf:B2 P f] [hc:C8 P f [] X] (k:AU P N all K fl.tail os (CU ρ d X) L) (hd:Nat.blt d N=true:=by rfl):
  AU P N all K fl (⟨some d,.call { callee:= .value (.func f),args:= #[],argTypes:=ats },ty,pos,af,none⟩::os) ρ L:=
 Bk hd (Tr (xs:= []) rfl hc.out) k
theorem XT {f:Nat} {X:PV} {ats:Array TypeId} {x0:Operand} {a0 b0:PV} [hf:B2 P f] (q0:ρ.ev x0=a0) [hN0:Js a0 b0] [hc:C8 P f [b0] X] (k:AU P N all K fl.tail os (CU ρ d X) L) (hd:Nat.blt d N=true:=by rfl):
  AU P N all K fl (⟨some d,.call { callee:= .value (.func f),args:= #[x0],argTypes:=ats },ty,pos,af,none⟩::os) ρ L:=
 Bk hd (Tr (xs:= [x0]) (by simp only[Ar,CY,q0]) (TI (as:= [a0]) (bs:= [b0]) rfl (fun i h1 h2=>by
  match i,h1,h2 with
  |0,_,_=>exact hN0.out
  |m+1,h1,_=>exact absurd h1 (by simp only[AL,Af];omega)) hc.out)) k
theorem eL {f:Nat} {X:PV} {ats:Array TypeId} {x0 x1:Operand} {a0 a1 b0 b1:PV} [hf:B2 P f] (q0:ρ.ev x0=a0) (q1:ρ.ev x1=a1) [hN0:Js a0 b0] [hN1:Js a1 b1] [hc:C8 P f [b0,b1] X] (k:AU P N all K fl.tail os (CU ρ d X) L) (hd:Nat.blt d N=true:=by rfl):
  AU P N all K fl (⟨some d,.call { callee:= .value (.func f),args:= #[x0,x1],argTypes:=ats },ty,pos,af,none⟩::os) ρ L:=
 Bk hd (Tr (xs:= [x0,x1]) (by simp only[Ar,CY,q0,q1]) (TI (as:= [a0,a1]) (bs:= [b0,b1]) rfl (fun i h1 h2=>by
  match i,h1,h2 with
  |0,_,_=>exact hN0.out
  |1,_,_=>exact hN1.out
  |m+2,h1,_=>exact absurd h1 (by simp only[AL,Af];omega)) hc.out)) k
theorem eK {f:Nat} {X:PV} {ats:Array TypeId} {x0 x1 x2:Operand} {a0 a1 a2 b0 b1 b2:PV} [hf:B2 P f] (q0:ρ.ev x0=a0) (q1:ρ.ev x1=a1) (q2:ρ.ev x2=a2) [hN0:Js a0 b0] [hN1:Js a1 b1] [hN2:Js a2 b2] [hc:C8 P f [b0,b1,b2] X] (k:AU P N all K fl.tail os (CU ρ d X) L) (hd:Nat.blt d N=true:=by rfl):
  AU P N all K fl (⟨some d,.call { callee:= .value (.func f),args:= #[x0,x1,x2],argTypes:=ats },ty,pos,af,none⟩::os) ρ L:=
 Bk hd (Tr (xs:= [x0,x1,x2]) (by simp only[Ar,CY,q0,q1,q2]) (TI (as:= [a0,a1,a2]) (bs:= [b0,b1,b2]) rfl (fun i h1 h2=>by
  match i,h1,h2 with
  |0,_,_=>exact hN0.out
  |1,_,_=>exact hN1.out
  |2,_,_=>exact hN2.out
  |m+3,h1,_=>exact absurd h1 (by simp only[AL,Af];omega)) hc.out)) k
theorem eJ {f:Nat} {X:PV} {ats:Array TypeId} {x0 x1 x2 x3:Operand} {a0 a1 a2 a3 b0 b1 b2 b3:PV} [hf:B2 P f] (q0:ρ.ev x0=a0) (q1:ρ.ev x1=a1) (q2:ρ.ev x2=a2) (q3:ρ.ev x3=a3) [hN0:Js a0 b0] [hN1:Js a1 b1] [hN2:Js a2 b2] [hN3:Js a3 b3] [hc:C8 P f [b0,b1,b2,b3] X] (k:AU P N all K fl.tail os (CU ρ d X) L) (hd:Nat.blt d N=true:=by rfl):
  AU P N all K fl (⟨some d,.call { callee:= .value (.func f),args:= #[x0,x1,x2,x3],argTypes:=ats },ty,pos,af,none⟩::os) ρ L:=
 Bk hd (Tr (xs:= [x0,x1,x2,x3]) (by simp only[Ar,CY,q0,q1,q2,q3]) (TI (as:= [a0,a1,a2,a3]) (bs:= [b0,b1,b2,b3]) rfl (fun i h1 h2=>by
  match i,h1,h2 with
  |0,_,_=>exact hN0.out
  |1,_,_=>exact hN1.out
  |2,_,_=>exact hN2.out
  |3,_,_=>exact hN3.out
  |m+4,h1,_=>exact absurd h1 (by simp only[AL,Af];omega)) hc.out)) k
end
def Dig.at (d:Dig) (i:Nat):UInt8:=d.bs.getD i 0
theorem Dig.ext_at {a b:Dig} (h: ∀ i,i < 32→a.at i=b.at i):a=b:=Dig.ext (EC (by rw[a.len,b.len]) fun i h1 h2=>by
 have:=h i (by rw[←a.len];exact h1)
 simpa [Dig.at,h1,h2]using this)
section
variable {P:Program} {N:Nat} {all:Array Oper} {K:Env→List Res→Prop} {fl:List Bool} {os:List Oper} {ρ:Env} {L:List Res}
variable {d:Nat} {ty:TypeId} {pos:String} {af:Array Edge}
theorem QZ {T n E sz by_:Nat} [hT:VM P T n E] [hE:Ea P E sz by_] {x y:Operand} {b off:Nat} {kk:IntKind} {i:Nat} (hx:ρ.ev x= .raw (.pointer (some ⟨b,off,none⟩))) (hy:ρ.ev y= .raw (.int kk (i:Int))) (hi:i < n)
  (k:AU P N all K fl.tail os (CU ρ d (.raw (.pointer (some ⟨b,off+i*sz,none⟩)))) L) (hd:Nat.blt d N=true:=by rfl):AU P N all K fl (⟨some d,.indexAddr T x y,ty,pos,af,none⟩::os) ρ L:=
 Bk hd (B9 fun a w g ha hI=>by
  have h1:=Cc ha (x:=x) (by simp[Op.operands]) hx
  have h2:=Cc ha (x:=y) (by simp[Op.operands]) hy
  refine⟨.pointer (some ⟨b,off+i*sz,none⟩),?_,.raw _⟩
  have h3:(0:Int)≤(i:Int)∧(i:Int) < (n:Int):=by omega
  simp[execOp,Instr.indexAt,h1,h2,asIntOf,IQ hT.out,Instr.sureAddr,h3,Ea.run hE,Dr];intro h4;omega) k
theorem jm {T:TypeId} {E sz by_:Nat} [hT:Ma P T E] [hE:Ea P E sz by_] {x y:Operand} {α:Type} {f:α→List PV} [hf:NS f sz] {l:List α} {t:CC} {kk:IntKind} {n:Int} (hx:ρ.ev x= .slice (l.map f) t) (hy:ρ.ev y= .raw (.int kk n)) (h0:0≤n) (hn:n.toNat < l.length)
  (k:AU P N all K fl.tail os (CU ρ d (.pt (f l[n.toNat]) 0)) L) (hd:Nat.blt d N=true:=by rfl):
  AU P N all K fl (⟨some d,.indexAddr T x y,ty,pos,af,none⟩::os) ρ L:=
 db hx hy h0 (by simpa using hn) (by simp[hf.out]) (by simpa using k) hd
theorem da {T:Nat} [hT:DJ P T] {x:Operand} {b off i T':Nat} {dd:Dig} (hx:ρ.ev x= .raw (.pointer (some ⟨b,0+i*1,none⟩))) (hm:Res.box b T' (eDig dd)∈L) (hi:i < 32) (k:AU P N all K fl.tail os (CU ρ d (.raw (.int .u8 ((dd.at i).toNat:Int)))) L) (hd:Nat.blt d N=true:=by rfl) (_:off=0:=by rfl):
  AU P N all K fl (⟨some d,.load T x,ty,pos,af,none⟩::os) ρ L:=
 TW hx hm (by
  have h:i < dd.bs.length:=by rw[dd.len];exact hi
  simp[eDig,h,eU8,u8,Dig.at]) k hd
theorem Vg {T n E sz by_:Nat} {z:List PV} [hT:VM P T n E] [hE:Ea P E sz by_] [hZ:Ck P T z] (k:AU P N all K fl.tail os (CU ρ d (.agg z)) L) (hd:Nat.blt d N=true:=by rfl):AU P N all K fl (⟨some d,.build T #[],ty,pos,af,none⟩::os) ρ L:=
 Bk hd (B9 fun a w g ha hi=>by
  obtain⟨i,v,us,h1,h2,h3,h4⟩:=hZ.out
  refine⟨.agg us.toArray,?_,(h4 g).agg⟩
  show(do pure (Next.value (←Instr.build T ((#[]:Array (Nat × Operand)).map fun(p:Nat × Operand)=>(p.1,a.eval p.2)))):Sem Next).run P w=_
  simp only[Instr.build,Sem.run_bind,zeroValue,typeInfo,run_program,h1,Sem.run_pure,Result.andThen_ok,h2,run_underlying hT.out,Ea.run hE,h3]
  simp[Instr.fill]) k
theorem Vj {T T₂ E₂ sz bytes:Nat} [hT:Gf P T sz bytes] [hT₂:Ma P T₂ E₂] {x y:Operand} {α:Type} {f:α→List PV} [hf:NS f sz] [hff:K8 f] {m:List α} {u:CC}
  (hx:ρ.ev x= .slice [] .nil) (hy:ρ.ev y= .slice (m.map f) u) (hb:m.length*bytes≤140737488355328) (hm:m.length≤140737488355328)
  (k: ∀ t',AU P N all K fl.tail os (CU ρ d (.slice (m.map f) t')) (.tok t' m.length sz::L)) (hd:Nat.blt d N=true:=by rfl) (hfl:fl.headD true=true:=by rfl):
  AU P N all K fl (⟨some d,.call { callee:= .builtin .append,args:= #[x,y],argTypes:= #[T,T₂] },ty,pos,af,none⟩::os) ρ L:=
 Dd rfl (Ph hd) hfl (fun a w g ha hi=>by
  have h:=U1 (P:=P) (T:=T) (T₂:=T₂) (dst:=some d) (ty:=ty) (pos:=pos) (af:=af) (gd:=none) (ρ:=ρ) (L:= .tok .nil 0 sz::L) (L':=fun t'=> .tok t' ([].length+(m.map f).length) sz::L) (xs:= []) (t:= .nil) hx hy (by simp) (fun e he=>by obtain⟨a,_,rfl⟩:=AQ.1 he;exact hf.out a) (fun e he=>by obtain⟨a,_,rfl⟩:=AQ.1 he;exact hff.out a)
   (by simpa using hb) (by simp;exact hm) (fun t'=> .here) (Ψ:=fun x' L'=>AU P N all K fl.tail os (CU ρ d x') L') (fun t'=>by simpa using k t') a w g ha (hi.tok sz)
  exact h)
theorem fo {dst:Option Nat} {op:Op} {j:Nat} {b p:Bool} {s:Nat} (hs:(all[j]?).bind (·.dst)=some s) (h:ρ s= .raw (.bool p)) (hp:p=b) (k:AU P N all K fl (⟨dst,op,ty,pos,af,none⟩::os) ρ L):
  AU P N all K fl (⟨dst,op,ty,pos,af,some (j,b)⟩::os) ρ L:=ZA hs (hp ▸ h) k
theorem ZB {j:Nat} {op:Op} {p:Bool} {s:Nat} (hs:(all[j]?).bind (·.dst)=some s) (h:ρ s= .raw (.bool p)) (hp:p=false) (k:AU P N all K fl.tail os (CU ρ d (.raw undef)) L) (hd:Nat.blt d N=true:=by rfl):
  AU P N all K fl (⟨some d,op,ty,pos,af,some (j,true)⟩::os) ρ L:=XI hs h (by subst hp;simp) (Ph hd) k
theorem ZC {j:Nat} {op:Op} {p:Bool} {s:Nat} (hs:(all[j]?).bind (·.dst)=some s) (h:ρ s= .raw (.bool p)) (hp:p=true) (k:AU P N all K fl.tail os (CU ρ d (.raw undef)) L) (hd:Nat.blt d N=true:=by rfl):
  AU P N all K fl (⟨some d,op,ty,pos,af,some (j,false)⟩::os) ρ L:=XI hs h (by subst hp;simp) (Ph hd) k
theorem kd {j:Nat} {b:Bool} {op:Op} {s:Nat} (hs:(all[j]?).bind (·.dst)=some s) (h:ρ s= .raw undef) (k:AU P N all K fl.tail os (CU ρ d (.raw undef)) L) (hd:Nat.blt d N=true:=by rfl):
  AU P N all K fl (⟨some d,op,ty,pos,af,some (j,b)⟩::os) ρ L:=XI hs h (by simp[undef]) (Ph hd) k
theorem Ay {dst:Option Nat} {op:Op} {j:Nat} {b p:Bool} {s:Nat} (kT:p=true→AU P N all K fl (⟨dst,op,ty,pos,af,some (j,b)⟩::os) ρ L) (kF:p=false→AU P N all K fl (⟨dst,op,ty,pos,af,some (j,b)⟩::os) ρ L)
  (_:(all[j]?).bind (·.dst)=some s:=by rfl) (_:ρ s= .raw (.bool p):=by conv=>lhs;whnf):AU P N all K fl (⟨dst,op,ty,pos,af,some (j,b)⟩::os) ρ L:=by
 cases p
 ·exact kF rfl
 ·exact kT rfl
theorem YZ {c x y:Operand} {p:Bool} {v:PV} (hc:ρ.ev c= .raw (.bool p)) (hp:p=true) (hv:ρ.ev x=v) (k:AU P N all K fl.tail os (CU ρ d v) L) (hd:Nat.blt d N=true:=by rfl):AU P N all K fl (⟨some d,.pick c x y,ty,pos,af,none⟩::os) ρ L:=oA (hp ▸ hc) (by rw[hv];exact k) hd
theorem Ya {c x y:Operand} {p:Bool} {v:PV} (hc:ρ.ev c= .raw (.bool p)) (hp:p=false) (hv:ρ.ev y=v) (k:AU P N all K fl.tail os (CU ρ d v) L) (hd:Nat.blt d N=true:=by rfl):AU P N all K fl (⟨some d,.pick c x y,ty,pos,af,none⟩::os) ρ L:=oB (hp ▸ hc) (by rw[hv];exact k) hd
theorem Ij {s:Nat} {x y:Code} {Q:PPost} (hc:ρ s= .raw (.bool true)) (h:ER P N x Q ρ L):ER P N (.cond (.tmp s) x y) Q ρ L:=Ke hc (fun _=>h) (by simp)
theorem Ik {s:Nat} {x y:Code} {Q:PPost} (hc:ρ s= .raw (.bool false)) (h:ER P N y Q ρ L):ER P N (.cond (.tmp s) x y) Q ρ L:=Ke hc (by simp) (fun _=>h)
end
def Nn (a b:Nat):Nat:=(a+b) % 4294967296
def Xz (a b:Nat):Nat:=(a % 4294967296)&&& (b % 4294967296)
def fy (a b:Nat):Nat:=(a % 4294967296)|||(b % 4294967296)
def Lj (a b:Nat):Nat:=(a % 4294967296) ^^^ (b % 4294967296)
def pJ (a:Nat):Nat:=4294967295 ^^^ (a % 4294967296)
def Wy (a n:Nat):Nat:=a / 2 ^ (min n 32)
def YR (a n:Nat):Nat:=(a*2 ^ (min n 32)) % 4294967296
theorem KU (a:Nat):(BitVec.ofInt 32 (a:Int)).toNat=a % 4294967296:=by
 rw[BitVec.toNat_ofInt];norm_cast
theorem Mm (a:Nat) (h:a < 4294967296):IntKind.u32.wrap (a:Int)=(a:Int):=IntWalk.u32_in _ ⟨by omega,by omega⟩
theorem Mn (a:Nat):IntKind.u32.wrap (a:Int)=((a % 4294967296:Nat):Int):=by rw[IntKind.wrap_u32];omega
theorem Vv (n:Nat):((2:Int) ^ n)=((2 ^ n:Nat):Int):=by norm_cast
theorem R7 (a n:Nat):((a:Int).fdiv (2 ^ n))=((a / 2 ^ n:Nat):Int):=by
 rw[Vv,Int.fdiv_eq_ediv_of_nonneg _ (Int.natCast_nonneg _)];norm_cast
theorem pS (a n:Nat):((a:Int)*(2 ^ n))=((a*2 ^ n:Nat):Int):=by rw[Vv];norm_cast
theorem aV (a b:Nat):Op.intBits .xor .u32 (a:Int) (b:Int)=pure (.int .u32 ((Lj a b:Nat):Int)):=by
 have h:(BitVec.ofInt 32 (a:Int) ^^^ BitVec.ofInt 32 (b:Int)).toNat=Lj a b:=by rw[BitVec.toNat_xor,KU,KU];rfl
 have h2:Lj a b < 4294967296:=by rw[←h];exact BitVec.isLt _
 show pure (Value.int .u32 (IntKind.u32.wrap ((BitVec.ofInt 32 (a:Int) ^^^ BitVec.ofInt 32 (b:Int)).toNat:Int)))=_
 rw[h,Mm _ h2]
theorem mF (a b:Nat):Op.intBits .and .u32 (a:Int) (b:Int)=pure (.int .u32 ((Xz a b:Nat):Int)):=by
 have h:(BitVec.ofInt 32 (a:Int)&&& BitVec.ofInt 32 (b:Int)).toNat=Xz a b:=by rw[BitVec.toNat_and,KU,KU];rfl
 have h2:Xz a b < 4294967296:=by rw[←h];exact BitVec.isLt _
 show pure (Value.int .u32 (IntKind.u32.wrap ((BitVec.ofInt 32 (a:Int)&&& BitVec.ofInt 32 (b:Int)).toNat:Int)))=_
 rw[h,Mm _ h2]
theorem qQ (a b:Nat):Op.intBits .or .u32 (a:Int) (b:Int)=pure (.int .u32 ((fy a b:Nat):Int)):=by
 have h:(BitVec.ofInt 32 (a:Int)|||BitVec.ofInt 32 (b:Int)).toNat=fy a b:=by rw[BitVec.toNat_or,KU,KU];rfl
 have h2:fy a b < 4294967296:=by rw[←h];exact BitVec.isLt _
 show pure (Value.int .u32 (IntKind.u32.wrap ((BitVec.ofInt 32 (a:Int)|||BitVec.ofInt 32 (b:Int)).toNat:Int)))=_
 rw[h,Mm _ h2]
section
variable {P:Program} {N:Nat} {all:Array Oper} {K:Env→List Res→Prop} {fl:List Bool} {os:List Oper} {ρ:Env} {L:List Res}
variable {d:Nat} {ty:TypeId} {pos:String} {af:Array Edge} {T T':TypeId} {x y:Operand} {a b:Nat}
theorem kE (hx:ρ.ev x= .raw (.int .u32 (a:Int))) (hy:ρ.ev y= .raw (.int .u32 (b:Int))) (k:AU P N all K fl.tail os (CU ρ d (.raw (.int .u32 (Nn a b:Nat)))) L) (hd:Nat.blt d N=true:=by rfl):
  AU P N all K fl (⟨some d,.binOp .add T x y T',ty,pos,af,none⟩::os) ρ L:=Gu hx hy (fun w=>by
   have e:((a:Int)+(b:Int))=((a+b:Nat):Int):=by omega
   simp only[binOp,ne_eq,not_true_eq_false,if_false,Op.intArith,e,Mn,Nn];rfl) k hd
theorem jW (hx:ρ.ev x= .raw (.int .u32 (a:Int))) (hy:ρ.ev y= .raw (.int .u32 (b:Int))) (k:AU P N all K fl.tail os (CU ρ d (.raw (.int .u32 (Lj a b:Nat)))) L) (hd:Nat.blt d N=true:=by rfl):
  AU P N all K fl (⟨some d,.binOp .xor T x y T',ty,pos,af,none⟩::os) ρ L:=Gu hx hy (fun w=>by simp only[binOp,ne_eq,not_true_eq_false,if_false,aV];rfl) k hd
theorem kD (hx:ρ.ev x= .raw (.int .u32 (a:Int))) (hy:ρ.ev y= .raw (.int .u32 (b:Int))) (k:AU P N all K fl.tail os (CU ρ d (.raw (.int .u32 (Xz a b:Nat)))) L) (hd:Nat.blt d N=true:=by rfl):
  AU P N all K fl (⟨some d,.binOp .and T x y T',ty,pos,af,none⟩::os) ρ L:=Gu hx hy (fun w=>by simp only[binOp,ne_eq,not_true_eq_false,if_false,mF];rfl) k hd
theorem rI (hx:ρ.ev x= .raw (.int .u32 (a:Int))) (hy:ρ.ev y= .raw (.int .u32 (b:Int))) (k:AU P N all K fl.tail os (CU ρ d (.raw (.int .u32 (fy a b:Nat)))) L) (hd:Nat.blt d N=true:=by rfl):
  AU P N all K fl (⟨some d,.binOp .or T x y T',ty,pos,af,none⟩::os) ρ L:=Gu hx hy (fun w=>by simp only[binOp,ne_eq,not_true_eq_false,if_false,qQ];rfl) k hd
theorem jf (hx:ρ.ev x= .raw (.int .u32 (a:Int))) (k:AU P N all K fl.tail os (CU ρ d (.raw (.int .u32 (pJ a:Nat)))) L) (hd:Nat.blt d N=true:=by rfl):AU P N all K fl (⟨some d,.unOp .xor T x,ty,pos,af,none⟩::os) ρ L:=
 Bk hd (B9 fun a' w g ha hi=>⟨.int .u32 (pJ a:Nat),by
  have h1:=Cc ha (x:=x) (by simp[Op.operands]) hx
  have e:IntKind.u32.max=((4294967295:Nat):Int):=by decide
  have hs:IntKind.u32.signed=false:=rfl
  have e2:Lj 4294967295 a=pJ a:=rfl
  simp only[execOp,h1,Op.unary,hs,BQ,if_false,e,aV,e2];rfl,.raw _⟩) k
theorem jb (hx:ρ.ev x= .raw (.int .u32 (a:Int))) (hy:ρ.ev y= .raw (.int .u64 (b:Int))) (k:AU P N all K fl.tail os (CU ρ d (.raw (.int .u32 (Wy a b:Nat)))) L) (hd:Nat.blt d N=true:=by rfl):
  AU P N all K fl (⟨some d,.binOp .shr T x y T',ty,pos,af,none⟩::os) ρ L:=Gu hx hy (fun w=>by
   have h0: ¬(b:Int) < 0:=by omega
   simp only[binOp,Op.shift,h0,if_false,IntKind.bits,Dz]
   rw[R7];rfl) k hd
theorem jd (hx:ρ.ev x= .raw (.int .u32 (a:Int))) (hy:ρ.ev y= .raw (.int .u64 (b:Int))) (k:AU P N all K fl.tail os (CU ρ d (.raw (.int .u32 (YR a b:Nat)))) L) (hd:Nat.blt d N=true:=by rfl):
  AU P N all K fl (⟨some d,.binOp .shl T x y T',ty,pos,af,none⟩::os) ρ L:=Gu hx hy (fun w=>by
   have h0: ¬(b:Int) < 0:=by omega
   simp only[binOp,Op.shift,h0,if_false,IntKind.bits,Dz]
   rw[pS,Mn];rfl) k hd
theorem X1 (hx:ρ.ev x= .raw (.int .u64 (a:Int))) (hy:ρ.ev y= .raw (.int .u64 (b:Int))) (h1:b≤a) (h2:a≤18446744073709551615) (k:AU P N all K fl.tail os (CU ρ d (.raw (.int .u64 ((a - b:Nat):Int)))) L) (hd:Nat.blt d N=true:=by rfl):
  AU P N all K fl (⟨some d,.binOp .sub T x y T',ty,pos,af,none⟩::os) ρ L:=Gu hx hy (fun w=>by
   have e:((a:Int) - (b:Int))=((a - b:Nat):Int):=by omega
   simp only[binOp,ne_eq,not_true_eq_false,if_false,Op.intArith,e]
   rw[IntWalk.u64_in _ ⟨by omega,by omega⟩];rfl) k hd
theorem X2 (hx:ρ.ev x= .raw (.int .u64 (a:Int))) (hy:ρ.ev y= .raw (.int .u64 (b:Int))) (h2:a*b≤18446744073709551615) (k:AU P N all K fl.tail os (CU ρ d (.raw (.int .u64 ((a*b:Nat):Int)))) L) (hd:Nat.blt d N=true:=by rfl):
  AU P N all K fl (⟨some d,.binOp .mul T x y T',ty,pos,af,none⟩::os) ρ L:=Gu hx hy (fun w=>by
   have e:((a:Int)*(b:Int))=((a*b:Nat):Int):=by norm_cast
   simp only[binOp,ne_eq,not_true_eq_false,if_false,Op.intArith,e]
   rw[IntWalk.u64_in _ ⟨by omega,by omega⟩];rfl) k hd
theorem jc (hx:ρ.ev x= .raw (.int .u64 (a:Int))) (hy:ρ.ev y= .raw (.int .u64 (b:Int))) (k:AU P N all K fl.tail os (CU ρ d (.raw (.int .u64 ((a / 2 ^ (min b 64):Nat):Int)))) L) (hd:Nat.blt d N=true:=by rfl):
  AU P N all K fl (⟨some d,.binOp .shr T x y T',ty,pos,af,none⟩::os) ρ L:=Gu hx hy (fun w=>by
   have h0: ¬(b:Int) < 0:=by omega
   simp only[binOp,Op.shift,h0,if_false,IntKind.bits,Dz]
   rw[R7];rfl) k hd
theorem dj {S:TypeId} {k':IntKind} [hS:NQ P S k'] [hT:NQ P T .u8] {k₀:IntKind} (hx:ρ.ev x= .raw (.int k₀ (a:Int))) (k:AU P N all K fl.tail os (CU ρ d (.raw (.int .u8 ((UInt8.ofNat a).toNat:Int)))) L) (hd:Nat.blt d N=true:=by rfl):
  AU P N all K fl (⟨some d,.convert S T x,ty,pos,af,none⟩::os) ρ L:=s_convI' hx k hd
 where
 s_convI' (hx:ρ.ev x= .raw (.int k₀ (a:Int))) (k:AU P N all K fl.tail os (CU ρ d (.raw (.int .u8 ((UInt8.ofNat a).toNat:Int)))) L) (hd:Nat.blt d N=true):AU P N all K fl (⟨some d,.convert S T x,ty,pos,af,none⟩::os) ρ L:=
  X8 hx (by
   have e:IntKind.u8.wrap (a:Int)=((UInt8.ofNat a).toNat:Int):=by
    rw[IntKind.wrap_u8,UInt8.toNat_ofNat'];omega
   rw[e];exact k) hd
theorem di {S:TypeId} {k':IntKind} [hS:NQ P S k'] [hT:NQ P T .u32] {k₀:IntKind} (hx:ρ.ev x= .raw (.int k₀ (a:Int))) (k:AU P N all K fl.tail os (CU ρ d (.raw (.int .u32 ((a % 4294967296:Nat):Int)))) L) (hd:Nat.blt d N=true:=by rfl):
  AU P N all K fl (⟨some d,.convert S T x,ty,pos,af,none⟩::os) ρ L:=X8 hx (by rw[Mn];exact k) hd
theorem TC {S:TypeId} {k':IntKind} [hS:NQ P S k'] [hT:NQ P T .u64] {k₀:IntKind} (hx:ρ.ev x= .raw (.int k₀ (a:Int))) (ha:a≤18446744073709551615) (k:AU P N all K fl.tail os (CU ρ d (.raw (.int .u64 (a:Int)))) L) (hd:Nat.blt d N=true:=by rfl):
  AU P N all K fl (⟨some d,.convert S T x,ty,pos,af,none⟩::os) ρ L:=X7 hx (IntWalk.u64_in _ ⟨by omega,by omega⟩) k hd
theorem rL {n:Int} (hx:ρ.ev x= .raw (.int .i64 n)) (hb: -9223372036854775807≤n∧n≤9223372036854775807) (k:AU P N all K fl.tail os (CU ρ d (.raw (.int .i64 (-n)))) L) (hd:Nat.blt d N=true:=by rfl):AU P N all K fl (⟨some d,.unOp .neg T x,ty,pos,af,none⟩::os) ρ L:=
 Bk hd (B9 fun a' w g ha hi=>⟨.int .i64 (-n),by
  have h1:=Cc ha (x:=x) (by simp[Op.operands]) hx
  simp only[execOp,h1,Op.unary,Op.intArith,Int.zero_sub]
  rw[IntWalk.i64_in _ ⟨by omega,by omega⟩];rfl,.raw _⟩) k
def eBy (b:UInt8):List PV:= [.raw (.int .u8 (b.toNat:Int))]
end
instance :NS eBy 1:=⟨fun _=>rfl⟩
instance :K8 eBy:=⟨fun _=>FM rfl HS⟩
instance (b:UInt8):GP (.raw (.int .u8 (b.toNat:Int))) eBy b:=⟨.one (K8.out (f:=eBy) b)⟩
instance (d:Dig):YB (eDig d) 0 32 (eDig d):=⟨by rw[Lb,AF (by simp)];simp⟩
class mX (P:Program) (T:Nat):Prop where
 out: ∃ E,P.underlying T=some (.slice E)∧P.underlying E=some (.int .u8)
section
variable {P:Program} {N:Nat} {all:Array Oper} {K:Env→List Res→Prop} {fl:List Bool} {os:List Oper} {ρ:Env} {L:List Res}
variable {d:Nat} {ty:TypeId} {pos:String} {af:Array Edge} {T T':TypeId} {x y:Operand} {a b:Nat}
theorem jX {S:TypeId} [hS:mX P S] [hT:SK P T] {bs:Str} {t:CC} (hx:ρ.ev x= .slice (bs.map eBy) t) (k:AU P N all K fl.tail os (CU ρ d (.str bs)) L) (hd:Nat.blt d N=true:=by rfl):
  AU P N all K fl (⟨some d,.convert S T x,ty,pos,af,none⟩::os) ρ L:=
 Bk hd (B9 fun a' w g ha hi=>by
  obtain⟨E,e1,e2⟩:=hS.out
  have h1:=ha x (by simp[Op.operands])
  rw[hx]at h1
  have hbd:=h1.bd.slice_map
  refine⟨.string ⟨bs.toArray⟩,?_,.str hbd⟩
  show(do pure (Next.value (←convert S T (a'.eval x))):Sem Next).run P w=_
  have key:(convert S T (a'.eval x)).run P w= .ok (.string ⟨bs.toArray⟩) w:=by
   generalize a'.eval x=v at h1
   cases bs with
   |nil=>
    have hn: ∃ o cap,v= .slice o 0 cap:=by
     cases h1 with
     |nilN=>exact⟨_,_,rfl⟩
     |nilR=>exact⟨_,_,rfl⟩
     |slice sz f hl hc hm hs hH hv ht hn=>simp at hl;subst hl;exact⟨_,_,rfl⟩
    obtain⟨o,cap,rfl⟩:=hn
    cases o with
    |none=>rw[run_convert_bytes_string w S T E _ _ _ e1 e2 hT.out];simp[Conv.bytesToString];rfl
    |some ad=>exact run_convert_bytes_back w S T E ad cap [] e1 e2 hT.out (fun j hj=>by simp at hj)
   |cons b0 bs=>
    generalize hl0:b0::bs=l at h1
    generalize hxs:List.map eBy l=xs at h1
    have hne:xs≠ []:=by rw[←hxs,←hl0];simp
    cases h1 with
    |nilN=>exact absurd rfl hne
    |nilR=>exact absurd rfl hne
    |slice sz f hl hc hm hs hH hv ht hn=>
     subst hxs
     rename_i b off len cap
     have hsz:sz=1:=by
      have:=hs (eBy b0) (by rw[←hl0];simp)
      simpa [eBy]using this.symm
     subst hsz
     simp only[AR]at hl
     subst hl
     refine run_convert_bytes_back w S T E _ cap l e1 e2 hT.out (fun j hj=>?_)
     rw[Dr]
     have h2:=hi.sat _ _ _ (hH j 0 hj (by omega))
     have h3:=hv j (by simpa using hj) 0 (by simp[eBy])
     simp only[IV,Dt,BK,eBy,BL]at h2 h3
     rw[h2,h3.raw_inv]
  simp only[Sem.run_bind,key,Result.andThen_ok,Sem.run_pure]) k
theorem YW [hT:VL P T] {bb off:Nat} (hx:ρ.ev x= .raw (.pointer (some ⟨bb,off,none⟩))) (k:AU P N all K fl.tail os (CU ρ d (.raw (.slice (some ⟨bb,off,none⟩) 32 32))) L) (hd:Nat.blt d N=true:=by rfl):
  AU P N all K fl (⟨some d,.slice T x none none none,ty,pos,af,none⟩::os) ρ L:=
 Bk hd (B9 fun a' w g ha hi=>by
  obtain⟨E,i,e1,e2,e3,e4⟩:=hT.arr
  have h1:=Cc ha (x:=x) (by simp[Op.operands]) hx
  refine⟨.slice (some ⟨bb,off,none⟩) 32 32,?_,.raw _⟩
  show(do pure (Next.value (←Instr.sliceAt T (a'.eval x) none none none)):Sem Next).run P w=_
  simp[Instr.sliceAt,IQ e1,h1,Instr.sureAddr,Instr.sliceBounds,sizeOf,typeInfo,e3,e4,Dr]) k
theorem YS {S:TypeId} [hS:mX P S] [hT:SK P T] {bb off T₂:Nat} {cs:List PV} {dg:Dig} (hx:ρ.ev x= .raw (.slice (some ⟨bb,off,none⟩) 32 32)) (hm:Res.box bb T₂ cs∈L) [hs:YB cs off 32 (eDig dg)] (k:AU P N all K fl.tail os (CU ρ d (.str dg.bs)) L) (hd:Nat.blt d N=true:=by rfl):
  AU P N all K fl (⟨some d,.convert S T x,ty,pos,af,none⟩::os) ρ L:=
 Bk hd (B9 fun a' w g ha hi=>by
  obtain⟨E,e1,e2⟩:=hS.out
  have h1:=Cc ha (x:=x) (by simp[Op.operands]) hx
  obtain⟨vs,hb,hv,_,_⟩:=hi.res _ hm
  obtain⟨q1,q2⟩:=hs.out
  refine⟨.string ⟨dg.bs.toArray⟩,?_,.str (by rw[dg.len];decide)⟩
  have key:=run_convert_bytes_back w S T E ⟨bb,off,none⟩ 32 dg.bs e1 e2 hT.out (fun j hj=>by
   rw[Dr]
   have hj':j < 32:=by rw[←dg.len];exact hj
   have hlt:off+j < vs.length:=by rw[hv.len];omega
   rw[HX hb (off+j) hlt]
   have h2:=hv.at_ (off+j) hlt (by omega)
   have h3:cs[off+j]'(by omega)=eU8 dg.bs[j]:=by
    have:=congrArg (fun l=>l[j]?) q1
    simp only[Fh,hj',if_true,Gp,eDig,EY,AO hj]at this
    rw[AO (by omega)]at this
    simpa using this
   rw[h3]at h2
   rw[h2.raw_inv];rfl)
  rw[dg.len]at key
  show(do pure (Next.value (←convert S T (a'.eval x))):Sem Next).run P w=_
  simp only[h1,Sem.run_bind,key,Result.andThen_ok,Sem.run_pure]) k
def eW (l:List Nat):List PV:=l.map fun(a:Nat)=>PV.raw (.int .u32 (a:Int))
@[simp] theorem H9 (l:List Nat):(eW l).length=l.length:=by simp[eW]
theorem qG (l:List Nat):KJ (eW l):=fun x hx=>by
 obtain⟨a,_,rfl⟩:=AQ.1 hx
 exact FM (v:= .int .u32 (a:Int)) rfl HS _ (by simp)
instance (l:List Nat):Dx (eW l):=⟨qG l⟩
theorem dY [hT:DJ P T] {bb i T₂:Nat} {l:List Nat} (hx:ρ.ev x= .raw (.pointer (some ⟨bb,0+i*1,none⟩))) (hm:Res.box bb T₂ (eW l)∈L) (hi:i < l.length) (k:AU P N all K fl.tail os (CU ρ d (.raw (.int .u32 ((l.getD i 0:Nat):Int)))) L) (hd:Nat.blt d N=true:=by rfl):
  AU P N all K fl (⟨some d,.load T x,ty,pos,af,none⟩::os) ρ L:=TW hx hm (by simp[eW,hi,List.getD]) k hd
theorem TV {by_:Nat} {bb i T₂ v:Nat} {l:List Nat} {L':List Res} [hT:Ea P T 1 by_] (hx:ρ.ev x= .raw (.pointer (some ⟨bb,0+i*1,none⟩))) (hy:ρ.ev y= .raw (.int .u32 (v:Int))) (_:Res.box bb T₂ (eW l)∈L) (hi:i < l.length) [hu:VK bb (eW l) (eW (l.set i v)) L L']
  (k:AU P N all K fl.tail os ρ L') (hfl:fl.headD true=true:=by rfl):AU P N all K fl (⟨none,.store T x y,ty,pos,af,none⟩::os) ρ L:=
 Dd rfl (fun _ e=>by cases e) hfl (JR (new:= [.raw (.int .u32 (v:Int))]) hx (by rw[hy];exact Dn.one (FM rfl HS)) rfl (FM rfl HS) (by
  simp only[Au,BC,IV,eW]
  rw[A0E,H5,if_pos (by simpa using hi)]
  simp) (by simp;omega) hu.out k)
def Dig.put (dg:Dig) (i:Nat) (v:UInt8):Dig:=⟨dg.bs.set i v,by rw[DQ];exact dg.len⟩
theorem YU {by_:Nat} {bb i T₂:Nat} {v:UInt8} {dg:Dig} {L':List Res} [hT:Ea P T 1 by_] (hx:ρ.ev x= .raw (.pointer (some ⟨bb,0+i*1,none⟩))) (hy:ρ.ev y= .raw (.int .u8 (v.toNat:Int))) (_:Res.box bb T₂ (eDig dg)∈L) (hi:i < 32) [hu:VK bb (eDig dg) (eDig (dg.put i v)) L L']
  (k:AU P N all K fl.tail os ρ L') (hfl:fl.headD true=true:=by rfl):AU P N all K fl (⟨none,.store T x y,ty,pos,af,none⟩::os) ρ L:=
 Dd rfl (fun _ e=>by cases e) hfl (JR (new:= [.raw (.int .u8 (v.toNat:Int))]) hx (by rw[hy];exact Dn.one (FM rfl HS)) rfl (FM rfl HS) (by
  simp only[Au,BC,IV,eDig,Dig.put]
  rw[A0E,H5,if_pos (by simpa [dg.len]using hi)]
  simp[eU8,u8]) (by simp;omega) hu.out k)
theorem jt {n E by_:Nat} {z:List PV} [hT:VM P T n E] [hE:Ea P E 1 by_] [hZ:Ck P T z] {xs:List Operand} (ws:List Nat) (hx:xs.map ρ.ev=eW ws) (hz:z.length=ws.length) (hn:xs.length=ws.length)
  (k:AU P N all K fl.tail os (CU ρ d (.agg (eW ws))) L) (hd:Nat.blt d N=true:=by rfl):AU P N all K fl (⟨some d,.build T ((xs.zipIdx.map fun p=>(p.2,p.1)).toArray),ty,pos,af,none⟩::os) ρ L:=
 Bk hd (B9 fun a' w g ha hi=>by
  obtain⟨i,v,us,h1,h2,h3,h4⟩:=hZ.out
  let cs:List Value:=ws.map fun(a:Nat)=>Value.int .u32 (a:Int)
  have hop:(Op.build T ((xs.zipIdx.map fun p=>(p.2,p.1)).toArray)).operands=xs.toArray:=by
   unfold Op.operands
   simp only[CR]
   have:((fun(x:Nat × Operand)=>x.2) ∘ fun(p:Operand × Nat)=>(p.2,p.1))=Prod.fst:=by funext p;rfl
   rw[this,aj]
  have hev:xs.map a'.eval=cs:=by
   refine EC (by simp[cs,hn]) fun j j1 j2=>?_
   simp only[AR]at j1
   have hj:j < ws.length:=by omega
   have e1:ρ.ev xs[j]= .raw (.int .u32 (ws[j]:Int)):=by
    have:=congrArg (fun l=>l[j]?) hx
    simp only[EY,AO j1,eW,AO hj,Eh]at this
    exact CJ this
   have e2:=ha xs[j] (by rw[hop];simp)
   rw[e1]at e2
   simp[cs,e2.raw_inv]
  refine⟨.agg cs.toArray,?_,ED.agg ⟨by simp[cs],fun j j1 j2=>by simp[cs,eW];exact .raw _⟩⟩
  have hparts:(((xs.zipIdx.map fun p=>(p.2,p.1)).toArray).map fun(p:Nat × Operand)=>(p.1,a'.eval p.2)).toList=((xs.map a'.eval).zipIdx 0).map fun p=>(p.2,p.1):=by
   simp only[Hx,CR]
   rw[qn,CR]
   rfl
  have hus:us.length=ws.length:=by rw[(h4 g).len,hz]
  have hfill:Instr.fill (fun i=>some (i*1,1)) us.toArray (((xs.map a'.eval).zipIdx 0).map fun p=>(p.2,p.1))=some cs.toArray:=by
   rw[hev,OH (sz:=1) (cs.map fun v=> [v]) cs 0 us (by simp) (fun j j1 j2=>by simp[cs,Value.cells]) (by simp[cs,hus])]
   have:(cs.map fun v=> [v]).flatten=cs:=by
    generalize cs=l
    induction l with
    |nil=>rfl
    |cons a l ih=>simp[ih]
   simp[this]
  show(do pure (Next.value (←Instr.build T (((xs.zipIdx.map fun p=>(p.2,p.1)).toArray).map fun(p:Nat × Operand)=>(p.1,a'.eval p.2)))):Sem Next).run P w=_
  simp only[Instr.build,Sem.run_bind,zeroValue,typeInfo,run_program,h1,Sem.run_pure,Result.andThen_ok,h2,run_underlying hT.out,Ea.run hE,h3,hparts,hfill]) k
end
section
variable {P:Program} {N:Nat} {all:Array Oper} {K:Env→List Res→Prop} {fl:List Bool} {os:List Oper} {ρ:Env} {L:List Res} {Q:PPost} {c:Code} {ty:TypeId} {pos:String} {af:Array Edge}
theorem pk {j:Nat} {b:Bool} {o:Op} {dst:Option Nat} (k:AU P N all K fl (⟨dst,o,ty,pos,af,some (j,b)⟩::os) ρ L):AU P N all K fl (⟨dst,o,ty,pos,af,some (j,b)⟩::os) ρ L:=k
theorem lS {x:Operand} {dst:Option Nat} (k:AU P N all K fl (⟨dst,.move x,ty,pos,af,none⟩::os) ρ L):AU P N all K fl (⟨dst,.move x,ty,pos,af,none⟩::os) ρ L:=k
theorem Zo {x:Operand} {dst:Option Nat} (k:AU P N all K fl (⟨dst,.assign x,ty,pos,af,none⟩::os) ρ L):AU P N all K fl (⟨dst,.assign x,ty,pos,af,none⟩::os) ρ L:=k
theorem lU {T:TypeId} {x:Operand} {dst:Option Nat} (k:AU P N all K fl (⟨dst,.load T x,ty,pos,af,none⟩::os) ρ L):AU P N all K fl (⟨dst,.load T x,ty,pos,af,none⟩::os) ρ L:=k
theorem ry {S f:Nat} {x:Operand} {dst:Option Nat} (k:AU P N all K fl (⟨dst,.fieldAddr S x f,ty,pos,af,none⟩::os) ρ L):AU P N all K fl (⟨dst,.fieldAddr S x f,ty,pos,af,none⟩::os) ρ L:=k
theorem ru {x:Operand} {T:TypeId} {dst:Option Nat} (k:AU P N all K fl (⟨dst,.call { callee:= .builtin .len,args:= #[x],argTypes:= #[T] },ty,pos,af,none⟩::os) ρ L):AU P N all K fl (⟨dst,.call { callee:= .builtin .len,args:= #[x],argTypes:= #[T] },ty,pos,af,none⟩::os) ρ L:=k
theorem cR {f:Nat} {xs:Array Operand} {ats:Array TypeId} {dst:Option Nat} (k:AU P N all K fl (⟨dst,.call { callee:= .value (.func f),args:=xs,argTypes:=ats },ty,pos,af,none⟩::os) ρ L):AU P N all K fl (⟨dst,.call { callee:= .value (.func f),args:=xs,argTypes:=ats },ty,pos,af,none⟩::os) ρ L:=k
theorem eU {o:BinOp} {T T₂:TypeId} {x y:Operand} {dst:Option Nat} (k:AU P N all K fl (⟨dst,.binOp o T x y T₂,ty,pos,af,none⟩::os) ρ L):AU P N all K fl (⟨dst,.binOp o T x y T₂,ty,pos,af,none⟩::os) ρ L:=k
theorem xw {T:TypeId} {x y:Operand} {dst:Option Nat} (k:AU P N all K fl (⟨dst,.indexAddr T x y,ty,pos,af,none⟩::os) ρ L):AU P N all K fl (⟨dst,.indexAddr T x y,ty,pos,af,none⟩::os) ρ L:=k
theorem xx {i:Nat} {x:Operand} {dst:Option Nat} (k:AU P N all K fl (⟨dst,.extract x i,ty,pos,af,none⟩::os) ρ L):AU P N all K fl (⟨dst,.extract x i,ty,pos,af,none⟩::os) ρ L:=k
theorem uO {c x y:Operand} {dst:Option Nat} (k:AU P N all K fl (⟨dst,.pick c x y,ty,pos,af,none⟩::os) ρ L):AU P N all K fl (⟨dst,.pick c x y,ty,pos,af,none⟩::os) ρ L:=k
theorem xu {o:UnOp} {T:TypeId} {x:Operand} {dst:Option Nat} (k:AU P N all K fl (⟨dst,.unOp o T x,ty,pos,af,none⟩::os) ρ L):AU P N all K fl (⟨dst,.unOp o T x,ty,pos,af,none⟩::os) ρ L:=k
theorem Xa {T:TypeId} {x y:Operand} {dst:Option Nat} (k:AU P N all K fl (⟨dst,.store T x y,ty,pos,af,none⟩::os) ρ L):AU P N all K fl (⟨dst,.store T x y,ty,pos,af,none⟩::os) ρ L:=k
theorem xy {T n:Nat} {ps:Array (Nat × Operand)} {dst:Option Nat} (k:AU P N all K fl (⟨dst,.buildSlice T n ps,ty,pos,af,none⟩::os) ρ L):AU P N all K fl (⟨dst,.buildSlice T n ps,ty,pos,af,none⟩::os) ρ L:=k
theorem eT {T:Nat} {ps:Array (Nat × Operand)} {dst:Option Nat} (k:AU P N all K fl (⟨dst,.build T ps,ty,pos,af,none⟩::os) ρ L):AU P N all K fl (⟨dst,.build T ps,ty,pos,af,none⟩::os) ρ L:=k
theorem Xb {T:TypeId} {x:Operand} {lo hi mx:Option Operand} {dst:Option Nat} (k:AU P N all K fl (⟨dst,.slice T x lo hi mx,ty,pos,af,none⟩::os) ρ L):AU P N all K fl (⟨dst,.slice T x lo hi mx,ty,pos,af,none⟩::os) ρ L:=k
theorem lV {S T:TypeId} {x:Operand} {dst:Option Nat} (k:AU P N all K fl (⟨dst,.convert S T x,ty,pos,af,none⟩::os) ρ L):AU P N all K fl (⟨dst,.convert S T x,ty,pos,af,none⟩::os) ρ L:=k
theorem eR {T:TypeId} {x y:Operand} {dst:Option Nat} (k:AU P N all K fl (⟨dst,.index T x y,ty,pos,af,none⟩::os) ρ L):AU P N all K fl (⟨dst,.index T x y,ty,pos,af,none⟩::os) ρ L:=k
theorem xv {x:Operand} {dst:Option Nat} (k:AU P N all K fl (⟨dst,.nilCheck x,ty,pos,af,none⟩::os) ρ L):AU P N all K fl (⟨dst,.nilCheck x,ty,pos,af,none⟩::os) ρ L:=k
structure OY (B:Prop):Prop where
 out:B
structure Kl {α:Type} (B:α→Prop):Prop where
 out: ∀ a,B a
theorem pE {A B:Prop} (k:B) (h:OY B→A:=by
  intro hB
  first
   |(refine pk ?_;first|refine ZA rfl (by rfl) ?_|refine fo rfl (by first|((conv=>lhs;whnf);done)|fail) (by assumption) ?_|refine ZB rfl (by first|((conv=>lhs;whnf);done)|fail) (by assumption) ?_|refine ZC rfl (by first|((conv=>lhs;whnf);done)|fail) (by assumption) ?_|refine kd rfl (by rfl) ?_|refine ZB rfl (by rfl) rfl ?_|refine ZC rfl (by rfl) rfl ?_)
   |(refine lS ?_;first|refine KD (by(conv=>lhs;whnf);done) ?_)
   |(refine Zo ?_;first|refine Vi (by(conv=>lhs;whnf);done) ?_)
   |(refine lU ?_;first|refine Yf (by rfl) (hl:=(by first|infer_instance|fail)) ?_|refine dZ (by rfl) rfl ?_|refine Yc (by rfl) (by repeat(first|exact AG|apply AJ)) (hl:=(by first|infer_instance|fail)) ?_|refine Yd (by rfl) (by repeat(first|exact AG|apply AJ)) (hs:=(by first|infer_instance|fail)) ?_|refine jh (by rfl) (by repeat(first|exact AG|apply AJ)) (hs:=(by first|infer_instance|fail)) ?_|refine da (by rfl) (by repeat(first|exact AG|apply AJ)) (by omega) ?_|refine dY (by rfl) (by repeat(first|exact AG|apply AJ)) (by omega) ?_)
   |(refine ry ?_;first|refine bR (by rfl) (hr:=(by first|infer_instance|fail)) ?_|refine de (by rfl) (by(conv=>lhs;whnf);done) ?_)
   |(refine ru ?_;first|refine jk (by rfl) ?_|refine jj (by(conv=>lhs;whnf);done) (jx:=(by first|infer_instance|fail)) ?_|refine jl (by rfl) ?_)
   |(refine cR ?_;first|refine XT (by(conv=>lhs;whnf);done) (hN0:=(by first|infer_instance|fail)) (hc:=(by first|infer_instance|fail)) ?_|refine eL (by(conv=>lhs;whnf);done) (by(conv=>lhs;whnf);done) (hN0:=(by first|infer_instance|fail)) (hN1:=(by first|infer_instance|fail)) (hc:=(by first|infer_instance|fail)) ?_|refine eK (by(conv=>lhs;whnf);done) (by(conv=>lhs;whnf);done) (by(conv=>lhs;whnf);done) (hN0:=(by first|infer_instance|fail)) (hN1:=(by first|infer_instance|fail)) (hN2:=(by first|infer_instance|fail)) (hc:=(by first|infer_instance|fail)) ?_|refine eN (hc:=(by first|infer_instance|fail)) ?_|refine eJ (by(conv=>lhs;whnf);done) (by(conv=>lhs;whnf);done) (by(conv=>lhs;whnf);done) (by(conv=>lhs;whnf);done) (hN0:=(by first|infer_instance|fail)) (hN1:=(by first|infer_instance|fail)) (hN2:=(by first|infer_instance|fail)) (hN3:=(by first|infer_instance|fail)) (hc:=(by first|infer_instance|fail)) ?_|refine j_call5 (by(conv=>lhs;whnf);done) (by(conv=>lhs;whnf);done) (by(conv=>lhs;whnf);done) (by(conv=>lhs;whnf);done) (by(conv=>lhs;whnf);done) (hN0:=(by first|infer_instance|fail)) (hN1:=(by first|infer_instance|fail)) (hN2:=(by first|infer_instance|fail)) (hN3:=(by first|infer_instance|fail)) (hN4:=(by first|infer_instance|fail)) (hc:=(by first|infer_instance|fail)) ?_|refine j_call6 (by(conv=>lhs;whnf);done) (by(conv=>lhs;whnf);done) (by(conv=>lhs;whnf);done) (by(conv=>lhs;whnf);done) (by(conv=>lhs;whnf);done) (by(conv=>lhs;whnf);done) (hN0:=(by first|infer_instance|fail)) (hN1:=(by first|infer_instance|fail)) (hN2:=(by first|infer_instance|fail)) (hN3:=(by first|infer_instance|fail)) (hN4:=(by first|infer_instance|fail)) (hN5:=(by first|infer_instance|fail)) (hc:=(by first|infer_instance|fail)) ?_)
   |(refine g_bi ?_;first|refine s_min (by rfl) (by rfl) ?_|refine s_max (by rfl) (by rfl) ?_)
   |(refine eU ?_;first|refine rP (by rfl) (by rfl) ?_|refine rQ (by rfl) (by rfl) ?_|refine wx (by rfl) (by rfl) ?_|refine rR (by rfl) (by rfl) ?_|refine wy (by rfl) (by rfl) ?_|refine wm (by rfl) (by rfl) ?_|refine rZ (by rfl) (by rfl) (by constructor<;>omega) ?_|refine rF (by rfl) (by rfl) (by constructor<;>omega) ?_|refine oE (by rfl) (by rfl) ?_|refine oC (by rfl) (by rfl) ?_|refine tL (by rfl) (by rfl) ?_|refine tI (by rfl) (by rfl) ?_|refine x8 (by(conv=>lhs;whnf);done) (by(conv=>lhs;whnf);done) (jx:=(by first|infer_instance|fail)) (jy:=(by first|infer_instance|fail)) ?_|refine wt (by(conv=>lhs;whnf);done) (by(conv=>lhs;whnf);done) (jx:=(by first|infer_instance|fail)) (jy:=(by first|infer_instance|fail)) ?_|refine x9 (by rfl) (by rfl) ?_|refine s_neB (by rfl) (by rfl) ?_|refine rU (by(conv=>lhs;whnf);done) (by(conv=>lhs;whnf);done) (jx:=(by first|infer_instance|fail)) (jy:=(by first|infer_instance|fail)) (by first|omega|(simp only[AA,AL,Af,BC];omega)) ?_|refine rM (by rfl) (by rfl) (by constructor<;>omega) ?_|refine YY (by rfl) (by rfl) (by omega) (by omega) ?_|refine YX (by rfl) (by rfl) (by omega) ?_|refine kE (by rfl) (by rfl) ?_|refine jW (by rfl) (by rfl) ?_|refine kD (by rfl) (by rfl) ?_|refine rI (by rfl) (by rfl) ?_|refine jb (by rfl) (by rfl) ?_|refine jd (by rfl) (by rfl) ?_|refine jc (by rfl) (by rfl) ?_|refine X1 (by rfl) (by rfl) (by omega) (by omega) ?_|refine X2 (by rfl) (by rfl) (by omega) ?_)
   |(refine xw ?_;first|refine jn (by rfl) (by rfl) (by omega) ?_|refine QZ (by rfl) (by rfl) (by omega) ?_|refine jm (by rfl) (by rfl) (by omega) (by omega) ?_)
   |(refine xx ?_;first|refine fY (by rfl) rfl ?_)
   |(refine uO ?_;first|refine YZ (by rfl) rfl (by(conv=>lhs;whnf);done) ?_|refine Ya (by rfl) rfl (by(conv=>lhs;whnf);done) ?_|refine YZ (by first|((conv=>lhs;whnf);done)|fail) (by assumption) (by(conv=>lhs;whnf);done) ?_|refine Ya (by first|((conv=>lhs;whnf);done)|fail) (by assumption) (by(conv=>lhs;whnf);done) ?_)
   |(refine xu ?_;first|refine rJ (by rfl) ?_|refine rL (by rfl) (by constructor<;>omega) ?_|refine jf (by rfl) ?_)
   |(refine Xa ?_;first|refine jZ (by rfl) (by(conv=>lhs;whnf);done) (hC:=(by first|infer_instance|fail)) (hB:=(by first|infer_instance|fail)) (hp:=(by first|infer_instance|fail)) (hu:=(by first|infer_instance|fail)) (hf:=(by first|infer_instance|fail)) (hlen:=(by first|infer_instance|fail)) ?_|refine YT (by rfl) (by rfl) (hB:=(by first|infer_instance|fail)) (hu:=(by first|infer_instance|fail)) (hf:=(by first|infer_instance|fail)) (hlen:=(by first|infer_instance|fail)) (hcs:=(by first|infer_instance|fail)) ?_|refine TV (by rfl) (by rfl) (by repeat(first|exact AG|apply AJ)) (by omega) (hu:=(by first|infer_instance|fail)) ?_|refine YU (by rfl) (by rfl) (by repeat(first|exact AG|apply AJ)) (by omega) (hu:=(by first|infer_instance|fail)) ?_)
   |(refine eT ?_;first|refine Yj ?_|refine Vg ?_|refine mM (by(conv=>lhs;whnf);done) (hC0:=(by first|infer_instance|fail)) (hP0:=(by first|infer_instance|fail)) (hl0:=(by first|infer_instance|fail)) ?_|refine mL (by(conv=>lhs;whnf);done) (by(conv=>lhs;whnf);done) (hC0:=(by first|infer_instance|fail)) (hC1:=(by first|infer_instance|fail)) (hP0:=(by first|infer_instance|fail)) (hP1:=(by first|infer_instance|fail)) (hl0:=(by first|infer_instance|fail)) (hl1:=(by first|infer_instance|fail)) ?_|refine mJ (by(conv=>lhs;whnf);done) (by(conv=>lhs;whnf);done) (by(conv=>lhs;whnf);done) (hC0:=(by first|infer_instance|fail)) (hC1:=(by first|infer_instance|fail)) (hC2:=(by first|infer_instance|fail)) (hP0:=(by first|infer_instance|fail)) (hP1:=(by first|infer_instance|fail)) (hP2:=(by first|infer_instance|fail)) (hl0:=(by first|infer_instance|fail)) (hl1:=(by first|infer_instance|fail)) (hl2:=(by first|infer_instance|fail)) ?_|refine mI (by(conv=>lhs;whnf);done) (by(conv=>lhs;whnf);done) (by(conv=>lhs;whnf);done) (by(conv=>lhs;whnf);done) (hC0:=(by first|infer_instance|fail)) (hC1:=(by first|infer_instance|fail)) (hC2:=(by first|infer_instance|fail)) (hC3:=(by first|infer_instance|fail)) (hP0:=(by first|infer_instance|fail)) (hP1:=(by first|infer_instance|fail)) (hP2:=(by first|infer_instance|fail)) (hP3:=(by first|infer_instance|fail)) (hl0:=(by first|infer_instance|fail)) (hl1:=(by first|infer_instance|fail)) (hl2:=(by first|infer_instance|fail)) (hl3:=(by first|infer_instance|fail)) ?_|refine mH (by(conv=>lhs;whnf);done) (by(conv=>lhs;whnf);done) (by(conv=>lhs;whnf);done) (by(conv=>lhs;whnf);done) (by(conv=>lhs;whnf);done) (hC0:=(by first|infer_instance|fail)) (hC1:=(by first|infer_instance|fail)) (hC2:=(by first|infer_instance|fail)) (hC3:=(by first|infer_instance|fail)) (hC4:=(by first|infer_instance|fail)) (hP0:=(by first|infer_instance|fail)) (hP1:=(by first|infer_instance|fail)) (hP2:=(by first|infer_instance|fail)) (hP3:=(by first|infer_instance|fail)) (hP4:=(by first|infer_instance|fail)) (hl0:=(by first|infer_instance|fail)) (hl1:=(by first|infer_instance|fail)) (hl2:=(by first|infer_instance|fail)) (hl3:=(by first|infer_instance|fail)) (hl4:=(by first|infer_instance|fail)) ?_|refine mG (by(conv=>lhs;whnf);done) (by(conv=>lhs;whnf);done) (by(conv=>lhs;whnf);done) (by(conv=>lhs;whnf);done) (by(conv=>lhs;whnf);done) (by(conv=>lhs;whnf);done) (hC0:=(by first|infer_instance|fail)) (hC1:=(by first|infer_instance|fail)) (hC2:=(by first|infer_instance|fail)) (hC3:=(by first|infer_instance|fail)) (hC4:=(by first|infer_instance|fail)) (hC5:=(by first|infer_instance|fail)) (hP0:=(by first|infer_instance|fail)) (hP1:=(by first|infer_instance|fail)) (hP2:=(by first|infer_instance|fail)) (hP3:=(by first|infer_instance|fail)) (hP4:=(by first|infer_instance|fail)) (hP5:=(by first|infer_instance|fail)) (hl0:=(by first|infer_instance|fail)) (hl1:=(by first|infer_instance|fail)) (hl2:=(by first|infer_instance|fail)) (hl3:=(by first|infer_instance|fail)) (hl4:=(by first|infer_instance|fail)) (hl5:=(by first|infer_instance|fail)) ?_|refine b_build7 (by(conv=>lhs;whnf);done) (by(conv=>lhs;whnf);done) (by(conv=>lhs;whnf);done) (by(conv=>lhs;whnf);done) (by(conv=>lhs;whnf);done) (by(conv=>lhs;whnf);done) (by(conv=>lhs;whnf);done) (hC0:=(by first|infer_instance|fail)) (hC1:=(by first|infer_instance|fail)) (hC2:=(by first|infer_instance|fail)) (hC3:=(by first|infer_instance|fail)) (hC4:=(by first|infer_instance|fail)) (hC5:=(by first|infer_instance|fail)) (hC6:=(by first|infer_instance|fail)) (hP0:=(by first|infer_instance|fail)) (hP1:=(by first|infer_instance|fail)) (hP2:=(by first|infer_instance|fail)) (hP3:=(by first|infer_instance|fail)) (hP4:=(by first|infer_instance|fail)) (hP5:=(by first|infer_instance|fail)) (hP6:=(by first|infer_instance|fail)) (hl0:=(by first|infer_instance|fail)) (hl1:=(by first|infer_instance|fail)) (hl2:=(by first|infer_instance|fail)) (hl3:=(by first|infer_instance|fail)) (hl4:=(by first|infer_instance|fail)) (hl5:=(by first|infer_instance|fail)) (hl6:=(by first|infer_instance|fail)) ?_|refine b_build8 (by(conv=>lhs;whnf);done) (by(conv=>lhs;whnf);done) (by(conv=>lhs;whnf);done) (by(conv=>lhs;whnf);done) (by(conv=>lhs;whnf);done) (by(conv=>lhs;whnf);done) (by(conv=>lhs;whnf);done) (by(conv=>lhs;whnf);done) (hC0:=(by first|infer_instance|fail)) (hC1:=(by first|infer_instance|fail)) (hC2:=(by first|infer_instance|fail)) (hC3:=(by first|infer_instance|fail)) (hC4:=(by first|infer_instance|fail)) (hC5:=(by first|infer_instance|fail)) (hC6:=(by first|infer_instance|fail)) (hC7:=(by first|infer_instance|fail)) (hP0:=(by first|infer_instance|fail)) (hP1:=(by first|infer_instance|fail)) (hP2:=(by first|infer_instance|fail)) (hP3:=(by first|infer_instance|fail)) (hP4:=(by first|infer_instance|fail)) (hP5:=(by first|infer_instance|fail)) (hP6:=(by first|infer_instance|fail)) (hP7:=(by first|infer_instance|fail)) (hl0:=(by first|infer_instance|fail)) (hl1:=(by first|infer_instance|fail)) (hl2:=(by first|infer_instance|fail)) (hl3:=(by first|infer_instance|fail)) (hl4:=(by first|infer_instance|fail)) (hl5:=(by first|infer_instance|fail)) (hl6:=(by first|infer_instance|fail)) (hl7:=(by first|infer_instance|fail)) ?_)
   |(refine Xb ?_;first|refine jo (by rfl) (by rfl) (by omega) ?_|refine jq (by rfl) (by rfl) (by omega) ?_|refine X6 (by(conv=>lhs;whnf);done) (by rfl) (by rfl) (jx:=(by first|infer_instance|fail)) (by omega) (by omega) (by omega) ?_|refine dh (by(conv=>lhs;whnf);done) (by rfl) (jx:=(by first|infer_instance|fail)) (by omega) (by omega) ?_|refine YW (by rfl) ?_)
   |(refine lV ?_;first|refine dj (by rfl) ?_|refine di (by rfl) ?_|refine TC (by rfl) (by omega) ?_|refine jX (by rfl) ?_|refine YS (by rfl) (by repeat(first|exact AG|apply AJ)) (hs:=(by first|infer_instance|fail)) ?_)
   |(refine eR ?_;first|refine Yg (by(conv=>lhs;whnf);done) (by rfl) (jx:=(by first|infer_instance|fail)) (by omega) ?_)
   |(refine xv ?_;first|refine Yb (by rfl) ?_)
  exact hB.out):A:=h ⟨k⟩
theorem tz {A B:Prop} (k:B) (h:OY B→A:=by
  intro hB
  first
   |(refine xy ?_;first|refine rY ?_|refine rV (by(conv=>lhs;whnf);done) (hC0:=(by first|infer_instance|fail)) (hf:=(by first|infer_instance|fail)) (by decide) ?_|refine xE (by(conv=>lhs;whnf);done) (by(conv=>lhs;whnf);done) (hC0:=(by first|infer_instance|fail)) (hC1:=(by first|infer_instance|fail)) (hf:=(by first|infer_instance|fail)) (by decide) ?_|refine xD (by(conv=>lhs;whnf);done) (by(conv=>lhs;whnf);done) (by(conv=>lhs;whnf);done) (hC0:=(by first|infer_instance|fail)) (hC1:=(by first|infer_instance|fail)) (hC2:=(by first|infer_instance|fail)) (hf:=(by first|infer_instance|fail)) (by decide) ?_|refine xC (by(conv=>lhs;whnf);done) (by(conv=>lhs;whnf);done) (by(conv=>lhs;whnf);done) (by(conv=>lhs;whnf);done) (hC0:=(by first|infer_instance|fail)) (hC1:=(by first|infer_instance|fail)) (hC2:=(by first|infer_instance|fail)) (hC3:=(by first|infer_instance|fail)) (hf:=(by first|infer_instance|fail)) (by decide) ?_|refine xB (by(conv=>lhs;whnf);done) (by(conv=>lhs;whnf);done) (by(conv=>lhs;whnf);done) (by(conv=>lhs;whnf);done) (by(conv=>lhs;whnf);done) (hC0:=(by first|infer_instance|fail)) (hC1:=(by first|infer_instance|fail)) (hC2:=(by first|infer_instance|fail)) (hC3:=(by first|infer_instance|fail)) (hC4:=(by first|infer_instance|fail)) (hf:=(by first|infer_instance|fail)) (by decide) ?_|refine xA (by(conv=>lhs;whnf);done) (by(conv=>lhs;whnf);done) (by(conv=>lhs;whnf);done) (by(conv=>lhs;whnf);done) (by(conv=>lhs;whnf);done) (by(conv=>lhs;whnf);done) (hC0:=(by first|infer_instance|fail)) (hC1:=(by first|infer_instance|fail)) (hC2:=(by first|infer_instance|fail)) (hC3:=(by first|infer_instance|fail)) (hC4:=(by first|infer_instance|fail)) (hC5:=(by first|infer_instance|fail)) (hf:=(by first|infer_instance|fail)) (by decide) ?_)
  exact hB.out):A:=h ⟨k⟩
theorem AZ {A B:Prop} (k:B) (h:OY B→A:=by
  intro hB
  repeat(first
   |refine AE ?_
   |refine pE ?_
   |refine tz ?_
   |refine DZ ?_
   |refine CK (by kernel_rfl) ?_
   |refine Il ?_
   |refine HQ ?_
   |refine KI ?_
   |refine Gv ?_
   |refine GW (by decide+kernel) ?_
   |refine Ij (by rfl) ?_
   |refine Ik (by rfl) ?_)
  exact hB.out):A:=h ⟨k⟩
theorem CH {A B:Prop} (k:B) (h:OY B→A:=by
  intro hB
  refine AZ ?_
  exact hB.out):A:=h ⟨k⟩
theorem DU {A:Prop} {B:Nat→Prop} (k: ∀ b,B b) (h:Kl B→A:=by
  intro hB
  refine AZ ?_
  first|refine Yk (by rfl) fun b=>?_|refine Bx fun b=>?_
  refine AZ ?_
  exact hB.out b):A:=h ⟨k⟩
theorem Fq {A:Prop} {B:Nat→Prop} (k: ∀ b,B b) (h:Kl B→A:=by
  intro hB
  refine DU fun b=>?_
  exact hB.out b):A:=h ⟨k⟩
theorem Hz {A:Prop} {B:CC→Prop} (k: ∀ t,B t) (h:Kl B→A:=by
  intro hB
  refine AZ ?_
  first|refine Vj (by rfl) (by rfl) (by simp only[AA,AL,Af,AR,Aa,B4,BC];omega) (by simp only[AA,AL,Af,AR,Aa,B4,BC];omega) fun t=>?_|refine Iw (by rfl) (by rfl) (by simp only[AA,AL,Af,AR,Aa,B4,BC];omega) (by simp only[AA,AL,Af,AR,Aa,B4,BC];omega) (fun t=>by first|exact .here|exact(.there .here)|exact(.there (.there .here))|exact(.there (.there (.there .here)))|exact(.there (.there (.there (.there .here))))|exact(.there (.there (.there (.there (.there .here)))))|exact(.there (.there (.there (.there (.there (.there .here))))))|exact(.there (.there (.there (.there (.there (.there (.there .here)))))))|exact(.there (.there (.there (.there (.there (.there (.there (.there .here))))))))) fun t=>?_
  refine AZ ?_
  exact hB.out t):A:=h ⟨k⟩
theorem IW {A:Prop} {B:CC→Prop} (k: ∀ t,B t) (h:Kl B→A:=by
  intro hB
  refine Hz fun t=>?_
  exact hB.out t):A:=h ⟨k⟩
end
end Go.Q
