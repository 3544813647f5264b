/- The small logic, fourteenth text: steps over strings, numbers, structs and slices by their forms. Library, no statement of its own. -/
import Derived.Test.YtpebdiofdfpooaaGreatDoorWac
import Derived.Laws.IdiomStrings
set_option linter.unusedSimpArgs false
set_option linter.unusedVariables false
namespace Go.Q
open Go
def vF (P:Program) (T:Nat):Option (Nat × Nat):=
 match P.underlying T with
 |some (.slice E)=>match P.info? E with
  |some i=>match i.zero with
   |some z=>if z.cells.size=i.size∧i.bytes≠0∧i.size≠0∧i.size≤i.bytes then some (i.size,i.bytes)else none
   |none=>none
  |none=>none
 |_=>none
theorem Ff.of {P:Program} {T sz bytes:Nat} (h:vF P T=some (sz,bytes)):Ff P T sz bytes:=⟨by
 unfold vF at h
 split at h
 ·rename_i E hu
  split at h
  ·rename_i i hi
   split at h
   ·rename_i z hz
    split at h
    ·rename_i hc
     simp only[Fh,Prod.mk.injEq]at h
     obtain⟨rfl,rfl⟩:=h
     exact⟨E,i,z,hu,hi,rfl,rfl,hz,hc.1,hc.2.1,hc.2.2⟩
    ·cases h
   ·cases h
  ·cases h
 ·cases h⟩
def bJ (P:Program) (T:Nat):Bool:=
 match P.underlying T with
 |some (.struct fs)=>fs.all fun f=>(P.info? f.type).isSome
 |_=>false
theorem Cb.of {P:Program} {T:Nat} (h:bJ P T=true):Cb P T:=⟨by
 unfold bJ at h
 split at h
 ·rename_i fs hu
  refine⟨fs,hu,fun f hf=>?_⟩
  have:=Array.all_eq_true'.1 h f hf
  exact E0.1 this
 ·cases h⟩
def pC (P:Program) (S k:Nat):Option (Nat × Nat):=
 match P.underlying S with
 |some (.struct fs)=>match fs[k]? with
  |some f=>match P.info? f.type with
   |some i=>some (f.offset,i.size)
   |none=>none
  |none=>none
 |_=>none
theorem Ba.of {P:Program} {S k off sz:Nat} (h:pC P S k=some (off,sz)):Ba P S k off sz:=⟨by
 unfold pC at h
 split at h
 ·rename_i fs hu
  split at h
  ·rename_i f hf
   split at h
   ·rename_i i hi
    simp only[Fh,Prod.mk.injEq]at h
    exact⟨fs,f,i,hu,hf,h.1,hi,h.2⟩
   ·cases h
  ·cases h
 ·cases h⟩
def qB:PV→Option Value
 | .raw v=>some v
 | .slice [] .ro=>some (.slice none 0 0)
 | .str []=>some (.string ⟨#[]⟩)
 |_=>none
theorem l6 {x:PV} {v:Value} (h:qB x=some v) (g:Gh):VR g v x:=by
 unfold qB at h
 split at h
 ·cases h;exact .raw _
 ·cases h;exact .nilR
 ·cases h;exact .str (Nat.zero_le _)
 ·cases h
theorem Cu.of {P:Program} {T:Nat} {z:List PV} {us:List Value} (h:((P.info? T).bind (·.zero)).map (·.cells.toList)=some us) (hz:z.map qB=us.map some):Cu P T z:=⟨by
 obtain⟨v,h1,h2⟩:=Bk.1 h
 obtain⟨i,h3,h4⟩:=Ed.1 h1
 have hl:z.length=us.length:=by simpa using congrArg List.length hz
 refine⟨i,v,us,h3,h4,by rw[←h2],fun g=>⟨hl.symm,fun i h5 h6=>l6 ?_ g⟩⟩
 have:=congrArg (fun l=>l[i]?) hz
 simp only[Gw,AZ h5,AZ h6,FB]at this
 exact CF this⟩
section
variable {P:Program} {N:Nat} {all:Array Oper} {K:Env→List Res→Prop} {fl:List Bool} {os:List Oper} {ρ:Env} {L:List Res}
variable {d:Nat} {ty:TypeId} {pos:String} {af:Array Edge}
theorem SV {op:BinOp} {T T':TypeId} {x y:Operand} {a b v:Value} {r:PV} (hx: ∀ g u,VR g u (ρ.ev x)→u=a) (hy: ∀ g u,VR g u (ρ.ev y)→u=b) (hg: ∀ w,(eqGuard op T x y a b).run P w= .ok () w)
  (hr: ∀ w,(binOp op T a b).run P w= .ok v w) (hv: ∀ g,VR g v r) (k:AW P N all K fl.tail os (CT ρ d r) L) (hd:Nat.blt d N=true:=by rfl):
  AW P N all K fl (⟨some d,.binOp op T x y T',ty,pos,af,none⟩::os) ρ L:=
 Bb hd (B7 fun a' w g ha hi=>⟨v,by
  have h1:=hx g _ (ha x (by simp[Op.operands]))
  have h2:=hy g _ (ha y (by simp[Op.operands]))
  simp only[execOp,h1,h2,Sem.run_bind,hg,Result.andThen_ok,hr,Sem.run_pure],hv g⟩) k
theorem ob {op:BinOp} {T T':TypeId} {x y:Operand} {a b v:Value} (hx:ρ.ev x= .raw a) (hy:ρ.ev y= .raw b) (hg: ∀ w,(eqGuard op T x y a b).run P w= .ok () w)
  (hr: ∀ w,(binOp op T a b).run P w= .ok v w) (k:AW P N all K fl.tail os (CT ρ d (.raw v)) L) (hd:Nat.blt d N=true:=by rfl):
  AW P N all K fl (⟨some d,.binOp op T x y T',ty,pos,af,none⟩::os) ρ L:=
 SV (fun g u h=>by rw[hx]at h;exact h.raw_inv) (fun g u h=>by rw[hy]at h;exact h.raw_inv) hg hr (fun g=> .raw v) k hd
theorem oY {T T':TypeId} {x y:Operand} {s t:Str} {ax ay:PV} (hx:ρ.ev x=ax) [jx:HF ax s] (hy:ρ.ev y=ay) [jy:HF ay t] (hl:s.length+t.length≤140737488355328) (k:AW P N all K fl.tail os (CT ρ d (.str (s++t))) L) (hd:Nat.blt d N=true:=by rfl):
  AW P N all K fl (⟨some d,.binOp .add T x y T',ty,pos,af,none⟩::os) ρ L:=
 SV (v:= .string (sB (s++t))) (hx ▸ jx.out) (hy ▸ jy.out) (fun w=>by unfold eqGuard;rfl) (fun w=>by
  rw[binOp_string_add,Op.stringOp]
  have: ¬(((sB s).size+(sB t).size:Nat):Int) > IntKind.i64.max:=by
   have e:IntKind.i64.max=9223372036854775807:=by decide
   rw[e,PQ,PQ];omega
  simp only[this,if_false,Sem.run_pure]
  congr 3) (fun g=> .str (by rw[A7];exact hl)) k hd
theorem ch (s t:Str):(s==t)=decide (s=t):=by
 by_cases h:s=t<;>simp[h]
theorem tv {T T':TypeId} [hT:O6 P T] {x y:Operand} {s t:Str} {ax ay:PV} (hx:ρ.ev x=ax) [jx:HF ax s] (hy:ρ.ev y=ay) [jy:HF ay t] (k:AW P N all K fl.tail os (CT ρ d (.raw (.bool (decide (s=t))))) L) (hd:Nat.blt d N=true:=by rfl):
  AW P N all K fl (⟨some d,.binOp .eql T x y T',ty,pos,af,none⟩::os) ρ L:=
 SV (hx ▸ jx.out) (hy ▸ jy.out) (fun w=>by unfold eqGuard;rfl) (fun w=>by rw[binOp_string_eql,Gf,Gf,Sem.run_pure,ch]) (fun g=> .raw _) k hd
theorem tr {T T':TypeId} [hT:O6 P T] {x y:Operand} {s t:Str} {ax ay:PV} (hx:ρ.ev x=ax) [jx:HF ax s] (hy:ρ.ev y=ay) [jy:HF ay t] (k:AW P N all K fl.tail os (CT ρ d (.raw (.bool (!decide (s=t))))) L) (hd:Nat.blt d N=true:=by rfl):
  AW P N all K fl (⟨some d,.binOp .neq T x y T',ty,pos,af,none⟩::os) ρ L:=
 SV (hx ▸ jx.out) (hy ▸ jy.out) (fun w=>by unfold eqGuard;rfl) (fun w=>by rw[binOp_string_neq,Gf,Gf,Sem.run_pure,ch]) (fun g=> .raw _) k hd
theorem gN {T:TypeId} [hT:O6 P T] {x:Operand} {s:Str} {ax:PV} (hx:ρ.ev x=ax) [jx:HF ax s] (k:AW P N all K fl.tail os (CT ρ d (.raw (.int .i64 s.length))) L) (hd:Nat.blt d N=true:=by rfl):
  AW P N all K fl (⟨some d,.call { callee:= .builtin .len,args:= #[x],argTypes:= #[T] },ty,pos,af,none⟩::os) ρ L:=
 Bb hd (B7 fun a w g ha hi=>⟨.int .i64 s.length,by
  have h1:=jx.out g _ (hx ▸ ha x (by simp[Op.operands,Call.operands]))
  have he:execOp a.eval ⟨some d,.call { callee:= .builtin .len,args:= #[x],argTypes:= #[T] },ty,pos,af,none⟩=(do pure (.value (←Builtin.len_ #[T] ty (#[x].map a.eval)))):=rfl
  rw[he]
  simp[Builtin.len_,h1,Hf hT.out,goInt],.raw _⟩) k
theorem Xd {T:TypeId} [hT:O6 P T] {x y:Operand} {s:Str} {ax:PV} {kk:IntKind} {n:Nat} (hx:ρ.ev x=ax) [jx:HF ax s] (hy:ρ.ev y= .raw (.int kk (n:Int))) (hn:n < s.length) (k:AW P N all K fl.tail os (CT ρ d (.raw (.int .u8 (s[n].toNat:Int)))) L) (hd:Nat.blt d N=true:=by rfl):
  AW P N all K fl (⟨some d,.index T x y,ty,pos,af,none⟩::os) ρ L:=
 Bb hd (B7 fun a w g ha hi=>⟨_,by
  have h1:=jx.out g _ (hx ▸ ha x (by simp[Op.operands]))
  have h2:=CW ha (x:=y) (by simp[Op.operands]) hy
  show(do pure (Next.value (←Instr.index T (a.eval x) (a.eval y))):Sem Next).run P w=_
  rw[h1,h2,Sem.run_bind,run_index_string (h:=hT.out),dif_pos ⟨by omega,by rw[PQ];omega⟩]
  rfl,by
  have e:(sB s)[(n:Int).toNat]'(by rw[PQ];omega)=s[n]:=by
   simp only[Br]
   show(sB s).data[n]'(by simpa [sB]using hn)=_
   simp[sB]
  rw[e];exact .raw _⟩) k
theorem Vf {T:TypeId} [hT:O6 P T] {x y z:Operand} {s:Str} {ax:PV} {k₁ k₂:IntKind} {i j:Nat} (hx:ρ.ev x=ax) [jx:HF ax s] (hy:ρ.ev y= .raw (.int k₁ (i:Int))) (hz:ρ.ev z= .raw (.int k₂ (j:Int))) (hij:i≤j) (hj:j≤s.length) (hS:s.length≤140737488355328)
  (k:AW P N all K fl.tail os (CT ρ d (.str ((s.drop i).take (j - i)))) L) (hd:Nat.blt d N=true:=by rfl):
  AW P N all K fl (⟨some d,.slice T x (some y) (some z) none,ty,pos,af,none⟩::os) ρ L:=
 Bb hd (B7 fun a w g ha hi=>⟨_,by
  have h1:=jx.out g _ (hx ▸ ha x (by simp[Op.operands]))
  have h2:=CW ha (x:=y) (by simp[Op.operands]) hy
  have h3:=CW ha (x:=z) (by simp[Op.operands]) hz
  show(do pure (Next.value (←Instr.sliceAt T (a.eval x) (some (a.eval y)) (some (a.eval z)) none)):Sem Next).run P w=_
  have hb:(Instr.sliceBounds false (sB s).size (sB s).size (some (a.eval y)) (some (a.eval z)) none).run P w= .ok (i,j,(sB s).size) w:=by
   unfold Instr.sliceBounds
   simp[h2,h3,Instr.sliceBound,asIntOf]
   rw[if_pos (by omega)]
   simp
   omega
  rw[Sem.run_bind]
  simp only[Instr.sliceAt,Sem.run_bind,run_underlying hT.out,Result.andThen_ok,Instr.slice,h1,BZ,BP,if_false,hb,Sem.run_pure]
  rfl,by
  have e:(sB s).extract i j=sB ((s.drop i).take (j - i)):=by
   apply ByteArray.ext
   simp[sB,ta]
  rw[e];exact .str (by simp only[AG,Ab];show _≤140737488355328;omega)⟩) k
theorem bW {T:TypeId} [hT:O6 P T] {x y:Operand} {s:Str} {ax:PV} {k₁:IntKind} {i:Nat} (hx:ρ.ev x=ax) [jx:HF ax s] (hy:ρ.ev y= .raw (.int k₁ (i:Int))) (hi:i≤s.length) (hS:s.length≤140737488355328)
  (k:AW P N all K fl.tail os (CT ρ d (.str (s.drop i))) L) (hd:Nat.blt d N=true:=by rfl):
  AW P N all K fl (⟨some d,.slice T x (some y) none none,ty,pos,af,none⟩::os) ρ L:=
 Bb hd (B7 fun a w g ha hi'=>⟨_,by
  have h1:=jx.out g _ (hx ▸ ha x (by simp[Op.operands]))
  have h2:=CW ha (x:=y) (by simp[Op.operands]) hy
  show(do pure (Next.value (←Instr.sliceAt T (a.eval x) (some (a.eval y)) none none)):Sem Next).run P w=_
  have hb:(Instr.sliceBounds false (sB s).size (sB s).size (some (a.eval y)) none none).run P w= .ok (i,s.length,(sB s).size) w:=by
   unfold Instr.sliceBounds
   simp[h2,Instr.sliceBound,asIntOf]
   omega
  rw[Sem.run_bind]
  simp only[Instr.sliceAt,Sem.run_bind,run_underlying hT.out,Result.andThen_ok,Instr.slice,h1,BZ,BP,if_false,hb,Sem.run_pure]
  rfl,by
  have e:(sB s).extract i s.length=sB (s.drop i):=by
   apply ByteArray.ext
   simp[sB,ta]
   rw[AA (by simp)]
  rw[e];exact .str (by simp only[Ab];show _≤140737488355328;omega)⟩) k
theorem Vg {S T:TypeId} {k' kT:IntKind} [hS:MU P S k'] [hT:MU P T kT] {x:Operand} {k₀:IntKind} {n:Int} (hx:ρ.ev x= .raw (.int k₀ n)) (k:AW P N all K fl.tail os (CT ρ d (.raw (.int kT (kT.wrap n)))) L) (hd:Nat.blt d N=true:=by rfl):
  AW P N all K fl (⟨some d,.convert S T x,ty,pos,af,none⟩::os) ρ L:=
 Bb hd (B7 fun a w g ha hi=>⟨_,by
  have h1:=CW ha (x:=x) (by simp[Op.operands]) hx
  show(do pure (Next.value (←convert S T (a.eval x))):Sem Next).run P w=_
  simp only[convert,Sem.run_bind,run_underlying hS.out,run_underlying hT.out,Result.andThen_ok,h1,Conv.intToInt,Sem.run_pure],.raw _⟩) k
theorem ba {S T:TypeId} {k' kT:IntKind} [hS:MU P S k'] [hT:MU P T kT] {x:Operand} {k₀:IntKind} {n:Int} (hx:ρ.ev x= .raw (.int k₀ n)) (hw:kT.wrap n=n) (k:AW P N all K fl.tail os (CT ρ d (.raw (.int kT n))) L) (hd:Nat.blt d N=true:=by rfl):
  AW P N all K fl (⟨some d,.convert S T x,ty,pos,af,none⟩::os) ρ L:=Vg hx (by rw[hw];exact k) hd
theorem oO {T T':TypeId} {x y:Operand} {m n:Int} (hx:ρ.ev x= .raw (.int .i64 m)) (hy:ρ.ev y= .raw (.int .i64 n)) (hb: -9223372036854775808≤m*n∧m*n≤9223372036854775807) (k:AW P N all K fl.tail os (CT ρ d (.raw (.int .i64 (m*n)))) L) (hd:Nat.blt d N=true:=by rfl):
  AW P N all K fl (⟨some d,.binOp .mul T x y T',ty,pos,af,none⟩::os) ρ L:=GY hx hy (fun w=>by simp[binOp,Op.intArith,IntWalk.i64_in _ hb]) k hd
theorem XV {T T':TypeId} {x y:Operand} {m n:Nat} (hx:ρ.ev x= .raw (.int .i64 (m:Int))) (hy:ρ.ev y= .raw (.int .i64 (n:Int))) (hn:n≠0) (hm:m≤9223372036854775807) (k:AW P N all K fl.tail os (CT ρ d (.raw (.int .i64 ((m / n:Nat):Int)))) L) (hd:Nat.blt d N=true:=by rfl):
  AW P N all K fl (⟨some d,.binOp .quo T x y T',ty,pos,af,none⟩::os) ρ L:=GY hx hy (fun w=>by
   have h1:m / n≤m:=Nat.div_le_self m n
   have h2:((m:Int).tdiv n)=((m / n:Nat):Int):=(Int.ofNat_tdiv m n).symm
   have h3:(n:Int)≠0:=by omega
   simp only[binOp,ne_eq,not_true_eq_false,if_false,Op.intDiv,h3,h2]
   clear h2
   generalize m / n=q at*
   rw[IntWalk.i64_in _ (by constructor<;>omega)];rfl) k hd
theorem XU {T T':TypeId} {x y:Operand} {m n:Nat} (hx:ρ.ev x= .raw (.int .i64 (m:Int))) (hy:ρ.ev y= .raw (.int .i64 (n:Int))) (hn:n≠0) (k:AW P N all K fl.tail os (CT ρ d (.raw (.int .i64 ((m % n:Nat):Int)))) L) (hd:Nat.blt d N=true:=by rfl):
  AW P N all K fl (⟨some d,.binOp .rem T x y T',ty,pos,af,none⟩::os) ρ L:=GY hx hy (fun w=>by
   have h2:((m:Int).tmod n)=((m % n:Nat):Int):=(Int.ofNat_tmod m n).symm
   have h3:(n:Int)≠0:=by omega
   simp only[binOp,ne_eq,not_true_eq_false,if_false,Op.intDiv,h3,h2];rfl) k hd
class xv (P:Program) (T:Nat):Prop where
 out:P.underlying T=some .bool
theorem XY {x:Operand} {ad:Addr} (hx:ρ.ev x= .raw (.pointer (some ad))) (k:AW P N all K fl.tail os (CT ρ d (.raw (.pointer (some ad)))) L) (hd:Nat.blt d N=true:=by rfl):AW P N all K fl (⟨some d,.nilCheck x,ty,pos,af,none⟩::os) ρ L:=
 Bb hd (B7 fun a w g ha hi=>⟨.pointer (some ad),by
  have h1:=CW ha (x:=x) (by simp[Op.operands]) hx
  simp[execOp,h1],.raw _⟩) k
class RQ (b:Nat) (L:List Res) (cs:outParam (List PV)):Prop where
 out: ∃ T,Res.box b T cs∈L
instance {b T:Nat} {cs:List PV} {L:List Res}:RQ b (.box b T cs::L) cs:=⟨T,by simp⟩
instance (priority:=low) {b:Nat} {cs:List PV} {r:Res} {L:List Res} [h:RQ b L cs]:RQ b (r::L) cs:=⟨by obtain⟨T,h⟩:=h.out;exact⟨T,AD _ h⟩⟩
class U2 (b:Nat) (cs cs':List PV) (L:List Res) (L':outParam (List Res)):Prop where
 out:np b cs cs' L L'
instance {b T:Nat} {cs cs':List PV} {L:List Res}:U2 b cs cs' (.box b T cs::L) (.box b T cs'::L):=⟨.here⟩
instance (priority:=low) {b:Nat} {cs cs':List PV} {r:Res} {L L':List Res} [h:U2 b cs cs' L L']:U2 b cs cs' (r::L) (r::L'):=⟨.there h.out⟩
theorem fz {T:TypeId} {x y:Operand} {b off sz by_:Nat} {a:PV} {cs cs' new:List PV} {L':List Res} [hT:EG P T sz by_]
  (hx:ρ.ev x= .raw (.pointer (some ⟨b,off,none⟩))) (hy:ρ.ev y=a) [hC:Dq a new] [hB:RQ b L cs] [hp:Ek cs off new cs'] [hu:U2 b cs cs' L L'] [hf:EH new] [hlen:Cz new sz]
  (k:AW P N all K fl.tail os ρ L') (hfl:fl.headD true=true:=by rfl):AW P N all K fl (⟨none,.store T x y,ty,pos,af,none⟩::os) ρ L:=
 Dp rfl (fun _ e=>by cases e) hfl (J2 hx (hy ▸ hC.out) hlen.out hf.out hp.out.1 hp.out.2 hu.out k)
theorem XP {T:TypeId} {x y:Operand} {b sz by_:Nat} {cs new:List PV} {L':List Res} [hT:EG P T sz by_]
  (hx:ρ.ev x= .raw (.pointer (some ⟨b,0,none⟩))) (hy:ρ.ev y= .agg new) [hB:RQ b L cs] [hu:U2 b cs new L L'] [hf:EH new] [hlen:Cz new sz] [hcs:Cz cs sz]
  (k:AW P N all K fl.tail os ρ L') (hfl:fl.headD true=true:=by rfl):AW P N all K fl (⟨none,.store T x y,ty,pos,af,none⟩::os) ρ L:=fx hx hy hu.out hlen.out hcs.out k hfl
theorem Xc {T n:Nat} [hT:FG P T n] {x:Operand} {cs:List PV} (hx:ρ.ev x= .pt cs 0) [hl:Cz cs n] (k:AW P N all K fl.tail os (CT ρ d (.agg cs)) L) (hd:Nat.blt d N=true:=by rfl):
  AW P N all K fl (⟨some d,.load T x,ty,pos,af,none⟩::os) ρ L:=gM hx hl.out k hd
theorem Xa {T n:Nat} [hT:FG P T n] {x:Operand} {b T':Nat} {cs:List PV} (hx:ρ.ev x= .raw (.pointer (some ⟨b,0,none⟩))) (hm:Res.box b T' cs∈L) [hl:Cz cs n] (k:AW P N all K fl.tail os (CT ρ d (.agg cs)) L) (hd:Nat.blt d N=true:=by rfl):
  AW P N all K fl (⟨some d,.load T x,ty,pos,af,none⟩::os) ρ L:=dN hx hm hl.out k hd
theorem bU {S f off' q:Nat} [hF:CK P S f off'] {x:Operand} {b off:Nat} (hx:ρ.ev x= .raw (.pointer (some ⟨b,off,none⟩))) (hq:off+off'=q) (k:AW P N all K fl.tail os (CT ρ d (.raw (.pointer (some ⟨b,q,none⟩)))) L) (hd:Nat.blt d N=true:=by rfl):
  AW P N all K fl (⟨some d,.fieldAddr S x f,ty,pos,af,none⟩::os) ρ L:=qT hx (by rw[hq];exact k) hd
theorem oa {T sz by_:Nat} [hE:Ff P T sz by_] (k:AW P N all K fl.tail os (CT ρ d (.slice [] .nil)) L) (hd:Nat.blt d N=true:=by rfl):AW P N all K fl (⟨some d,.buildSlice T 0 #[],ty,pos,af,none⟩::os) ρ L:=
 Bb hd (by
  intro a w g ha hi
  obtain⟨E,i,z,t1,t2,t3,t4,t5,t6,t7,t8⟩:=hE.out
  obtain⟨j1,j2,j3⟩:=hi.lay [] E
  have hr:(execOp a.eval ⟨some d,.buildSlice T 0 #[],ty,pos,af,none⟩).run P w= .ok (.value (.slice (some ⟨w.heap.size,0,none⟩) 0 0)) { w with heap:=w.heap.push (.cells [].toArray E (0,0)) }:=by
   show(do pure (Next.value (←Instr.buildSlice T 0 ((#[]:Array (Nat × Operand)).map fun(p:Nat × Operand)=>(p.1,a.eval p.2)))):Sem Next).run P w=_
   have hzv:(zeroValue E).run P w= .ok z w:=by simp[zeroValue,typeInfo,t2,t5]
   simp only[Instr.buildSlice,Sem.run_bind,run_underlying t1,Result.andThen_ok,sizeOf,typeInfo,run_program,t2,Sem.run_pure,t3]
   rw[if_neg (by simp)]
   split
   ·simp[Instr.fill,newRow];congr 2;apply HQ;simp
   ·simp[hzv,Instr.fill,newRow];congr 2;apply HQ;simp
  refine Oper.wq_of_run hr ?_
  exact⟨_,.slice [] .nil,_,L,rfl,.nilN _ (by simp),j1,j2,.refl _ _,rfl,rfl⟩) k
theorem Xh {T:Nat} {z:List PV} [hS:Cb P T] [hZ:Cu P T z] (k:AW P N all K fl.tail os (CT ρ d (.agg z)) L) (hd:Nat.blt d N=true:=by rfl):AW P N all K fl (⟨some d,.build T #[],ty,pos,af,none⟩::os) ρ L:=
 Bb hd (J0 (ps:= []) rfl (by simp) .nil) k
theorem ts {op:Op} {x y:PV} (hl:Le x y) (hq:fC P ⟨some d,op,ty,pos,af,none⟩ ρ L x) (k:AW P N all K fl.tail os (CT ρ d y) L) (hd:Nat.blt d N=true:=by rfl):AW P N all K fl (⟨some d,op,ty,pos,af,none⟩::os) ρ L:=
 Bb hd (fun a w g ha hi=>(hq a w g ha hi).mono fun _ _ ⟨v,x',g',L',h1,h2,h3,h4,h5,h6,h7⟩=>⟨v,y,g',L',h1,hl _ _ (h6 ▸ h2),h3,h4,h5,rfl,h7⟩) k
theorem Jm {x:Operand} {a b:PV} (ha:ρ.ev x=a) [hn:Ja a b] (k:AW P N all K fl.tail os (CT ρ d b) L) (hd:Nat.blt d N=true:=by rfl):AW P N all K fl (⟨some d,.move x,ty,pos,af,none⟩::os) ρ L:=
 ts hn.out (B7 fun a' w g ha' hi=>⟨a'.eval x,rfl,ha ▸ ha' x (by simp[Op.operands])⟩) k hd
theorem UR {x:Operand} {a b:PV} (ha:ρ.ev x=a) [hn:Ja a b] (k:AW P N all K fl.tail os (CT ρ d b) L) (hd:Nat.blt d N=true:=by rfl):AW P N all K fl (⟨some d,.assign x,ty,pos,af,none⟩::os) ρ L:=
 ts hn.out (B7 fun a' w g ha' hi=>⟨a'.eval x,rfl,ha ▸ ha' x (by simp[Op.operands])⟩) k hd
theorem Rk {f:FuncId} {as bs:List PV} {X:PV} (hl:as.length=bs.length) (h: ∀ i (h1:i < as.length) (h2:i < bs.length),Le as[i] bs[i]) (hc:Fn P f bs X):Fn P f as X:=fun vs w g LF hv hi=>
 hc vs w g LF ⟨hv.len.trans hl,fun i h1 h2=>h i (by omega) h2 g _ (hv.at_ i h1 (by omega))⟩ hi
theorem kD {T f0 o0 s0:Nat} {x0:Operand} {a0:PV} {z c0 r0:List PV} [hS:Cb P T] [hZ:Cu P T z] [hF0:Ba P T f0 o0 s0] (h0:ρ.ev x0=a0) [hC0:Dq a0 c0] [hP0:Ek z o0 c0 r0] [hl0:Cz c0 s0]
  (k:AW P N all K fl.tail os (CT ρ d (.agg r0)) L) (hd:Nat.blt d N=true:=by rfl):AW P N all K fl (⟨some d,.build T #[(f0,x0)],ty,pos,af,none⟩::os) ρ L:=
 gi (h0 ▸ hC0.out) hl0.out k hd
theorem kC {T f0 f1 o0 o1 s0 s1:Nat} {x0 x1:Operand} {a0 a1:PV} {z c0 c1 r0 r1:List PV} [hS:Cb P T] [hZ:Cu P T z] [hF0:Ba P T f0 o0 s0] [hF1:Ba P T f1 o1 s1] (h0:ρ.ev x0=a0) (h1:ρ.ev x1=a1) [hC0:Dq a0 c0] [hC1:Dq a1 c1] [hP0:Ek z o0 c0 r0] [hP1:Ek r0 o1 c1 r1] [hl0:Cz c0 s0] [hl1:Cz c1 s1]
  (k:AW P N all K fl.tail os (CT ρ d (.agg r1)) L) (hd:Nat.blt d N=true:=by rfl):AW P N all K fl (⟨some d,.build T #[(f0,x0),(f1,x1)],ty,pos,af,none⟩::os) ρ L:=
 Xg (h0 ▸ hC0.out) (h1 ▸ hC1.out) hl0.out hl1.out k hd
theorem kB {T f0 f1 f2 o0 o1 o2 s0 s1 s2:Nat} {x0 x1 x2:Operand} {a0 a1 a2:PV} {z c0 c1 c2 r0 r1 r2:List PV} [hS:Cb P T] [hZ:Cu P T z] [hF0:Ba P T f0 o0 s0] [hF1:Ba P T f1 o1 s1] [hF2:Ba P T f2 o2 s2] (h0:ρ.ev x0=a0) (h1:ρ.ev x1=a1) (h2:ρ.ev x2=a2) [hC0:Dq a0 c0] [hC1:Dq a1 c1] [hC2:Dq a2 c2] [hP0:Ek z o0 c0 r0] [hP1:Ek r0 o1 c1 r1] [hP2:Ek r1 o2 c2 r2] [hl0:Cz c0 s0] [hl1:Cz c1 s1] [hl2:Cz c2 s2]
  (k:AW P N all K fl.tail os (CT ρ d (.agg r2)) L) (hd:Nat.blt d N=true:=by rfl):AW P N all K fl (⟨some d,.build T #[(f0,x0),(f1,x1),(f2,x2)],ty,pos,af,none⟩::os) ρ L:=
 gh (h0 ▸ hC0.out) (h1 ▸ hC1.out) (h2 ▸ hC2.out) hl0.out hl1.out hl2.out k hd
theorem kA {T f0 f1 f2 f3 o0 o1 o2 o3 s0 s1 s2 s3:Nat} {x0 x1 x2 x3:Operand} {a0 a1 a2 a3:PV} {z c0 c1 c2 c3 r0 r1 r2 r3:List PV} [hS:Cb P T] [hZ:Cu P T z] [hF0:Ba P T f0 o0 s0] [hF1:Ba P T f1 o1 s1] [hF2:Ba P T f2 o2 s2] [hF3:Ba P T f3 o3 s3] (h0:ρ.ev x0=a0) (h1:ρ.ev x1=a1) (h2:ρ.ev x2=a2) (h3:ρ.ev x3=a3) [hC0:Dq a0 c0] [hC1:Dq a1 c1] [hC2:Dq a2 c2] [hC3:Dq a3 c3] [hP0:Ek z o0 c0 r0] [hP1:Ek r0 o1 c1 r1] [hP2:Ek r1 o2 c2 r2] [hP3:Ek r2 o3 c3 r3] [hl0:Cz c0 s0] [hl1:Cz c1 s1] [hl2:Cz c2 s2] [hl3:Cz c3 s3]
  (k:AW P N all K fl.tail os (CT ρ d (.agg r3)) L) (hd:Nat.blt d N=true:=by rfl):AW P N all K fl (⟨some d,.build T #[(f0,x0),(f1,x1),(f2,x2),(f3,x3)],ty,pos,af,none⟩::os) ρ L:=
 gg (h0 ▸ hC0.out) (h1 ▸ hC1.out) (h2 ▸ hC2.out) (h3 ▸ hC3.out) hl0.out hl1.out hl2.out hl3.out k hd
theorem k9 {T f0 f1 f2 f3 f4 o0 o1 o2 o3 o4 s0 s1 s2 s3 s4:Nat} {x0 x1 x2 x3 x4:Operand} {a0 a1 a2 a3 a4:PV} {z c0 c1 c2 c3 c4 r0 r1 r2 r3 r4:List PV} [hS:Cb P T] [hZ:Cu P T z] [hF0:Ba P T f0 o0 s0] [hF1:Ba P T f1 o1 s1] [hF2:Ba P T f2 o2 s2] [hF3:Ba P T f3 o3 s3] [hF4:Ba P T f4 o4 s4] (h0:ρ.ev x0=a0) (h1:ρ.ev x1=a1) (h2:ρ.ev x2=a2) (h3:ρ.ev x3=a3) (h4:ρ.ev x4=a4) [hC0:Dq a0 c0] [hC1:Dq a1 c1] [hC2:Dq a2 c2] [hC3:Dq a3 c3] [hC4:Dq a4 c4] [hP0:Ek z o0 c0 r0] [hP1:Ek r0 o1 c1 r1] [hP2:Ek r1 o2 c2 r2] [hP3:Ek r2 o3 c3 r3] [hP4:Ek r3 o4 c4 r4] [hl0:Cz c0 s0] [hl1:Cz c1 s1] [hl2:Cz c2 s2] [hl3:Cz c3 s3] [hl4:Cz c4 s4]
  (k:AW P N all K fl.tail os (CT ρ d (.agg r4)) L) (hd:Nat.blt d N=true:=by rfl):AW P N all K fl (⟨some d,.build T #[(f0,x0),(f1,x1),(f2,x2),(f3,x3),(f4,x4)],ty,pos,af,none⟩::os) ρ L:=
 gf (h0 ▸ hC0.out) (h1 ▸ hC1.out) (h2 ▸ hC2.out) (h3 ▸ hC3.out) (h4 ▸ hC4.out) hl0.out hl1.out hl2.out hl3.out hl4.out k hd
theorem jz {T f0 f1 f2 f3 f4 f5 o0 o1 o2 o3 o4 o5 s0 s1 s2 s3 s4 s5:Nat} {x0 x1 x2 x3 x4 x5:Operand} {a0 a1 a2 a3 a4 a5:PV} {z c0 c1 c2 c3 c4 c5 r0 r1 r2 r3 r4 r5:List PV} [hS:Cb P T] [hZ:Cu P T z] [hF0:Ba P T f0 o0 s0] [hF1:Ba P T f1 o1 s1] [hF2:Ba P T f2 o2 s2] [hF3:Ba P T f3 o3 s3] [hF4:Ba P T f4 o4 s4] [hF5:Ba P T f5 o5 s5] (h0:ρ.ev x0=a0) (h1:ρ.ev x1=a1) (h2:ρ.ev x2=a2) (h3:ρ.ev x3=a3) (h4:ρ.ev x4=a4) (h5:ρ.ev x5=a5) [hC0:Dq a0 c0] [hC1:Dq a1 c1] [hC2:Dq a2 c2] [hC3:Dq a3 c3] [hC4:Dq a4 c4] [hC5:Dq a5 c5] [hP0:Ek z o0 c0 r0] [hP1:Ek r0 o1 c1 r1] [hP2:Ek r1 o2 c2 r2] [hP3:Ek r2 o3 c3 r3] [hP4:Ek r3 o4 c4 r4] [hP5:Ek r4 o5 c5 r5] [hl0:Cz c0 s0] [hl1:Cz c1 s1] [hl2:Cz c2 s2] [hl3:Cz c3 s3] [hl4:Cz c4 s4] [hl5:Cz c5 s5]
  (k:AW P N all K fl.tail os (CT ρ d (.agg r5)) L) (hd:Nat.blt d N=true:=by rfl):AW P N all K fl (⟨some d,.build T #[(f0,x0),(f1,x1),(f2,x2),(f3,x3),(f4,x4),(f5,x5)],ty,pos,af,none⟩::os) ρ L:=
 gb (h0 ▸ hC0.out) (h1 ▸ hC1.out) (h2 ▸ hC2.out) (h3 ▸ hC3.out) (h4 ▸ hC4.out) (h5 ▸ hC5.out) hl0.out hl1.out hl2.out hl3.out hl4.out hl5.out k hd
theorem oZ {T sz by_:Nat} [hE:Ff P T sz by_] {x0:Operand} {a0:PV} {α:Type} {f:α→List PV} {e0:α} (q0:ρ.ev x0=a0) [hC0:Fg a0 f e0] [hf:KY f sz] (h24:1*sz≤16777216)
  (k:AW P N all K fl.tail os (CT ρ d (.slice ([e0].map f) .ro)) L) (hd:Nat.blt d N=true:=by rfl):AW P N all K fl (⟨some d,.buildSlice T 1 #[(0,x0)],ty,pos,af,none⟩::os) ρ L:=
 Bb hd (Qg (xs:= [x0]) (cs:= [e0].map f) rfl rfl h24 (by decide) (fun i h1 h2=>by
  match i,h1,h2 with
  |0,_,_=>exact⟨q0 ▸ hC0.out,hf.out e0⟩
  |m+1,h1,_=>exact absurd h1 (by simp only[AH,Aa];omega))) k
theorem u5 {T sz by_:Nat} [hE:Ff P T sz by_] {x0 x1:Operand} {a0 a1:PV} {α:Type} {f:α→List PV} {e0 e1:α} (q0:ρ.ev x0=a0) (q1:ρ.ev x1=a1) [hC0:Fg a0 f e0] [hC1:Fg a1 f e1] [hf:KY f sz] (h24:2*sz≤16777216)
  (k:AW P N all K fl.tail os (CT ρ d (.slice ([e0,e1].map f) .ro)) L) (hd:Nat.blt d N=true:=by rfl):AW P N all K fl (⟨some d,.buildSlice T 2 #[(0,x0),(1,x1)],ty,pos,af,none⟩::os) ρ L:=
 Bb hd (Qg (xs:= [x0,x1]) (cs:= [e0,e1].map f) rfl rfl h24 (by decide) (fun i h1 h2=>by
  match i,h1,h2 with
  |0,_,_=>exact⟨q0 ▸ hC0.out,hf.out e0⟩
  |1,_,_=>exact⟨q1 ▸ hC1.out,hf.out e1⟩
  |m+2,h1,_=>exact absurd h1 (by simp only[AH,Aa];omega))) k
theorem u4 {T sz by_:Nat} [hE:Ff P T sz by_] {x0 x1 x2:Operand} {a0 a1 a2:PV} {α:Type} {f:α→List PV} {e0 e1 e2:α} (q0:ρ.ev x0=a0) (q1:ρ.ev x1=a1) (q2:ρ.ev x2=a2) [hC0:Fg a0 f e0] [hC1:Fg a1 f e1] [hC2:Fg a2 f e2] [hf:KY f sz] (h24:3*sz≤16777216)
  (k:AW P N all K fl.tail os (CT ρ d (.slice ([e0,e1,e2].map f) .ro)) L) (hd:Nat.blt d N=true:=by rfl):AW P N all K fl (⟨some d,.buildSlice T 3 #[(0,x0),(1,x1),(2,x2)],ty,pos,af,none⟩::os) ρ L:=
 Bb hd (Qg (xs:= [x0,x1,x2]) (cs:= [e0,e1,e2].map f) rfl rfl h24 (by decide) (fun i h1 h2=>by
  match i,h1,h2 with
  |0,_,_=>exact⟨q0 ▸ hC0.out,hf.out e0⟩
  |1,_,_=>exact⟨q1 ▸ hC1.out,hf.out e1⟩
  |2,_,_=>exact⟨q2 ▸ hC2.out,hf.out e2⟩
  |m+3,h1,_=>exact absurd h1 (by simp only[AH,Aa];omega))) k
theorem tz {T sz by_:Nat} [hE:Ff P T sz by_] {x0 x1 x2 x3:Operand} {a0 a1 a2 a3:PV} {α:Type} {f:α→List PV} {e0 e1 e2 e3:α} (q0:ρ.ev x0=a0) (q1:ρ.ev x1=a1) (q2:ρ.ev x2=a2) (q3:ρ.ev x3=a3) [hC0:Fg a0 f e0] [hC1:Fg a1 f e1] [hC2:Fg a2 f e2] [hC3:Fg a3 f e3] [hf:KY f sz] (h24:4*sz≤16777216)
  (k:AW P N all K fl.tail os (CT ρ d (.slice ([e0,e1,e2,e3].map f) .ro)) L) (hd:Nat.blt d N=true:=by rfl):AW P N all K fl (⟨some d,.buildSlice T 4 #[(0,x0),(1,x1),(2,x2),(3,x3)],ty,pos,af,none⟩::os) ρ L:=
 Bb hd (Qg (xs:= [x0,x1,x2,x3]) (cs:= [e0,e1,e2,e3].map f) rfl rfl h24 (by decide) (fun i h1 h2=>by
  match i,h1,h2 with
  |0,_,_=>exact⟨q0 ▸ hC0.out,hf.out e0⟩
  |1,_,_=>exact⟨q1 ▸ hC1.out,hf.out e1⟩
  |2,_,_=>exact⟨q2 ▸ hC2.out,hf.out e2⟩
  |3,_,_=>exact⟨q3 ▸ hC3.out,hf.out e3⟩
  |m+4,h1,_=>exact absurd h1 (by simp only[AH,Aa];omega))) k
theorem tx {T sz by_:Nat} [hE:Ff P T sz by_] {x0 x1 x2 x3 x4:Operand} {a0 a1 a2 a3 a4:PV} {α:Type} {f:α→List PV} {e0 e1 e2 e3 e4:α} (q0:ρ.ev x0=a0) (q1:ρ.ev x1=a1) (q2:ρ.ev x2=a2) (q3:ρ.ev x3=a3) (q4:ρ.ev x4=a4) [hC0:Fg a0 f e0] [hC1:Fg a1 f e1] [hC2:Fg a2 f e2] [hC3:Fg a3 f e3] [hC4:Fg a4 f e4] [hf:KY f sz] (h24:5*sz≤16777216)
  (k:AW P N all K fl.tail os (CT ρ d (.slice ([e0,e1,e2,e3,e4].map f) .ro)) L) (hd:Nat.blt d N=true:=by rfl):AW P N all K fl (⟨some d,.buildSlice T 5 #[(0,x0),(1,x1),(2,x2),(3,x3),(4,x4)],ty,pos,af,none⟩::os) ρ L:=
 Bb hd (Qg (xs:= [x0,x1,x2,x3,x4]) (cs:= [e0,e1,e2,e3,e4].map f) rfl rfl h24 (by decide) (fun i h1 h2=>by
  match i,h1,h2 with
  |0,_,_=>exact⟨q0 ▸ hC0.out,hf.out e0⟩
  |1,_,_=>exact⟨q1 ▸ hC1.out,hf.out e1⟩
  |2,_,_=>exact⟨q2 ▸ hC2.out,hf.out e2⟩
  |3,_,_=>exact⟨q3 ▸ hC3.out,hf.out e3⟩
  |4,_,_=>exact⟨q4 ▸ hC4.out,hf.out e4⟩
  |m+5,h1,_=>exact absurd h1 (by simp only[AH,Aa];omega))) k
theorem tw {T sz by_:Nat} [hE:Ff P T sz by_] {x0 x1 x2 x3 x4 x5:Operand} {a0 a1 a2 a3 a4 a5:PV} {α:Type} {f:α→List PV} {e0 e1 e2 e3 e4 e5:α} (q0:ρ.ev x0=a0) (q1:ρ.ev x1=a1) (q2:ρ.ev x2=a2) (q3:ρ.ev x3=a3) (q4:ρ.ev x4=a4) (q5:ρ.ev x5=a5) [hC0:Fg a0 f e0] [hC1:Fg a1 f e1] [hC2:Fg a2 f e2] [hC3:Fg a3 f e3] [hC4:Fg a4 f e4] [hC5:Fg a5 f e5] [hf:KY f sz] (h24:6*sz≤16777216)
  (k:AW P N all K fl.tail os (CT ρ d (.slice ([e0,e1,e2,e3,e4,e5].map f) .ro)) L) (hd:Nat.blt d N=true:=by rfl):AW P N all K fl (⟨some d,.buildSlice T 6 #[(0,x0),(1,x1),(2,x2),(3,x3),(4,x4),(5,x5)],ty,pos,af,none⟩::os) ρ L:=
 Bb hd (Qg (xs:= [x0,x1,x2,x3,x4,x5]) (cs:= [e0,e1,e2,e3,e4,e5].map f) rfl rfl h24 (by decide) (fun i h1 h2=>by
  match i,h1,h2 with
  |0,_,_=>exact⟨q0 ▸ hC0.out,hf.out e0⟩
  |1,_,_=>exact⟨q1 ▸ hC1.out,hf.out e1⟩
  |2,_,_=>exact⟨q2 ▸ hC2.out,hf.out e2⟩
  |3,_,_=>exact⟨q3 ▸ hC3.out,hf.out e3⟩
  |4,_,_=>exact⟨q4 ▸ hC4.out,hf.out e4⟩
  |5,_,_=>exact⟨q5 ▸ hC5.out,hf.out e5⟩
  |m+6,h1,_=>exact absurd h1 (by simp only[AH,Aa];omega))) k
theorem cF {f:Nat} {X:PV} {ats:Array TypeId} [hf:Av P f] [hc:Bj P f [] X] (k:AW P N all K fl.tail os (CT ρ d X) L) (hd:Nat.blt d N=true:=by rfl):
  AW P N all K fl (⟨some d,.call { callee:= .value (.func f),args:= #[],argTypes:=ats },ty,pos,af,none⟩::os) ρ L:=
 Bb hd (SU (xs:= []) rfl hc.out) k
theorem W7 {f:Nat} {X:PV} {ats:Array TypeId} {x0:Operand} {a0 b0:PV} [hf:Av P f] (q0:ρ.ev x0=a0) [hN0:Ja a0 b0] [hc:Bj P f [b0] X] (k:AW P N all K fl.tail os (CT ρ d X) L) (hd:Nat.blt d N=true:=by rfl):
  AW P N all K fl (⟨some d,.call { callee:= .value (.func f),args:= #[x0],argTypes:=ats },ty,pos,af,none⟩::os) ρ L:=
 Bb hd (SU (xs:= [x0]) (by simp only[BH,CX,q0]) (Rk (as:= [a0]) (bs:= [b0]) rfl (fun i h1 h2=>by
  match i,h1,h2 with
  |0,_,_=>exact hN0.out
  |m+1,h1,_=>exact absurd h1 (by simp only[AH,Aa];omega)) hc.out)) k
theorem cD {f:Nat} {X:PV} {ats:Array TypeId} {x0 x1:Operand} {a0 a1 b0 b1:PV} [hf:Av P f] (q0:ρ.ev x0=a0) (q1:ρ.ev x1=a1) [hN0:Ja a0 b0] [hN1:Ja a1 b1] [hc:Bj P f [b0,b1] X] (k:AW P N all K fl.tail os (CT ρ d X) L) (hd:Nat.blt d N=true:=by rfl):
  AW P N all K fl (⟨some d,.call { callee:= .value (.func f),args:= #[x0,x1],argTypes:=ats },ty,pos,af,none⟩::os) ρ L:=
 Bb hd (SU (xs:= [x0,x1]) (by simp only[BH,CX,q0,q1]) (Rk (as:= [a0,a1]) (bs:= [b0,b1]) rfl (fun i h1 h2=>by
  match i,h1,h2 with
  |0,_,_=>exact hN0.out
  |1,_,_=>exact hN1.out
  |m+2,h1,_=>exact absurd h1 (by simp only[AH,Aa];omega)) hc.out)) k
theorem cC {f:Nat} {X:PV} {ats:Array TypeId} {x0 x1 x2:Operand} {a0 a1 a2 b0 b1 b2:PV} [hf:Av P f] (q0:ρ.ev x0=a0) (q1:ρ.ev x1=a1) (q2:ρ.ev x2=a2) [hN0:Ja a0 b0] [hN1:Ja a1 b1] [hN2:Ja a2 b2] [hc:Bj P f [b0,b1,b2] X] (k:AW P N all K fl.tail os (CT ρ d X) L) (hd:Nat.blt d N=true:=by rfl):
  AW P N all K fl (⟨some d,.call { callee:= .value (.func f),args:= #[x0,x1,x2],argTypes:=ats },ty,pos,af,none⟩::os) ρ L:=
 Bb hd (SU (xs:= [x0,x1,x2]) (by simp only[BH,CX,q0,q1,q2]) (Rk (as:= [a0,a1,a2]) (bs:= [b0,b1,b2]) rfl (fun i h1 h2=>by
  match i,h1,h2 with
  |0,_,_=>exact hN0.out
  |1,_,_=>exact hN1.out
  |2,_,_=>exact hN2.out
  |m+3,h1,_=>exact absurd h1 (by simp only[AH,Aa];omega)) hc.out)) k
theorem cB {f:Nat} {X:PV} {ats:Array TypeId} {x0 x1 x2 x3:Operand} {a0 a1 a2 a3 b0 b1 b2 b3:PV} [hf:Av P f] (q0:ρ.ev x0=a0) (q1:ρ.ev x1=a1) (q2:ρ.ev x2=a2) (q3:ρ.ev x3=a3) [hN0:Ja a0 b0] [hN1:Ja a1 b1] [hN2:Ja a2 b2] [hN3:Ja a3 b3] [hc:Bj P f [b0,b1,b2,b3] X] (k:AW P N all K fl.tail os (CT ρ d X) L) (hd:Nat.blt d N=true:=by rfl):
  AW P N all K fl (⟨some d,.call { callee:= .value (.func f),args:= #[x0,x1,x2,x3],argTypes:=ats },ty,pos,af,none⟩::os) ρ L:=
 Bb hd (SU (xs:= [x0,x1,x2,x3]) (by simp only[BH,CX,q0,q1,q2,q3]) (Rk (as:= [a0,a1,a2,a3]) (bs:= [b0,b1,b2,b3]) rfl (fun i h1 h2=>by
  match i,h1,h2 with
  |0,_,_=>exact hN0.out
  |1,_,_=>exact hN1.out
  |2,_,_=>exact hN2.out
  |3,_,_=>exact hN3.out
  |m+4,h1,_=>exact absurd h1 (by simp only[AH,Aa];omega)) hc.out)) k
end
def Dig.at (d:Dig) (i:Nat):UInt8:=d.bs.getD i 0
theorem Dig.ext_at {a b:Dig} (h: ∀ i,i < 32→a.at i=b.at i):a=b:=Dig.ext (GK (by rw[a.len,b.len]) fun i h1 h2=>by
 have:=h i (by rw[←a.len];exact h1)
 simpa [Dig.at,h1,h2]using this)
section
variable {P:Program} {N:Nat} {all:Array Oper} {K:Env→List Res→Prop} {fl:List Bool} {os:List Oper} {ρ:Env} {L:List Res}
variable {d:Nat} {ty:TypeId} {pos:String} {af:Array Edge}
theorem PN {T n E sz by_:Nat} [hT:U4 P T n E] [hE:EG P E sz by_] {x y:Operand} {b off:Nat} {kk:IntKind} {i:Nat} (hx:ρ.ev x= .raw (.pointer (some ⟨b,off,none⟩))) (hy:ρ.ev y= .raw (.int kk (i:Int))) (hi:i < n)
  (k:AW P N all K fl.tail os (CT ρ d (.raw (.pointer (some ⟨b,off+i*sz,none⟩)))) L) (hd:Nat.blt d N=true:=by rfl):AW P N all K fl (⟨some d,.indexAddr T x y,ty,pos,af,none⟩::os) ρ L:=
 Bb hd (B7 fun a w g ha hI=>by
  have h1:=CW ha (x:=x) (by simp[Op.operands]) hx
  have h2:=CW ha (x:=y) (by simp[Op.operands]) hy
  refine⟨.pointer (some ⟨b,off+i*sz,none⟩),?_,.raw _⟩
  have h3:(0:Int)≤(i:Int)∧(i:Int) < (n:Int):=by omega
  simp[execOp,Instr.indexAt,h1,h2,asIntOf,Hf hT.out,Instr.sureAddr,h3,EG.run hE,DQ];intro h4;omega) k
theorem gU {T:TypeId} {E sz by_:Nat} [hT:L0 P T E] [hE:EG P E sz by_] {x y:Operand} {α:Type} {f:α→List PV} [hf:KY f sz] {l:List α} {t:CZ} {kk:IntKind} {n:Int} (hx:ρ.ev x= .slice (l.map f) t) (hy:ρ.ev y= .raw (.int kk n)) (h0:0≤n) (hn:n.toNat < l.length)
  (k:AW P N all K fl.tail os (CT ρ d (.pt (f l[n.toNat]) 0)) L) (hd:Nat.blt d N=true:=by rfl):
  AW P N all K fl (⟨some d,.indexAddr T x y,ty,pos,af,none⟩::os) ρ L:=
 bR hx hy h0 (by simpa using hn) (by simp[hf.out]) (by simpa using k) hd
theorem bQ {T:Nat} [hT:DH P T] {x:Operand} {b off i T':Nat} {dd:Dig} (hx:ρ.ev x= .raw (.pointer (some ⟨b,0+i*1,none⟩))) (hm:Res.box b T' (eDig dd)∈L) (hi:i < 32) (k:AW P N all K fl.tail os (CT ρ d (.raw (.int .u8 ((dd.at i).toNat:Int)))) L) (hd:Nat.blt d N=true:=by rfl) (_:off=0:=by rfl):
  AW P N all K fl (⟨some d,.load T x,ty,pos,af,none⟩::os) ρ L:=
 S4 hx hm (by
  have h:i < dd.bs.length:=by rw[dd.len];exact hi
  simp[eDig,h,eU8,u8,Dig.at]) k hd
theorem UQ {T n E sz by_:Nat} {z:List PV} [hT:U4 P T n E] [hE:EG P E sz by_] [hZ:Cu P T z] (k:AW P N all K fl.tail os (CT ρ d (.agg z)) L) (hd:Nat.blt d N=true:=by rfl):AW P N all K fl (⟨some d,.build T #[],ty,pos,af,none⟩::os) ρ L:=
 Bb hd (B7 fun a w g ha hi=>by
  obtain⟨i,v,us,h1,h2,h3,h4⟩:=hZ.out
  refine⟨.agg us.toArray,?_,(h4 g).agg⟩
  show(do pure (Next.value (←Instr.build T ((#[]:Array (Nat × Operand)).map fun(p:Nat × Operand)=>(p.1,a.eval p.2)))):Sem Next).run P w=_
  simp only[Instr.build,Sem.run_bind,zeroValue,typeInfo,run_program,h1,Sem.run_pure,Result.andThen_ok,h2,run_underlying hT.out,EG.run hE,h3]
  simp[Instr.fill]) k
theorem H6 {T T₂ E₂ sz bytes:Nat} [hT:Ff P T sz bytes] [hT₂:L0 P T₂ E₂] {x y:Operand} {α:Type} {f:α→List PV} [hf:KY f sz] [hff:Gd f] {m:List α} {u:CZ}
  (hx:ρ.ev x= .slice [] .nil) (hy:ρ.ev y= .slice (m.map f) u) (hb:m.length*bytes≤140737488355328) (hm:m.length≤140737488355328)
  (k: ∀ t',AW P N all K fl.tail os (CT ρ d (.slice (m.map f) t')) (.tok t' m.length sz::L)) (hd:Nat.blt d N=true:=by rfl) (hfl:fl.headD true=true:=by rfl):
  AW P N all K fl (⟨some d,.call { callee:= .builtin .append,args:= #[x,y],argTypes:= #[T,T₂] },ty,pos,af,none⟩::os) ρ L:=
 Dp rfl (QF hd) hfl (fun a w g ha hi=>by
  have h:=Sd (P:=P) (T:=T) (T₂:=T₂) (dst:=some d) (ty:=ty) (pos:=pos) (af:=af) (gd:=none) (ρ:=ρ) (L:= .tok .nil 0 sz::L) (L':=fun t'=> .tok t' ([].length+(m.map f).length) sz::L) (xs:= []) (t:= .nil) hx hy (by simp) (fun e he=>by obtain⟨a,_,rfl⟩:=AX.1 he;exact hf.out a) (fun e he=>by obtain⟨a,_,rfl⟩:=AX.1 he;exact hff.out a)
   (by simpa using hb) (by simp;exact hm) (fun t'=> .here) (Ψ:=fun x' L'=>AW P N all K fl.tail os (CT ρ d x') L') (fun t'=>by simpa using k t') a w g ha (hi.tok sz)
  exact h)
theorem dm {dst:Option Nat} {op:Op} {j:Nat} {b p:Bool} {s:Nat} (hs:(all[j]?).bind (·.dst)=some s) (h:ρ s= .raw (.bool p)) (hp:p=b) (k:AW P N all K fl (⟨dst,op,ty,pos,af,none⟩::os) ρ L):
  AW P N all K fl (⟨dst,op,ty,pos,af,some (j,b)⟩::os) ρ L:=Y4 hs (hp ▸ h) k
theorem Y5 {j:Nat} {op:Op} {p:Bool} {s:Nat} (hs:(all[j]?).bind (·.dst)=some s) (h:ρ s= .raw (.bool p)) (hp:p=false) (k:AW P N all K fl.tail os (CT ρ d (.raw undef)) L) (hd:Nat.blt d N=true:=by rfl):
  AW P N all K fl (⟨some d,op,ty,pos,af,some (j,true)⟩::os) ρ L:=Vy hs h (by subst hp;simp) (QF hd) k
theorem Y6 {j:Nat} {op:Op} {p:Bool} {s:Nat} (hs:(all[j]?).bind (·.dst)=some s) (h:ρ s= .raw (.bool p)) (hp:p=true) (k:AW P N all K fl.tail os (CT ρ d (.raw undef)) L) (hd:Nat.blt d N=true:=by rfl):
  AW P N all K fl (⟨some d,op,ty,pos,af,some (j,false)⟩::os) ρ L:=Vy hs h (by subst hp;simp) (QF hd) k
theorem iW {j:Nat} {b:Bool} {op:Op} {s:Nat} (hs:(all[j]?).bind (·.dst)=some s) (h:ρ s= .raw undef) (k:AW P N all K fl.tail os (CT ρ d (.raw undef)) L) (hd:Nat.blt d N=true:=by rfl):
  AW P N all K fl (⟨some d,op,ty,pos,af,some (j,b)⟩::os) ρ L:=Vy hs h (by simp[undef]) (QF hd) k
theorem Aw {dst:Option Nat} {op:Op} {j:Nat} {b p:Bool} {s:Nat} (kT:p=true→AW P N all K fl (⟨dst,op,ty,pos,af,some (j,b)⟩::os) ρ L) (kF:p=false→AW P N all K fl (⟨dst,op,ty,pos,af,some (j,b)⟩::os) ρ L)
  (_:(all[j]?).bind (·.dst)=some s:=by rfl) (_:ρ s= .raw (.bool p):=by conv=>lhs;whnf):AW P N all K fl (⟨dst,op,ty,pos,af,some (j,b)⟩::os) ρ L:=by
 cases p
 ·exact kF rfl
 ·exact kT rfl
theorem XW {c x y:Operand} {p:Bool} {v:PV} (hc:ρ.ev c= .raw (.bool p)) (hp:p=true) (hv:ρ.ev x=v) (k:AW P N all K fl.tail os (CT ρ d v) L) (hd:Nat.blt d N=true:=by rfl):AW P N all K fl (⟨some d,.pick c x y,ty,pos,af,none⟩::os) ρ L:=lb (hp ▸ hc) (by rw[hv];exact k) hd
theorem XX {c x y:Operand} {p:Bool} {v:PV} (hc:ρ.ev c= .raw (.bool p)) (hp:p=false) (hv:ρ.ev y=v) (k:AW P N all K fl.tail os (CT ρ d v) L) (hd:Nat.blt d N=true:=by rfl):AW P N all K fl (⟨some d,.pick c x y,ty,pos,af,none⟩::os) ρ L:=lf (hp ▸ hc) (by rw[hv];exact k) hd
theorem Hp {s:Nat} {x y:Code} {Q:PPost} (hc:ρ s= .raw (.bool true)) (h:EB P N x Q ρ L):EB P N (.cond (.tmp s) x y) Q ρ L:=LP hc (fun _=>h) (by simp)
theorem Hq {s:Nat} {x y:Code} {Q:PPost} (hc:ρ s= .raw (.bool false)) (h:EB P N y Q ρ L):EB P N (.cond (.tmp s) x y) Q ρ L:=LP hc (by simp) (fun _=>h)
end
def Mo (a b:Nat):Nat:=(a+b) % 4294967296
def X2 (a b:Nat):Nat:=(a % 4294967296)&&& (b % 4294967296)
def dr (a b:Nat):Nat:=(a % 4294967296)|||(b % 4294967296)
def LA (a b:Nat):Nat:=(a % 4294967296) ^^^ (b % 4294967296)
def mc (a:Nat):Nat:=4294967295 ^^^ (a % 4294967296)
def Vb (a n:Nat):Nat:=a / 2 ^ (min n 32)
def XM (a n:Nat):Nat:=(a*2 ^ (min n 32)) % 4294967296
theorem K3 (a:Nat):(BitVec.ofInt 32 (a:Int)).toNat=a % 4294967296:=by
 rw[BitVec.toNat_ofInt];norm_cast
theorem Lg (a:Nat) (h:a < 4294967296):IntKind.u32.wrap (a:Int)=(a:Int):=IntWalk.u32_in _ ⟨by omega,by omega⟩
theorem Lh (a:Nat):IntKind.u32.wrap (a:Int)=((a % 4294967296:Nat):Int):=by rw[IntKind.wrap_u32];omega
theorem Uc (n:Nat):((2:Int) ^ n)=((2 ^ n:Nat):Int):=by norm_cast
theorem Q5 (a n:Nat):((a:Int).fdiv (2 ^ n))=((a / 2 ^ n:Nat):Int):=by
 rw[Uc,Int.fdiv_eq_ediv_of_nonneg _ (Int.natCast_nonneg _)];norm_cast
theorem mi (a n:Nat):((a:Int)*(2 ^ n))=((a*2 ^ n:Nat):Int):=by rw[Uc];norm_cast
theorem Z7 (a b:Nat):Op.intBits .xor .u32 (a:Int) (b:Int)=pure (.int .u32 ((LA a b:Nat):Int)):=by
 have h:(BitVec.ofInt 32 (a:Int) ^^^ BitVec.ofInt 32 (b:Int)).toNat=LA a b:=by rw[BitVec.toNat_xor,K3,K3];rfl
 have h2:LA a b < 4294967296:=by rw[←h];exact BitVec.isLt _
 show pure (Value.int .u32 (IntKind.u32.wrap ((BitVec.ofInt 32 (a:Int) ^^^ BitVec.ofInt 32 (b:Int)).toNat:Int)))=_
 rw[h,Lg _ h2]
theorem jt (a b:Nat):Op.intBits .and .u32 (a:Int) (b:Int)=pure (.int .u32 ((X2 a b:Nat):Int)):=by
 have h:(BitVec.ofInt 32 (a:Int)&&& BitVec.ofInt 32 (b:Int)).toNat=X2 a b:=by rw[BitVec.toNat_and,K3,K3];rfl
 have h2:X2 a b < 4294967296:=by rw[←h];exact BitVec.isLt _
 show pure (Value.int .u32 (IntKind.u32.wrap ((BitVec.ofInt 32 (a:Int)&&& BitVec.ofInt 32 (b:Int)).toNat:Int)))=_
 rw[h,Lg _ h2]
theorem nb (a b:Nat):Op.intBits .or .u32 (a:Int) (b:Int)=pure (.int .u32 ((dr a b:Nat):Int)):=by
 have h:(BitVec.ofInt 32 (a:Int)|||BitVec.ofInt 32 (b:Int)).toNat=dr a b:=by rw[BitVec.toNat_or,K3,K3];rfl
 have h2:dr a b < 4294967296:=by rw[←h];exact BitVec.isLt _
 show pure (Value.int .u32 (IntKind.u32.wrap ((BitVec.ofInt 32 (a:Int)|||BitVec.ofInt 32 (b:Int)).toNat:Int)))=_
 rw[h,Lg _ h2]
section
variable {P:Program} {N:Nat} {all:Array Oper} {K:Env→List Res→Prop} {fl:List Bool} {os:List Oper} {ρ:Env} {L:List Res}
variable {d:Nat} {ty:TypeId} {pos:String} {af:Array Edge} {T T':TypeId} {x y:Operand} {a b:Nat}
theorem gm (hx:ρ.ev x= .raw (.int .u32 (a:Int))) (hy:ρ.ev y= .raw (.int .u32 (b:Int))) (k:AW P N all K fl.tail os (CT ρ d (.raw (.int .u32 (Mo a b:Nat)))) L) (hd:Nat.blt d N=true:=by rfl):
  AW P N all K fl (⟨some d,.binOp .add T x y T',ty,pos,af,none⟩::os) ρ L:=GY hx hy (fun w=>by
   have e:((a:Int)+(b:Int))=((a+b:Nat):Int):=by omega
   simp only[binOp,ne_eq,not_true_eq_false,if_false,Op.intArith,e,Lh,Mo];rfl) k hd
theorem fv (hx:ρ.ev x= .raw (.int .u32 (a:Int))) (hy:ρ.ev y= .raw (.int .u32 (b:Int))) (k:AW P N all K fl.tail os (CT ρ d (.raw (.int .u32 (LA a b:Nat)))) L) (hd:Nat.blt d N=true:=by rfl):
  AW P N all K fl (⟨some d,.binOp .xor T x y T',ty,pos,af,none⟩::os) ρ L:=GY hx hy (fun w=>by simp only[binOp,ne_eq,not_true_eq_false,if_false,Z7];rfl) k hd
theorem gl (hx:ρ.ev x= .raw (.int .u32 (a:Int))) (hy:ρ.ev y= .raw (.int .u32 (b:Int))) (k:AW P N all K fl.tail os (CT ρ d (.raw (.int .u32 (X2 a b:Nat)))) L) (hd:Nat.blt d N=true:=by rfl):
  AW P N all K fl (⟨some d,.binOp .and T x y T',ty,pos,af,none⟩::os) ρ L:=GY hx hy (fun w=>by simp only[binOp,ne_eq,not_true_eq_false,if_false,jt];rfl) k hd
theorem oI (hx:ρ.ev x= .raw (.int .u32 (a:Int))) (hy:ρ.ev y= .raw (.int .u32 (b:Int))) (k:AW P N all K fl.tail os (CT ρ d (.raw (.int .u32 (dr a b:Nat)))) L) (hd:Nat.blt d N=true:=by rfl):
  AW P N all K fl (⟨some d,.binOp .or T x y T',ty,pos,af,none⟩::os) ρ L:=GY hx hy (fun w=>by simp only[binOp,ne_eq,not_true_eq_false,if_false,nb];rfl) k hd
theorem gI (hx:ρ.ev x= .raw (.int .u32 (a:Int))) (k:AW P N all K fl.tail os (CT ρ d (.raw (.int .u32 (mc a:Nat)))) L) (hd:Nat.blt d N=true:=by rfl):AW P N all K fl (⟨some d,.unOp .xor T x,ty,pos,af,none⟩::os) ρ L:=
 Bb hd (B7 fun a' w g ha hi=>⟨.int .u32 (mc a:Nat),by
  have h1:=CW ha (x:=x) (by simp[Op.operands]) hx
  have e:IntKind.u32.max=((4294967295:Nat):Int):=by decide
  have hs:IntKind.u32.signed=false:=rfl
  have e2:LA 4294967295 a=mc a:=rfl
  simp only[execOp,h1,Op.unary,hs,BP,if_false,e,Z7,e2];rfl,.raw _⟩) k
theorem gD (hx:ρ.ev x= .raw (.int .u32 (a:Int))) (hy:ρ.ev y= .raw (.int .u64 (b:Int))) (k:AW P N all K fl.tail os (CT ρ d (.raw (.int .u32 (Vb a b:Nat)))) L) (hd:Nat.blt d N=true:=by rfl):
  AW P N all K fl (⟨some d,.binOp .shr T x y T',ty,pos,af,none⟩::os) ρ L:=GY hx hy (fun w=>by
   have h0: ¬(b:Int) < 0:=by omega
   simp only[binOp,Op.shift,h0,if_false,IntKind.bits,Br]
   rw[Q5];rfl) k hd
theorem gG (hx:ρ.ev x= .raw (.int .u32 (a:Int))) (hy:ρ.ev y= .raw (.int .u64 (b:Int))) (k:AW P N all K fl.tail os (CT ρ d (.raw (.int .u32 (XM a b:Nat)))) L) (hd:Nat.blt d N=true:=by rfl):
  AW P N all K fl (⟨some d,.binOp .shl T x y T',ty,pos,af,none⟩::os) ρ L:=GY hx hy (fun w=>by
   have h0: ¬(b:Int) < 0:=by omega
   simp only[binOp,Op.shift,h0,if_false,IntKind.bits,Br]
   rw[mi,Lh];rfl) k hd
theorem Vc (hx:ρ.ev x= .raw (.int .u64 (a:Int))) (hy:ρ.ev y= .raw (.int .u64 (b:Int))) (h1:b≤a) (h2:a≤18446744073709551615) (k:AW P N all K fl.tail os (CT ρ d (.raw (.int .u64 ((a - b:Nat):Int)))) L) (hd:Nat.blt d N=true:=by rfl):
  AW P N all K fl (⟨some d,.binOp .sub T x y T',ty,pos,af,none⟩::os) ρ L:=GY hx hy (fun w=>by
   have e:((a:Int) - (b:Int))=((a - b:Nat):Int):=by omega
   simp only[binOp,ne_eq,not_true_eq_false,if_false,Op.intArith,e]
   rw[IntWalk.u64_in _ ⟨by omega,by omega⟩];rfl) k hd
theorem Vd (hx:ρ.ev x= .raw (.int .u64 (a:Int))) (hy:ρ.ev y= .raw (.int .u64 (b:Int))) (h2:a*b≤18446744073709551615) (k:AW P N all K fl.tail os (CT ρ d (.raw (.int .u64 ((a*b:Nat):Int)))) L) (hd:Nat.blt d N=true:=by rfl):
  AW P N all K fl (⟨some d,.binOp .mul T x y T',ty,pos,af,none⟩::os) ρ L:=GY hx hy (fun w=>by
   have e:((a:Int)*(b:Int))=((a*b:Nat):Int):=by norm_cast
   simp only[binOp,ne_eq,not_true_eq_false,if_false,Op.intArith,e]
   rw[IntWalk.u64_in _ ⟨by omega,by omega⟩];rfl) k hd
theorem gF (hx:ρ.ev x= .raw (.int .u64 (a:Int))) (hy:ρ.ev y= .raw (.int .u64 (b:Int))) (k:AW P N all K fl.tail os (CT ρ d (.raw (.int .u64 ((a / 2 ^ (min b 64):Nat):Int)))) L) (hd:Nat.blt d N=true:=by rfl):
  AW P N all K fl (⟨some d,.binOp .shr T x y T',ty,pos,af,none⟩::os) ρ L:=GY hx hy (fun w=>by
   have h0: ¬(b:Int) < 0:=by omega
   simp only[binOp,Op.shift,h0,if_false,IntKind.bits,Br]
   rw[Q5];rfl) k hd
theorem bc {S:TypeId} {k':IntKind} [hS:MU P S k'] [hT:MU P T .u8] {k₀:IntKind} (hx:ρ.ev x= .raw (.int k₀ (a:Int))) (k:AW P N all K fl.tail os (CT ρ d (.raw (.int .u8 ((UInt8.ofNat a).toNat:Int)))) L) (hd:Nat.blt d N=true:=by rfl):
  AW P N all K fl (⟨some d,.convert S T x,ty,pos,af,none⟩::os) ρ L:=s_convI' hx k hd
 where
 s_convI' (hx:ρ.ev x= .raw (.int k₀ (a:Int))) (k:AW P N all K fl.tail os (CT ρ d (.raw (.int .u8 ((UInt8.ofNat a).toNat:Int)))) L) (hd:Nat.blt d N=true):AW P N all K fl (⟨some d,.convert S T x,ty,pos,af,none⟩::os) ρ L:=
  Vg hx (by
   have e:IntKind.u8.wrap (a:Int)=((UInt8.ofNat a).toNat:Int):=by
    rw[IntKind.wrap_u8,UInt8.toNat_ofNat'];omega
   rw[e];exact k) hd
theorem bZ {S:TypeId} {k':IntKind} [hS:MU P S k'] [hT:MU P T .u32] {k₀:IntKind} (hx:ρ.ev x= .raw (.int k₀ (a:Int))) (k:AW P N all K fl.tail os (CT ρ d (.raw (.int .u32 ((a % 4294967296:Nat):Int)))) L) (hd:Nat.blt d N=true:=by rfl):
  AW P N all K fl (⟨some d,.convert S T x,ty,pos,af,none⟩::os) ρ L:=Vg hx (by rw[Lh];exact k) hd
theorem Rf {S:TypeId} {k':IntKind} [hS:MU P S k'] [hT:MU P T .u64] {k₀:IntKind} (hx:ρ.ev x= .raw (.int k₀ (a:Int))) (ha:a≤18446744073709551615) (k:AW P N all K fl.tail os (CT ρ d (.raw (.int .u64 (a:Int)))) L) (hd:Nat.blt d N=true:=by rfl):
  AW P N all K fl (⟨some d,.convert S T x,ty,pos,af,none⟩::os) ρ L:=ba hx (IntWalk.u64_in _ ⟨by omega,by omega⟩) k hd
theorem oM {n:Int} (hx:ρ.ev x= .raw (.int .i64 n)) (hb: -9223372036854775807≤n∧n≤9223372036854775807) (k:AW P N all K fl.tail os (CT ρ d (.raw (.int .i64 (-n)))) L) (hd:Nat.blt d N=true:=by rfl):AW P N all K fl (⟨some d,.unOp .neg T x,ty,pos,af,none⟩::os) ρ L:=
 Bb hd (B7 fun a' w g ha hi=>⟨.int .i64 (-n),by
  have h1:=CW ha (x:=x) (by simp[Op.operands]) hx
  simp only[execOp,h1,Op.unary,Op.intArith,Int.zero_sub]
  rw[IntWalk.i64_in _ ⟨by omega,by omega⟩];rfl,.raw _⟩) k
def eBy (b:UInt8):List PV:= [.raw (.int .u8 (b.toNat:Int))]
end
instance :KY eBy 1:=⟨fun _=>rfl⟩
instance :Gd eBy:=⟨fun _=>Ga rfl HZ⟩
instance (b:UInt8):Fg (.raw (.int .u8 (b.toNat:Int))) eBy b:=⟨.one (Gd.out (f:=eBy) b)⟩
instance (d:Dig):VL (eDig d) 0 32 (eDig d):=⟨by rw[L7,AA (by simp)];simp⟩
class kM (P:Program) (T:Nat):Prop where
 out: ∃ E,P.underlying T=some (.slice E)∧P.underlying E=some (.int .u8)
section
variable {P:Program} {N:Nat} {all:Array Oper} {K:Env→List Res→Prop} {fl:List Bool} {os:List Oper} {ρ:Env} {L:List Res}
variable {d:Nat} {ty:TypeId} {pos:String} {af:Array Edge} {T T':TypeId} {x y:Operand} {a b:Nat}
theorem fw {S:TypeId} [hS:kM P S] [hT:O6 P T] {bs:Str} {t:CZ} (hx:ρ.ev x= .slice (bs.map eBy) t) (k:AW P N all K fl.tail os (CT ρ d (.str bs)) L) (hd:Nat.blt d N=true:=by rfl):
  AW P N all K fl (⟨some d,.convert S T x,ty,pos,af,none⟩::os) ρ L:=
 Bb hd (B7 fun a' w g ha hi=>by
  obtain⟨E,e1,e2⟩:=hS.out
  have h1:=ha x (by simp[Op.operands])
  rw[hx]at h1
  have hbd:=h1.bd.slice_map
  refine⟨.string ⟨bs.toArray⟩,?_,.str hbd⟩
  show(do pure (Next.value (←convert S T (a'.eval x))):Sem Next).run P w=_
  have key:(convert S T (a'.eval x)).run P w= .ok (.string ⟨bs.toArray⟩) w:=by
   generalize a'.eval x=v at h1
   cases bs with
   |nil=>
    have hn: ∃ o cap,v= .slice o 0 cap:=by
     cases h1 with
     |nilN=>exact⟨_,_,rfl⟩
     |nilR=>exact⟨_,_,rfl⟩
     |slice sz f hl hc hm hs hH hv ht hn=>simp at hl;subst hl;exact⟨_,_,rfl⟩
    obtain⟨o,cap,rfl⟩:=hn
    cases o with
    |none=>rw[run_convert_bytes_string w S T E _ _ _ e1 e2 hT.out];simp[Conv.bytesToString];rfl
    |some ad=>exact run_convert_bytes_back w S T E ad cap [] e1 e2 hT.out (fun j hj=>by simp at hj)
   |cons b0 bs=>
    generalize hl0:b0::bs=l at h1
    generalize hxs:List.map eBy l=xs at h1
    have hne:xs≠ []:=by rw[←hxs,←hl0];simp
    cases h1 with
    |nilN=>exact absurd rfl hne
    |nilR=>exact absurd rfl hne
    |slice sz f hl hc hm hs hH hv ht hn=>
     subst hxs
     rename_i b off len cap
     have hsz:sz=1:=by
      have:=hs (eBy b0) (by rw[←hl0];simp)
      simpa [eBy]using this.symm
     subst hsz
     simp only[AF]at hl
     subst hl
     refine run_convert_bytes_back w S T E _ cap l e1 e2 hT.out (fun j hj=>?_)
     rw[DQ]
     have h2:=hi.sat _ _ _ (hH j 0 hj (by omega))
     have h3:=hv j (by simpa using hj) 0 (by simp[eBy])
     simp only[J9,DR,BT,eBy,B8]at h2 h3
     rw[h2,h3.raw_inv]
  simp only[Sem.run_bind,key,Result.andThen_ok,Sem.run_pure]) k
theorem XT [hT:U3 P T] {bb off:Nat} (hx:ρ.ev x= .raw (.pointer (some ⟨bb,off,none⟩))) (k:AW P N all K fl.tail os (CT ρ d (.raw (.slice (some ⟨bb,off,none⟩) 32 32))) L) (hd:Nat.blt d N=true:=by rfl):
  AW P N all K fl (⟨some d,.slice T x none none none,ty,pos,af,none⟩::os) ρ L:=
 Bb hd (B7 fun a' w g ha hi=>by
  obtain⟨E,i,e1,e2,e3,e4⟩:=hT.arr
  have h1:=CW ha (x:=x) (by simp[Op.operands]) hx
  refine⟨.slice (some ⟨bb,off,none⟩) 32 32,?_,.raw _⟩
  show(do pure (Next.value (←Instr.sliceAt T (a'.eval x) none none none)):Sem Next).run P w=_
  simp[Instr.sliceAt,Hf e1,h1,Instr.sureAddr,Instr.sliceBounds,sizeOf,typeInfo,e3,e4,DQ]) k
theorem XO {S:TypeId} [hS:kM P S] [hT:O6 P T] {bb off T₂:Nat} {cs:List PV} {dg:Dig} (hx:ρ.ev x= .raw (.slice (some ⟨bb,off,none⟩) 32 32)) (hm:Res.box bb T₂ cs∈L) [hs:VL cs off 32 (eDig dg)] (k:AW P N all K fl.tail os (CT ρ d (.str dg.bs)) L) (hd:Nat.blt d N=true:=by rfl):
  AW P N all K fl (⟨some d,.convert S T x,ty,pos,af,none⟩::os) ρ L:=
 Bb hd (B7 fun a' w g ha hi=>by
  obtain⟨E,e1,e2⟩:=hS.out
  have h1:=CW ha (x:=x) (by simp[Op.operands]) hx
  obtain⟨vs,hb,hv,_,_⟩:=hi.res _ hm
  obtain⟨q1,q2⟩:=hs.out
  refine⟨.string ⟨dg.bs.toArray⟩,?_,.str (by rw[dg.len];decide)⟩
  have key:=run_convert_bytes_back w S T E ⟨bb,off,none⟩ 32 dg.bs e1 e2 hT.out (fun j hj=>by
   rw[DQ]
   have hj':j < 32:=by rw[←dg.len];exact hj
   have hlt:off+j < vs.length:=by rw[hv.len];omega
   rw[H3 hb (off+j) hlt]
   have h2:=hv.at_ (off+j) hlt (by omega)
   have h3:cs[off+j]'(by omega)=eU8 dg.bs[j]:=by
    have:=congrArg (fun l=>l[j]?) q1
    simp only[GV,hj',if_true,GW,eDig,Gw,AZ hj]at this
    rw[AZ (by omega)]at this
    simpa using this
   rw[h3]at h2
   rw[h2.raw_inv];rfl)
  rw[dg.len]at key
  show(do pure (Next.value (←convert S T (a'.eval x))):Sem Next).run P w=_
  simp only[h1,Sem.run_bind,key,Result.andThen_ok,Sem.run_pure]) k
def eW (l:List Nat):List PV:=l.map fun(a:Nat)=>PV.raw (.int .u32 (a:Int))
@[simp] theorem Gm (l:List Nat):(eW l).length=l.length:=by simp[eW]
theorem nQ (l:List Nat):JU (eW l):=fun x hx=>by
 obtain⟨a,_,rfl⟩:=AX.1 hx
 exact Ga (v:= .int .u32 (a:Int)) rfl HZ _ (by simp)
instance (l:List Nat):EH (eW l):=⟨nQ l⟩
theorem bO [hT:DH P T] {bb i T₂:Nat} {l:List Nat} (hx:ρ.ev x= .raw (.pointer (some ⟨bb,0+i*1,none⟩))) (hm:Res.box bb T₂ (eW l)∈L) (hi:i < l.length) (k:AW P N all K fl.tail os (CT ρ d (.raw (.int .u32 ((l.getD i 0:Nat):Int)))) L) (hd:Nat.blt d N=true:=by rfl):
  AW P N all K fl (⟨some d,.load T x,ty,pos,af,none⟩::os) ρ L:=S4 hx hm (by simp[eW,hi,List.getD]) k hd
theorem S3 {by_:Nat} {bb i T₂ v:Nat} {l:List Nat} {L':List Res} [hT:EG P T 1 by_] (hx:ρ.ev x= .raw (.pointer (some ⟨bb,0+i*1,none⟩))) (hy:ρ.ev y= .raw (.int .u32 (v:Int))) (_:Res.box bb T₂ (eW l)∈L) (hi:i < l.length) [hu:U2 bb (eW l) (eW (l.set i v)) L L']
  (k:AW P N all K fl.tail os ρ L') (hfl:fl.headD true=true:=by rfl):AW P N all K fl (⟨none,.store T x y,ty,pos,af,none⟩::os) ρ L:=
 Dp rfl (fun _ e=>by cases e) hfl (J2 (new:= [.raw (.int .u32 (v:Int))]) hx (by rw[hy];exact Dv.one (Ga rfl HZ)) rfl (Ga rfl HZ) (by
  simp only[CQ,B3,J9,eW]
  rw[Tf,Gk,if_pos (by simpa using hi)]
  simp) (by simp;omega) hu.out k)
def Dig.put (dg:Dig) (i:Nat) (v:UInt8):Dig:=⟨dg.bs.set i v,by rw[CG];exact dg.len⟩
theorem XQ {by_:Nat} {bb i T₂:Nat} {v:UInt8} {dg:Dig} {L':List Res} [hT:EG P T 1 by_] (hx:ρ.ev x= .raw (.pointer (some ⟨bb,0+i*1,none⟩))) (hy:ρ.ev y= .raw (.int .u8 (v.toNat:Int))) (_:Res.box bb T₂ (eDig dg)∈L) (hi:i < 32) [hu:U2 bb (eDig dg) (eDig (dg.put i v)) L L']
  (k:AW P N all K fl.tail os ρ L') (hfl:fl.headD true=true:=by rfl):AW P N all K fl (⟨none,.store T x y,ty,pos,af,none⟩::os) ρ L:=
 Dp rfl (fun _ e=>by cases e) hfl (J2 (new:= [.raw (.int .u8 (v.toNat:Int))]) hx (by rw[hy];exact Dv.one (Ga rfl HZ)) rfl (Ga rfl HZ) (by
  simp only[CQ,B3,J9,eDig,Dig.put]
  rw[Tf,Gk,if_pos (by simpa [dg.len]using hi)]
  simp[eU8,u8]) (by simp;omega) hu.out k)
theorem ga {n E by_:Nat} {z:List PV} [hT:U4 P T n E] [hE:EG P E 1 by_] [hZ:Cu P T z] {xs:List Operand} (ws:List Nat) (hx:xs.map ρ.ev=eW ws) (hz:z.length=ws.length) (hn:xs.length=ws.length)
  (k:AW P N all K fl.tail os (CT ρ d (.agg (eW ws))) L) (hd:Nat.blt d N=true:=by rfl):AW P N all K fl (⟨some d,.build T ((xs.zipIdx.map fun p=>(p.2,p.1)).toArray),ty,pos,af,none⟩::os) ρ L:=
 Bb hd (B7 fun a' w g ha hi=>by
  obtain⟨i,v,us,h1,h2,h3,h4⟩:=hZ.out
  let cs:List Value:=ws.map fun(a:Nat)=>Value.int .u32 (a:Int)
  have hop:(Op.build T ((xs.zipIdx.map fun p=>(p.2,p.1)).toArray)).operands=xs.toArray:=by
   unfold Op.operands
   simp only[DK]
   have:((fun(x:Nat × Operand)=>x.2) ∘ fun(p:Operand × Nat)=>(p.2,p.1))=Prod.fst:=by funext p;rfl
   rw[this,List.zipIdx_map_fst]
  have hev:xs.map a'.eval=cs:=by
   refine GK (by simp[cs,hn]) fun j j1 j2=>?_
   simp only[AF]at j1
   have hj:j < ws.length:=by omega
   have e1:ρ.ev xs[j]= .raw (.int .u32 (ws[j]:Int)):=by
    have:=congrArg (fun l=>l[j]?) hx
    simp only[Gw,AZ j1,eW,AZ hj,FB]at this
    exact CF this
   have e2:=ha xs[j] (by rw[hop];simp)
   rw[e1]at e2
   simp[cs,e2.raw_inv]
  refine⟨.agg cs.toArray,?_,E5.agg ⟨by simp[cs],fun j j1 j2=>by simp[cs,eW];exact .raw _⟩⟩
  have hparts:(((xs.zipIdx.map fun p=>(p.2,p.1)).toArray).map fun(p:Nat × Operand)=>(p.1,a'.eval p.2)).toList=((xs.map a'.eval).zipIdx 0).map fun p=>(p.2,p.1):=by
   simp only[HO,DK]
   rw[ny,DK]
   rfl
  have hus:us.length=ws.length:=by rw[(h4 g).len,hz]
  have hfill:Instr.fill (fun i=>some (i*1,1)) us.toArray (((xs.map a'.eval).zipIdx 0).map fun p=>(p.2,p.1))=some cs.toArray:=by
   rw[hev,NM (sz:=1) (cs.map fun v=> [v]) cs 0 us (by simp) (fun j j1 j2=>by simp[cs,Value.cells]) (by simp[cs,hus])]
   have:(cs.map fun v=> [v]).flatten=cs:=by
    generalize cs=l
    induction l with
    |nil=>rfl
    |cons a l ih=>simp[ih]
   simp[this]
  show(do pure (Next.value (←Instr.build T (((xs.zipIdx.map fun p=>(p.2,p.1)).toArray).map fun(p:Nat × Operand)=>(p.1,a'.eval p.2)))):Sem Next).run P w=_
  simp only[Instr.build,Sem.run_bind,zeroValue,typeInfo,run_program,h1,Sem.run_pure,Result.andThen_ok,h2,run_underlying hT.out,EG.run hE,h3,hparts,hfill]) k
end
structure Brn where
 name:Str
 ids:List Dig
 deriving DecidableEq
def Brn.zero:Brn:=⟨[],[]⟩
def eBrn (c:Brn):List PV:= [.str c.name]++([.slice ((c.ids).map eDig) .ro])
@[simp] theorem jF (c:Brn):(eBrn c).length=2:=by unfold eBrn;simp
instance :KY eBrn 2:=⟨jF⟩
instance (c:Brn):EH (eBrn c):=by unfold eBrn;infer_instance
instance :Gd eBrn:=⟨fun c=>(inferInstance:EH (eBrn c)).out⟩
instance (c:Brn):Fg (.agg (eBrn c)) eBrn c:=⟨Dv.agg _⟩
instance nC (c:Brn):Ib (eBrn c) 0 [.str c.name]:=by unfold eBrn;exact Cr
instance mI (c:Brn) (x:Str):Ek (eBrn c) 0 [.str x] (eBrn { c with name:=x }):=by unfold eBrn;exact Cw (by simp)
instance pH (c:Brn):Ib (eBrn c) 1 [.slice ((c.ids).map eDig) .ro]:=by unfold eBrn;exact Ah (n:=1) (off:=0) (by simp) (IM)
instance Y0 (c:Brn) (x:List Dig):Ek (eBrn c) 1 [.slice ((x).map eDig) .ro] (eBrn { c with ids:=x }):=by unfold eBrn;exact Ad (n:=1) (off:=0) (by simp) (IJ (by simp))
structure Tgg where
 name:Str
 note:Str
 tops:List Dig
 deriving DecidableEq
def Tgg.zero:Tgg:=⟨[],[],[]⟩
def eTgg (c:Tgg):List PV:= [.str c.name]++([.str c.note]++([.slice ((c.tops).map eDig) .ro]))
@[simp] theorem jA (c:Tgg):(eTgg c).length=3:=by unfold eTgg;simp
instance :KY eTgg 3:=⟨jA⟩
instance (c:Tgg):EH (eTgg c):=by unfold eTgg;infer_instance
instance :Gd eTgg:=⟨fun c=>(inferInstance:EH (eTgg c)).out⟩
instance (c:Tgg):Fg (.agg (eTgg c)) eTgg c:=⟨Dv.agg _⟩
instance nA (c:Tgg):Ib (eTgg c) 0 [.str c.name]:=by unfold eTgg;exact Cr
instance lz (c:Tgg) (x:Str):Ek (eTgg c) 0 [.str x] (eTgg { c with name:=x }):=by unfold eTgg;exact Cw (by simp)
instance n5 (c:Tgg):Ib (eTgg c) 1 [.str c.note]:=by unfold eTgg;exact Ah (n:=1) (off:=0) (by simp) (Cr)
instance ly (c:Tgg) (x:Str):Ek (eTgg c) 1 [.str x] (eTgg { c with note:=x }):=by unfold eTgg;exact Ad (n:=1) (off:=0) (by simp) (Cw (by simp))
instance n0 (c:Tgg):Ib (eTgg c) 2 [.slice ((c.tops).map eDig) .ro]:=by unfold eTgg;exact Ah (n:=1) (off:=1) (by simp) (Ah (n:=1) (off:=0) (by simp) (IM))
instance lx (c:Tgg) (x:List Dig):Ek (eTgg c) 2 [.slice ((x).map eDig) .ro] (eTgg { c with tops:=x }):=by unfold eTgg;exact Ad (n:=1) (off:=1) (by simp) (Ad (n:=1) (off:=0) (by simp) (IJ (by simp)))
structure Repo where
 pool:List Sto
 branches:List Brn
 tags:List Tgg
 current:Str
 deriving DecidableEq
def Repo.zero:Repo:=⟨[],[],[],[]⟩
def Ax (c:Repo):List PV:= [.slice ((c.pool).map eSto) .ro]++([.slice ((c.branches).map eBrn) .ro]++([.slice ((c.tags).map eTgg) .ro]++([.str c.current])))
@[simp] theorem eF (c:Repo):(Ax c).length=4:=by unfold Ax;simp
instance :KY Ax 4:=⟨eF⟩
instance (c:Repo):EH (Ax c):=by unfold Ax;infer_instance
instance Tr (c:Repo):Ib (Ax c) 0 [.slice ((c.pool).map eSto) .ro]:=by unfold Ax;exact Cr
instance ni (c:Repo):At (Ax c) 0 (.slice ((c.pool).map eSto) .ro):=GF (Tr c)
instance kp (c:Repo) (x:List Sto):Ek (Ax c) 0 [.slice ((x).map eSto) .ro] (Ax { c with pool:=x }):=by unfold Ax;exact Cw (by simp)
instance Py (c:Repo):Ib (Ax c) 1 [.slice ((c.branches).map eBrn) .ro]:=by unfold Ax;exact Ah (n:=1) (off:=0) (by simp) (Cr)
instance ew (c:Repo):At (Ax c) 1 (.slice ((c.branches).map eBrn) .ro):=GF (Py c)
instance bn (c:Repo) (x:List Brn):Ek (Ax c) 1 [.slice ((x).map eBrn) .ro] (Ax { c with branches:=x }):=by unfold Ax;exact Ad (n:=1) (off:=0) (by simp) (Cw (by simp))
instance Tq (c:Repo):Ib (Ax c) 2 [.slice ((c.tags).map eTgg) .ro]:=by unfold Ax;exact Ah (n:=1) (off:=1) (by simp) (Ah (n:=1) (off:=0) (by simp) (Cr))
instance nh (c:Repo):At (Ax c) 2 (.slice ((c.tags).map eTgg) .ro):=GF (Tq c)
instance ko (c:Repo) (x:List Tgg):Ek (Ax c) 2 [.slice ((x).map eTgg) .ro] (Ax { c with tags:=x }):=by unfold Ax;exact Ad (n:=1) (off:=1) (by simp) (Ad (n:=1) (off:=0) (by simp) (Cw (by simp)))
instance Qx (c:Repo):Ib (Ax c) 3 [.str c.current]:=by unfold Ax;exact Ah (n:=1) (off:=2) (by simp) (Ah (n:=1) (off:=1) (by simp) (Ah (n:=1) (off:=0) (by simp) (IM)))
instance fQ (c:Repo):At (Ax c) 3 (.str c.current):=GF (Qx c)
instance df (c:Repo) (x:Str):Ek (Ax c) 3 [.str x] (Ax { c with current:=x }):=by unfold Ax;exact Ad (n:=1) (off:=2) (by simp) (Ad (n:=1) (off:=1) (by simp) (Ad (n:=1) (off:=0) (by simp) (IJ (by simp))))
structure P7 where
 kind:Int
 name:Str
 other:Str
 patch:Pat
 id:Dig
 set:List Sto
 deriving DecidableEq
def Ha (c:P7):List PV:= [.raw (.int .i64 c.kind)]++([.str c.name]++([.str c.other]++((Cc c.patch)++((eDig c.id)++([.slice ((c.set).map eSto) .ro])))))
@[simp] theorem eG (c:P7):(Ha c).length=41:=by unfold Ha;simp
instance :KY Ha 41:=⟨eG⟩
instance ku (c:P7):Ib (Ha c) 1 [.str c.name]:=by unfold Ha;exact Ah (n:=1) (off:=0) (by simp) (Cr)
instance jU (c:P7):Ib (Ha c) 2 [.str c.other]:=by unfold Ha;exact Ah (n:=1) (off:=1) (by simp) (Ah (n:=1) (off:=0) (by simp) (Cr))
instance jT (c:P7):Ib (Ha c) 3 (Cc c.patch):=by unfold Ha;exact Ah (n:=1) (off:=2) (by simp) (Ah (n:=1) (off:=1) (by simp) (Ah (n:=1) (off:=0) (by simp) (Cr)))
instance pG (c:P7):Ib (Ha c) 8 (eDig c.id):=by unfold Ha;exact Ah (n:=1) (off:=7) (by simp) (Ah (n:=1) (off:=6) (by simp) (Ah (n:=1) (off:=5) (by simp) (Ah (n:=5) (off:=0) (by simp) (Cr))))
instance nB (c:P7):Ib (Ha c) 40 [.slice ((c.set).map eSto) .ro]:=by unfold Ha;exact Ah (n:=1) (off:=39) (by simp) (Ah (n:=1) (off:=38) (by simp) (Ah (n:=1) (off:=37) (by simp) (Ah (n:=5) (off:=32) (by simp) (Ah (n:=32) (off:=0) (by simp) (IM)))))
end Go.Q
