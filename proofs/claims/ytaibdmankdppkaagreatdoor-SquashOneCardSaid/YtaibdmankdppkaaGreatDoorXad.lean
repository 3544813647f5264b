/- The small logic, fourteenth text: steps over strings, numbers, structs and slices by their forms. Library, no statement of its own. -/
import Derived.Test.YtaibdmankdppkaaGreatDoorXac
import Derived.Laws.IdiomStrings
set_option linter.unusedSimpArgs false
set_option linter.unusedVariables false
namespace Go.Q
open Go
def wh (P:Program) (T:Nat):Option (Nat × Nat):=
 match P.underlying T with
 |some (.slice E)=>match P.info? E with
  |some i=>match i.zero with
   |some z=>if z.cells.size=i.size∧i.bytes≠0∧i.size≠0∧i.size≤i.bytes then some (i.size,i.bytes)else none
   |none=>none
  |none=>none
 |_=>none
theorem GW.of {P:Program} {T sz bytes:Nat} (h:wh P T=some (sz,bytes)):GW P T sz bytes:=⟨by
 unfold wh at h
 split at h
 ·rename_i E hu
  split at h
  ·rename_i i hi
   split at h
   ·rename_i z hz
    split at h
    ·rename_i hc
     simp only[J1,Prod.mk.injEq]at h
     obtain⟨rfl,rfl⟩:=h
     exact⟨E,i,z,hu,hi,rfl,rfl,hz,hc.1,hc.2.1,hc.2.2⟩
    ·cases h
   ·cases h
  ·cases h
 ·cases h⟩
def bc (P:Program) (T:Nat):Bool:=
 match P.underlying T with
 |some (.struct fs)=>fs.all fun f=>(P.info? f.type).isSome
 |_=>false
theorem Cj.of {P:Program} {T:Nat} (h:bc P T=true):Cj P T:=⟨by
 unfold bc at h
 split at h
 ·rename_i fs hu
  refine⟨fs,hu,fun f hf=>?_⟩
  have:=Array.all_eq_true'.1 h f hf
  exact Eb.1 this
 ·cases h⟩
def qL (P:Program) (S k:Nat):Option (Nat × Nat):=
 match P.underlying S with
 |some (.struct fs)=>match fs[k]? with
  |some f=>match P.info? f.type with
   |some i=>some (f.offset,i.size)
   |none=>none
  |none=>none
 |_=>none
theorem BZ.of {P:Program} {S k off sz:Nat} (h:qL P S k=some (off,sz)):BZ P S k off sz:=⟨by
 unfold qL at h
 split at h
 ·rename_i fs hu
  split at h
  ·rename_i f hf
   split at h
   ·rename_i i hi
    simp only[J1,Prod.mk.injEq]at h
    exact⟨fs,f,i,hu,hf,h.1,hi,h.2⟩
   ·cases h
  ·cases h
 ·cases h⟩
def qu:PV→Option Value
 | .raw v=>some v
 | .slice [] .ro=>some (.slice none 0 0)
 | .str []=>some (.string ⟨#[]⟩)
 |_=>none
theorem lZ {x:PV} {v:Value} (h:qu x=some v) (g:Gh):VR g v x:=by
 unfold qu at h
 split at h
 ·cases h;exact .raw _
 ·cases h;exact .nilR
 ·cases h;exact .str (XO _)
 ·cases h
theorem Cq.of {P:Program} {T:Nat} {z:List PV} {us:List Value} (h:((P.info? T).bind (·.zero)).map (·.cells.toList)=some us) (hz:z.map qu=us.map some):Cq P T z:=⟨by
 obtain⟨v,h1,h2⟩:=Bj.1 h
 obtain⟨i,h3,h4⟩:=Dy.1 h1
 have hl:z.length=us.length:=by simpa using congrArg List.length hz
 refine⟨i,v,us,h3,h4,by rw[←h2],fun g=>⟨hl.symm,fun i h5 h6=>lZ ?_ g⟩⟩
 have:=congrArg (fun l=>l[i]?) hz
 simp only[H3,AW h5,AW h6,Gx]at this
 exact DF this⟩
section
variable {P:Program} {N:Nat} {all:Array Oper} {K:Env→List Res→Prop} {fl:List Bool} {os:List Oper} {ρ:Env} {L:List Res}
variable {d:Nat} {ty:TypeId} {pos:String} {af:Array Edge}
theorem cC {op:BinOp} {T T':TypeId} {x y:Operand} {a b v:Value} {r:PV} (hx: ∀ g u,VR g u (ρ.ev x)→u=a) (hy: ∀ g u,VR g u (ρ.ev y)→u=b) (hg: ∀ w,(eqGuard op T x y a b).run P w= .ok () w)
  (hr: ∀ w,(binOp op T a b).run P w= .ok v w) (hv: ∀ g,VR g v r) (k:AQ P N all K fl.tail os (CT ρ d r) L) (hd:Nat.blt d N=true:=by rfl):
  AQ P N all K fl (⟨some d,.binOp op T x y T',ty,pos,af,none⟩::os) ρ L:=
 Bh hd (BC fun a' w g ha hi=>⟨v,by
  have h1:=hx g _ (ha x (by simp[Op.operands]))
  have h2:=hy g _ (ha y (by simp[Op.operands]))
  simp only[execOp,h1,h2,Sem.run_bind,hg,Result.andThen_ok,hr,Sem.run_pure],hv g⟩) k
theorem pr {op:BinOp} {T T':TypeId} {x y:Operand} {a b v:Value} (hx:ρ.ev x= .raw a) (hy:ρ.ev y= .raw b) (hg: ∀ w,(eqGuard op T x y a b).run P w= .ok () w)
  (hr: ∀ w,(binOp op T a b).run P w= .ok v w) (k:AQ P N all K fl.tail os (CT ρ d (.raw v)) L) (hd:Nat.blt d N=true:=by rfl):
  AQ P N all K fl (⟨some d,.binOp op T x y T',ty,pos,af,none⟩::os) ρ L:=
 cC (fun g u h=>by rw[hx]at h;exact h.raw_inv) (fun g u h=>by rw[hy]at h;exact h.raw_inv) hg hr (fun g=> .raw v) k hd
theorem pn {T T':TypeId} {x y:Operand} {s t:Str} {ax ay:PV} (hx:ρ.ev x=ax) [jx:K1 ax s] (hy:ρ.ev y=ay) [jy:K1 ay t] (hl:s.length+t.length≤140737488355328) (k:AQ P N all K fl.tail os (CT ρ d (.str (s++t))) L) (hd:Nat.blt d N=true:=by rfl):
  AQ P N all K fl (⟨some d,.binOp .add T x y T',ty,pos,af,none⟩::os) ρ L:=
 cC (v:= .string (sB (s++t))) (hx ▸ jx.out) (hy ▸ jy.out) (fun w=>by unfold eqGuard;rfl) (fun w=>by
  rw[binOp_string_add,Op.stringOp]
  have: ¬(((sB s).size+(sB t).size:Nat):Int) > IntKind.i64.max:=by
   have e:IntKind.i64.max=9223372036854775807:=by decide
   rw[e,Q8,Q8];omega
  simp only[this,if_false,Sem.run_pure]
  congr 3) (fun g=> .str (by rw[AA];exact hl)) k hd
theorem dM (s t:Str):(s==t)=decide (s=t):=by
 by_cases h:s=t<;>simp[h]
theorem vE {T T':TypeId} [hT:Ri P T] {x y:Operand} {s t:Str} {ax ay:PV} (hx:ρ.ev x=ax) [jx:K1 ax s] (hy:ρ.ev y=ay) [jy:K1 ay t] (k:AQ P N all K fl.tail os (CT ρ d (.raw (.bool (decide (s=t))))) L) (hd:Nat.blt d N=true:=by rfl):
  AQ P N all K fl (⟨some d,.binOp .eql T x y T',ty,pos,af,none⟩::os) ρ L:=
 cC (hx ▸ jx.out) (hy ▸ jy.out) (fun w=>by unfold eqGuard;rfl) (fun w=>by rw[binOp_string_eql,OQ,OQ,Sem.run_pure,dM]) (fun g=> .raw _) k hd
theorem uz {T T':TypeId} [hT:Ri P T] {x y:Operand} {s t:Str} {ax ay:PV} (hx:ρ.ev x=ax) [jx:K1 ax s] (hy:ρ.ev y=ay) [jy:K1 ay t] (k:AQ P N all K fl.tail os (CT ρ d (.raw (.bool (!decide (s=t))))) L) (hd:Nat.blt d N=true:=by rfl):
  AQ P N all K fl (⟨some d,.binOp .neq T x y T',ty,pos,af,none⟩::os) ρ L:=
 cC (hx ▸ jx.out) (hy ▸ jy.out) (fun w=>by unfold eqGuard;rfl) (fun w=>by rw[binOp_string_neq,OQ,OQ,Sem.run_pure,dM]) (fun g=> .raw _) k hd
theorem iG {T:TypeId} [hT:Ri P T] {x:Operand} {s:Str} {ax:PV} (hx:ρ.ev x=ax) [jx:K1 ax s] (k:AQ P N all K fl.tail os (CT ρ d (.raw (.int .i64 s.length))) L) (hd:Nat.blt d N=true:=by rfl):
  AQ P N all K fl (⟨some d,.call { callee:= .builtin .len,args:= #[x],argTypes:= #[T] },ty,pos,af,none⟩::os) ρ L:=
 Bh hd (BC fun a w g ha hi=>⟨.int .i64 s.length,by
  have h1:=jx.out g _ (hx ▸ ha x (by simp[Op.operands,Call.operands]))
  have he:execOp a.eval ⟨some d,.call { callee:= .builtin .len,args:= #[x],argTypes:= #[T] },ty,pos,af,none⟩=(do pure (.value (←Builtin.len_ #[T] ty (#[x].map a.eval)))):=rfl
  rw[he]
  simp[Builtin.len_,h1,IA hT.out,goInt],.raw _⟩) k
theorem Y0 {T:TypeId} [hT:Ri P T] {x y:Operand} {s:Str} {ax:PV} {kk:IntKind} {n:Nat} (hx:ρ.ev x=ax) [jx:K1 ax s] (hy:ρ.ev y= .raw (.int kk (n:Int))) (hn:n < s.length) (k:AQ P N all K fl.tail os (CT ρ d (.raw (.int .u8 (s[n].toNat:Int)))) L) (hd:Nat.blt d N=true:=by rfl):
  AQ P N all K fl (⟨some d,.index T x y,ty,pos,af,none⟩::os) ρ L:=
 Bh hd (BC fun a w g ha hi=>⟨_,by
  have h1:=jx.out g _ (hx ▸ ha x (by simp[Op.operands]))
  have h2:=Ca ha (x:=y) (by simp[Op.operands]) hy
  show(do pure (Next.value (←Instr.index T (a.eval x) (a.eval y))):Sem Next).run P w=_
  rw[h1,h2,Sem.run_bind,run_index_string (h:=hT.out),dif_pos ⟨by omega,by rw[Q8];omega⟩]
  rfl,by
  have e:(sB s)[(n:Int).toNat]'(by rw[Q8];omega)=s[n]:=by
   simp only[E0]
   show(sB s).data[n]'(by simpa [sB]using hn)=_
   simp[sB]
  rw[e];exact .raw _⟩) k
theorem W4 {T:TypeId} [hT:Ri P T] {x y z:Operand} {s:Str} {ax:PV} {k₁ k₂:IntKind} {i j:Nat} (hx:ρ.ev x=ax) [jx:K1 ax s] (hy:ρ.ev y= .raw (.int k₁ (i:Int))) (hz:ρ.ev z= .raw (.int k₂ (j:Int))) (hij:i≤j) (hj:j≤s.length) (hS:s.length≤140737488355328)
  (k:AQ P N all K fl.tail os (CT ρ d (.str ((s.drop i).take (j - i)))) L) (hd:Nat.blt d N=true:=by rfl):
  AQ P N all K fl (⟨some d,.slice T x (some y) (some z) none,ty,pos,af,none⟩::os) ρ L:=
 Bh hd (BC fun a w g ha hi=>⟨_,by
  have h1:=jx.out g _ (hx ▸ ha x (by simp[Op.operands]))
  have h2:=Ca ha (x:=y) (by simp[Op.operands]) hy
  have h3:=Ca ha (x:=z) (by simp[Op.operands]) hz
  show(do pure (Next.value (←Instr.sliceAt T (a.eval x) (some (a.eval y)) (some (a.eval z)) none)):Sem Next).run P w=_
  have hb:(Instr.sliceBounds false (sB s).size (sB s).size (some (a.eval y)) (some (a.eval z)) none).run P w= .ok (i,j,(sB s).size) w:=by
   unfold Instr.sliceBounds
   simp[h2,h3,Instr.sliceBound,asIntOf]
   rw[if_pos (by omega)]
   simp
   omega
  rw[Sem.run_bind]
  simp only[Instr.sliceAt,Sem.run_bind,run_underlying hT.out,Result.andThen_ok,Instr.slice,h1,CW,BX,if_false,hb,Sem.run_pure]
  rfl,by
  have e:(sB s).extract i j=sB ((s.drop i).take (j - i)):=by
   apply ByteArray.ext
   simp[sB,uh]
  rw[e];exact .str (by simp only[AZ,BB];show _≤140737488355328;omega)⟩) k
theorem bt {T:TypeId} [hT:Ri P T] {x y:Operand} {s:Str} {ax:PV} {k₁:IntKind} {i:Nat} (hx:ρ.ev x=ax) [jx:K1 ax s] (hy:ρ.ev y= .raw (.int k₁ (i:Int))) (hi:i≤s.length) (hS:s.length≤140737488355328)
  (k:AQ P N all K fl.tail os (CT ρ d (.str (s.drop i))) L) (hd:Nat.blt d N=true:=by rfl):
  AQ P N all K fl (⟨some d,.slice T x (some y) none none,ty,pos,af,none⟩::os) ρ L:=
 Bh hd (BC fun a w g ha hi'=>⟨_,by
  have h1:=jx.out g _ (hx ▸ ha x (by simp[Op.operands]))
  have h2:=Ca ha (x:=y) (by simp[Op.operands]) hy
  show(do pure (Next.value (←Instr.sliceAt T (a.eval x) (some (a.eval y)) none none)):Sem Next).run P w=_
  have hb:(Instr.sliceBounds false (sB s).size (sB s).size (some (a.eval y)) none none).run P w= .ok (i,s.length,(sB s).size) w:=by
   unfold Instr.sliceBounds
   simp[h2,Instr.sliceBound,asIntOf]
   omega
  rw[Sem.run_bind]
  simp only[Instr.sliceAt,Sem.run_bind,run_underlying hT.out,Result.andThen_ok,Instr.slice,h1,CW,BX,if_false,hb,Sem.run_pure]
  rfl,by
  have e:(sB s).extract i s.length=sB (s.drop i):=by
   apply ByteArray.ext
   simp[sB,uh]
   rw[AE (by simp)]
  rw[e];exact .str (by simp only[BB];show _≤140737488355328;omega)⟩) k
theorem W6 {S T:TypeId} {k' kT:IntKind} [hS:NB P S k'] [hT:NB P T kT] {x:Operand} {k₀:IntKind} {n:Int} (hx:ρ.ev x= .raw (.int k₀ n)) (k:AQ P N all K fl.tail os (CT ρ d (.raw (.int kT (kT.wrap n)))) L) (hd:Nat.blt d N=true:=by rfl):
  AQ P N all K fl (⟨some d,.convert S T x,ty,pos,af,none⟩::os) ρ L:=
 Bh hd (BC fun a w g ha hi=>⟨_,by
  have h1:=Ca ha (x:=x) (by simp[Op.operands]) hx
  show(do pure (Next.value (←convert S T (a.eval x))):Sem Next).run P w=_
  simp only[convert,Sem.run_bind,run_underlying hS.out,run_underlying hT.out,Result.andThen_ok,h1,Conv.intToInt,Sem.run_pure],.raw _⟩) k
theorem W5 {S T:TypeId} {k' kT:IntKind} [hS:NB P S k'] [hT:NB P T kT] {x:Operand} {k₀:IntKind} {n:Int} (hx:ρ.ev x= .raw (.int k₀ n)) (hw:kT.wrap n=n) (k:AQ P N all K fl.tail os (CT ρ d (.raw (.int kT n))) L) (hd:Nat.blt d N=true:=by rfl):
  AQ P N all K fl (⟨some d,.convert S T x,ty,pos,af,none⟩::os) ρ L:=W6 hx (by rw[hw];exact k) hd
theorem pd {T T':TypeId} {x y:Operand} {m n:Int} (hx:ρ.ev x= .raw (.int .i64 m)) (hy:ρ.ev y= .raw (.int .i64 n)) (hb: -9223372036854775808≤m*n∧m*n≤9223372036854775807) (k:AQ P N all K fl.tail os (CT ρ d (.raw (.int .i64 (m*n)))) L) (hd:Nat.blt d N=true:=by rfl):
  AQ P N all K fl (⟨some d,.binOp .mul T x y T',ty,pos,af,none⟩::os) ρ L:=Gi hx hy (fun w=>by simp[binOp,Op.intArith,IntWalk.i64_in _ hb]) k hd
theorem Xr {T T':TypeId} {x y:Operand} {m n:Nat} (hx:ρ.ev x= .raw (.int .i64 (m:Int))) (hy:ρ.ev y= .raw (.int .i64 (n:Int))) (hn:n≠0) (hm:m≤9223372036854775807) (k:AQ P N all K fl.tail os (CT ρ d (.raw (.int .i64 ((m / n:Nat):Int)))) L) (hd:Nat.blt d N=true:=by rfl):
  AQ P N all K fl (⟨some d,.binOp .quo T x y T',ty,pos,af,none⟩::os) ρ L:=Gi hx hy (fun w=>by
   have h1:m / n≤m:=Nat.div_le_self m n
   have h2:((m:Int).tdiv n)=((m / n:Nat):Int):=(Int.ofNat_tdiv m n).symm
   have h3:(n:Int)≠0:=by omega
   simp only[binOp,ne_eq,not_true_eq_false,if_false,Op.intDiv,h3,h2]
   clear h2
   generalize m / n=q at*
   rw[IntWalk.i64_in _ (by constructor<;>omega)];rfl) k hd
theorem Xq {T T':TypeId} {x y:Operand} {m n:Nat} (hx:ρ.ev x= .raw (.int .i64 (m:Int))) (hy:ρ.ev y= .raw (.int .i64 (n:Int))) (hn:n≠0) (k:AQ P N all K fl.tail os (CT ρ d (.raw (.int .i64 ((m % n:Nat):Int)))) L) (hd:Nat.blt d N=true:=by rfl):
  AQ P N all K fl (⟨some d,.binOp .rem T x y T',ty,pos,af,none⟩::os) ρ L:=Gi hx hy (fun w=>by
   have h2:((m:Int).tmod n)=((m % n:Nat):Int):=(Int.ofNat_tmod m n).symm
   have h3:(n:Int)≠0:=by omega
   simp only[binOp,ne_eq,not_true_eq_false,if_false,Op.intDiv,h3,h2];rfl) k hd
class yy (P:Program) (T:Nat):Prop where
 out:P.underlying T=some .bool
theorem Xv {x:Operand} {ad:Addr} (hx:ρ.ev x= .raw (.pointer (some ad))) (k:AQ P N all K fl.tail os (CT ρ d (.raw (.pointer (some ad)))) L) (hd:Nat.blt d N=true:=by rfl):AQ P N all K fl (⟨some d,.nilCheck x,ty,pos,af,none⟩::os) ρ L:=
 Bh hd (BC fun a w g ha hi=>⟨.pointer (some ad),by
  have h1:=Ca ha (x:=x) (by simp[Op.operands]) hx
  simp[execOp,h1],.raw _⟩) k
class S7 (b:Nat) (L:List Res) (cs:outParam (List PV)):Prop where
 out: ∃ T,Res.box b T cs∈L
instance {b T:Nat} {cs:List PV} {L:List Res}:S7 b (.box b T cs::L) cs:=⟨T,by simp⟩
instance (priority:=low) {b:Nat} {cs:List PV} {r:Res} {L:List Res} [h:S7 b L cs]:S7 b (r::L) cs:=⟨by obtain⟨T,h⟩:=h.out;exact⟨T,AI _ h⟩⟩
class UK (b:Nat) (cs cs':List PV) (L:List Res) (L':outParam (List Res)):Prop where
 out:om b cs cs' L L'
instance {b T:Nat} {cs cs':List PV} {L:List Res}:UK b cs cs' (.box b T cs::L) (.box b T cs'::L):=⟨.here⟩
instance (priority:=low) {b:Nat} {cs cs':List PV} {r:Res} {L L':List Res} [h:UK b cs cs' L L']:UK b cs cs' (r::L) (r::L'):=⟨.there h.out⟩
theorem gm {T:TypeId} {x y:Operand} {b off sz by_:Nat} {a:PV} {cs cs' new:List PV} {L':List Res} [hT:Ed P T sz by_]
  (hx:ρ.ev x= .raw (.pointer (some ⟨b,off,none⟩))) (hy:ρ.ev y=a) [hC:E4 a new] [hB:S7 b L cs] [hp:FB cs off new cs'] [hu:UK b cs cs' L L'] [hf:E3 new] [hlen:Cx new sz]
  (k:AQ P N all K fl.tail os ρ L') (hfl:fl.headD true=true:=by rfl):AQ P N all K fl (⟨none,.store T x y,ty,pos,af,none⟩::os) ρ L:=
 Dd rfl (fun _ e=>by cases e) hfl (JG hx (hy ▸ hC.out) hlen.out hf.out hp.out.1 hp.out.2 hu.out k)
theorem Xm {T:TypeId} {x y:Operand} {b sz by_:Nat} {cs new:List PV} {L':List Res} [hT:Ed P T sz by_]
  (hx:ρ.ev x= .raw (.pointer (some ⟨b,0,none⟩))) (hy:ρ.ev y= .agg new) [hB:S7 b L cs] [hu:UK b cs new L L'] [hf:E3 new] [hlen:Cx new sz] [hcs:Cx cs sz]
  (k:AQ P N all K fl.tail os ρ L') (hfl:fl.headD true=true:=by rfl):AQ P N all K fl (⟨none,.store T x y,ty,pos,af,none⟩::os) ρ L:=Q4 hx hy hu.out hlen.out hcs.out k hfl
theorem Xz {T n:Nat} [hT:FE P T n] {x:Operand} {cs:List PV} (hx:ρ.ev x= .pt cs 0) [hl:Cx cs n] (k:AQ P N all K fl.tail os (CT ρ d (.agg cs)) L) (hd:Nat.blt d N=true:=by rfl):
  AQ P N all K fl (⟨some d,.load T x,ty,pos,af,none⟩::os) ρ L:=iE hx hl.out k hd
theorem Xw {T n:Nat} [hT:FE P T n] {x:Operand} {b T':Nat} {cs:List PV} (hx:ρ.ev x= .raw (.pointer (some ⟨b,0,none⟩))) (hm:Res.box b T' cs∈L) [hl:Cx cs n] (k:AQ P N all K fl.tail os (CT ρ d (.agg cs)) L) (hd:Nat.blt d N=true:=by rfl):
  AQ P N all K fl (⟨some d,.load T x,ty,pos,af,none⟩::os) ρ L:=Ug hx hm hl.out k hd
theorem bq {S f off' q:Nat} [hF:Ch P S f off'] {x:Operand} {b off:Nat} (hx:ρ.ev x= .raw (.pointer (some ⟨b,off,none⟩))) (hq:off+off'=q) (k:AQ P N all K fl.tail os (CT ρ d (.raw (.pointer (some ⟨b,q,none⟩)))) L) (hd:Nat.blt d N=true:=by rfl):
  AQ P N all K fl (⟨some d,.fieldAddr S x f,ty,pos,af,none⟩::os) ρ L:=rS hx (by rw[hq];exact k) hd
theorem pq {T sz by_:Nat} [hE:GW P T sz by_] (k:AQ P N all K fl.tail os (CT ρ d (.slice [] .nil)) L) (hd:Nat.blt d N=true:=by rfl):AQ P N all K fl (⟨some d,.buildSlice T 0 #[],ty,pos,af,none⟩::os) ρ L:=
 Bh hd (by
  intro a w g ha hi
  obtain⟨E,i,z,t1,t2,t3,t4,t5,t6,t7,t8⟩:=hE.out
  obtain⟨j1,j2,j3⟩:=hi.lay [] E
  have hr:(execOp a.eval ⟨some d,.buildSlice T 0 #[],ty,pos,af,none⟩).run P w= .ok (.value (.slice (some ⟨w.heap.size,0,none⟩) 0 0)) { w with heap:=w.heap.push (.cells [].toArray E (0,0)) }:=by
   show(do pure (Next.value (←Instr.buildSlice T 0 ((#[]:Array (Nat × Operand)).map fun(p:Nat × Operand)=>(p.1,a.eval p.2)))):Sem Next).run P w=_
   have hzv:(zeroValue E).run P w= .ok z w:=by simp[zeroValue,typeInfo,t2,t5]
   simp only[Instr.buildSlice,Sem.run_bind,run_underlying t1,Result.andThen_ok,sizeOf,typeInfo,run_program,t2,Sem.run_pure,t3]
   rw[if_neg (by simp)]
   split
   ·simp[Instr.fill,newRow];congr 2;apply Hl;simp
   ·simp[hzv,Instr.fill,newRow];congr 2;apply Hl;simp
  refine Oper.wq_of_run hr ?_
  exact⟨_,.slice [] .nil,_,L,rfl,.nilN _ (by simp),j1,j2,.refl _ _,rfl,rfl⟩) k
theorem Y3 {T:Nat} {z:List PV} [hS:Cj P T] [hZ:Cq P T z] (k:AQ P N all K fl.tail os (CT ρ d (.agg z)) L) (hd:Nat.blt d N=true:=by rfl):AQ P N all K fl (⟨some d,.build T #[],ty,pos,af,none⟩::os) ρ L:=
 Bh hd (JE (ps:= []) rfl (by simp) .nil) k
theorem vA {op:Op} {x y:PV} (hl:Le x y) (hq:fk P ⟨some d,op,ty,pos,af,none⟩ ρ L x) (k:AQ P N all K fl.tail os (CT ρ d y) L) (hd:Nat.blt d N=true:=by rfl):AQ P N all K fl (⟨some d,op,ty,pos,af,none⟩::os) ρ L:=
 Bh hd (fun a w g ha hi=>(hq a w g ha hi).mono fun _ _ ⟨v,x',g',L',h1,h2,h3,h4,h5,h6,h7⟩=>⟨v,y,g',L',h1,hl _ _ (h6 ▸ h2),h3,h4,h5,rfl,h7⟩) k
theorem K7 {x:Operand} {a b:PV} (ha:ρ.ev x=a) [hn:Jl a b] (k:AQ P N all K fl.tail os (CT ρ d b) L) (hd:Nat.blt d N=true:=by rfl):AQ P N all K fl (⟨some d,.move x,ty,pos,af,none⟩::os) ρ L:=
 vA hn.out (BC fun a' w g ha' hi=>⟨a'.eval x,rfl,ha ▸ ha' x (by simp[Op.operands])⟩) k hd
theorem Uj {x:Operand} {a b:PV} (ha:ρ.ev x=a) [hn:Jl a b] (k:AQ P N all K fl.tail os (CT ρ d b) L) (hd:Nat.blt d N=true:=by rfl):AQ P N all K fl (⟨some d,.assign x,ty,pos,af,none⟩::os) ρ L:=
 vA hn.out (BC fun a' w g ha' hi=>⟨a'.eval x,rfl,ha ▸ ha' x (by simp[Op.operands])⟩) k hd
theorem SP {f:FuncId} {as bs:List PV} {X:PV} (hl:as.length=bs.length) (h: ∀ i (h1:i < as.length) (h2:i < bs.length),Le as[i] bs[i]) (hc:Fn P f bs X):Fn P f as X:=fun vs w g LF hv hi=>
 hc vs w g LF ⟨hv.len.trans hl,fun i h1 h2=>h i (by omega) h2 g _ (hv.at_ i h1 (by omega))⟩ hi
theorem kg {T f0 o0 s0:Nat} {x0:Operand} {a0:PV} {z c0 r0:List PV} [hS:Cj P T] [hZ:Cq P T z] [hF0:BZ P T f0 o0 s0] (h0:ρ.ev x0=a0) [hC0:E4 a0 c0] [hP0:FB z o0 c0 r0] [hl0:Cx c0 s0]
  (k:AQ P N all K fl.tail os (CT ρ d (.agg r0)) L) (hd:Nat.blt d N=true:=by rfl):AQ P N all K fl (⟨some d,.build T #[(f0,x0)],ty,pos,af,none⟩::os) ρ L:=
 iZ (h0 ▸ hC0.out) hl0.out k hd
theorem kf {T f0 f1 o0 o1 s0 s1:Nat} {x0 x1:Operand} {a0 a1:PV} {z c0 c1 r0 r1:List PV} [hS:Cj P T] [hZ:Cq P T z] [hF0:BZ P T f0 o0 s0] [hF1:BZ P T f1 o1 s1] (h0:ρ.ev x0=a0) (h1:ρ.ev x1=a1) [hC0:E4 a0 c0] [hC1:E4 a1 c1] [hP0:FB z o0 c0 r0] [hP1:FB r0 o1 c1 r1] [hl0:Cx c0 s0] [hl1:Cx c1 s1]
  (k:AQ P N all K fl.tail os (CT ρ d (.agg r1)) L) (hd:Nat.blt d N=true:=by rfl):AQ P N all K fl (⟨some d,.build T #[(f0,x0),(f1,x1)],ty,pos,af,none⟩::os) ρ L:=
 Y2 (h0 ▸ hC0.out) (h1 ▸ hC1.out) hl0.out hl1.out k hd
theorem ke {T f0 f1 f2 o0 o1 o2 s0 s1 s2:Nat} {x0 x1 x2:Operand} {a0 a1 a2:PV} {z c0 c1 c2 r0 r1 r2:List PV} [hS:Cj P T] [hZ:Cq P T z] [hF0:BZ P T f0 o0 s0] [hF1:BZ P T f1 o1 s1] [hF2:BZ P T f2 o2 s2] (h0:ρ.ev x0=a0) (h1:ρ.ev x1=a1) (h2:ρ.ev x2=a2) [hC0:E4 a0 c0] [hC1:E4 a1 c1] [hC2:E4 a2 c2] [hP0:FB z o0 c0 r0] [hP1:FB r0 o1 c1 r1] [hP2:FB r1 o2 c2 r2] [hl0:Cx c0 s0] [hl1:Cx c1 s1] [hl2:Cx c2 s2]
  (k:AQ P N all K fl.tail os (CT ρ d (.agg r2)) L) (hd:Nat.blt d N=true:=by rfl):AQ P N all K fl (⟨some d,.build T #[(f0,x0),(f1,x1),(f2,x2)],ty,pos,af,none⟩::os) ρ L:=
 Sj (h0 ▸ hC0.out) (h1 ▸ hC1.out) (h2 ▸ hC2.out) hl0.out hl1.out hl2.out k hd
theorem kd {T f0 f1 f2 f3 o0 o1 o2 o3 s0 s1 s2 s3:Nat} {x0 x1 x2 x3:Operand} {a0 a1 a2 a3:PV} {z c0 c1 c2 c3 r0 r1 r2 r3:List PV} [hS:Cj P T] [hZ:Cq P T z] [hF0:BZ P T f0 o0 s0] [hF1:BZ P T f1 o1 s1] [hF2:BZ P T f2 o2 s2] [hF3:BZ P T f3 o3 s3] (h0:ρ.ev x0=a0) (h1:ρ.ev x1=a1) (h2:ρ.ev x2=a2) (h3:ρ.ev x3=a3) [hC0:E4 a0 c0] [hC1:E4 a1 c1] [hC2:E4 a2 c2] [hC3:E4 a3 c3] [hP0:FB z o0 c0 r0] [hP1:FB r0 o1 c1 r1] [hP2:FB r1 o2 c2 r2] [hP3:FB r2 o3 c3 r3] [hl0:Cx c0 s0] [hl1:Cx c1 s1] [hl2:Cx c2 s2] [hl3:Cx c3 s3]
  (k:AQ P N all K fl.tail os (CT ρ d (.agg r3)) L) (hd:Nat.blt d N=true:=by rfl):AQ P N all K fl (⟨some d,.build T #[(f0,x0),(f1,x1),(f2,x2),(f3,x3)],ty,pos,af,none⟩::os) ρ L:=
 iY (h0 ▸ hC0.out) (h1 ▸ hC1.out) (h2 ▸ hC2.out) (h3 ▸ hC3.out) hl0.out hl1.out hl2.out hl3.out k hd
theorem kc {T f0 f1 f2 f3 f4 o0 o1 o2 o3 o4 s0 s1 s2 s3 s4:Nat} {x0 x1 x2 x3 x4:Operand} {a0 a1 a2 a3 a4:PV} {z c0 c1 c2 c3 c4 r0 r1 r2 r3 r4:List PV} [hS:Cj P T] [hZ:Cq P T z] [hF0:BZ P T f0 o0 s0] [hF1:BZ P T f1 o1 s1] [hF2:BZ P T f2 o2 s2] [hF3:BZ P T f3 o3 s3] [hF4:BZ P T f4 o4 s4] (h0:ρ.ev x0=a0) (h1:ρ.ev x1=a1) (h2:ρ.ev x2=a2) (h3:ρ.ev x3=a3) (h4:ρ.ev x4=a4) [hC0:E4 a0 c0] [hC1:E4 a1 c1] [hC2:E4 a2 c2] [hC3:E4 a3 c3] [hC4:E4 a4 c4] [hP0:FB z o0 c0 r0] [hP1:FB r0 o1 c1 r1] [hP2:FB r1 o2 c2 r2] [hP3:FB r2 o3 c3 r3] [hP4:FB r3 o4 c4 r4] [hl0:Cx c0 s0] [hl1:Cx c1 s1] [hl2:Cx c2 s2] [hl3:Cx c3 s3] [hl4:Cx c4 s4]
  (k:AQ P N all K fl.tail os (CT ρ d (.agg r4)) L) (hd:Nat.blt d N=true:=by rfl):AQ P N all K fl (⟨some d,.build T #[(f0,x0),(f1,x1),(f2,x2),(f3,x3),(f4,x4)],ty,pos,af,none⟩::os) ρ L:=
 iX (h0 ▸ hC0.out) (h1 ▸ hC1.out) (h2 ▸ hC2.out) (h3 ▸ hC3.out) (h4 ▸ hC4.out) hl0.out hl1.out hl2.out hl3.out hl4.out k hd
theorem kb {T f0 f1 f2 f3 f4 f5 o0 o1 o2 o3 o4 o5 s0 s1 s2 s3 s4 s5:Nat} {x0 x1 x2 x3 x4 x5:Operand} {a0 a1 a2 a3 a4 a5:PV} {z c0 c1 c2 c3 c4 c5 r0 r1 r2 r3 r4 r5:List PV} [hS:Cj P T] [hZ:Cq P T z] [hF0:BZ P T f0 o0 s0] [hF1:BZ P T f1 o1 s1] [hF2:BZ P T f2 o2 s2] [hF3:BZ P T f3 o3 s3] [hF4:BZ P T f4 o4 s4] [hF5:BZ P T f5 o5 s5] (h0:ρ.ev x0=a0) (h1:ρ.ev x1=a1) (h2:ρ.ev x2=a2) (h3:ρ.ev x3=a3) (h4:ρ.ev x4=a4) (h5:ρ.ev x5=a5) [hC0:E4 a0 c0] [hC1:E4 a1 c1] [hC2:E4 a2 c2] [hC3:E4 a3 c3] [hC4:E4 a4 c4] [hC5:E4 a5 c5] [hP0:FB z o0 c0 r0] [hP1:FB r0 o1 c1 r1] [hP2:FB r1 o2 c2 r2] [hP3:FB r2 o3 c3 r3] [hP4:FB r3 o4 c4 r4] [hP5:FB r4 o5 c5 r5] [hl0:Cx c0 s0] [hl1:Cx c1 s1] [hl2:Cx c2 s2] [hl3:Cx c3 s3] [hl4:Cx c4 s4] [hl5:Cx c5 s5]
  (k:AQ P N all K fl.tail os (CT ρ d (.agg r5)) L) (hd:Nat.blt d N=true:=by rfl):AQ P N all K fl (⟨some d,.build T #[(f0,x0),(f1,x1),(f2,x2),(f3,x3),(f4,x4),(f5,x5)],ty,pos,af,none⟩::os) ρ L:=
 iW (h0 ▸ hC0.out) (h1 ▸ hC1.out) (h2 ▸ hC2.out) (h3 ▸ hC3.out) (h4 ▸ hC4.out) (h5 ▸ hC5.out) hl0.out hl1.out hl2.out hl3.out hl4.out hl5.out k hd
theorem po {T sz by_:Nat} [hE:GW P T sz by_] {x0:Operand} {a0:PV} {α:Type} {f:α→List PV} {e0:α} (q0:ρ.ev x0=a0) [hC0:GI a0 f e0] [hf:NR f sz] (h24:1*sz≤16777216)
  (k:AQ P N all K fl.tail os (CT ρ d (.slice ([e0].map f) .ro)) L) (hd:Nat.blt d N=true:=by rfl):AQ P N all K fl (⟨some d,.buildSlice T 1 #[(0,x0)],ty,pos,af,none⟩::os) ρ L:=
 Bh hd (R8 (xs:= [x0]) (cs:= [e0].map f) rfl rfl h24 (by decide) (fun i h1 h2=>by
  match i,h1,h2 with
  |0,_,_=>exact⟨q0 ▸ hC0.out,hf.out e0⟩
  |m+1,h1,_=>exact absurd h1 (by simp only[AN,Af];omega))) k
theorem vJ {T sz by_:Nat} [hE:GW P T sz by_] {x0 x1:Operand} {a0 a1:PV} {α:Type} {f:α→List PV} {e0 e1:α} (q0:ρ.ev x0=a0) (q1:ρ.ev x1=a1) [hC0:GI a0 f e0] [hC1:GI a1 f e1] [hf:NR f sz] (h24:2*sz≤16777216)
  (k:AQ P N all K fl.tail os (CT ρ d (.slice ([e0,e1].map f) .ro)) L) (hd:Nat.blt d N=true:=by rfl):AQ P N all K fl (⟨some d,.buildSlice T 2 #[(0,x0),(1,x1)],ty,pos,af,none⟩::os) ρ L:=
 Bh hd (R8 (xs:= [x0,x1]) (cs:= [e0,e1].map f) rfl rfl h24 (by decide) (fun i h1 h2=>by
  match i,h1,h2 with
  |0,_,_=>exact⟨q0 ▸ hC0.out,hf.out e0⟩
  |1,_,_=>exact⟨q1 ▸ hC1.out,hf.out e1⟩
  |m+2,h1,_=>exact absurd h1 (by simp only[AN,Af];omega))) k
theorem vI {T sz by_:Nat} [hE:GW P T sz by_] {x0 x1 x2:Operand} {a0 a1 a2:PV} {α:Type} {f:α→List PV} {e0 e1 e2:α} (q0:ρ.ev x0=a0) (q1:ρ.ev x1=a1) (q2:ρ.ev x2=a2) [hC0:GI a0 f e0] [hC1:GI a1 f e1] [hC2:GI a2 f e2] [hf:NR f sz] (h24:3*sz≤16777216)
  (k:AQ P N all K fl.tail os (CT ρ d (.slice ([e0,e1,e2].map f) .ro)) L) (hd:Nat.blt d N=true:=by rfl):AQ P N all K fl (⟨some d,.buildSlice T 3 #[(0,x0),(1,x1),(2,x2)],ty,pos,af,none⟩::os) ρ L:=
 Bh hd (R8 (xs:= [x0,x1,x2]) (cs:= [e0,e1,e2].map f) rfl rfl h24 (by decide) (fun i h1 h2=>by
  match i,h1,h2 with
  |0,_,_=>exact⟨q0 ▸ hC0.out,hf.out e0⟩
  |1,_,_=>exact⟨q1 ▸ hC1.out,hf.out e1⟩
  |2,_,_=>exact⟨q2 ▸ hC2.out,hf.out e2⟩
  |m+3,h1,_=>exact absurd h1 (by simp only[AN,Af];omega))) k
theorem vH {T sz by_:Nat} [hE:GW P T sz by_] {x0 x1 x2 x3:Operand} {a0 a1 a2 a3:PV} {α:Type} {f:α→List PV} {e0 e1 e2 e3:α} (q0:ρ.ev x0=a0) (q1:ρ.ev x1=a1) (q2:ρ.ev x2=a2) (q3:ρ.ev x3=a3) [hC0:GI a0 f e0] [hC1:GI a1 f e1] [hC2:GI a2 f e2] [hC3:GI a3 f e3] [hf:NR f sz] (h24:4*sz≤16777216)
  (k:AQ P N all K fl.tail os (CT ρ d (.slice ([e0,e1,e2,e3].map f) .ro)) L) (hd:Nat.blt d N=true:=by rfl):AQ P N all K fl (⟨some d,.buildSlice T 4 #[(0,x0),(1,x1),(2,x2),(3,x3)],ty,pos,af,none⟩::os) ρ L:=
 Bh hd (R8 (xs:= [x0,x1,x2,x3]) (cs:= [e0,e1,e2,e3].map f) rfl rfl h24 (by decide) (fun i h1 h2=>by
  match i,h1,h2 with
  |0,_,_=>exact⟨q0 ▸ hC0.out,hf.out e0⟩
  |1,_,_=>exact⟨q1 ▸ hC1.out,hf.out e1⟩
  |2,_,_=>exact⟨q2 ▸ hC2.out,hf.out e2⟩
  |3,_,_=>exact⟨q3 ▸ hC3.out,hf.out e3⟩
  |m+4,h1,_=>exact absurd h1 (by simp only[AN,Af];omega))) k
theorem vG {T sz by_:Nat} [hE:GW P T sz by_] {x0 x1 x2 x3 x4:Operand} {a0 a1 a2 a3 a4:PV} {α:Type} {f:α→List PV} {e0 e1 e2 e3 e4:α} (q0:ρ.ev x0=a0) (q1:ρ.ev x1=a1) (q2:ρ.ev x2=a2) (q3:ρ.ev x3=a3) (q4:ρ.ev x4=a4) [hC0:GI a0 f e0] [hC1:GI a1 f e1] [hC2:GI a2 f e2] [hC3:GI a3 f e3] [hC4:GI a4 f e4] [hf:NR f sz] (h24:5*sz≤16777216)
  (k:AQ P N all K fl.tail os (CT ρ d (.slice ([e0,e1,e2,e3,e4].map f) .ro)) L) (hd:Nat.blt d N=true:=by rfl):AQ P N all K fl (⟨some d,.buildSlice T 5 #[(0,x0),(1,x1),(2,x2),(3,x3),(4,x4)],ty,pos,af,none⟩::os) ρ L:=
 Bh hd (R8 (xs:= [x0,x1,x2,x3,x4]) (cs:= [e0,e1,e2,e3,e4].map f) rfl rfl h24 (by decide) (fun i h1 h2=>by
  match i,h1,h2 with
  |0,_,_=>exact⟨q0 ▸ hC0.out,hf.out e0⟩
  |1,_,_=>exact⟨q1 ▸ hC1.out,hf.out e1⟩
  |2,_,_=>exact⟨q2 ▸ hC2.out,hf.out e2⟩
  |3,_,_=>exact⟨q3 ▸ hC3.out,hf.out e3⟩
  |4,_,_=>exact⟨q4 ▸ hC4.out,hf.out e4⟩
  |m+5,h1,_=>exact absurd h1 (by simp only[AN,Af];omega))) k
theorem vF {T sz by_:Nat} [hE:GW P T sz by_] {x0 x1 x2 x3 x4 x5:Operand} {a0 a1 a2 a3 a4 a5:PV} {α:Type} {f:α→List PV} {e0 e1 e2 e3 e4 e5:α} (q0:ρ.ev x0=a0) (q1:ρ.ev x1=a1) (q2:ρ.ev x2=a2) (q3:ρ.ev x3=a3) (q4:ρ.ev x4=a4) (q5:ρ.ev x5=a5) [hC0:GI a0 f e0] [hC1:GI a1 f e1] [hC2:GI a2 f e2] [hC3:GI a3 f e3] [hC4:GI a4 f e4] [hC5:GI a5 f e5] [hf:NR f sz] (h24:6*sz≤16777216)
  (k:AQ P N all K fl.tail os (CT ρ d (.slice ([e0,e1,e2,e3,e4,e5].map f) .ro)) L) (hd:Nat.blt d N=true:=by rfl):AQ P N all K fl (⟨some d,.buildSlice T 6 #[(0,x0),(1,x1),(2,x2),(3,x3),(4,x4),(5,x5)],ty,pos,af,none⟩::os) ρ L:=
 Bh hd (R8 (xs:= [x0,x1,x2,x3,x4,x5]) (cs:= [e0,e1,e2,e3,e4,e5].map f) rfl rfl h24 (by decide) (fun i h1 h2=>by
  match i,h1,h2 with
  |0,_,_=>exact⟨q0 ▸ hC0.out,hf.out e0⟩
  |1,_,_=>exact⟨q1 ▸ hC1.out,hf.out e1⟩
  |2,_,_=>exact⟨q2 ▸ hC2.out,hf.out e2⟩
  |3,_,_=>exact⟨q3 ▸ hC3.out,hf.out e3⟩
  |4,_,_=>exact⟨q4 ▸ hC4.out,hf.out e4⟩
  |5,_,_=>exact⟨q5 ▸ hC5.out,hf.out e5⟩
  |m+6,h1,_=>exact absurd h1 (by simp only[AN,Af];omega))) k
theorem cX {f:Nat} {X:PV} {ats:Array TypeId} [hf:B5 P f] [hc:C9 P f [] X] (k:AQ P N all K fl.tail os (CT ρ d X) L) (hd:Nat.blt d N=true:=by rfl):
  AQ P N all K fl (⟨some d,.call { callee:= .value (.func f),args:= #[],argTypes:=ats },ty,pos,af,none⟩::os) ρ L:=
 Bh hd (TC (xs:= []) rfl hc.out) k
theorem We {f:Nat} {X:PV} {ats:Array TypeId} {x0:Operand} {a0 b0:PV} [hf:B5 P f] (q0:ρ.ev x0=a0) [hN0:Jl a0 b0] [hc:C9 P f [b0] X] (k:AQ P N all K fl.tail os (CT ρ d X) L) (hd:Nat.blt d N=true:=by rfl):
  AQ P N all K fl (⟨some d,.call { callee:= .value (.func f),args:= #[x0],argTypes:=ats },ty,pos,af,none⟩::os) ρ L:=
 Bh hd (TC (xs:= [x0]) (by simp only[Aq,CG,q0]) (SP (as:= [a0]) (bs:= [b0]) rfl (fun i h1 h2=>by
  match i,h1,h2 with
  |0,_,_=>exact hN0.out
  |m+1,h1,_=>exact absurd h1 (by simp only[AN,Af];omega)) hc.out)) k
theorem cW {f:Nat} {X:PV} {ats:Array TypeId} {x0 x1:Operand} {a0 a1 b0 b1:PV} [hf:B5 P f] (q0:ρ.ev x0=a0) (q1:ρ.ev x1=a1) [hN0:Jl a0 b0] [hN1:Jl a1 b1] [hc:C9 P f [b0,b1] X] (k:AQ P N all K fl.tail os (CT ρ d X) L) (hd:Nat.blt d N=true:=by rfl):
  AQ P N all K fl (⟨some d,.call { callee:= .value (.func f),args:= #[x0,x1],argTypes:=ats },ty,pos,af,none⟩::os) ρ L:=
 Bh hd (TC (xs:= [x0,x1]) (by simp only[Aq,CG,q0,q1]) (SP (as:= [a0,a1]) (bs:= [b0,b1]) rfl (fun i h1 h2=>by
  match i,h1,h2 with
  |0,_,_=>exact hN0.out
  |1,_,_=>exact hN1.out
  |m+2,h1,_=>exact absurd h1 (by simp only[AN,Af];omega)) hc.out)) k
theorem cU {f:Nat} {X:PV} {ats:Array TypeId} {x0 x1 x2:Operand} {a0 a1 a2 b0 b1 b2:PV} [hf:B5 P f] (q0:ρ.ev x0=a0) (q1:ρ.ev x1=a1) (q2:ρ.ev x2=a2) [hN0:Jl a0 b0] [hN1:Jl a1 b1] [hN2:Jl a2 b2] [hc:C9 P f [b0,b1,b2] X] (k:AQ P N all K fl.tail os (CT ρ d X) L) (hd:Nat.blt d N=true:=by rfl):
  AQ P N all K fl (⟨some d,.call { callee:= .value (.func f),args:= #[x0,x1,x2],argTypes:=ats },ty,pos,af,none⟩::os) ρ L:=
 Bh hd (TC (xs:= [x0,x1,x2]) (by simp only[Aq,CG,q0,q1,q2]) (SP (as:= [a0,a1,a2]) (bs:= [b0,b1,b2]) rfl (fun i h1 h2=>by
  match i,h1,h2 with
  |0,_,_=>exact hN0.out
  |1,_,_=>exact hN1.out
  |2,_,_=>exact hN2.out
  |m+3,h1,_=>exact absurd h1 (by simp only[AN,Af];omega)) hc.out)) k
theorem cT {f:Nat} {X:PV} {ats:Array TypeId} {x0 x1 x2 x3:Operand} {a0 a1 a2 a3 b0 b1 b2 b3:PV} [hf:B5 P f] (q0:ρ.ev x0=a0) (q1:ρ.ev x1=a1) (q2:ρ.ev x2=a2) (q3:ρ.ev x3=a3) [hN0:Jl a0 b0] [hN1:Jl a1 b1] [hN2:Jl a2 b2] [hN3:Jl a3 b3] [hc:C9 P f [b0,b1,b2,b3] X] (k:AQ P N all K fl.tail os (CT ρ d X) L) (hd:Nat.blt d N=true:=by rfl):
  AQ P N all K fl (⟨some d,.call { callee:= .value (.func f),args:= #[x0,x1,x2,x3],argTypes:=ats },ty,pos,af,none⟩::os) ρ L:=
 Bh hd (TC (xs:= [x0,x1,x2,x3]) (by simp only[Aq,CG,q0,q1,q2,q3]) (SP (as:= [a0,a1,a2,a3]) (bs:= [b0,b1,b2,b3]) rfl (fun i h1 h2=>by
  match i,h1,h2 with
  |0,_,_=>exact hN0.out
  |1,_,_=>exact hN1.out
  |2,_,_=>exact hN2.out
  |3,_,_=>exact hN3.out
  |m+4,h1,_=>exact absurd h1 (by simp only[AN,Af];omega)) hc.out)) k
end
def Dig.at (d:Dig) (i:Nat):UInt8:=d.bs.getD i 0
theorem Dig.ext_at {a b:Dig} (h: ∀ i,i < 32→a.at i=b.at i):a=b:=Dig.ext (DY (by rw[a.len,b.len]) fun i h1 h2=>by
 have:=h i (by rw[←a.len];exact h1)
 simpa [Dig.at,h1,h2]using this)
section
variable {P:Program} {N:Nat} {all:Array Oper} {K:Env→List Res→Prop} {fl:List Bool} {os:List Oper} {ρ:Env} {L:List Res}
variable {d:Nat} {ty:TypeId} {pos:String} {af:Array Edge}
theorem Q5 {T n E sz by_:Nat} [hT:UO P T n E] [hE:Ed P E sz by_] {x y:Operand} {b off:Nat} {kk:IntKind} {i:Nat} (hx:ρ.ev x= .raw (.pointer (some ⟨b,off,none⟩))) (hy:ρ.ev y= .raw (.int kk (i:Int))) (hi:i < n)
  (k:AQ P N all K fl.tail os (CT ρ d (.raw (.pointer (some ⟨b,off+i*sz,none⟩)))) L) (hd:Nat.blt d N=true:=by rfl):AQ P N all K fl (⟨some d,.indexAddr T x y,ty,pos,af,none⟩::os) ρ L:=
 Bh hd (BC fun a w g ha hI=>by
  have h1:=Ca ha (x:=x) (by simp[Op.operands]) hx
  have h2:=Ca ha (x:=y) (by simp[Op.operands]) hy
  refine⟨.pointer (some ⟨b,off+i*sz,none⟩),?_,.raw _⟩
  have h3:(0:Int)≤(i:Int)∧(i:Int) < (n:Int):=by omega
  simp[execOp,Instr.indexAt,h1,h2,asIntOf,IA hT.out,Instr.sureAddr,h3,Ed.run hE,Dq];intro h4;omega) k
theorem iK {T:TypeId} {E sz by_:Nat} [hT:ML P T E] [hE:Ed P E sz by_] {x y:Operand} {α:Type} {f:α→List PV} [hf:NR f sz] {l:List α} {t:CN} {kk:IntKind} {n:Int} (hx:ρ.ev x= .slice (l.map f) t) (hy:ρ.ev y= .raw (.int kk n)) (h0:0≤n) (hn:n.toNat < l.length)
  (k:AQ P N all K fl.tail os (CT ρ d (.pt (f l[n.toNat]) 0)) L) (hd:Nat.blt d N=true:=by rfl):
  AQ P N all K fl (⟨some d,.indexAddr T x y,ty,pos,af,none⟩::os) ρ L:=
 bp hx hy h0 (by simpa using hn) (by simp[hf.out]) (by simpa using k) hd
theorem bn {T:Nat} [hT:Dc P T] {x:Operand} {b off i T':Nat} {dd:Dig} (hx:ρ.ev x= .raw (.pointer (some ⟨b,0+i*1,none⟩))) (hm:Res.box b T' (eDig dd)∈L) (hi:i < 32) (k:AQ P N all K fl.tail os (CT ρ d (.raw (.int .u8 ((dd.at i).toNat:Int)))) L) (hd:Nat.blt d N=true:=by rfl) (_:off=0:=by rfl):
  AQ P N all K fl (⟨some d,.load T x,ty,pos,af,none⟩::os) ρ L:=
 Si hx hm (by
  have h:i < dd.bs.length:=by rw[dd.len];exact hi
  simp[eDig,h,eU8,u8,Dig.at]) k hd
theorem Uh {T n E sz by_:Nat} {z:List PV} [hT:UO P T n E] [hE:Ed P E sz by_] [hZ:Cq P T z] (k:AQ P N all K fl.tail os (CT ρ d (.agg z)) L) (hd:Nat.blt d N=true:=by rfl):AQ P N all K fl (⟨some d,.build T #[],ty,pos,af,none⟩::os) ρ L:=
 Bh hd (BC fun a w g ha hi=>by
  obtain⟨i,v,us,h1,h2,h3,h4⟩:=hZ.out
  refine⟨.agg us.toArray,?_,(h4 g).agg⟩
  show(do pure (Next.value (←Instr.build T ((#[]:Array (Nat × Operand)).map fun(p:Nat × Operand)=>(p.1,a.eval p.2)))):Sem Next).run P w=_
  simp only[Instr.build,Sem.run_bind,zeroValue,typeInfo,run_program,h1,Sem.run_pure,Result.andThen_ok,h2,run_underlying hT.out,Ed.run hE,h3]
  simp[Instr.fill]) k
theorem Uk {T T₂ E₂ sz bytes:Nat} [hT:GW P T sz bytes] [hT₂:ML P T₂ E₂] {x y:Operand} {α:Type} {f:α→List PV} [hf:NR f sz] [hff:K2 f] {m:List α} {u:CN}
  (hx:ρ.ev x= .slice [] .nil) (hy:ρ.ev y= .slice (m.map f) u) (hb:m.length*bytes≤140737488355328) (hm:m.length≤140737488355328)
  (k: ∀ t',AQ P N all K fl.tail os (CT ρ d (.slice (m.map f) t')) (.tok t' m.length sz::L)) (hd:Nat.blt d N=true:=by rfl) (hfl:fl.headD true=true:=by rfl):
  AQ P N all K fl (⟨some d,.call { callee:= .builtin .append,args:= #[x,y],argTypes:= #[T,T₂] },ty,pos,af,none⟩::os) ρ L:=
 Dd rfl (PA hd) hfl (fun a w g ha hi=>by
  have h:=TJ (P:=P) (T:=T) (T₂:=T₂) (dst:=some d) (ty:=ty) (pos:=pos) (af:=af) (gd:=none) (ρ:=ρ) (L:= .tok .nil 0 sz::L) (L':=fun t'=> .tok t' ([].length+(m.map f).length) sz::L) (xs:= []) (t:= .nil) hx hy (by simp) (fun e he=>by obtain⟨a,_,rfl⟩:=AO.1 he;exact hf.out a) (fun e he=>by obtain⟨a,_,rfl⟩:=AO.1 he;exact hff.out a)
   (by simpa using hb) (by simp;exact hm) (fun t'=> .here) (Ψ:=fun x' L'=>AQ P N all K fl.tail os (CT ρ d x') L') (fun t'=>by simpa using k t') a w g ha (hi.tok sz)
  exact h)
theorem eK {dst:Option Nat} {op:Op} {j:Nat} {b p:Bool} {s:Nat} (hs:(all[j]?).bind (·.dst)=some s) (h:ρ s= .raw (.bool p)) (hp:p=b) (k:AQ P N all K fl (⟨dst,op,ty,pos,af,none⟩::os) ρ L):
  AQ P N all K fl (⟨dst,op,ty,pos,af,some (j,b)⟩::os) ρ L:=YN hs (hp ▸ h) k
theorem YO {j:Nat} {op:Op} {p:Bool} {s:Nat} (hs:(all[j]?).bind (·.dst)=some s) (h:ρ s= .raw (.bool p)) (hp:p=false) (k:AQ P N all K fl.tail os (CT ρ d (.raw undef)) L) (hd:Nat.blt d N=true:=by rfl):
  AQ P N all K fl (⟨some d,op,ty,pos,af,some (j,true)⟩::os) ρ L:=WM hs h (by subst hp;simp) (PA hd) k
theorem YP {j:Nat} {op:Op} {p:Bool} {s:Nat} (hs:(all[j]?).bind (·.dst)=some s) (h:ρ s= .raw (.bool p)) (hp:p=true) (k:AQ P N all K fl.tail os (CT ρ d (.raw undef)) L) (hd:Nat.blt d N=true:=by rfl):
  AQ P N all K fl (⟨some d,op,ty,pos,af,some (j,false)⟩::os) ρ L:=WM hs h (by subst hp;simp) (PA hd) k
theorem jK {j:Nat} {b:Bool} {op:Op} {s:Nat} (hs:(all[j]?).bind (·.dst)=some s) (h:ρ s= .raw undef) (k:AQ P N all K fl.tail os (CT ρ d (.raw undef)) L) (hd:Nat.blt d N=true:=by rfl):
  AQ P N all K fl (⟨some d,op,ty,pos,af,some (j,b)⟩::os) ρ L:=WM hs h (by simp[undef]) (PA hd) k
theorem Ar {dst:Option Nat} {op:Op} {j:Nat} {b p:Bool} {s:Nat} (kT:p=true→AQ P N all K fl (⟨dst,op,ty,pos,af,some (j,b)⟩::os) ρ L) (kF:p=false→AQ P N all K fl (⟨dst,op,ty,pos,af,some (j,b)⟩::os) ρ L)
  (_:(all[j]?).bind (·.dst)=some s:=by rfl) (_:ρ s= .raw (.bool p):=by conv=>lhs;whnf):AQ P N all K fl (⟨dst,op,ty,pos,af,some (j,b)⟩::os) ρ L:=by
 cases p
 ·exact kF rfl
 ·exact kT rfl
theorem Xt {c x y:Operand} {p:Bool} {v:PV} (hc:ρ.ev c= .raw (.bool p)) (hp:p=true) (hv:ρ.ev x=v) (k:AQ P N all K fl.tail os (CT ρ d v) L) (hd:Nat.blt d N=true:=by rfl):AQ P N all K fl (⟨some d,.pick c x y,ty,pos,af,none⟩::os) ρ L:=mO (hp ▸ hc) (by rw[hv];exact k) hd
theorem Xu {c x y:Operand} {p:Bool} {v:PV} (hc:ρ.ev c= .raw (.bool p)) (hp:p=false) (hv:ρ.ev y=v) (k:AQ P N all K fl.tail os (CT ρ d v) L) (hd:Nat.blt d N=true:=by rfl):AQ P N all K fl (⟨some d,.pick c x y,ty,pos,af,none⟩::os) ρ L:=mQ (hp ▸ hc) (by rw[hv];exact k) hd
theorem IX {s:Nat} {x y:Code} {Q:PPost} (hc:ρ s= .raw (.bool true)) (h:ER P N x Q ρ L):ER P N (.cond (.tmp s) x y) Q ρ L:=KX hc (fun _=>h) (by simp)
theorem IY {s:Nat} {x y:Code} {Q:PPost} (hc:ρ s= .raw (.bool false)) (h:ER P N y Q ρ L):ER P N (.cond (.tmp s) x y) Q ρ L:=KX hc (by simp) (fun _=>h)
end
def NU (a b:Nat):Nat:=(a+b) % 4294967296
def XM (a b:Nat):Nat:=(a % 4294967296)&&& (b % 4294967296)
def eT (a b:Nat):Nat:=(a % 4294967296)|||(b % 4294967296)
def LX (a b:Nat):Nat:=(a % 4294967296) ^^^ (b % 4294967296)
def nS (a:Nat):Nat:=4294967295 ^^^ (a % 4294967296)
def Vy (a n:Nat):Nat:=a / 2 ^ (min n 32)
def Xk (a n:Nat):Nat:=(a*2 ^ (min n 32)) % 4294967296
theorem KL (a:Nat):(BitVec.ofInt 32 (a:Int)).toNat=a % 4294967296:=by
 rw[BitVec.toNat_ofInt];norm_cast
theorem MZ (a:Nat) (h:a < 4294967296):IntKind.u32.wrap (a:Int)=(a:Int):=IntWalk.u32_in _ ⟨by omega,by omega⟩
theorem Ma (a:Nat):IntKind.u32.wrap (a:Int)=((a % 4294967296:Nat):Int):=by rw[IntKind.wrap_u32];omega
theorem Ux (n:Nat):((2:Int) ^ n)=((2 ^ n:Nat):Int):=by norm_cast
theorem Qc (a n:Nat):((a:Int).fdiv (2 ^ n))=((a / 2 ^ n:Nat):Int):=by
 rw[Ux,Int.fdiv_eq_ediv_of_nonneg _ (Int.natCast_nonneg _)];norm_cast
theorem nY (a n:Nat):((a:Int)*(2 ^ n))=((a*2 ^ n:Nat):Int):=by rw[Ux];norm_cast
theorem ZS (a b:Nat):Op.intBits .xor .u32 (a:Int) (b:Int)=pure (.int .u32 ((LX a b:Nat):Int)):=by
 have h:(BitVec.ofInt 32 (a:Int) ^^^ BitVec.ofInt 32 (b:Int)).toNat=LX a b:=by rw[BitVec.toNat_xor,KL,KL];rfl
 have h2:LX a b < 4294967296:=by rw[←h];exact BitVec.isLt _
 show pure (Value.int .u32 (IntKind.u32.wrap ((BitVec.ofInt 32 (a:Int) ^^^ BitVec.ofInt 32 (b:Int)).toNat:Int)))=_
 rw[h,MZ _ h2]
theorem ka (a b:Nat):Op.intBits .and .u32 (a:Int) (b:Int)=pure (.int .u32 ((XM a b:Nat):Int)):=by
 have h:(BitVec.ofInt 32 (a:Int)&&& BitVec.ofInt 32 (b:Int)).toNat=XM a b:=by rw[BitVec.toNat_and,KL,KL];rfl
 have h2:XM a b < 4294967296:=by rw[←h];exact BitVec.isLt _
 show pure (Value.int .u32 (IntKind.u32.wrap ((BitVec.ofInt 32 (a:Int)&&& BitVec.ofInt 32 (b:Int)).toNat:Int)))=_
 rw[h,MZ _ h2]
theorem oV (a b:Nat):Op.intBits .or .u32 (a:Int) (b:Int)=pure (.int .u32 ((eT a b:Nat):Int)):=by
 have h:(BitVec.ofInt 32 (a:Int)|||BitVec.ofInt 32 (b:Int)).toNat=eT a b:=by rw[BitVec.toNat_or,KL,KL];rfl
 have h2:eT a b < 4294967296:=by rw[←h];exact BitVec.isLt _
 show pure (Value.int .u32 (IntKind.u32.wrap ((BitVec.ofInt 32 (a:Int)|||BitVec.ofInt 32 (b:Int)).toNat:Int)))=_
 rw[h,MZ _ h2]
section
variable {P:Program} {N:Nat} {all:Array Oper} {K:Env→List Res→Prop} {fl:List Bool} {os:List Oper} {ρ:Env} {L:List Res}
variable {d:Nat} {ty:TypeId} {pos:String} {af:Array Edge} {T T':TypeId} {x y:Operand} {a b:Nat}
theorem ig (hx:ρ.ev x= .raw (.int .u32 (a:Int))) (hy:ρ.ev y= .raw (.int .u32 (b:Int))) (k:AQ P N all K fl.tail os (CT ρ d (.raw (.int .u32 (NU a b:Nat)))) L) (hd:Nat.blt d N=true:=by rfl):
  AQ P N all K fl (⟨some d,.binOp .add T x y T',ty,pos,af,none⟩::os) ρ L:=Gi hx hy (fun w=>by
   have e:((a:Int)+(b:Int))=((a+b:Nat):Int):=by omega
   simp only[binOp,ne_eq,not_true_eq_false,if_false,Op.intArith,e,Ma,NU];rfl) k hd
theorem gj (hx:ρ.ev x= .raw (.int .u32 (a:Int))) (hy:ρ.ev y= .raw (.int .u32 (b:Int))) (k:AQ P N all K fl.tail os (CT ρ d (.raw (.int .u32 (LX a b:Nat)))) L) (hd:Nat.blt d N=true:=by rfl):
  AQ P N all K fl (⟨some d,.binOp .xor T x y T',ty,pos,af,none⟩::os) ρ L:=Gi hx hy (fun w=>by simp only[binOp,ne_eq,not_true_eq_false,if_false,ZS];rfl) k hd
theorem ie (hx:ρ.ev x= .raw (.int .u32 (a:Int))) (hy:ρ.ev y= .raw (.int .u32 (b:Int))) (k:AQ P N all K fl.tail os (CT ρ d (.raw (.int .u32 (XM a b:Nat)))) L) (hd:Nat.blt d N=true:=by rfl):
  AQ P N all K fl (⟨some d,.binOp .and T x y T',ty,pos,af,none⟩::os) ρ L:=Gi hx hy (fun w=>by simp only[binOp,ne_eq,not_true_eq_false,if_false,ka];rfl) k hd
theorem pZ (hx:ρ.ev x= .raw (.int .u32 (a:Int))) (hy:ρ.ev y= .raw (.int .u32 (b:Int))) (k:AQ P N all K fl.tail os (CT ρ d (.raw (.int .u32 (eT a b:Nat)))) L) (hd:Nat.blt d N=true:=by rfl):
  AQ P N all K fl (⟨some d,.binOp .or T x y T',ty,pos,af,none⟩::os) ρ L:=Gi hx hy (fun w=>by simp only[binOp,ne_eq,not_true_eq_false,if_false,oV];rfl) k hd
theorem iA (hx:ρ.ev x= .raw (.int .u32 (a:Int))) (k:AQ P N all K fl.tail os (CT ρ d (.raw (.int .u32 (nS a:Nat)))) L) (hd:Nat.blt d N=true:=by rfl):AQ P N all K fl (⟨some d,.unOp .xor T x,ty,pos,af,none⟩::os) ρ L:=
 Bh hd (BC fun a' w g ha hi=>⟨.int .u32 (nS a:Nat),by
  have h1:=Ca ha (x:=x) (by simp[Op.operands]) hx
  have e:IntKind.u32.max=((4294967295:Nat):Int):=by decide
  have hs:IntKind.u32.signed=false:=rfl
  have e2:LX 4294967295 a=nS a:=rfl
  simp only[execOp,h1,Op.unary,hs,BX,if_false,e,ZS,e2];rfl,.raw _⟩) k
theorem gu (hx:ρ.ev x= .raw (.int .u32 (a:Int))) (hy:ρ.ev y= .raw (.int .u64 (b:Int))) (k:AQ P N all K fl.tail os (CT ρ d (.raw (.int .u32 (Vy a b:Nat)))) L) (hd:Nat.blt d N=true:=by rfl):
  AQ P N all K fl (⟨some d,.binOp .shr T x y T',ty,pos,af,none⟩::os) ρ L:=Gi hx hy (fun w=>by
   have h0: ¬(b:Int) < 0:=by omega
   simp only[binOp,Op.shift,h0,if_false,IntKind.bits,E0]
   rw[Qc];rfl) k hd
theorem gw (hx:ρ.ev x= .raw (.int .u32 (a:Int))) (hy:ρ.ev y= .raw (.int .u64 (b:Int))) (k:AQ P N all K fl.tail os (CT ρ d (.raw (.int .u32 (Xk a b:Nat)))) L) (hd:Nat.blt d N=true:=by rfl):
  AQ P N all K fl (⟨some d,.binOp .shl T x y T',ty,pos,af,none⟩::os) ρ L:=Gi hx hy (fun w=>by
   have h0: ¬(b:Int) < 0:=by omega
   simp only[binOp,Op.shift,h0,if_false,IntKind.bits,E0]
   rw[nY,Ma];rfl) k hd
theorem W0 (hx:ρ.ev x= .raw (.int .u64 (a:Int))) (hy:ρ.ev y= .raw (.int .u64 (b:Int))) (h1:b≤a) (h2:a≤18446744073709551615) (k:AQ P N all K fl.tail os (CT ρ d (.raw (.int .u64 ((a - b:Nat):Int)))) L) (hd:Nat.blt d N=true:=by rfl):
  AQ P N all K fl (⟨some d,.binOp .sub T x y T',ty,pos,af,none⟩::os) ρ L:=Gi hx hy (fun w=>by
   have e:((a:Int) - (b:Int))=((a - b:Nat):Int):=by omega
   simp only[binOp,ne_eq,not_true_eq_false,if_false,Op.intArith,e]
   rw[IntWalk.u64_in _ ⟨by omega,by omega⟩];rfl) k hd
theorem W2 (hx:ρ.ev x= .raw (.int .u64 (a:Int))) (hy:ρ.ev y= .raw (.int .u64 (b:Int))) (h2:a*b≤18446744073709551615) (k:AQ P N all K fl.tail os (CT ρ d (.raw (.int .u64 ((a*b:Nat):Int)))) L) (hd:Nat.blt d N=true:=by rfl):
  AQ P N all K fl (⟨some d,.binOp .mul T x y T',ty,pos,af,none⟩::os) ρ L:=Gi hx hy (fun w=>by
   have e:((a:Int)*(b:Int))=((a*b:Nat):Int):=by norm_cast
   simp only[binOp,ne_eq,not_true_eq_false,if_false,Op.intArith,e]
   rw[IntWalk.u64_in _ ⟨by omega,by omega⟩];rfl) k hd
theorem gv (hx:ρ.ev x= .raw (.int .u64 (a:Int))) (hy:ρ.ev y= .raw (.int .u64 (b:Int))) (k:AQ P N all K fl.tail os (CT ρ d (.raw (.int .u64 ((a / 2 ^ (min b 64):Nat):Int)))) L) (hd:Nat.blt d N=true:=by rfl):
  AQ P N all K fl (⟨some d,.binOp .shr T x y T',ty,pos,af,none⟩::os) ρ L:=Gi hx hy (fun w=>by
   have h0: ¬(b:Int) < 0:=by omega
   simp only[binOp,Op.shift,h0,if_false,IntKind.bits,E0]
   rw[Qc];rfl) k hd
theorem bw {S:TypeId} {k':IntKind} [hS:NB P S k'] [hT:NB P T .u8] {k₀:IntKind} (hx:ρ.ev x= .raw (.int k₀ (a:Int))) (k:AQ P N all K fl.tail os (CT ρ d (.raw (.int .u8 ((UInt8.ofNat a).toNat:Int)))) L) (hd:Nat.blt d N=true:=by rfl):
  AQ P N all K fl (⟨some d,.convert S T x,ty,pos,af,none⟩::os) ρ L:=s_convI' hx k hd
 where
 s_convI' (hx:ρ.ev x= .raw (.int k₀ (a:Int))) (k:AQ P N all K fl.tail os (CT ρ d (.raw (.int .u8 ((UInt8.ofNat a).toNat:Int)))) L) (hd:Nat.blt d N=true):AQ P N all K fl (⟨some d,.convert S T x,ty,pos,af,none⟩::os) ρ L:=
  W6 hx (by
   have e:IntKind.u8.wrap (a:Int)=((UInt8.ofNat a).toNat:Int):=by
    rw[IntKind.wrap_u8,UInt8.toNat_ofNat'];omega
   rw[e];exact k) hd
theorem bu {S:TypeId} {k':IntKind} [hS:NB P S k'] [hT:NB P T .u32] {k₀:IntKind} (hx:ρ.ev x= .raw (.int k₀ (a:Int))) (k:AQ P N all K fl.tail os (CT ρ d (.raw (.int .u32 ((a % 4294967296:Nat):Int)))) L) (hd:Nat.blt d N=true:=by rfl):
  AQ P N all K fl (⟨some d,.convert S T x,ty,pos,af,none⟩::os) ρ L:=W6 hx (by rw[Ma];exact k) hd
theorem SL {S:TypeId} {k':IntKind} [hS:NB P S k'] [hT:NB P T .u64] {k₀:IntKind} (hx:ρ.ev x= .raw (.int k₀ (a:Int))) (ha:a≤18446744073709551615) (k:AQ P N all K fl.tail os (CT ρ d (.raw (.int .u64 (a:Int)))) L) (hd:Nat.blt d N=true:=by rfl):
  AQ P N all K fl (⟨some d,.convert S T x,ty,pos,af,none⟩::os) ρ L:=W5 hx (IntWalk.u64_in _ ⟨by omega,by omega⟩) k hd
theorem pc {n:Int} (hx:ρ.ev x= .raw (.int .i64 n)) (hb: -9223372036854775807≤n∧n≤9223372036854775807) (k:AQ P N all K fl.tail os (CT ρ d (.raw (.int .i64 (-n)))) L) (hd:Nat.blt d N=true:=by rfl):AQ P N all K fl (⟨some d,.unOp .neg T x,ty,pos,af,none⟩::os) ρ L:=
 Bh hd (BC fun a' w g ha hi=>⟨.int .i64 (-n),by
  have h1:=Ca ha (x:=x) (by simp[Op.operands]) hx
  simp only[execOp,h1,Op.unary,Op.intArith,Int.zero_sub]
  rw[IntWalk.i64_in _ ⟨by omega,by omega⟩];rfl,.raw _⟩) k
def eBy (b:UInt8):List PV:= [.raw (.int .u8 (b.toNat:Int))]
end
instance :NR eBy 1:=⟨fun _=>rfl⟩
instance :K2 eBy:=⟨fun _=>Fa rfl HC⟩
instance (b:UInt8):GI (.raw (.int .u8 (b.toNat:Int))) eBy b:=⟨.one (K2.out (f:=eBy) b)⟩
instance (d:Dig):XX (eDig d) 0 32 (eDig d):=⟨by rw[LU,AE (by simp)];simp⟩
class kq (P:Program) (T:Nat):Prop where
 out: ∃ E,P.underlying T=some (.slice E)∧P.underlying E=some (.int .u8)
section
variable {P:Program} {N:Nat} {all:Array Oper} {K:Env→List Res→Prop} {fl:List Bool} {os:List Oper} {ρ:Env} {L:List Res}
variable {d:Nat} {ty:TypeId} {pos:String} {af:Array Edge} {T T':TypeId} {x y:Operand} {a b:Nat}
theorem gk {S:TypeId} [hS:kq P S] [hT:Ri P T] {bs:Str} {t:CN} (hx:ρ.ev x= .slice (bs.map eBy) t) (k:AQ P N all K fl.tail os (CT ρ d (.str bs)) L) (hd:Nat.blt d N=true:=by rfl):
  AQ P N all K fl (⟨some d,.convert S T x,ty,pos,af,none⟩::os) ρ L:=
 Bh hd (BC fun a' w g ha hi=>by
  obtain⟨E,e1,e2⟩:=hS.out
  have h1:=ha x (by simp[Op.operands])
  rw[hx]at h1
  have hbd:=h1.bd.slice_map
  refine⟨.string ⟨bs.toArray⟩,?_,.str hbd⟩
  show(do pure (Next.value (←convert S T (a'.eval x))):Sem Next).run P w=_
  have key:(convert S T (a'.eval x)).run P w= .ok (.string ⟨bs.toArray⟩) w:=by
   generalize a'.eval x=v at h1
   cases bs with
   |nil=>
    have hn: ∃ o cap,v= .slice o 0 cap:=by
     cases h1 with
     |nilN=>exact⟨_,_,rfl⟩
     |nilR=>exact⟨_,_,rfl⟩
     |slice sz f hl hc hm hs hH hv ht hn=>simp at hl;subst hl;exact⟨_,_,rfl⟩
    obtain⟨o,cap,rfl⟩:=hn
    cases o with
    |none=>rw[run_convert_bytes_string w S T E _ _ _ e1 e2 hT.out];simp[Conv.bytesToString];rfl
    |some ad=>exact run_convert_bytes_back w S T E ad cap [] e1 e2 hT.out (fun j hj=>by simp at hj)
   |cons b0 bs=>
    generalize hl0:b0::bs=l at h1
    generalize hxs:List.map eBy l=xs at h1
    have hne:xs≠ []:=by rw[←hxs,←hl0];simp
    cases h1 with
    |nilN=>exact absurd rfl hne
    |nilR=>exact absurd rfl hne
    |slice sz f hl hc hm hs hH hv ht hn=>
     subst hxs
     rename_i b off len cap
     have hsz:sz=1:=by
      have:=hs (eBy b0) (by rw[←hl0];simp)
      simpa [eBy]using this.symm
     subst hsz
     simp only[AR]at hl
     subst hl
     refine run_convert_bytes_back w S T E _ cap l e1 e2 hT.out (fun j hj=>?_)
     rw[Dq]
     have h2:=hi.sat _ _ _ (hH j 0 hj (by omega))
     have h3:=hv j (by simpa using hj) 0 (by simp[eBy])
     simp only[IG,Dr,BQ,eBy,BM]at h2 h3
     rw[h2,h3.raw_inv]
  simp only[Sem.run_bind,key,Result.andThen_ok,Sem.run_pure]) k
theorem Xp [hT:UM P T] {bb off:Nat} (hx:ρ.ev x= .raw (.pointer (some ⟨bb,off,none⟩))) (k:AQ P N all K fl.tail os (CT ρ d (.raw (.slice (some ⟨bb,off,none⟩) 32 32))) L) (hd:Nat.blt d N=true:=by rfl):
  AQ P N all K fl (⟨some d,.slice T x none none none,ty,pos,af,none⟩::os) ρ L:=
 Bh hd (BC fun a' w g ha hi=>by
  obtain⟨E,i,e1,e2,e3,e4⟩:=hT.arr
  have h1:=Ca ha (x:=x) (by simp[Op.operands]) hx
  refine⟨.slice (some ⟨bb,off,none⟩) 32 32,?_,.raw _⟩
  show(do pure (Next.value (←Instr.sliceAt T (a'.eval x) none none none)):Sem Next).run P w=_
  simp[Instr.sliceAt,IA e1,h1,Instr.sureAddr,Instr.sliceBounds,sizeOf,typeInfo,e3,e4,Dq]) k
theorem Xl {S:TypeId} [hS:kq P S] [hT:Ri P T] {bb off T₂:Nat} {cs:List PV} {dg:Dig} (hx:ρ.ev x= .raw (.slice (some ⟨bb,off,none⟩) 32 32)) (hm:Res.box bb T₂ cs∈L) [hs:XX cs off 32 (eDig dg)] (k:AQ P N all K fl.tail os (CT ρ d (.str dg.bs)) L) (hd:Nat.blt d N=true:=by rfl):
  AQ P N all K fl (⟨some d,.convert S T x,ty,pos,af,none⟩::os) ρ L:=
 Bh hd (BC fun a' w g ha hi=>by
  obtain⟨E,e1,e2⟩:=hS.out
  have h1:=Ca ha (x:=x) (by simp[Op.operands]) hx
  obtain⟨vs,hb,hv,_,_⟩:=hi.res _ hm
  obtain⟨q1,q2⟩:=hs.out
  refine⟨.string ⟨dg.bs.toArray⟩,?_,.str (by rw[dg.len];decide)⟩
  have key:=run_convert_bytes_back w S T E ⟨bb,off,none⟩ 32 dg.bs e1 e2 hT.out (fun j hj=>by
   rw[Dq]
   have hj':j < 32:=by rw[←dg.len];exact hj
   have hlt:off+j < vs.length:=by rw[hv.len];omega
   rw[HF hb (off+j) hlt]
   have h2:=hv.at_ (off+j) hlt (by omega)
   have h3:cs[off+j]'(by omega)=eU8 dg.bs[j]:=by
    have:=congrArg (fun l=>l[j]?) q1
    simp only[Gd,hj',if_true,Gf,eDig,H3,AW hj]at this
    rw[AW (by omega)]at this
    simpa using this
   rw[h3]at h2
   rw[h2.raw_inv];rfl)
  rw[dg.len]at key
  show(do pure (Next.value (←convert S T (a'.eval x))):Sem Next).run P w=_
  simp only[h1,Sem.run_bind,key,Result.andThen_ok,Sem.run_pure]) k
def eW (l:List Nat):List PV:=l.map fun(a:Nat)=>PV.raw (.int .u32 (a:Int))
@[simp] theorem Gv (l:List Nat):(eW l).length=l.length:=by simp[eW]
theorem oD (l:List Nat):KC (eW l):=fun x hx=>by
 obtain⟨a,_,rfl⟩:=AO.1 hx
 exact Fa (v:= .int .u32 (a:Int)) rfl HC _ (by simp)
instance (l:List Nat):E3 (eW l):=⟨oD l⟩
theorem bk [hT:Dc P T] {bb i T₂:Nat} {l:List Nat} (hx:ρ.ev x= .raw (.pointer (some ⟨bb,0+i*1,none⟩))) (hm:Res.box bb T₂ (eW l)∈L) (hi:i < l.length) (k:AQ P N all K fl.tail os (CT ρ d (.raw (.int .u32 ((l.getD i 0:Nat):Int)))) L) (hd:Nat.blt d N=true:=by rfl):
  AQ P N all K fl (⟨some d,.load T x,ty,pos,af,none⟩::os) ρ L:=Si hx hm (by simp[eW,hi,List.getD]) k hd
theorem Sf {by_:Nat} {bb i T₂ v:Nat} {l:List Nat} {L':List Res} [hT:Ed P T 1 by_] (hx:ρ.ev x= .raw (.pointer (some ⟨bb,0+i*1,none⟩))) (hy:ρ.ev y= .raw (.int .u32 (v:Int))) (_:Res.box bb T₂ (eW l)∈L) (hi:i < l.length) [hu:UK bb (eW l) (eW (l.set i v)) L L']
  (k:AQ P N all K fl.tail os ρ L') (hfl:fl.headD true=true:=by rfl):AQ P N all K fl (⟨none,.store T x y,ty,pos,af,none⟩::os) ρ L:=
 Dd rfl (fun _ e=>by cases e) hfl (JG (new:= [.raw (.int .u32 (v:Int))]) hx (by rw[hy];exact Dm.one (Fa rfl HC)) rfl (Fa rfl HC) (by
  simp only[BA,BL,IG,eW]
  rw[yk,Gu,if_pos (by simpa using hi)]
  simp) (by simp;omega) hu.out k)
def Dig.put (dg:Dig) (i:Nat) (v:UInt8):Dig:=⟨dg.bs.set i v,by rw[DH];exact dg.len⟩
theorem Xn {by_:Nat} {bb i T₂:Nat} {v:UInt8} {dg:Dig} {L':List Res} [hT:Ed P T 1 by_] (hx:ρ.ev x= .raw (.pointer (some ⟨bb,0+i*1,none⟩))) (hy:ρ.ev y= .raw (.int .u8 (v.toNat:Int))) (_:Res.box bb T₂ (eDig dg)∈L) (hi:i < 32) [hu:UK bb (eDig dg) (eDig (dg.put i v)) L L']
  (k:AQ P N all K fl.tail os ρ L') (hfl:fl.headD true=true:=by rfl):AQ P N all K fl (⟨none,.store T x y,ty,pos,af,none⟩::os) ρ L:=
 Dd rfl (fun _ e=>by cases e) hfl (JG (new:= [.raw (.int .u8 (v.toNat:Int))]) hx (by rw[hy];exact Dm.one (Fa rfl HC)) rfl (Fa rfl HC) (by
  simp only[BA,BL,IG,eDig,Dig.put]
  rw[yk,Gu,if_pos (by simpa [dg.len]using hi)]
  simp[eU8,u8]) (by simp;omega) hu.out k)
theorem iV {n E by_:Nat} {z:List PV} [hT:UO P T n E] [hE:Ed P E 1 by_] [hZ:Cq P T z] {xs:List Operand} (ws:List Nat) (hx:xs.map ρ.ev=eW ws) (hz:z.length=ws.length) (hn:xs.length=ws.length)
  (k:AQ P N all K fl.tail os (CT ρ d (.agg (eW ws))) L) (hd:Nat.blt d N=true:=by rfl):AQ P N all K fl (⟨some d,.build T ((xs.zipIdx.map fun p=>(p.2,p.1)).toArray),ty,pos,af,none⟩::os) ρ L:=
 Bh hd (BC fun a' w g ha hi=>by
  obtain⟨i,v,us,h1,h2,h3,h4⟩:=hZ.out
  let cs:List Value:=ws.map fun(a:Nat)=>Value.int .u32 (a:Int)
  have hop:(Op.build T ((xs.zipIdx.map fun p=>(p.2,p.1)).toArray)).operands=xs.toArray:=by
   unfold Op.operands
   simp only[CK]
   have:((fun(x:Nat × Operand)=>x.2) ∘ fun(p:Operand × Nat)=>(p.2,p.1))=Prod.fst:=by funext p;rfl
   rw[this,List.zipIdx_map_fst]
  have hev:xs.map a'.eval=cs:=by
   refine DY (by simp[cs,hn]) fun j j1 j2=>?_
   simp only[AR]at j1
   have hj:j < ws.length:=by omega
   have e1:ρ.ev xs[j]= .raw (.int .u32 (ws[j]:Int)):=by
    have:=congrArg (fun l=>l[j]?) hx
    simp only[H3,AW j1,eW,AW hj,Gx]at this
    exact DF this
   have e2:=ha xs[j] (by rw[hop];simp)
   rw[e1]at e2
   simp[cs,e2.raw_inv]
  refine⟨.agg cs.toArray,?_,EB.agg ⟨by simp[cs],fun j j1 j2=>by simp[cs,eW];exact .raw _⟩⟩
  have hparts:(((xs.zipIdx.map fun p=>(p.2,p.1)).toArray).map fun(p:Nat × Operand)=>(p.1,a'.eval p.2)).toList=((xs.map a'.eval).zipIdx 0).map fun p=>(p.2,p.1):=by
   simp only[Hh,CK]
   rw[pB,CK]
   rfl
  have hus:us.length=ws.length:=by rw[(h4 g).len,hz]
  have hfill:Instr.fill (fun i=>some (i*1,1)) us.toArray (((xs.map a'.eval).zipIdx 0).map fun p=>(p.2,p.1))=some cs.toArray:=by
   rw[hev,O0 (sz:=1) (cs.map fun v=> [v]) cs 0 us (by simp) (fun j j1 j2=>by simp[cs,Value.cells]) (by simp[cs,hus])]
   have:(cs.map fun v=> [v]).flatten=cs:=by
    generalize cs=l
    induction l with
    |nil=>rfl
    |cons a l ih=>simp[ih]
   simp[this]
  show(do pure (Next.value (←Instr.build T (((xs.zipIdx.map fun p=>(p.2,p.1)).toArray).map fun(p:Nat × Operand)=>(p.1,a'.eval p.2)))):Sem Next).run P w=_
  simp only[Instr.build,Sem.run_bind,zeroValue,typeInfo,run_program,h1,Sem.run_pure,Result.andThen_ok,h2,run_underlying hT.out,Ed.run hE,h3,hparts,hfill]) k
end
section
variable {P:Program} {N:Nat} {all:Array Oper} {K:Env→List Res→Prop} {fl:List Bool} {os:List Oper} {ρ:Env} {L:List Res} {Q:PPost} {c:Code} {ty:TypeId} {pos:String} {af:Array Edge}
theorem np {j:Nat} {b:Bool} {o:Op} {dst:Option Nat} (k:AQ P N all K fl (⟨dst,o,ty,pos,af,some (j,b)⟩::os) ρ L):AQ P N all K fl (⟨dst,o,ty,pos,af,some (j,b)⟩::os) ρ L:=k
theorem jz {x:Operand} {dst:Option Nat} (k:AQ P N all K fl (⟨dst,.move x,ty,pos,af,none⟩::os) ρ L):AQ P N all K fl (⟨dst,.move x,ty,pos,af,none⟩::os) ρ L:=k
theorem Yx {x:Operand} {dst:Option Nat} (k:AQ P N all K fl (⟨dst,.assign x,ty,pos,af,none⟩::os) ρ L):AQ P N all K fl (⟨dst,.assign x,ty,pos,af,none⟩::os) ρ L:=k
theorem k9 {T:TypeId} {x:Operand} {dst:Option Nat} (k:AQ P N all K fl (⟨dst,.load T x,ty,pos,af,none⟩::os) ρ L):AQ P N all K fl (⟨dst,.load T x,ty,pos,af,none⟩::os) ρ L:=k
theorem qJ {S f:Nat} {x:Operand} {dst:Option Nat} (k:AQ P N all K fl (⟨dst,.fieldAddr S x f,ty,pos,af,none⟩::os) ρ L):AQ P N all K fl (⟨dst,.fieldAddr S x f,ty,pos,af,none⟩::os) ρ L:=k
theorem qI {x:Operand} {T:TypeId} {dst:Option Nat} (k:AQ P N all K fl (⟨dst,.call { callee:= .builtin .len,args:= #[x],argTypes:= #[T] },ty,pos,af,none⟩::os) ρ L):AQ P N all K fl (⟨dst,.call { callee:= .builtin .len,args:= #[x],argTypes:= #[T] },ty,pos,af,none⟩::os) ρ L:=k
theorem ao {f:Nat} {xs:Array Operand} {ats:Array TypeId} {dst:Option Nat} (k:AQ P N all K fl (⟨dst,.call { callee:= .value (.func f),args:=xs,argTypes:=ats },ty,pos,af,none⟩::os) ρ L):AQ P N all K fl (⟨dst,.call { callee:= .value (.func f),args:=xs,argTypes:=ats },ty,pos,af,none⟩::os) ρ L:=k
theorem ct {o:BinOp} {T T₂:TypeId} {x y:Operand} {dst:Option Nat} (k:AQ P N all K fl (⟨dst,.binOp o T x y T₂,ty,pos,af,none⟩::os) ρ L):AQ P N all K fl (⟨dst,.binOp o T x y T₂,ty,pos,af,none⟩::os) ρ L:=k
theorem w9 {T:TypeId} {x y:Operand} {dst:Option Nat} (k:AQ P N all K fl (⟨dst,.indexAddr T x y,ty,pos,af,none⟩::os) ρ L):AQ P N all K fl (⟨dst,.indexAddr T x y,ty,pos,af,none⟩::os) ρ L:=k
theorem wA {i:Nat} {x:Operand} {dst:Option Nat} (k:AQ P N all K fl (⟨dst,.extract x i,ty,pos,af,none⟩::os) ρ L):AQ P N all K fl (⟨dst,.extract x i,ty,pos,af,none⟩::os) ρ L:=k
theorem sa {c x y:Operand} {dst:Option Nat} (k:AQ P N all K fl (⟨dst,.pick c x y,ty,pos,af,none⟩::os) ρ L):AQ P N all K fl (⟨dst,.pick c x y,ty,pos,af,none⟩::os) ρ L:=k
theorem w7 {o:UnOp} {T:TypeId} {x:Operand} {dst:Option Nat} (k:AQ P N all K fl (⟨dst,.unOp o T x,ty,pos,af,none⟩::os) ρ L):AQ P N all K fl (⟨dst,.unOp o T x,ty,pos,af,none⟩::os) ρ L:=k
theorem Wv {T:TypeId} {x y:Operand} {dst:Option Nat} (k:AQ P N all K fl (⟨dst,.store T x y,ty,pos,af,none⟩::os) ρ L):AQ P N all K fl (⟨dst,.store T x y,ty,pos,af,none⟩::os) ρ L:=k
theorem wB {T n:Nat} {ps:Array (Nat × Operand)} {dst:Option Nat} (k:AQ P N all K fl (⟨dst,.buildSlice T n ps,ty,pos,af,none⟩::os) ρ L):AQ P N all K fl (⟨dst,.buildSlice T n ps,ty,pos,af,none⟩::os) ρ L:=k
theorem ch {T:Nat} {ps:Array (Nat × Operand)} {dst:Option Nat} (k:AQ P N all K fl (⟨dst,.build T ps,ty,pos,af,none⟩::os) ρ L):AQ P N all K fl (⟨dst,.build T ps,ty,pos,af,none⟩::os) ρ L:=k
theorem Wx {T:TypeId} {x:Operand} {lo hi mx:Option Operand} {dst:Option Nat} (k:AQ P N all K fl (⟨dst,.slice T x lo hi mx,ty,pos,af,none⟩::os) ρ L):AQ P N all K fl (⟨dst,.slice T x lo hi mx,ty,pos,af,none⟩::os) ρ L:=k
theorem kA {S T:TypeId} {x:Operand} {dst:Option Nat} (k:AQ P N all K fl (⟨dst,.convert S T x,ty,pos,af,none⟩::os) ρ L):AQ P N all K fl (⟨dst,.convert S T x,ty,pos,af,none⟩::os) ρ L:=k
theorem cd {T:TypeId} {x y:Operand} {dst:Option Nat} (k:AQ P N all K fl (⟨dst,.index T x y,ty,pos,af,none⟩::os) ρ L):AQ P N all K fl (⟨dst,.index T x y,ty,pos,af,none⟩::os) ρ L:=k
theorem w8 {x:Operand} {dst:Option Nat} (k:AQ P N all K fl (⟨dst,.nilCheck x,ty,pos,af,none⟩::os) ρ L):AQ P N all K fl (⟨dst,.nilCheck x,ty,pos,af,none⟩::os) ρ L:=k
structure OA (B:Prop):Prop where
 out:B
structure Kj {α:Type} (B:α→Prop):Prop where
 out: ∀ a,B a
theorem nM {A B:Prop} (k:B) (h:OA B→A:=by
  intro hB
  first
   |(refine np ?_;first|refine YN rfl (by rfl) ?_|refine eK rfl (by first|((conv=>lhs;whnf);done)|fail) (by assumption) ?_|refine YO rfl (by first|((conv=>lhs;whnf);done)|fail) (by assumption) ?_|refine YP rfl (by first|((conv=>lhs;whnf);done)|fail) (by assumption) ?_|refine jK rfl (by rfl) ?_|refine YO rfl (by rfl) rfl ?_|refine YP rfl (by rfl) rfl ?_)
   |(refine jz ?_;first|refine K7 (by(conv=>lhs;whnf);done) ?_)
   |(refine Yx ?_;first|refine Uj (by(conv=>lhs;whnf);done) ?_)
   |(refine k9 ?_;first|refine Xz (by rfl) (hl:=(by first|infer_instance|fail)) ?_|refine bl (by rfl) rfl ?_|refine Xw (by rfl) (by repeat(first|exact AF|apply AI)) (hl:=(by first|infer_instance|fail)) ?_|refine Xx (by rfl) (by repeat(first|exact AF|apply AI)) (hs:=(by first|infer_instance|fail)) ?_|refine iC (by rfl) (by repeat(first|exact AF|apply AI)) (hs:=(by first|infer_instance|fail)) ?_|refine bn (by rfl) (by repeat(first|exact AF|apply AI)) (by omega) ?_|refine bk (by rfl) (by repeat(first|exact AF|apply AI)) (by omega) ?_)
   |(refine qJ ?_;first|refine Zx (by rfl) (hr:=(by first|infer_instance|fail)) ?_|refine bq (by rfl) (by(conv=>lhs;whnf);done) ?_)
   |(refine qI ?_;first|refine iH (by rfl) ?_|refine iG (by(conv=>lhs;whnf);done) (jx:=(by first|infer_instance|fail)) ?_|refine iJ (by rfl) ?_)
   |(refine ao ?_;first|refine We (by(conv=>lhs;whnf);done) (hN0:=(by first|infer_instance|fail)) (hc:=(by first|infer_instance|fail)) ?_|refine cW (by(conv=>lhs;whnf);done) (by(conv=>lhs;whnf);done) (hN0:=(by first|infer_instance|fail)) (hN1:=(by first|infer_instance|fail)) (hc:=(by first|infer_instance|fail)) ?_|refine cU (by(conv=>lhs;whnf);done) (by(conv=>lhs;whnf);done) (by(conv=>lhs;whnf);done) (hN0:=(by first|infer_instance|fail)) (hN1:=(by first|infer_instance|fail)) (hN2:=(by first|infer_instance|fail)) (hc:=(by first|infer_instance|fail)) ?_|refine cX (hc:=(by first|infer_instance|fail)) ?_|refine cT (by(conv=>lhs;whnf);done) (by(conv=>lhs;whnf);done) (by(conv=>lhs;whnf);done) (by(conv=>lhs;whnf);done) (hN0:=(by first|infer_instance|fail)) (hN1:=(by first|infer_instance|fail)) (hN2:=(by first|infer_instance|fail)) (hN3:=(by first|infer_instance|fail)) (hc:=(by first|infer_instance|fail)) ?_|refine j_call5 (by(conv=>lhs;whnf);done) (by(conv=>lhs;whnf);done) (by(conv=>lhs;whnf);done) (by(conv=>lhs;whnf);done) (by(conv=>lhs;whnf);done) (hN0:=(by first|infer_instance|fail)) (hN1:=(by first|infer_instance|fail)) (hN2:=(by first|infer_instance|fail)) (hN3:=(by first|infer_instance|fail)) (hN4:=(by first|infer_instance|fail)) (hc:=(by first|infer_instance|fail)) ?_|refine j_call6 (by(conv=>lhs;whnf);done) (by(conv=>lhs;whnf);done) (by(conv=>lhs;whnf);done) (by(conv=>lhs;whnf);done) (by(conv=>lhs;whnf);done) (by(conv=>lhs;whnf);done) (hN0:=(by first|infer_instance|fail)) (hN1:=(by first|infer_instance|fail)) (hN2:=(by first|infer_instance|fail)) (hN3:=(by first|infer_instance|fail)) (hN4:=(by first|infer_instance|fail)) (hN5:=(by first|infer_instance|fail)) (hc:=(by first|infer_instance|fail)) ?_)
   |(refine g_bi ?_;first|refine s_min (by rfl) (by rfl) ?_|refine s_max (by rfl) (by rfl) ?_)
   |(refine ct ?_;first|refine pg (by rfl) (by rfl) ?_|refine ph (by rfl) (by rfl) ?_|refine vB (by rfl) (by rfl) ?_|refine pj (by rfl) (by rfl) ?_|refine vC (by rfl) (by rfl) ?_|refine uy (by rfl) (by rfl) ?_|refine pv (by rfl) (by rfl) (by constructor<;>omega) ?_|refine pY (by rfl) (by rfl) (by constructor<;>omega) ?_|refine mW (by rfl) (by rfl) ?_|refine mR (by rfl) (by rfl) ?_|refine rV (by rfl) (by rfl) ?_|refine rR (by rfl) (by rfl) ?_|refine vE (by(conv=>lhs;whnf);done) (by(conv=>lhs;whnf);done) (jx:=(by first|infer_instance|fail)) (jy:=(by first|infer_instance|fail)) ?_|refine uz (by(conv=>lhs;whnf);done) (by(conv=>lhs;whnf);done) (jx:=(by first|infer_instance|fail)) (jy:=(by first|infer_instance|fail)) ?_|refine s_eqB (by rfl) (by rfl) ?_|refine s_neB (by rfl) (by rfl) ?_|refine pn (by(conv=>lhs;whnf);done) (by(conv=>lhs;whnf);done) (jx:=(by first|infer_instance|fail)) (jy:=(by first|infer_instance|fail)) (by first|omega|(simp only[AA,AN,Af,BL];omega)) ?_|refine pd (by rfl) (by rfl) (by constructor<;>omega) ?_|refine Xr (by rfl) (by rfl) (by omega) (by omega) ?_|refine Xq (by rfl) (by rfl) (by omega) ?_|refine ig (by rfl) (by rfl) ?_|refine gj (by rfl) (by rfl) ?_|refine ie (by rfl) (by rfl) ?_|refine pZ (by rfl) (by rfl) ?_|refine gu (by rfl) (by rfl) ?_|refine gw (by rfl) (by rfl) ?_|refine gv (by rfl) (by rfl) ?_|refine W0 (by rfl) (by rfl) (by omega) (by omega) ?_|refine W2 (by rfl) (by rfl) (by omega) ?_)
   |(refine w9 ?_;first|refine iL (by rfl) (by rfl) (by omega) ?_|refine Q5 (by rfl) (by rfl) (by omega) ?_|refine iK (by rfl) (by rfl) (by omega) (by omega) ?_)
   |(refine wA ?_;first|refine du (by rfl) rfl ?_)
   |(refine sa ?_;first|refine Xt (by rfl) rfl (by(conv=>lhs;whnf);done) ?_|refine Xu (by rfl) rfl (by(conv=>lhs;whnf);done) ?_|refine Xt (by first|((conv=>lhs;whnf);done)|fail) (by assumption) (by(conv=>lhs;whnf);done) ?_|refine Xu (by first|((conv=>lhs;whnf);done)|fail) (by assumption) (by(conv=>lhs;whnf);done) ?_)
   |(refine w7 ?_;first|refine pb (by rfl) ?_|refine pc (by rfl) (by constructor<;>omega) ?_|refine iA (by rfl) ?_)
   |(refine Wv ?_;first|refine gm (by rfl) (by(conv=>lhs;whnf);done) (hC:=(by first|infer_instance|fail)) (hB:=(by first|infer_instance|fail)) (hp:=(by first|infer_instance|fail)) (hu:=(by first|infer_instance|fail)) (hf:=(by first|infer_instance|fail)) (hlen:=(by first|infer_instance|fail)) ?_|refine Xm (by rfl) (by rfl) (hB:=(by first|infer_instance|fail)) (hu:=(by first|infer_instance|fail)) (hf:=(by first|infer_instance|fail)) (hlen:=(by first|infer_instance|fail)) (hcs:=(by first|infer_instance|fail)) ?_|refine Sf (by rfl) (by rfl) (by repeat(first|exact AF|apply AI)) (by omega) (hu:=(by first|infer_instance|fail)) ?_|refine Xn (by rfl) (by rfl) (by repeat(first|exact AF|apply AI)) (by omega) (hu:=(by first|infer_instance|fail)) ?_)
   |(refine ch ?_;first|refine Y3 ?_|refine Uh ?_|refine kg (by(conv=>lhs;whnf);done) (hC0:=(by first|infer_instance|fail)) (hP0:=(by first|infer_instance|fail)) (hl0:=(by first|infer_instance|fail)) ?_|refine kf (by(conv=>lhs;whnf);done) (by(conv=>lhs;whnf);done) (hC0:=(by first|infer_instance|fail)) (hC1:=(by first|infer_instance|fail)) (hP0:=(by first|infer_instance|fail)) (hP1:=(by first|infer_instance|fail)) (hl0:=(by first|infer_instance|fail)) (hl1:=(by first|infer_instance|fail)) ?_|refine ke (by(conv=>lhs;whnf);done) (by(conv=>lhs;whnf);done) (by(conv=>lhs;whnf);done) (hC0:=(by first|infer_instance|fail)) (hC1:=(by first|infer_instance|fail)) (hC2:=(by first|infer_instance|fail)) (hP0:=(by first|infer_instance|fail)) (hP1:=(by first|infer_instance|fail)) (hP2:=(by first|infer_instance|fail)) (hl0:=(by first|infer_instance|fail)) (hl1:=(by first|infer_instance|fail)) (hl2:=(by first|infer_instance|fail)) ?_|refine kd (by(conv=>lhs;whnf);done) (by(conv=>lhs;whnf);done) (by(conv=>lhs;whnf);done) (by(conv=>lhs;whnf);done) (hC0:=(by first|infer_instance|fail)) (hC1:=(by first|infer_instance|fail)) (hC2:=(by first|infer_instance|fail)) (hC3:=(by first|infer_instance|fail)) (hP0:=(by first|infer_instance|fail)) (hP1:=(by first|infer_instance|fail)) (hP2:=(by first|infer_instance|fail)) (hP3:=(by first|infer_instance|fail)) (hl0:=(by first|infer_instance|fail)) (hl1:=(by first|infer_instance|fail)) (hl2:=(by first|infer_instance|fail)) (hl3:=(by first|infer_instance|fail)) ?_|refine kc (by(conv=>lhs;whnf);done) (by(conv=>lhs;whnf);done) (by(conv=>lhs;whnf);done) (by(conv=>lhs;whnf);done) (by(conv=>lhs;whnf);done) (hC0:=(by first|infer_instance|fail)) (hC1:=(by first|infer_instance|fail)) (hC2:=(by first|infer_instance|fail)) (hC3:=(by first|infer_instance|fail)) (hC4:=(by first|infer_instance|fail)) (hP0:=(by first|infer_instance|fail)) (hP1:=(by first|infer_instance|fail)) (hP2:=(by first|infer_instance|fail)) (hP3:=(by first|infer_instance|fail)) (hP4:=(by first|infer_instance|fail)) (hl0:=(by first|infer_instance|fail)) (hl1:=(by first|infer_instance|fail)) (hl2:=(by first|infer_instance|fail)) (hl3:=(by first|infer_instance|fail)) (hl4:=(by first|infer_instance|fail)) ?_|refine kb (by(conv=>lhs;whnf);done) (by(conv=>lhs;whnf);done) (by(conv=>lhs;whnf);done) (by(conv=>lhs;whnf);done) (by(conv=>lhs;whnf);done) (by(conv=>lhs;whnf);done) (hC0:=(by first|infer_instance|fail)) (hC1:=(by first|infer_instance|fail)) (hC2:=(by first|infer_instance|fail)) (hC3:=(by first|infer_instance|fail)) (hC4:=(by first|infer_instance|fail)) (hC5:=(by first|infer_instance|fail)) (hP0:=(by first|infer_instance|fail)) (hP1:=(by first|infer_instance|fail)) (hP2:=(by first|infer_instance|fail)) (hP3:=(by first|infer_instance|fail)) (hP4:=(by first|infer_instance|fail)) (hP5:=(by first|infer_instance|fail)) (hl0:=(by first|infer_instance|fail)) (hl1:=(by first|infer_instance|fail)) (hl2:=(by first|infer_instance|fail)) (hl3:=(by first|infer_instance|fail)) (hl4:=(by first|infer_instance|fail)) (hl5:=(by first|infer_instance|fail)) ?_|refine b_build7 (by(conv=>lhs;whnf);done) (by(conv=>lhs;whnf);done) (by(conv=>lhs;whnf);done) (by(conv=>lhs;whnf);done) (by(conv=>lhs;whnf);done) (by(conv=>lhs;whnf);done) (by(conv=>lhs;whnf);done) (hC0:=(by first|infer_instance|fail)) (hC1:=(by first|infer_instance|fail)) (hC2:=(by first|infer_instance|fail)) (hC3:=(by first|infer_instance|fail)) (hC4:=(by first|infer_instance|fail)) (hC5:=(by first|infer_instance|fail)) (hC6:=(by first|infer_instance|fail)) (hP0:=(by first|infer_instance|fail)) (hP1:=(by first|infer_instance|fail)) (hP2:=(by first|infer_instance|fail)) (hP3:=(by first|infer_instance|fail)) (hP4:=(by first|infer_instance|fail)) (hP5:=(by first|infer_instance|fail)) (hP6:=(by first|infer_instance|fail)) (hl0:=(by first|infer_instance|fail)) (hl1:=(by first|infer_instance|fail)) (hl2:=(by first|infer_instance|fail)) (hl3:=(by first|infer_instance|fail)) (hl4:=(by first|infer_instance|fail)) (hl5:=(by first|infer_instance|fail)) (hl6:=(by first|infer_instance|fail)) ?_|refine b_build8 (by(conv=>lhs;whnf);done) (by(conv=>lhs;whnf);done) (by(conv=>lhs;whnf);done) (by(conv=>lhs;whnf);done) (by(conv=>lhs;whnf);done) (by(conv=>lhs;whnf);done) (by(conv=>lhs;whnf);done) (by(conv=>lhs;whnf);done) (hC0:=(by first|infer_instance|fail)) (hC1:=(by first|infer_instance|fail)) (hC2:=(by first|infer_instance|fail)) (hC3:=(by first|infer_instance|fail)) (hC4:=(by first|infer_instance|fail)) (hC5:=(by first|infer_instance|fail)) (hC6:=(by first|infer_instance|fail)) (hC7:=(by first|infer_instance|fail)) (hP0:=(by first|infer_instance|fail)) (hP1:=(by first|infer_instance|fail)) (hP2:=(by first|infer_instance|fail)) (hP3:=(by first|infer_instance|fail)) (hP4:=(by first|infer_instance|fail)) (hP5:=(by first|infer_instance|fail)) (hP6:=(by first|infer_instance|fail)) (hP7:=(by first|infer_instance|fail)) (hl0:=(by first|infer_instance|fail)) (hl1:=(by first|infer_instance|fail)) (hl2:=(by first|infer_instance|fail)) (hl3:=(by first|infer_instance|fail)) (hl4:=(by first|infer_instance|fail)) (hl5:=(by first|infer_instance|fail)) (hl6:=(by first|infer_instance|fail)) (hl7:=(by first|infer_instance|fail)) ?_)
   |(refine Wx ?_;first|refine iM (by rfl) (by rfl) (by omega) ?_|refine iQ (by rfl) (by rfl) (by omega) ?_|refine W4 (by(conv=>lhs;whnf);done) (by rfl) (by rfl) (jx:=(by first|infer_instance|fail)) (by omega) (by omega) (by omega) ?_|refine bt (by(conv=>lhs;whnf);done) (by rfl) (jx:=(by first|infer_instance|fail)) (by omega) (by omega) ?_|refine Xp (by rfl) ?_)
   |(refine kA ?_;first|refine bw (by rfl) ?_|refine bu (by rfl) ?_|refine SL (by rfl) (by omega) ?_|refine gk (by rfl) ?_|refine Xl (by rfl) (by repeat(first|exact AF|apply AI)) (hs:=(by first|infer_instance|fail)) ?_)
   |(refine cd ?_;first|refine Y0 (by(conv=>lhs;whnf);done) (by rfl) (jx:=(by first|infer_instance|fail)) (by omega) ?_)
   |(refine w8 ?_;first|refine Xv (by rfl) ?_)
  exact hB.out):A:=h ⟨k⟩
theorem sG {A B:Prop} (k:B) (h:OA B→A:=by
  intro hB
  first
   |(refine wB ?_;first|refine pq ?_|refine po (by(conv=>lhs;whnf);done) (hC0:=(by first|infer_instance|fail)) (hf:=(by first|infer_instance|fail)) (by decide) ?_|refine vJ (by(conv=>lhs;whnf);done) (by(conv=>lhs;whnf);done) (hC0:=(by first|infer_instance|fail)) (hC1:=(by first|infer_instance|fail)) (hf:=(by first|infer_instance|fail)) (by decide) ?_|refine vI (by(conv=>lhs;whnf);done) (by(conv=>lhs;whnf);done) (by(conv=>lhs;whnf);done) (hC0:=(by first|infer_instance|fail)) (hC1:=(by first|infer_instance|fail)) (hC2:=(by first|infer_instance|fail)) (hf:=(by first|infer_instance|fail)) (by decide) ?_|refine vH (by(conv=>lhs;whnf);done) (by(conv=>lhs;whnf);done) (by(conv=>lhs;whnf);done) (by(conv=>lhs;whnf);done) (hC0:=(by first|infer_instance|fail)) (hC1:=(by first|infer_instance|fail)) (hC2:=(by first|infer_instance|fail)) (hC3:=(by first|infer_instance|fail)) (hf:=(by first|infer_instance|fail)) (by decide) ?_|refine vG (by(conv=>lhs;whnf);done) (by(conv=>lhs;whnf);done) (by(conv=>lhs;whnf);done) (by(conv=>lhs;whnf);done) (by(conv=>lhs;whnf);done) (hC0:=(by first|infer_instance|fail)) (hC1:=(by first|infer_instance|fail)) (hC2:=(by first|infer_instance|fail)) (hC3:=(by first|infer_instance|fail)) (hC4:=(by first|infer_instance|fail)) (hf:=(by first|infer_instance|fail)) (by decide) ?_|refine vF (by(conv=>lhs;whnf);done) (by(conv=>lhs;whnf);done) (by(conv=>lhs;whnf);done) (by(conv=>lhs;whnf);done) (by(conv=>lhs;whnf);done) (by(conv=>lhs;whnf);done) (hC0:=(by first|infer_instance|fail)) (hC1:=(by first|infer_instance|fail)) (hC2:=(by first|infer_instance|fail)) (hC3:=(by first|infer_instance|fail)) (hC4:=(by first|infer_instance|fail)) (hC5:=(by first|infer_instance|fail)) (hf:=(by first|infer_instance|fail)) (by decide) ?_)
  exact hB.out):A:=h ⟨k⟩
theorem AY {A B:Prop} (k:B) (h:OA B→A:=by
  intro hB
  repeat(first
   |refine AD ?_
   |refine nM ?_
   |refine sG ?_
   |refine Da ?_
   |refine CR (by kernel_rfl) ?_
   |refine IZ ?_
   |refine HA ?_
   |refine KA ?_
   |refine Gj ?_
   |refine GM (by decide+kernel) ?_
   |refine IX (by rfl) ?_
   |refine IY (by rfl) ?_)
  exact hB.out):A:=h ⟨k⟩
theorem C8 {A B:Prop} (k:B) (h:OA B→A:=by
  intro hB
  refine AY ?_
  exact hB.out):A:=h ⟨k⟩
theorem DC {A:Prop} {B:Nat→Prop} (k: ∀ b,B b) (h:Kj B→A:=by
  intro hB
  refine AY ?_
  first|refine Y4 (by rfl) fun b=>?_|refine CC fun b=>?_
  refine AY ?_
  exact hB.out b):A:=h ⟨k⟩
theorem FK {A:Prop} {B:Nat→Prop} (k: ∀ b,B b) (h:Kj B→A:=by
  intro hB
  refine DC fun b=>?_
  exact hB.out b):A:=h ⟨k⟩
theorem Hn {A:Prop} {B:CN→Prop} (k: ∀ t,B t) (h:Kj B→A:=by
  intro hB
  refine AY ?_
  first|refine Uk (by rfl) (by rfl) (by simp only[AA,AN,Af,AR,AZ,BB,BL];omega) (by simp only[AA,AN,Af,AR,AZ,BB,BL];omega) fun t=>?_|refine Ij (by rfl) (by rfl) (by simp only[AA,AN,Af,AR,AZ,BB,BL];omega) (by simp only[AA,AN,Af,AR,AZ,BB,BL];omega) (fun t=>by first|exact .here|exact(.there .here)|exact(.there (.there .here))|exact(.there (.there (.there .here)))|exact(.there (.there (.there (.there .here))))|exact(.there (.there (.there (.there (.there .here)))))|exact(.there (.there (.there (.there (.there (.there .here))))))|exact(.there (.there (.there (.there (.there (.there (.there .here)))))))|exact(.there (.there (.there (.there (.there (.there (.there (.there .here))))))))) fun t=>?_
  refine AY ?_
  exact hB.out t):A:=h ⟨k⟩
theorem IJ {A:Prop} {B:CN→Prop} (k: ∀ t,B t) (h:Kj B→A:=by
  intro hB
  refine Hn fun t=>?_
  exact hB.out t):A:=h ⟨k⟩
end
end Go.Q
