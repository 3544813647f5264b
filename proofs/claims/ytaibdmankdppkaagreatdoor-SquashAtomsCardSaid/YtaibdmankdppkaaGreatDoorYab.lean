/- The small logic, sixth text: digests and identities. Library, no statement of its own. -/
import Derived.Test.YtaibdmankdppkaaGreatDoorYaa
import Derived.ChangeKeysEq
import Derived.Laws.StructEq
import Derived.Laws.AppendOwn
set_option linter.unusedSimpArgs false
set_option linter.unusedVariables false
namespace Go.Q
open Go
structure Dig where
 bs:List UInt8
 len:bs.length=32
theorem Dig.ext {a b:Dig} (h:a.bs=b.bs):a=b:=by cases a;cases b;cases h;rfl
instance :DecidableEq Dig:=fun a b=>if h:a.bs=b.bs then isTrue (Dig.ext h)else isFalse fun e=>h (e ▸ rfl)
def u8 (b:UInt8):Value:= .int .u8 b.toNat
def eU8 (b:UInt8):PV:= .raw (u8 b)
def eDig (d:Dig):List PV:=d.bs.map eU8
@[simp] theorem s7 (d:Dig):(eDig d).length=32:=by simp[eDig,d.len]
structure Ident where
 patch:Dig
 n:Int
deriving DecidableEq
def eIdent (x:Ident):List PV:=eDig x.patch++ [.raw (.int .i64 x.n)]
@[simp] theorem mz (x:Ident):(eIdent x).length=33:=by simp[eIdent]
class V7 (P:Program) (T:Nat):Prop where
 arr: ∃ E i,P.underlying T=some (.array 32 E)∧P.underlying E=some (.int .u8)∧P.info? E=some i∧i.size=1
 guard:P.eqGuardType P.depth T=false
class LV (P:Program) (T:Nat):Prop where
 str: ∃ D I,P.fieldsOf T= #[⟨ "Patch",D,0,false, "", "",0⟩,⟨ "N",I,32,false, "", "",32⟩]∧P.underlying I=some (.int .i64)∧(∃ i,P.info? D=some i∧i.size=32)∧
  (∃ E i,P.underlying D=some (.array 32 E)∧P.underlying E=some (.int .u8)∧P.info? E=some i∧i.size=1)
 und:P.underlying T=some (.struct (P.fieldsOf T))
 held:P.stoodInHeld T=false
 guard:P.eqGuardType P.depth T=false
section
variable {P:Program}
theorem si {a b:UInt8}:((a.toNat:Int)==(b.toNat:Int))=decide (a=b):=by
 rw[Ih];simp only[beq_iff_eq,AB]
 exact⟨fun h=>UInt8.toNat.inj (by omega),fun h=>by rw[h]⟩
theorem Gl {E:TypeId} (h:WI P E) {xs:Array Value} {o:Nat} {v:Value} (hx:xs[o]? =some v) (w:World):(part E xs o).run P w= .ok v w:=by
 unfold part;rw[Sem.run_bind,N9 h];simp[hx]
theorem Lk {E:TypeId} {k:IntKind} (h:P.underlying E=some (.int k)):WI P E:=⟨_,h,by simp,by simp⟩
theorem TP (d:Nat) {E:TypeId} (hE:P.underlying E=some (.int .u8)) (xs ys:List UInt8) (hl:xs.length=ys.length) (w:World): ∀ (n k:Nat),k+n=xs.length→
  (Op.eqItems (d+1) E 1 (xs.map u8).toArray (ys.map u8).toArray (List.range' k n)).run P w= .ok (decide (xs.drop k=ys.drop k)) w:=by
 intro n
 induction n with
 |zero=>intro k hk;simp[Op.eqItems,DH (show xs.length≤k by omega),DH (show ys.length≤k by omega)]
 |succ n ih=>
  intro k hk
  have h1:k < xs.length:=by omega
  have h2:k < ys.length:=by omega
  rw[List.range'_succ]
  simp only[Op.eqItems,Sem.run_bind,IH]
  rw[Gl (Lk hE) (v:=u8 xs[k]) (by simp[h1]),Result.andThen_ok,Gl (Lk hE) (v:=u8 ys[k]) (by simp[h2]),Result.andThen_ok]
  rw[u8,u8,run_equalIn_int w d E .u8 .u8 _ _ hE,Result.andThen_ok,si]
  by_cases he:xs[k]=ys[k]
  ·rw[CH h1,CH h2]
   simp only[he,decide_true,ae,BT,if_false,OQ,true_and]
   exact ih (k+1) (by omega)
  ·have: ¬xs.drop k=ys.drop k:=by
    intro e
    have:=congrArg (fun l=>l[0]?) e
    simp[h1,h2]at this
    exact he this
   simp[he,this]
theorem JR (d:Nat) {T:TypeId} (hT: ∃ E i,P.underlying T=some (.array 32 E)∧P.underlying E=some (.int .u8)∧P.info? E=some i∧i.size=1) (a b:Dig) (w:World):
  (Op.equalIn (d+2) T (.agg (a.bs.map u8).toArray) (.agg (b.bs.map u8).toArray)).run P w= .ok (decide (a=b)) w:=by
 obtain⟨E,i,h1,h2,h3,h4⟩:=hT
 rw[run_equalIn_array w (d+1) _ _ h1 h3]
 have hc:P.cellsOf E=1:=by simp[Program.cellsOf,h3,h4]
 rw[hc,List.range_eq_range',TP d h2 a.bs b.bs (by rw[a.len,b.len]) w 32 0 (by rw[a.len])]
 simp only[LX]
 congr 1
 rw[Ih];simp only[AB]
 exact⟨fun e=>Dig.ext e,fun e=>e ▸ rfl⟩
theorem J0 {g:Gh} {v:Value} {d:Dig} (h:VR g v (.agg (eDig d))):v= .agg (d.bs.map u8).toArray:=by
 obtain⟨vs,rfl,h2⟩:=h.agg_inv
 have:eDig d=(d.bs.map u8).map .raw:=by simp[eDig,eU8]
 rw[this]at h2
 rw[h2.raws_inv]
theorem Gb {g:Gh} {v:Value} {x:Ident} (h:VR g v (.agg (eIdent x))):v= .agg (x.patch.bs.map u8++ [Value.int .i64 x.n]).toArray:=by
 obtain⟨vs,rfl,h2⟩:=h.agg_inv
 have:eIdent x=(x.patch.bs.map u8++ [Value.int .i64 x.n]).map .raw:=by simp[eIdent,eDig,eU8]
 rw[this]at h2
 rw[h2.raws_inv]
theorem Jt (d:Nat) {T:TypeId} [hT:LV P T] (a b:Ident) (w:World):
  (Op.equalIn (d+3) T (.agg (a.patch.bs.map u8++ [Value.int .i64 a.n]).toArray) (.agg (b.patch.bs.map u8++ [Value.int .i64 b.n]).toArray)).run P w= .ok (decide (a=b)) w:=by
 obtain⟨D,I,h1,h2,⟨i,h3,h3'⟩,h4⟩:=hT.str
 rw[run_equalIn_struct w (d+2) T _ _ hT.und hT.held,h1]
 have hagg:iJ P D 32:=by obtain⟨E,j,e1,_⟩:=h4;exact⟨.inr ⟨32,E,e1⟩,i,h3,h3'⟩
 have pD: ∀ (x:Ident),(part D (x.patch.bs.map u8++ [Value.int .i64 x.n]).toArray 0).run P w= .ok (.agg (x.patch.bs.map u8).toArray) w:=fun x=>by
  obtain⟨q1,q2⟩:=Ot hagg w
  unfold part
  simp only[Sem.run_bind,q1,Result.andThen_ok,if_true,q2,Sem.run_pure]
  congr 2
  simp[x.patch.len]
 have pI: ∀ (x:Ident),(part I (x.patch.bs.map u8++ [Value.int .i64 x.n]).toArray 32).run P w= .ok (.int .i64 x.n) w:=fun x=>
  Gl (Lk h2) (by simp[x.patch.len]) w
 simp only[Op.eqFields,ne_eq,String.reduceEq,not_false_eq_true,if_true,Sem.run_bind,pD,Result.andThen_ok,JR d h4]
 by_cases e1:a.patch=b.patch
 ·have d1:decide (a.patch=b.patch)=true:=by simp[e1]
  simp only[d1,ae,BT,if_false,Sem.run_bind,pI,Result.andThen_ok,run_equalIn_int w (d+1) I .i64 .i64 _ _ h2]
  by_cases e2:a.n=b.n
  ·have:a=b:=by cases a;cases b;simp_all
   have d2:(a.n==b.n)=true:=by simp[e2]
   have d3:decide (a=b)=true:=by simp[this]
   simp[d2,d3]
  ·have: ¬a=b:=fun e=>e2 (e ▸ rfl)
   simp[e2,this]
 ·have: ¬a=b:=fun e=>e1 (e ▸ rfl)
  simp[e1,this]
end
section
variable {P:Program} {N:Nat} {all:Array Oper} {K:Env→List Res→Prop} {fl:List Bool} {os:List Oper} {ρ:Env} {L:List Res}
variable {d:Nat} {ty:TypeId} {pos:String} {af:Array Edge}
theorem nu {T T':TypeId} [hT:V7 P T] {x y:Operand} {a b:Dig} (hx:ρ.ev x= .agg (eDig a)) (hy:ρ.ev y= .agg (eDig b)) (k:AV P N all K fl.tail os (CV ρ d (.raw (.bool (decide (a=b))))) L) (hd:Nat.blt d N=true:=by rfl):
  AV P N all K fl (⟨some d,.binOp .eql T x y T',ty,pos,af,none⟩::os) ρ L:=
 Bh hd (B7 fun A w g ha hi=>⟨.bool (decide (a=b)),by
  have h1:=ha x (by simp[Op.operands]);rw[hx]at h1
  have h2:=ha y (by simp[Op.operands]);rw[hy]at h2
  simp only[execOp,J0 h1,J0 h2,Sem.run_bind,run_eqGuard_agg w .eql T x y _ _ hT.guard,Result.andThen_ok,run_eql_struct,JR 9998 hT.arr,Sem.run_pure],.raw _⟩) k
theorem nr {T T':TypeId} [hT:V7 P T] {x y:Operand} {a b:Dig} (hx:ρ.ev x= .agg (eDig a)) (hy:ρ.ev y= .agg (eDig b)) (k:AV P N all K fl.tail os (CV ρ d (.raw (.bool (!decide (a=b))))) L) (hd:Nat.blt d N=true:=by rfl):
  AV P N all K fl (⟨some d,.binOp .neq T x y T',ty,pos,af,none⟩::os) ρ L:=
 Bh hd (B7 fun A w g ha hi=>⟨.bool (!decide (a=b)),by
  have h1:=ha x (by simp[Op.operands]);rw[hx]at h1
  have h2:=ha y (by simp[Op.operands]);rw[hy]at h2
  simp only[execOp,J0 h1,J0 h2,Sem.run_bind,run_eqGuard_agg w .neq T x y _ _ hT.guard,Result.andThen_ok,run_neq_struct,JR 9998 hT.arr,Sem.run_pure],.raw _⟩) k
theorem tF {T T':TypeId} [hT:LV P T] {x y:Operand} {a b:Ident} (hx:ρ.ev x= .agg (eIdent a)) (hy:ρ.ev y= .agg (eIdent b)) (k:AV P N all K fl.tail os (CV ρ d (.raw (.bool (decide (a=b))))) L) (hd:Nat.blt d N=true:=by rfl):
  AV P N all K fl (⟨some d,.binOp .eql T x y T',ty,pos,af,none⟩::os) ρ L:=
 Bh hd (B7 fun A w g ha hi=>⟨.bool (decide (a=b)),by
  have h1:=ha x (by simp[Op.operands]);rw[hx]at h1
  have h2:=ha y (by simp[Op.operands]);rw[hy]at h2
  simp only[execOp,Gb h1,Gb h2,Sem.run_bind,run_eqGuard_agg w .eql T x y _ _ hT.guard,Result.andThen_ok,run_eql_struct,Jt 9997,Sem.run_pure],.raw _⟩) k
theorem tC {T T':TypeId} [hT:LV P T] {x y:Operand} {a b:Ident} (hx:ρ.ev x= .agg (eIdent a)) (hy:ρ.ev y= .agg (eIdent b)) (k:AV P N all K fl.tail os (CV ρ d (.raw (.bool (!decide (a=b))))) L) (hd:Nat.blt d N=true:=by rfl):
  AV P N all K fl (⟨some d,.binOp .neq T x y T',ty,pos,af,none⟩::os) ρ L:=
 Bh hd (B7 fun A w g ha hi=>⟨.bool (!decide (a=b)),by
  have h1:=ha x (by simp[Op.operands]);rw[hx]at h1
  have h2:=ha y (by simp[Op.operands]);rw[hy]at h2
  simp only[execOp,Gb h1,Gb h2,Sem.run_bind,run_eqGuard_agg w .neq T x y _ _ hT.guard,Result.andThen_ok,run_neq_struct,Jt 9997,Sem.run_pure],.raw _⟩) k
end
def yG (P:Program) (T:Nat):Option Nat:=match P.underlying T with
 |some (.struct _)=>(P.info? T).map (·.size)
 |some (.array _ _)=>(P.info? T).map (·.size)
 |_=>none
def qy (P:Program) (T:Nat):Bool:=match P.underlying T with
 |some (.struct _)=>false
 |some (.array _ _)=>false
 |some _=>true
 |none=>false
def xu (P:Program) (S k:Nat):Option Nat:=match P.underlying S with
 |some (.struct fs)=>match fs[k]? with
  |some f=>match P.info? f.type with
   |some i=>if i.size=0 then none else some f.offset
   |none=>none
  |none=>none
 |_=>none
theorem FF.of {P:Program} {T n:Nat} (h:yG P T=some n):FF P T n:=⟨by
 unfold yG at h
 split at h
 ·rename_i fs hu
  obtain⟨i,h1,h2⟩:=Bn.1 h
  exact⟨.inl ⟨fs,hu⟩,i,h1,h2⟩
 ·rename_i m e hu
  obtain⟨i,h1,h2⟩:=Bn.1 h
  exact⟨.inr ⟨m,e,hu⟩,i,h1,h2⟩
 ·cases h⟩
theorem DR.of {P:Program} {T:Nat} (h:qy P T=true):DR P T:=⟨by
 unfold qy at h
 split at h
 ·cases h
 ·cases h
 ·rename_i d h1 h2 hu;exact⟨d,hu,fun fs e=>h1 fs e,fun m e' e=>h2 m e' e⟩
 ·cases h⟩
theorem CX.of {P:Program} {S k off:Nat} (h:xu P S k=some off):CX P S k off:=⟨by
 unfold xu at h
 split at h
 ·rename_i fs hu
  split at h
  ·rename_i f hf
   split at h
   ·rename_i i hi
    split at h
    ·cases h
    ·rename_i h0;exact⟨fs,f,i,hu,hf,CN h,hi,h0⟩
   ·cases h
  ·cases h
 ·cases h⟩
theorem EZ.of {P:Program} {E sz bytes:Nat} (h:(P.info? E).map (fun i=>(i.size,i.bytes))=some (sz,bytes)):EZ P E sz bytes:=⟨by
 obtain⟨i,h1,h2⟩:=Bn.1 h
 simp only[Prod.mk.injEq]at h2
 exact⟨i,h1,h2.1,h2.2⟩⟩
theorem V7.of {P:Program} {T E:Nat} (h1:P.underlying T=some (.array 32 E)) (h2:P.underlying E=some (.int .u8)) (h3:(P.info? E).map (·.size)=some 1) (h4:P.eqGuardType P.depth T=false):V7 P T:=⟨by
 obtain⟨i,h5,h6⟩:=Bn.1 h3
 exact⟨E,i,h1,h2,h5,h6⟩,h4⟩
theorem LV.of {P:Program} {T D I E:Nat} (h1:P.fieldsOf T= #[⟨ "Patch",D,0,false, "", "",0⟩,⟨ "N",I,32,false, "", "",32⟩]) (h2:P.underlying I=some (.int .i64)) (h3:(P.info? D).map (·.size)=some 32)
  (h4:P.underlying D=some (.array 32 E)) (h5:P.underlying E=some (.int .u8)) (h6:(P.info? E).map (·.size)=some 1) (h7:P.underlying T=some (.struct (P.fieldsOf T))) (h8:P.stoodInHeld T=false) (h9:P.eqGuardType P.depth T=false):LV P T:=⟨by
 obtain⟨i,e1,e2⟩:=Bn.1 h3
 obtain⟨j,e3,e4⟩:=Bn.1 h6
 exact⟨D,I,h1,h2,⟨i,e1,e2⟩,E,j,h4,h5,e3,e4⟩,h7,h8,h9⟩
class K5 (cs:List PV) (off:Nat) (r:outParam (List PV)):Prop where
 out:(cs.drop off).take r.length=r∧off+r.length≤cs.length
class Y7 (cs:List PV) (off n:Nat) (r:outParam (List PV)):Prop where
 out:(cs.drop off).take n=r∧off+n≤cs.length
class FK (cs:List PV) (off:Nat) (new:List PV) (r:outParam (List PV)):Prop where
 out:cs.take off++new++cs.drop (off+new.length)=r∧off+new.length≤cs.length
class At (cs:List PV) (off:Nat) (c:outParam PV):Prop where
 out:cs[off]? =some c
theorem Hj {cs:List PV} {off:Nat} {c:PV} (h:K5 cs off [c]):At cs off c:=⟨by
 obtain⟨h1,h2⟩:=h.out
 have:=congrArg (fun l=>l[0]?) h1
 simpa [Gf]using this⟩
class NX {α:Type} (f:α→List PV) (n:outParam Nat):Prop where
 out: ∀ a,(f a).length=n
instance :NX eDig 32:=⟨fun _=>by simp⟩
instance :NX eIdent 33:=⟨fun _=>by simp⟩
instance (x:Ident):K5 (eIdent x) 0 (eDig x.patch):=⟨by simp[eIdent]⟩
instance Zh (x:Ident):K5 (eIdent x) 32 [.raw (.int .i64 x.n)]:=⟨by simp[eIdent]⟩
instance (x:Ident):At (eIdent x) 32 (.raw (.int .i64 x.n)):=Hj (Zh x)
instance (x:Ident):Y7 (eIdent x) 0 32 (eDig x.patch):=⟨by simp[eIdent]⟩
instance (x:Ident) (d:Dig):FK (eIdent x) 0 (eDig d) (eIdent ⟨d,x.n⟩):=⟨by simp[eIdent]⟩
instance (x:Ident) (n:Int):FK (eIdent x) 32 [.raw (.int .i64 n)] (eIdent ⟨x.patch,n⟩):=⟨by simp[eIdent]⟩
section
variable {P:Program} {N:Nat} {all:Array Oper} {K:Env→List Res→Prop} {fl:List Bool} {os:List Oper} {ρ:Env} {L:List Res}
variable {d:Nat} {ty:TypeId} {pos:String} {af:Array Edge}
theorem jX {T:TypeId} {E sz by_:Nat} [hT:MO P T E] [hE:EZ P E sz by_] {x y:Operand} {α:Type} {f:α→List PV} [hf:NX f sz] {l:List α} {t:CF} {kk:IntKind} {n:Nat} (hx:ρ.ev x= .slice (l.map f) t) (hy:ρ.ev y= .raw (.int kk (n:Int))) (hn:n < l.length)
  (k:AV P N all K fl.tail os (CV ρ d (.pt (f l[n]) 0)) L) (hd:Nat.blt d N=true:=by rfl):
  AV P N all K fl (⟨some d,.indexAddr T x y,ty,pos,af,none⟩::os) ρ L:=
 dN hx hy (by omega) (by simpa using hn) (by simp[hf.out]) (by simpa using k) hd
theorem jU {T:TypeId} {E:Nat} [hT:MO P T E] {x:Operand} {α:Type} {f:α→List PV} {l:List α} {t:CF} (hx:ρ.ev x= .slice (l.map f) t) (k:AV P N all K fl.tail os (CV ρ d (.raw (.int .i64 l.length))) L) (hd:Nat.blt d N=true:=by rfl):
  AV P N all K fl (⟨some d,.call { callee:= .builtin .len,args:= #[x],argTypes:= #[T] },ty,pos,af,none⟩::os) ρ L:=jV hx (by simpa using k) hd
theorem jS {T n:Nat} [hT:FF P T n] {x:Operand} {cs:List PV} (hx:ρ.ev x= .pt cs 0) (hl:cs.length=n) (k:AV P N all K fl.tail os (CV ρ d (.agg cs)) L) (hd:Nat.blt d N=true:=by rfl):
  AV P N all K fl (⟨some d,.load T x,ty,pos,af,none⟩::os) ρ L:=
 nt hx (by omega) (by rw[LX,AE (by omega)];exact k) hd
theorem VU {T n:Nat} [hT:FF P T n] {x:Operand} {b T':Nat} {cs:List PV} (hx:ρ.ev x= .raw (.pointer (some ⟨b,0,none⟩))) (hm:Res.box b T' cs∈L) (hl:cs.length=n) (k:AV P N all K fl.tail os (CV ρ d (.agg cs)) L) (hd:Nat.blt d N=true:=by rfl):
  AV P N all K fl (⟨some d,.load T x,ty,pos,af,none⟩::os) ρ L:=
 YY hx hm (by omega) (by rw[LX,AE (by omega)];exact k) hd
theorem YX {T n:Nat} [hT:FF P T n] {x:Operand} {b off T':Nat} {cs r:List PV} (hx:ρ.ev x= .raw (.pointer (some ⟨b,off,none⟩))) (hm:Res.box b T' cs∈L) [hs:Y7 cs off n r] (k:AV P N all K fl.tail os (CV ρ d (.agg r)) L) (hd:Nat.blt d N=true:=by rfl):
  AV P N all K fl (⟨some d,.load T x,ty,pos,af,none⟩::os) ρ L:=
 YY hx hm hs.out.2 (by rw[hs.out.1];exact k) hd
theorem jQ {T:Nat} [hT:DR P T] {x:Operand} {b off T':Nat} {cs:List PV} {c:PV} (hx:ρ.ev x= .raw (.pointer (some ⟨b,off,none⟩))) (hm:Res.box b T' cs∈L) [hs:At cs off c] (k:AV P N all K fl.tail os (CV ρ d c) L) (hd:Nat.blt d N=true:=by rfl):
  AV P N all K fl (⟨some d,.load T x,ty,pos,af,none⟩::os) ρ L:=
 TL hx hm hs.out k hd
theorem bF {S f off':Nat} [hF:CX P S f off'] {x:Operand} {cs r:List PV} (hx:ρ.ev x= .pt cs 0) [hr:K5 cs off' r] (k:AV P N all K fl.tail os (CV ρ d (.pt r 0)) L) (hd:Nat.blt d N=true:=by rfl):
  AV P N all K fl (⟨some d,.fieldAddr S x f,ty,pos,af,none⟩::os) ρ L:=
 Bh hd (B7 fun a w g ha hi=>by
  have h1:=ha x (by simp[Op.operands])
  rw[hx]at h1
  generalize hv:a.eval x=v at h1
  obtain⟨fs,fd,i,h2,h3,h4,h5,h6⟩:=hF.out
  obtain⟨e1,e2⟩:=hr.out
  cases h1 with
  |pt ff hH hv'=>
   rename_i b o
   refine⟨.pointer (some ⟨b,o+off'+0,none⟩),?_,.pt (fun j=>ff (off'+j)) (fun j hj=>?_) (fun j hj=>?_)⟩
   ·simp[execOp,Instr.fieldAt,hv,IC h2,h3,Instr.sureAddr,fieldPlace,sizeOf,typeInfo,h5,h6,h4,Dp]
   ·rw[E7];exact hH (off'+j) (by omega)
   ·have:=hv' (off'+j) (by omega)
    have e3:r[j]=cs[off'+j]:=by
     have:=congrArg (fun l=>l[j]?) e1
     simp only[Gd,hj,if_true,Gf]at this
     rw[AO (by omega),AO hj]at this
     exact(CN this).symm
    rw[e3];exact this) k
inductive qV (b:Nat):List PV→List PV→List Res→List Res→Prop
 |here {T:TypeId} {cs cs':List PV} {L:List Res}:qV b cs cs' (.box b T cs::L) (.box b T cs'::L)
 |there {cs cs':List PV} {r:Res} {L L':List Res} (h:qV b cs cs' L L'):qV b cs cs' (r::L) (r::L')
theorem qV.split {b:Nat} {cs cs':List PV} {L L':List Res} (h:qV b cs cs' L L'): ∃ A B T,L=A++ .box b T cs::B∧L'=A++ .box b T cs'::B:=by
 induction h with
 |here=>rename_i T cs cs' L;exact⟨[],L,T,rfl,rfl⟩
 |there h ih=>rename_i r _ _;obtain⟨A,B,T,h1,h2⟩:=ih;exact⟨r::A,B,T,by rw[h1];rfl,by rw[h2];rfl⟩
theorem NN {P:Program} {b T:Nat} {fr:Nat × Nat}: ∀ (new:List Value) (w:World) (vs:List Value) (off i:Nat),w.heap[b]? =some (.cells vs.toArray T fr)→off+i+new.length≤vs.length→(fr.2≤fr.1∨vs.length≤fr.1)→(∀ v∈new,v.oneCell'=true)→
  ∃ w',(storeCells ⟨b,off,none⟩ new i).run P w= .ok () w'∧w'.heap[b]? =some (.cells (vs.take (off+i)++new++vs.drop (off+i+new.length)).toArray T fr)∧w'.os=w.os∧w'.tape=w.tape∧(w'.output=w.output∧w.drawn≤w'.drawn)∧w'.heap.size=w.heap.size∧ ∀ k,k≠b→w'.heap[k]? =w.heap[k]?:=by
 intro new
 induction new with
 |nil=>intro w vs off i hb hl _ _;exact⟨w,rfl,by simpa using hb,rfl,rfl,⟨rfl,Ah _⟩,rfl,fun _ _=>rfl⟩
 |cons v new ih=>
  intro w vs off i hb hl hfr hone
  simp only[AN]at hl
  have hc:w.cell? ⟨b,off+i,none⟩=some (vs[off+i]'(by omega)):=HJ hb (off+i) (by omega)
  have hf:w.frozen? ⟨b,off+i,none⟩=false:=by simp[World.frozen?,hb];omega
  have hblt:b < w.heap.size:=(BF.1 hb).1
  have hset:(w.setCell ⟨b,off+i,none⟩ v).heap[b]? =some (.cells (vs.set (off+i) v).toArray T fr):=by
   obtain⟨_,hk⟩:=BF.1 hb
   show(w.heap.modify b _)[b]? =_
   rw[CR (by rw[H6];exact hblt),Array.getElem_modify_self,hk]
   simp
  obtain⟨w',h1,h2,h3,h4,h5,h6,h7⟩:=ih (w.setCell ⟨b,off+i,none⟩ v) (vs.set (off+i) v) off (i+1) hset (by simp;omega) (by simpa using hfr) (fun u hu=>hone u (AH _ hu))
  refine⟨w',?_,?_,h3,h4,h5,h6.trans (by simp[World.setCell]),fun k hk=>(h7 k hk).trans ?_⟩
  ·unfold storeCells
   rw[Sem.run_bind,Dp,run_store P w _ v .plain (hone v (AG)),hc]
   simp only[hf,BT,if_false,Result.andThen_ok]
   exact h1
  ·rw[h2]
   congr 3
   rw[show off+(i+1)=off+i+1 by omega,List.take_set,List.drop_set_of_lt (by omega)]
   rw[A7 (by omega:off+i < vs.length)]
   rw[List.set_append]
   simp only[Aa,DM (by omega:off+i≤vs.length),Ff,if_false,Nat.sub_self,cw,AU,B0,B8,AN]
   rw[show off+i+1+new.length=off+i+(new.length+1) by omega]
  ·simp only[World.setCell,MZ]
   rw[if_neg (Ne.symm hk)]
theorem FV {P:Program} {b T:Nat}: ∀ (new:List Value) (w:World) (vs:List Value) (off i:Nat),w.heap[b]? =some (.cells vs.toArray T (0,0))→off+i+new.length≤vs.length→(∀ v∈new,v.oneCell'=true)→
  ∃ w',(storeCells ⟨b,off,none⟩ new i).run P w= .ok () w'∧w'.heap[b]? =some (.cells (vs.take (off+i)++new++vs.drop (off+i+new.length)).toArray T (0,0))∧w'.os=w.os∧w'.tape=w.tape∧(w'.output=w.output∧w.drawn≤w'.drawn)∧w'.heap.size=w.heap.size∧ ∀ k,k≠b→w'.heap[k]? =w.heap[k]?:=
 fun new w vs off i hb hl h1=>NN new w vs off i hb hl (.inl (Ah _)) h1
theorem VR.one {g:Gh} {v:Value} {x:PV} (h:VR g v x) (hx: ∀ cs,x≠ .agg cs) (hx': ∀ cs,x≠ .tuple cs) (hr: ∀ u,x= .raw u→u.oneCell'=true) (hj:x≠ .junk):v.oneCell'=true:=by
 cases h<;>first|rfl|exact hr _ rfl|exact absurd rfl hj|exact absurd rfl (hx _)|exact absurd rfl (hx' _)
def KF:List PV→Prop:=fun cs=> ∀ x∈cs,(∀ cs,x≠ .agg cs)∧(∀ cs,x≠ .tuple cs)∧(∀ u,x= .raw u→u.oneCell'=true)∧x≠ .junk
theorem HG:KF []:=fun _ h=>by cases h
theorem Zn {a b:List PV} (h:KF a) (k:KF b):KF (a++b):=fun x hx=>by
 rcases Aj.1 hx with h'|h'
 ·exact h x h'
 ·exact k x h'
theorem FJ {v:Value} {cs:List PV} (hv:v.oneCell'=true) (h:KF cs):KF (.raw v::cs):=fun x hx=>by
 rcases AI.1 hx with rfl|h'
 ·exact⟨by simp,by simp,(fun u e=>by cases e;exact hv),by simp⟩
 ·exact h x h'
theorem NB {xs:List (List PV)} {t:CF} {cs:List PV} (h:KF cs):KF (.slice xs t::cs):=fun x hx=>by
 rcases AI.1 hx with rfl|h'
 ·exact⟨by simp,by simp,by simp,by simp⟩
 ·exact h x h'
theorem gX {xs:List (PV × PV)} {cs:List PV} (h:KF cs):KF (.fmap xs::cs):=fun x hx=>by
 rcases AI.1 hx with rfl|h'
 ·exact⟨by simp,by simp,by simp,by simp⟩
 ·exact h x h'
theorem O5 {s:List UInt8} {cs:List PV} (h:KF cs):KF (.str s::cs):=fun x hx=>by
 rcases AI.1 hx with rfl|h'
 ·exact⟨by simp,by simp,by simp,by simp⟩
 ·exact h x h'
class Dv (cs:List PV):Prop where
 out:KF cs
instance :Dv []:=⟨HG⟩
instance (d:Dig):Dv (eDig d):=⟨fun x hx=>by
 obtain⟨b,_,rfl⟩:=AQ.1 hx
 exact FJ (v:=u8 b) rfl HG _ (by simp[eU8])⟩
instance {a b:List PV} [h:Dv a] [k:Dv b]:Dv (a++b):=⟨Zn h.out k.out⟩
instance {cs:List PV} {xs:List (List PV)} {t:CF} [h:Dv cs]:Dv (.slice xs t::cs):=⟨NB h.out⟩
instance {cs:List PV} {s:List UInt8} [h:Dv cs]:Dv (.str s::cs):=⟨O5 h.out⟩
instance {cs:List PV} {xs:List (PV × PV)} [h:Dv cs]:Dv (.fmap xs::cs):=⟨gX h.out⟩
instance {cs:List PV} {k:IntKind} {n:Int} [h:Dv cs]:Dv (.raw (.int k n)::cs):=⟨FJ rfl h.out⟩
instance {cs:List PV} {b:Bool} [h:Dv cs]:Dv (.raw (.bool b)::cs):=⟨FJ rfl h.out⟩
instance {cs:List PV} {b:Option Addr} [h:Dv cs]:Dv (.raw (.pointer b)::cs):=⟨FJ rfl h.out⟩
instance {cs:List PV} {b:Option Nat} [h:Dv cs]:Dv (.raw (.map b)::cs):=⟨FJ rfl h.out⟩
instance {cs:List PV} {a:Fn} {b c:Array Value} [h:Dv cs]:Dv (.raw (.func a b c)::cs):=⟨FJ rfl h.out⟩
instance (x:Ident):Dv (eIdent x):=⟨by unfold eIdent;exact Dv.out⟩
theorem Dt.write {w w':World} {g:Gh} {b:Nat} {cs cs':List PV} {L':List Res} (hi:Dt w g L) (hu:qV b cs cs' L L') (hsz:w'.heap.size=w.heap.size) (hos:w'.os=w.os) (htp:w'.tape=w.tape) (hout:w'.output=w.output∧w.drawn≤w'.drawn)
  (hk: ∀ k,k≠b→w'.heap[k]? =w.heap[k]?) (hb: ∀ T vs,w.heap[b]? =some (.cells vs T (0,0))→ ∃ us:List Value,w'.heap[b]? =some (.cells us.toArray T (0,0))∧EB g us cs'):
  Dt w' g L'∧Ec (Al L) w g w' g∧Db w L L':=by
 obtain⟨A,B,T,rfl,rfl⟩:=hu.split
 have hme:=hi.res (.box b T cs) (by simp)
 obtain⟨vs,h1,h2,h3,h4⟩:=hme
 have hbl:Al (A++ .box b T cs'::B)=Al (A++ .box b T cs::B):=by simp[Al,Dm,Res.block]
 have hnd:=hi.nodup
 have hne: ∀ r∈A++B,r.block≠some b:=fun r hr e=>by
  simp only[Al,Dm,Ax,Res.block]at hnd
  rw[EH]at hnd
  obtain⟨n1,n2,n3⟩:=hnd
  rcases Aj.1 hr with hr|hr
  ·exact n3 b (Bw.2 ⟨r,hr,e⟩) b (by simp) rfl
  ·exact(Bf.1 n2).1 (Bw.2 ⟨r,hr,e⟩)
 have hcell: ∀ k o,k≠b→w'.cell? ⟨k,o,none⟩=w.cell? ⟨k,o,none⟩:=fun k o h=>by simp only[World.cell?];rw[hk k h]
 refine⟨⟨fun b' o v h=>?_,fun b' es h=>?_,fun r hr=>?_,by rw[hbl];exact hi.nodup,hi.glob⟩,⟨hos,htp,hout,EG hsz.symm,fun k hlt hn=>hk k (fun e=>hn ?_),.refl g,fun _ _ _=>⟨fun _=>rfl,rfl⟩⟩,fun b' hb' _=>by rw[hbl]at hb';exact hb'⟩
 ·have hne':b'≠b:=fun e=>by subst e;rw[h3]at h;cases h
  rw[hcell _ _ hne'];exact hi.sat _ _ _ h
 ·have hne':b'≠b:=fun e=>by subst e;rw[h4]at h;cases h
  exact(hi.satM _ _ h).congr (hk _ hne')
 ·have hr':r= .box b T cs'∨r∈A++B:=by
   simp only[Aj,AI]at hr ⊢
   rcases hr with h|h|h
   ·exact .inr (.inl h)
   ·exact .inl h
   ·exact .inr (.inr h)
  rcases hr' with rfl|hr'
  ·obtain⟨us,e1,e2⟩:=hb T vs.toArray h1
   exact⟨us,e1,e2,h3,h4⟩
  ·have hold:=hi.res r (by simp only[Aj,AI]at hr' ⊢;rcases hr' with h|h;exact .inl h;exact .inr (.inr h))
   have hblk:=hne r hr'
   cases r with
   |box b' T' cs''=>obtain⟨us,e1,e2⟩:=hold;exact⟨us,by rw[hk b' (fun e=>hblk (by simp[Res.block,e]))];exact e1,e2⟩
   |tok t n sz=>cases t with
    |own b' cap=>obtain⟨us,T',fr,e1,e2⟩:=hold;exact⟨us,T',fr,by rw[hk b' (fun e=>hblk (by simp[Res.block,e]))];exact e1,e2⟩
    |_=>exact hold
   |map b' kvs=>obtain⟨es,c,e1,e2⟩:=hold;exact⟨es,c,by rw[hk b' (fun e=>hblk (by simp[Res.block,e]))];exact e1,e2⟩
   |raw b' o=>obtain⟨e1,e2⟩:=hold;exact⟨by rw[hk b' (fun e=>hblk (by simp[Res.block,e]))];exact e1,e2⟩
   |know vs xs=>exact hold
   |iter b' kvs dn=>obtain⟨m,es,c,e1,e2⟩:=hold;exact⟨m,es,c,by rw[hk b' (fun e=>hblk (by simp[Res.block,e]))];exact e1,e2⟩
 ·subst e;simp[Al,Dm,Res.block]
theorem EB.one {g:Gh} {vs:List Value} {cs:List PV} (h:EB g vs cs) (hf:KF cs): ∀ v∈vs,v.oneCell'=true:=fun v hv=>by
 obtain⟨i,hi,rfl⟩:=AZ.1 hv
 have hi':i < cs.length:=by rw[←h.len];exact hi
 obtain⟨h1,h2,h3,h4⟩:=hf cs[i] (AF hi')
 exact(h.at_ i hi hi').one h1 h2 h3 h4
theorem JK {T:TypeId} {x y:Operand} {b off sz by_:Nat} {cs cs' new:List PV} {L':List Res} [hT:EZ P T sz by_] {gd:Option (Nat × Bool)} {dst:Option Nat}
  (hx:ρ.ev x= .raw (.pointer (some ⟨b,off,none⟩))) (hv: ∀ g v,VR g v (ρ.ev y)→ ∃ us:List Value,v.cells=us.toArray∧EB g us new) (hlen:new.length=sz) (hfl:KF new) (hp:cs.take off++new++cs.drop (off+new.length)=cs') (hle:off+new.length≤cs.length) (hu:qV b cs cs' L L')
  {Ψ:PV→List Res→Prop} (k:Ψ (.raw undef) L'):Fc P ⟨dst,.store T x y,ty,pos,af,gd⟩ ρ L Ψ:=by
 intro a w g ha hi
 have h1:=Cd ha (x:=x) (by simp[Op.operands]) hx
 obtain⟨us,hc,hus⟩:=hv g (a.eval y) (ha y (by simp[Op.operands]))
 obtain⟨A,B,T',e1,_⟩:=hu.split
 have hme:=hi.res (.box b T' cs) (by rw[e1];simp)
 obtain⟨vs,hb,hvs,_,_⟩:=hme
 obtain⟨w',hrun,hb',hos,htp,hout,hsz,hk⟩:=FV (P:=P) us w vs off 0 hb (by rw[hus.len,hvs.len];exact hle) (hus.one hfl)
 have hr:(execOp a.eval ⟨dst,.store T x y,ty,pos,af,gd⟩).run P w= .ok .skip w':=by
  simp only[execOp,Instr.storeAt,h1,Instr.sureAddr,Sem.run_bind,Sem.run_pure,Result.andThen_ok,storeVar,EZ.run hT,hc,Cj]
  rw[if_neg (by rw[hus.len,hlen];simp)]
  simp[hrun]
 obtain⟨j1,j2,j3⟩:=hi.write hu hsz hos htp hout hk (fun T'' vs' hb''=>by
  rw[hb]at hb''
  injection hb'' with hb''
  injection hb'' with e2 e3
  subst e3
  refine⟨_,hb',?_⟩
  rw[←hp,Dq,←hus.len]
  exact(((hvs.take off).append hus).append (hvs.drop _)))
 refine Oper.wq_of_run hr ?_
 exact⟨undef,.raw undef,g,L',rfl,.raw _,j1,j2,j3,k⟩
end
@[reducible] def iY:List (Nat × PV)→Env
 | []=>fun _=> .junk
 |(i,v)::E=>CV (iY E) i v
@[reducible] def PQ (ρ:Env):List (Nat × PV)→Prop
 | []=>True
 | [(i,v)]=>ρ i=v
 |(i,v)::E=>ρ i=v∧PQ ρ E
theorem cJ {ρ:Env}: ∀ {E:List (Nat × PV)},PQ ρ E→ ∀ i,iY E i=ρ i∨iY E i= .junk
 | [],_,_=> .inr rfl
 | [(j,v)],h,i=>by
   by_cases e:i=j
   ·subst e;left;show CV _ _ _ _=_;rw[Cz];exact h.symm
   ·right;show CV _ _ _ _=_;rw[Gv _ _ e]
 |(j,v)::(p::E),h,i=>by
  by_cases e:i=j
  ·subst e;left;show CV _ _ _ _=_;rw[Cz];exact h.1.symm
  ·show CV _ _ _ _=_∨CV _ _ _ _=_;rw[Gv _ _ e];exact cJ h.2 i
section
variable {P:Program} {N:Nat} {Q:PPost} {ρ:Env} {L:List Res} {c:Code}
theorem KN {ρ':Env} {L':List Res} (hg: ∀ base a w g,VC base g N a ρ→Dt w g L→ ∃ g',VC base g' N a ρ'∧Dt w g' L'∧Ec (Al L) w g w g'∧Db w L L') (h:ER P N c Q ρ' L'):ER P N c Q ρ L:=fun ro base a w g hs=>by
 obtain⟨g',h1,h2,h3,h4⟩:=hg base a w g hs.agr hs.inv
 exact wpIn_mono (h ro base a w g' (hs.step h1 h2 h3 h4)) fun e a' w' k=>SD.later h3 h4 (fun _ _ x=>x) k
theorem My {ρ':Env} {L':List Res} (hρ: ∀ i,ρ' i=ρ i∨ρ' i= .junk) (hL:L'.Sublist L) (h:ER P N c Q ρ' L'):ER P N c Q ρ L:=
 KN (fun base a w g ha hi=>⟨g,⟨ha.size,ha.defers,fun i=>by
  rcases hρ i with e|e
  ·rw[e];exact ha.slot i
  ·rw[e];exact .junk _⟩,hi.sub hL,.refl _ _ _,fun b hb _=>(GP hL).subset hb⟩) h
theorem E0 {L':List Res} (hL:L.Perm L') (h:ER P N c Q ρ L'):ER P N c Q ρ L:=
 KN (fun base a w g ha hi=>⟨g,ha,hi.perm hL,.refl _ _ _,fun b hb _=>(hL.symm.filterMap _).subset hb⟩) h
theorem HQ {L':List Res} (E:List (Nat × PV)) (hE:PQ ρ E) (hL:L'.Sublist L) (h:ER P N c Q (iY E) L'):ER P N c Q ρ L:=My (cJ hE) hL h
@[reducible] def qX {σ:Type} (I:σ→Prop) (μ:σ→Nat) (E:σ→List (Nat × PV)) (Ls:σ→List Res) (s:σ) (Q:PPost):PPost
 | .normal,ρ,L=> ∃ s',I s'∧μ s' < μ s∧PQ ρ (E s')∧(Ls s').Sublist L
 |e,ρ,L=>Q e ρ L
theorem Ad {σ:Type} (I:σ→Prop) (μ:σ→Nat) (E:σ→List (Nat × PV)) (Ls:σ→List Res) (s₀:σ) (h0:I s₀) (hρ:PQ ρ (E s₀)) (hL:(Ls s₀).Sublist L)
  (round: ∀ s,I s→ER P N c (qX I μ E Ls s Q) (iY (E s)) (Ls s)):ER P N (.loop c) Q ρ L:=by
 refine kD (fun n ρ L=> ∃ s,I s∧μ s=n∧PQ ρ (E s)∧(Ls s).Sublist L) ⟨s₀,h0,rfl,hρ,hL⟩ ?_
 rintro n ρ L ⟨s,hI,rfl,hE,hS⟩
 refine Th (HQ (E s) hE hS (round s hI)) ?_
 intro e ρ' L' h
 cases e with
 |normal=>obtain⟨s',h1,h2,h3,h4⟩:=h;exact⟨μ s',h2,s',h1,rfl,h3,h4⟩
 |_=>exact h
end
inductive Bd:PV→Prop
 |raw (v:Value):Bd (.raw v)
 |junk:Bd .junk
 |str {s:List UInt8} (h:s.length≤maxN):Bd (.str s)
 |agg {cs:List PV} (h: ∀ c∈cs,Bd c):Bd (.agg cs)
 |tuple {cs:List PV} (h: ∀ c∈cs,Bd c):Bd (.tuple cs)
 |slice {xs:List (List PV)} {t:CF} (hl:xs.length≤maxN) (hc: ∀ sz,(∀ e∈xs,e.length=sz)→xs.length*sz≤maxN) (h: ∀ e∈xs,∀ c∈e,Bd c):Bd (.slice xs t)
 |pt {cs:List PV} {off:Nat} (h: ∀ c∈cs,Bd c):Bd (.pt cs off)
 |fmap {kvs:List (PV × PV)} (h1: ∀ p∈kvs,Bd p.1) (h2: ∀ p∈kvs,Bd p.2):Bd (.fmap kvs)
 |clo {f:Nat} {cs:List PV} (h: ∀ c∈cs,Bd c):Bd (.clo f cs)
 |ifc {t:Nat} {x:PV} (h:Bd x):Bd (.ifc t x)
theorem VR.bd {g:Gh} {v:Value} {x:PV} (h:VR g v x):Bd x:=by
 induction h with
 |raw v=>exact .raw v
 |junk v=>exact .junk
 |str h=>exact .str h
 |agg hl _ ih=>exact .agg fun c hc=>by obtain⟨i,hi,rfl⟩:=AZ.1 hc;exact ih i (by omega) hi
 |tuple hl _ ih=>exact .tuple fun c hc=>by obtain⟨i,hi,rfl⟩:=AZ.1 hc;exact ih i (by omega) hi
 |nilN=>exact .slice (Xy _) (by simp) (by simp)
 |nilR=>exact .slice (Xy _) (by simp) (by simp)
 |slice sz f hl hc hm hs hH _ ht hn ih=>
  refine .slice (by have:=hm.1;omega) (fun sz' hs'=>?_) fun e he c hc=>?_
  ·rename_i xs t _
   clear ht hn ih
   cases xs with
   |nil=>simp
   |cons x xs=>
    have e1:=hs x (by simp)
    have e2:=hs' x (by simp)
    rw[←e2,e1,hl];exact hm.2
  obtain⟨i,hi,rfl⟩:=AZ.1 he
  obtain⟨j,hj,rfl⟩:=AZ.1 hc
  exact ih i hi j hj
 |pt f hH _ ih=>exact .pt fun c hc=>by obtain⟨i,hi,rfl⟩:=AZ.1 hc;exact ih i hi
 |fmap hM hl _ _ ik iv=>exact .fmap (fun p hp=>by obtain⟨i,hi,rfl⟩:=AZ.1 hp;exact ik i (by omega) hi) (fun p hp=>by obtain⟨i,hi,rfl⟩:=AZ.1 hp;exact iv i (by omega) hi)
 |nilM=>exact .fmap (by simp) (by simp)
 |clo f hl _ ih=>exact .clo fun c hc=>by obtain⟨i,hi,rfl⟩:=AZ.1 hc;exact ih i (by omega) hi
 |ifc t _ ih=>exact .ifc ih
theorem Bd.slice_len {xs:List (List PV)} {t:CF} (h:Bd (.slice xs t)):xs.length≤maxN:=by cases h;assumption
theorem Bd.slice_map {α:Type} {f:α→List PV} {l:List α} {t:CF} (h:Bd (.slice (l.map f) t)):l.length≤maxN:=by simpa using h.slice_len
theorem Bd.slice_cells {α:Type} {f:α→List PV} {sz:Nat} [hf:NX f sz] {l:List α} {t:CF} (h:Bd (.slice (l.map f) t)):l.length*sz≤maxN:=by
 cases h with
 |slice _ hc _=>simpa using hc sz (fun e he=>by obtain⟨a,_,rfl⟩:=AQ.1 he;exact hf.out a)
theorem Bd.slice_at {α:Type} {f:α→List PV} {l:List α} {t:CF} (h:Bd (.slice (l.map f) t)) {a:α} (ha:a∈l) {c:PV} (hc:c∈f a):Bd c:=by
 cases h with
 |slice _ _ h=>exact h (f a) (AQ.2 ⟨a,ha,rfl⟩) c hc
theorem Bd.str_len {s:List UInt8} (h:Bd (.str s)):s.length≤maxN:=by cases h;assumption
theorem Bd.agg_at {cs:List PV} (h:Bd (.agg cs)) {c:PV} (hc:c∈cs):Bd c:=by cases h with|agg h=>exact h c hc
def Fn (P:Program) (f:FuncId) (args:List PV) (X:PV):Prop:=BA P f args [] (fun r L'=>r=X∧L'= [])
class CB (P:Program) (f:Nat) (args:List PV) (X:outParam PV):Prop where
 out:Fn P f args X
theorem C5 {P:Program} {f:FuncId} {fn:Func} {c:Code} {rs:List ResultVar} {N:Nat} {args:List PV} {L:List Res} {R:PV→List Res→Prop}
  (hf:P.funcs[f]? =some fn) (hb:fn.body=some c) (hn:fn.ntmps=N) (hr:fn.results=rs.toArray) (hN:Nat.ble args.length N=true)
  (h:(∀ x∈args,Bd x)→ ∀ LF,ER P N c (qW P rs R LF) (yn args) (L++LF)):BA P f args L R:=by
 intro vs w g LF hv hi
 have hbd: ∀ x∈args,Bd x:=fun x hx=>by
  obtain⟨i,hi,rfl⟩:=AZ.1 hx
  exact(hv.at_ i (by rw[hv.len];exact hi) hi).bd
 exact Uq hf hb hn hr (Gg hN) (fun LF=>h hbd LF) vs w g LF hv hi
theorem Tf {P:Program} {dst:Option Nat} {f:FuncId} {xs:List Operand} {ats:Array TypeId} {ty:TypeId} {pos:String} {af:Array Edge} {gd:Option (Nat × Bool)} {ρ:Env} {L:List Res} {args:List PV} {X:PV} [hf:Az P f]
  (ha:xs.map ρ.ev=args) (hc:Fn P f args X):iE P ⟨dst,.call { callee:= .value (.func f),args:=xs.toArray,argTypes:=ats },ty,pos,af,gd⟩ ρ L X:=by
 have:=kU (P:=P) (dst:=dst) (ats:=ats) (ty:=ty) (pos:=pos) (after:=af) (gd:=gd) (ρ:=ρ) (L₁:= []) (LF:=L) (Ψ:=fun x L'=>x=X∧L'=L) hf.out ha (hc.mono fun x L' ⟨h1,h2⟩=>⟨h1,by rw[h2];rfl⟩)
 exact this
section
variable {P:Program} {N:Nat} {all:Array Oper} {K:Env→List Res→Prop} {fl:List Bool} {os:List Oper} {ρ:Env} {L:List Res}
variable {d:Nat} {ty:TypeId} {pos:String} {af:Array Edge} {ats:Array TypeId} {f:Nat} {X:PV} {x₁ x₂ x₃ x₄ x₅:Operand} {a₁ a₂ a₃ a₄ a₅:PV}
end
section
variable {P:Program} {ρ:Env} {L LF:List Res} {X:PV}
end
inductive sS (r r':Res):List Res→List Res→Prop
 |here {L:List Res}:sS r r' (r::L) (r'::L)
 |there {s:Res} {L L':List Res} (h:sS r r' L L'):sS r r' (s::L) (s::L')
theorem sS.split {r r':Res} {L L':List Res} (h:sS r r' L L'): ∃ A B,L=A++r::B∧L'=A++r'::B:=by
 induction h with
 |here=>rename_i L;exact⟨[],L,rfl,rfl⟩
 |there h ih=>rename_i s _ _;obtain⟨A,B,h1,h2⟩:=ih;exact⟨s::A,B,by rw[h1];rfl,by rw[h2];rfl⟩
theorem Res.holds_lt {w:World} {g:Gh} {r:Res} (h:r.holds w g) {b:Nat} (hb:r.block=some b):b < w.heap.size:=by
 rcases B9 b w.heap.size with h'|h'
 ·exact h'
 ·have hn:w.heap[b]? =none:=Bo h'
  cases r with
  |box b' T' cs'=>obtain⟨_,h1,_⟩:=h;simp[Res.block]at hb;subst hb;rw[hn]at h1;cases h1
  |tok t n sz=>cases t with
   |own b' cap=>obtain⟨_,_,_,h1,_⟩:=h;simp[Res.block]at hb;subst hb;rw[hn]at h1;cases h1
   |_=>simp[Res.block]at hb
  |map b' kvs=>obtain⟨_,_,h1,_⟩:=h;simp[Res.block]at hb;subst hb;rw[hn]at h1;cases h1
  |raw b' o=>obtain⟨h1,_⟩:=h;simp[Res.block]at hb;subst hb;rw[hn]at h1;cases h1
  |know vs xs=>simp[Res.block]at hb
  |iter b' kvs dn=>obtain⟨_,_,_,h1,_⟩:=h;simp[Res.block]at hb;subst hb;rw[hn]at h1;cases h1
theorem Entries.mono {g g':Gh} (hg:g.le g') {es:Array MapEntry} {kvs:List (PV × PV)} (h:Entries g es kvs):Entries g' es kvs:=⟨h.len,fun i h1 h2=>(h.key i h1 h2).mono hg,fun i h1 h2=>(h.val i h1 h2).mono hg⟩
theorem Res.holds_kept {w w':World} {g g':Gh} (hg:g.le g') {r:Res} (h:r.holds w g) (hk: ∀ b,r.block=some b→w'.heap[b]? =w.heap[b]? ∧(∀ o,g'.H b o=g.H b o)∧g'.M b=g.M b):r.holds w' g':=by
 cases r with
 |box b' T' cs'=>obtain⟨us,h1,h2,h3,h4⟩:=h;obtain⟨k1,k2,k3⟩:=hk b' rfl;exact⟨us,by rw[k1];exact h1,h2.mono hg,fun o=>by rw[k2];exact h3 o,by rw[k3];exact h4⟩
 |tok t n sz=>cases t with
  |own b' cap=>obtain⟨us,T',fr,h1,h2,h3,h4,h5,h6⟩:=h;obtain⟨k1,k2,k3⟩:=hk b' rfl;exact⟨us,T',fr,by rw[k1];exact h1,h2,h3,fun o ho=>by rw[k2];exact h4 o ho,by rw[k3];exact h5,h6⟩
  |_=>exact h
 |map b' kvs=>obtain⟨es,c,h1,h2,h3,h4,h5⟩:=h;obtain⟨k1,k2,k3⟩:=hk b' rfl;exact⟨es,c,by rw[k1];exact h1,h2.mono hg,fun o=>by rw[k2];exact h3 o,by rw[k3];exact h4,h5⟩
 |raw b' o=>obtain⟨h1,h3,h4⟩:=h;obtain⟨k1,k2,k3⟩:=hk b' rfl;exact⟨by rw[k1];exact h1,fun o=>by rw[k2];exact h3 o,by rw[k3];exact h4⟩
 |know vs xs=>exact EB.mono hg h
 |iter b' kvs dn=>obtain⟨m,es,c,h1,hr,h2,h3,h4,h5⟩:=h;obtain⟨k1,k2,k3⟩:=hk b' rfl;exact⟨m,es,c,by rw[k1];exact h1,hr.mono hg,h2.mono hg,fun o=>by rw[k2];exact h3 o,by rw[k3];exact h4,h5⟩
theorem Dt.repl {w w':World} {g g':Gh} {r r':Res} {L L':List Res} (hi:Dt w g L) (hrep:sS r r' L L') (hos:w'.os=w.os) (htp:w'.tape=w.tape) (hout:w'.output=w.output∧w.drawn≤w'.drawn) (hsz:w.heap.size≤w'.heap.size) (hg:g.le g')
  (keep: ∀ k,k < w.heap.size→r.block≠some k→w'.heap[k]? =w.heap[k]?) (hnew: ∀ k,k < w.heap.size→r.block≠some k→(∀ o,g'.H k o=g.H k o)∧g'.M k=g.M k)
  (sat': ∀ b o v,g'.H b o=some v→w'.cell? ⟨b,o,none⟩=some v) (satM': ∀ b es,g'.M b=some es→es.sat w' b) (hr':r'.holds w' g') (hb': ∀ b,r'.block=some b→r.block=some b∨w.heap.size≤b):
  Dt w' g' L'∧Ec (Al L) w g w' g'∧Db w L L':=by
 obtain⟨A,B,rfl,rfl⟩:=hrep.split
 have hnd:=hi.nodup
 have hne: ∀ s∈A++B,∀ b,s.block=some b→r.block≠some b:=fun s hs b hb e=>by
  simp only[Al,Dm,Ax,e]at hnd
  rw[EH]at hnd
  obtain⟨n1,n2,n3⟩:=hnd
  rcases Aj.1 hs with hs|hs
  ·exact n3 b (Bw.2 ⟨s,hs,hb⟩) b (by simp) rfl
  ·exact(Bf.1 n2).1 (Bw.2 ⟨s,hs,hb⟩)
 have hmem: ∀ s∈A++B,s∈A++r::B:=fun s hs=>by
  simp only[Aj,AI]at hs ⊢
  rcases hs with h|h
  ·exact .inl h
  ·exact .inr (.inr h)
 have hlt: ∀ s∈A++B,∀ b,s.block=some b→b < w.heap.size:=fun s hs b hb=>Res.holds_lt (hi.res s (hmem s hs)) hb
 have hfm: ∀ s:Res,(Al (A++s::B))=Al A++(s.block.toList++Al B):=fun s=>by
  simp only[Al,Dm,Ax]
  cases s.block<;>rfl
 refine⟨⟨sat',satM',fun s hs=>?_,?_,hi.glob.mono hg⟩,⟨hos,htp,hout,hsz,fun k hk hn=>keep k hk (fun e=>hn ?_),hg,fun k hk hn=>hnew k hk (fun e=>hn ?_)⟩,fun b hb hl=>?_⟩
 ·have hs':s=r'∨s∈A++B:=by
   simp only[Aj,AI]at hs ⊢
   rcases hs with h|h|h
   ·exact .inr (.inl h)
   ·exact .inl h
   ·exact .inr (.inr h)
  rcases hs' with rfl|hs'
  ·exact hr'
  ·exact Res.holds_kept hg (hi.res s (hmem s hs')) fun b hb=>⟨keep b (hlt s hs' b hb) (hne s hs' b hb),hnew b (hlt s hs' b hb) (hne s hs' b hb)⟩
 ·rw[hfm]
  rw[hfm]at hnd
  cases hrb:r'.block with
  |none=>
   simp only[Option.toList_none,B8]
   exact hnd.sublist (List.Sublist.append (EY _) (DD _ _))
  |some b=>
   have hAB:(Al A++Al B).Nodup:=hnd.sublist (List.Sublist.append (EY _) (DD _ _))
   have hnb: ∀ s∈A++B,s.block≠some b:=fun s hs e=>by
    rcases hb' b hrb with h|h
    ·exact hne s hs b e h
    ·have:=hlt s hs b e;omega
   simp only[Option.toList_some,MQ]
   rw[EH]at hAB ⊢
   obtain⟨n1,n2,n3⟩:=hAB
   refine⟨n1,Bf.2 ⟨fun hm=>?_,n2⟩,fun x hx y hy=>?_⟩
   ·obtain⟨s,hs,e⟩:=Bw.1 hm
    exact hnb s (EE _ hs) e
   ·rcases AI.1 hy with rfl|hy
    ·intro e;subst e
     obtain⟨s,hs,e⟩:=Bw.1 hx
     exact hnb s (Dc _ hs) e
    ·exact n3 x hx y hy
 ·rw[hfm];simp[e]
 ·rw[hfm];simp[e]
 ·rw[hfm]at hb ⊢
  simp only[Aj]at hb ⊢
  rcases hb with h|h|h
  ·exact .inl h
  ·have h:r'.block=some b:=by cases hrb:r'.block<;>simp_all
   rcases hb' b h with e|e
   ·exact .inr (.inl (by simp[e]))
   ·omega
  ·exact .inr (.inr h)
theorem Dt.tok {w:World} {g:Gh} {L:List Res} (hi:Dt w g L) (sz:Nat):Dt w g (.tok .nil 0 sz::L):=
 ⟨hi.sat,hi.satM,fun r hr=>by
  rcases AI.1 hr with rfl|hr
  ·rfl
  ·exact hi.res r hr,hi.nodup,hi.glob⟩
theorem EO {P:Program} {N:Nat} {c:Code} {Q:PPost} {ρ:Env} {L:List Res} (sz:Nat) (h:ER P N c Q ρ (.tok .nil 0 sz::L)):ER P N c Q ρ L:=fun ro base a w g hs=>h ro base a w g ⟨hs.ro,hs.low,hs.agr,hs.inv.tok sz⟩
theorem Jw {sz:Nat}: ∀ {xs:List (List PV)} (_: ∀ e∈xs,e.length=sz) {i j:Nat} (hi:i < xs.length) (hj:j < xs[i].length) (h:i*sz+j < xs.flatten.length),xs.flatten[i*sz+j]=xs[i][j]
 |x::xs,hs,i,j,hi,hj,h=>by
  have hx:x.length=sz:=hs x (by simp)
  cases i with
  |zero=>
   simp only[BJ]at hj ⊢
   simp only[Ck]
   rw[BC (by simpa using hj)]
   simp
  |succ i=>
   simp only[DF]at hj ⊢
   simp only[Ck]
   rw[Bk (by rw[hx,C7];omega)]
   have e:(i+1)*sz+j - x.length=i*sz+j:=by rw[hx,C7];omega
   simp only[e]
   exact Jw (fun e he=>hs e (by simp[he])) (by simpa using hi) hj _
theorem De {sz:Nat} {xs:List (List PV)} (hs: ∀ e∈xs,e.length=sz):xs.flatten.length=xs.length*sz:=by
 induction xs with
 |nil=>simp
 |cons x xs ih=>simp only[Ck,AA,AN,hs x (by simp),ih (fun e he=>hs e (by simp[he])),C7];omega
theorem VR.slice_cells {g:Gh} {v:Value} {xs:List (List PV)} {t:CF} {sz:Nat} (h:VR g v (.slice xs t)) (hs: ∀ e∈xs,e.length=sz): ∃ base cap,v= .slice base xs.length cap∧xs.length≤cap∧(xs.length≤maxN∧xs.length*sz≤maxN)∧(base=none→xs= []∧cap=0)∧
  (∀ b' cap',t= .own b' cap'→base=some ⟨b',0,none⟩∧cap'=cap)∧(t= .nil→xs= []∧cap=0∧ ∀ a,base=some a→a.spot=none)∧
  ∃ us:List Value,EB g us xs.flatten∧ ∀ a,base=some a→(xs= []∧cap=0∨a.spot=none)∧(∀ j (hj:j < us.length),g.H a.block (a.off+j)=some us[j]):=by
 cases h with
 |nilN o ho=>exact⟨o,0,rfl,by simp,by simp,by simp,by simp,fun _=>⟨rfl,rfl,ho⟩,[],.nil g,fun a e=>⟨.inl ⟨rfl,rfl⟩,by simp⟩⟩
 |nilR=>exact⟨_,0,rfl,by simp,by simp,by simp,by simp,by simp,[],.nil g,fun a e=>⟨.inl ⟨rfl,rfl⟩,by simp⟩⟩
 |slice sz' f hl hc hm hs' hH hv ht hn=>
  rename_i b off len cap
  subst hl
  have hm2:xs.length≤maxN∧xs.length*sz≤maxN:=by
   cases xs with
   |nil=>simp
   |cons x xs=>
    have e1:=hs x (by simp)
    have e2:=hs' x (by simp)
    rw[←e1,e2];exact hm
  refine⟨some ⟨b,off,none⟩,cap,rfl,hc,hm2,by simp,fun b' cap' e=>?_,fun e=>absurd e hn,(List.range xs.flatten.length).map f,?_,?_⟩
  ·obtain⟨e1,e2,e3⟩:=ht b' cap' e
   subst e1 e2 e3;exact⟨rfl,rfl⟩
  ·refine⟨by simp,fun k h1 h2=>?_⟩
   have hk:k < xs.length*sz':=by rw[←De hs'];exact h2
   have hsz:0 < sz':=by rcases Q2 sz' with h|h;(subst h;simp at hk);exact h
   have hi:k / sz' < xs.length:=Xz (by rw[P6];exact hk)
   have hj:k % sz' < xs[k / sz'].length:=by rw[hs' _ (AF hi)];exact cu _ hsz
   have e:k / sz'*sz'+k % sz'=k:=by rw[P6];exact Nat.div_add_mod k sz'
   have h3:=hv (k / sz') hi (k % sz') hj
   rw[←Jw hs' hi hj (by rw[e];exact h2)]at h3
   simp only[e]at h3
   simpa using h3
  ·rintro a rfl'
   cases rfl'
   refine⟨.inr rfl,fun j hj=>?_⟩
   have hj':j < xs.length*sz':=by rw[←De hs'];simpa using hj
   have hsz:0 < sz':=by rcases Q2 sz' with h|h;(subst h;simp at hj');exact h
   have hi:j / sz' < xs.length:=Xz (by rw[P6];exact hj')
   have e:j / sz'*sz'+j % sz'=j:=by rw[P6];exact Nat.div_add_mod j sz'
   have:=hH (j / sz') (j % sz') hi (cu _ hsz)
   rw[E7,e]at this
   simpa using this
theorem VR.of_cells {g:Gh} {xs:List (List PV)} {t:CF} {sz b off cap:Nat} (hs: ∀ e∈xs,e.length=sz) (hc:xs.length≤cap) (hm:xs.length≤maxN∧xs.length*sz≤maxN) {us:List Value} (hus:EB g us xs.flatten) (hH: ∀ j (hj:j < us.length),g.H b (off+j)=some us[j])
  (ht: ∀ b' cap',t= .own b' cap'→b'=b∧cap'=cap∧off=0) (hn:t≠ .nil):VR g (.slice (some ⟨b,off,none⟩) xs.length cap) (.slice xs t):=by
 have hlen:us.length=xs.length*sz:=by rw[hus.len,De hs]
 have hix: ∀ i j,i < xs.length→j < sz→i*sz+j < us.length:=fun i j hi hj=>by
  rw[hlen]
  calc i*sz+j < i*sz+sz:=by omega
   _=(i+1)*sz:=by rw[C7];omega
   _≤xs.length*sz:=B3 _ (by omega)
 refine .slice sz (fun k=>us.getD k undef) rfl hc hm hs (fun i j hi hj=>?_) (fun i hi j hj=>?_) ht hn
 ·have hk:=hix i j hi hj
  rw[E7,hH _ hk]
  simp[List.getD,hk]
 ·have hk:=hix i j hi (by rw[←hs _ (AF hi)];exact hj)
  have:=hus.at_ _ hk (by rw[←hus.len];exact hk)
  rw[Jw hs hi hj]at this
  simpa [List.getD,hk]using this
class GV (P:Program) (T:Nat) (sz bytes:outParam Nat):Prop where
 out: ∃ E i z,P.underlying T=some (.slice E)∧P.info? E=some i∧i.size=sz∧i.bytes=bytes∧i.zero=some z∧z.cells.size=sz∧bytes≠0∧(sz≠0∧sz≤bytes)
theorem Vu (newLen:Nat): ∀ (r c:Nat),256≤newLen→c≤newLen→Builtin.growBy newLen r c≤2*newLen
 |0,c,_,h=>by unfold Builtin.growBy;omega
 |r+1,c,h0,h=>by
  unfold Builtin.growBy
  split
  ·omega
  ·rcases B9 (c+(c+768) / 4) newLen with h'|h'
   ·exact Vu newLen r _ h0 (by omega)
   ·cases r with
    |zero=>unfold Builtin.growBy;omega
    |succ r=>unfold Builtin.growBy;rw[if_pos h'];omega
theorem IG {need cap:Nat} (h:cap < need):Builtin.nextslicecap need cap≤2*need:=by
 unfold Builtin.nextslicecap
 split
 ·omega
 ·split
  ·omega
  ·exact Vu need 4 cap (by omega) (by omega)
theorem Iw {P:Program} {w:World} {b o:Nat} {s:Option Nat} {us:List Value} (hs:us= []∨s=none) (h: ∀ j (hj:j < us.length),w.cell? ⟨b,o+j,none⟩=some us[j]):(loadCells ⟨b,o,s⟩ us.length).run P w= .ok us.toArray w:=by
 rcases hs with rfl|rfl
 ·rfl
 ·exact FQ h
theorem We {g:Gh} {us:List Value} {xs:List (List PV)} (h:EB g us xs.flatten) (h0:xs= []):us= []:=by
 subst h0
 exact BL (by simpa using h.len)
theorem UI {P:Program} {w:World} {g:Gh} {L:List Res} (hi:Dt w g L) {base:Option Addr} {n cap sz:Nat} {us:List Value} (hl:us.length=n*sz) (h0:base=none→us= [])
  (hus: ∀ a,base=some a→(us= []∨a.spot=none)∧(∀ j (hj:j < us.length),g.H a.block (a.off+j)=some us[j])):(Builtin.firstCells sz n (.slice base n cap)).run P w= .ok us.toArray w:=by
 cases base with
 |none=>rw[h0 rfl];rfl
 |some a=>
  obtain⟨b,o,s⟩:=a
  obtain⟨hs,hH⟩:=hus _ rfl
  show(loadCells _ (n*sz)).run P w=_
  rw[←hl]
  exact Iw hs fun j hj=>hi.sat _ _ _ (hH j hj)
def Gh.lay (g:Gh) (b from_:Nat) (us:List Value):Gh:={ g with H:=fun b' o=>if b'=b∧from_≤o∧o < from_+us.length then us[o - from_]? else g.H b' o }
theorem Gh.lay_in {g:Gh} {b from_:Nat} {us:List Value} {j:Nat} (hj:j < us.length):(g.lay b from_ us).H b (from_+j)=some us[j]:=by
 simp only[Gh.lay]
 rw[if_pos ⟨trivial,by omega,by omega⟩]
 simp[hj]
theorem Gh.lay_out {g:Gh} {b from_:Nat} {us:List Value} {b' o:Nat} (h: ¬(b'=b∧from_≤o∧o < from_+us.length)):(g.lay b from_ us).H b' o=g.H b' o:=by
 simp only[Gh.lay]
 rw[if_neg h]
theorem Gh.le_lay {g:Gh} {b from_:Nat} {us:List Value} (h: ∀ o,from_≤o→g.H b o=none):g.le (g.lay b from_ us):=by
 refine⟨fun b' o v hv=>?_,fun _ _ h=>h⟩
 rw[Gh.lay_out]
 ·exact hv
 ·rintro⟨rfl,h1,_⟩
  rw[h o h1]at hv;cases hv
theorem Tn {P:Program} {T T₂ E₂ sz bytes:Nat} [hT:GV P T sz bytes] [hT₂:MO P T₂ E₂] {x y:Operand} {dst:Option Nat} {ty:TypeId} {pos:String} {af:Array Edge} {gd:Option (Nat × Bool)} {ρ:Env} {L:List Res} {L':CF→List Res}
  {xs ys:List (List PV)} {t u:CF} (hx:ρ.ev x= .slice xs t) (hy:ρ.ev y= .slice ys u) (hxs: ∀ e∈xs,e.length=sz) (hys: ∀ e∈ys,e.length=sz) (hfl: ∀ e∈ys,KF e) (hb:(xs.length+ys.length)*bytes≤2 ^ 47) (hm:xs.length+ys.length≤maxN)
  (hrep: ∀ t',sS (.tok t xs.length sz) (.tok t' (xs.length+ys.length) sz) L (L' t')) {Ψ:PV→List Res→Prop} (k: ∀ t',Ψ (.slice (xs++ys) t') (L' t')):
  Fc P ⟨dst,.call { callee:= .builtin .append,args:= #[x,y],argTypes:= #[T,T₂] },ty,pos,af,gd⟩ ρ L Ψ:=by
 intro a w g ha hi
 obtain⟨E,i,z,t1,t2,t3,t4,t5,t6,t7,t8⟩:=hT.out
 have h1:=ha x (by simp[Op.operands,Call.operands]);rw[hx]at h1
 have h2:=ha y (by simp[Op.operands,Call.operands]);rw[hy]at h2
 obtain⟨base,cap,e1,hcap,hmx,hnone,hown,hnil,us,hus,hcell⟩:=h1.slice_cells hxs
 obtain⟨base',cap',e2,hcap',_,hnone',_,_,vs,hvs,hcell'⟩:=h2.slice_cells hys
 have hmm:(xs++ys).length≤maxN∧(xs++ys).length*sz≤maxN:=by
  rw[AA]
  exact⟨hm,CZ (Jz _ t8.2) hb⟩
 have hul:us.length=xs.length*sz:=by rw[hus.len,De hxs]
 have hvl:vs.length=ys.length*sz:=by rw[hvs.len,De hys]
 have hflat: ∀ v∈vs,v.oneCell'=true:=hvs.one (fun c hc=>by
  obtain⟨e,he,hce⟩:=E9.1 hc
  exact hfl e he c hce)
 have hxy: ∀ e∈xs++ys,e.length=sz:=fun e he=>by
  rcases Aj.1 he with h|h
  ·exact hxs e h
  ·exact hys e h
 have huv:EB g (us++vs) (xs++ys).flatten:=by rw[CJ];exact hus.append hvs
 have he:execOp a.eval ⟨dst,.call { callee:= .builtin .append,args:= #[x,y],argTypes:= #[T,T₂] },ty,pos,af,gd⟩=(do pure (.value (←Builtin.append_ #[T,T₂] ty (#[x,y].map a.eval)))):=rfl
 have hsz:(sizeOf E).run P w= .ok sz w:=by unfold sizeOf typeInfo;simp[t2,t3]
 have hfy:(Builtin.firstCells sz ys.length (.slice base' ys.length cap')).run P w= .ok vs.toArray w:=UI hi hvl (fun e=>by
  obtain⟨e3,_⟩:=hnone' e
  subst e3
  simpa using hvl) (fun a e=>⟨(hcell' a e).1.imp_left fun h=>We hvs h.1,(hcell' a e).2⟩)
 have hti: ∀ w,(typeInfo E).run P w= .ok i w:=fun w=>by unfold typeInfo;simp[t2]
 obtain⟨A,B,hL,_⟩:=(hrep t).split
 have htok:=hi.res (.tok t xs.length sz) (by rw[hL];simp)
 by_cases hroom:xs.length+ys.length≤cap
 ·
  cases t with
  |ro=>exact htok.elim
  |nil=>
   obtain⟨hx0,hc0,hsp⟩:=hnil rfl
   subst hx0 hc0
   simp only[Af,BG,Nat.le_zero]at hroom
   have hy0:ys= []:=BL hroom
   subst hy0
   have hr:(execOp a.eval ⟨dst,.call { callee:= .builtin .append,args:= #[x,y],argTypes:= #[T,T₂] },ty,pos,af,gd⟩).run P w= .ok (.value (.slice base 0 0)) w:=by
    have hv0:vs= []:=BL (by simpa using hvl)
    subst hv0
    rw[he]
    simp only[Af]at hfy
    simp[Builtin.append_,e1,e2,run_underlying t1,run_underlying hT₂.out,sizeOf,typeInfo,t2,t3,Builtin.lenOf,hfy]
    cases base<;>simp[storeCells]
   have key:=hi.repl (hrep .nil) rfl rfl ⟨rfl,Ah _⟩ (Ah _) (.refl g) (fun _ _ _=>rfl) (fun _ _ _=>⟨fun _=>rfl,rfl⟩) hi.sat hi.satM rfl (by simp[Res.block])
   refine Oper.wq_of_run hr ?_
   exact⟨_,_,g,_,rfl,.nilN base hsp,key.1,key.2.1,key.2.2,k .nil⟩
  |own b c=>
   obtain⟨hbase,rfl⟩:=hown b c rfl
   subst hbase
   obtain⟨cs,T',fr,hbk,hcs,hle,hfree,hMb,hfr⟩:=htok
   have hblt:b < w.heap.size:=(BF.1 hbk).1
   have hbk':w.heap[b]? =some (.cells cs.toList.toArray T' fr):=by simpa using hbk
   obtain⟨w',hrun,hb',hos,htp,hout,hsz',hkk⟩:=NN (P:=P) vs w cs.toList (xs.length*sz) 0 hbk' (by
    simp only[Cc,hcs,hvl,Dq];rw[←C7];exact B3 _ hroom) (by simpa using hfr) hflat
   have hr:(execOp a.eval ⟨dst,.call { callee:= .builtin .append,args:= #[x,y],argTypes:= #[T,T₂] },ty,pos,af,gd⟩).run P w= .ok (.value (.slice (some ⟨b,0,none⟩) (xs.length+ys.length) c)) w':=by
    rw[he]
    simp[Builtin.append_,e1,e2,run_underlying t1,run_underlying hT₂.out,sizeOf,typeInfo,t2,t3,Builtin.lenOf,hroom,hfy,Dp,hrun]
   have hcell2: ∀ o v,g.H b o=some v→w'.cell? ⟨b,o,none⟩=some v:=fun o v hv=>by
    have hlt:o < xs.length*sz:=by
     rcases B9 o (xs.length*sz)with h|h
     ·exact h
     ·rw[hfree o h]at hv;cases hv
    have h3:=hi.sat b o v hv
    simp only[World.cell?,hbk]at h3
    simp only[World.cell?,hb']
    simp at h3 ⊢
    rw[Cf (by rw[Aa,Cc (xs:=cs),hcs,DM (B3 _ hle)];exact hlt),Gd,if_pos hlt]
    simpa using h3
   have key:=hi.repl (g':=g.lay b (xs.length*sz) vs) (hrep (.own b c)) hos htp hout (EG hsz'.symm) (Gh.le_lay hfree) (fun k hk hn=>hkk k (fun e=>hn (by simp[Res.block,e]))) (fun k hk hn=>⟨fun o=>Gh.lay_out (fun h=>hn (by simp[Res.block,h.1])),rfl⟩)
    (fun b₂ o v hv=>by
     by_cases hin:b₂=b∧xs.length*sz≤o∧o < xs.length*sz+vs.length
     ·obtain⟨rfl,h3,h4⟩:=hin
      obtain⟨j,rfl⟩: ∃ j,o=xs.length*sz+j:=⟨o - xs.length*sz,by omega⟩
      have hj:j < vs.length:=by omega
      rw[Gh.lay_in hj]at hv
      cases hv
      have hlt:(cs.toList.take (xs.length*sz)).length=xs.length*sz:=by
       rw[Aa,Cc (xs:=cs),hcs,DM (B3 _ hle)]
      simp only[World.cell?,hb',Dq]
      simp only[CY,BT,if_false,VE,AU]
      rw[EI (by rw[hlt];omega),hlt,Cf (by omega)]
      simp[hj]
     ·rw[Gh.lay_out hin]at hv
      by_cases hb2:b₂=b
      ·subst hb2;exact hcell2 o v hv
      ·have:=hi.sat b₂ o v hv
       simp only[World.cell?]at this ⊢
       rw[hkk b₂ hb2];exact this)
    (fun b₂ es hM=>by
     have hM':g.M b₂=some es:=hM
     have hne:b₂≠b:=fun e=>by rw[e,hMb]at hM';cases hM'
     exact(hi.satM b₂ es hM').congr (hkk b₂ hne))
    ⟨_,T',fr,hb',by
     have h3:=B3 sz hroom
     have h4:=B3 sz hle
     rw[C7]at h3
     simp only[Cj,AA,Aa,B5,Cc,hcs,hvl,Dq,DM h4];omega,hroom,fun o ho=>by
     rw[Gh.lay_out (by rintro⟨_,_,h3⟩;rw[C7]at ho;omega)]
     exact hfree o (by rw[C7]at ho;omega),hMb,hfr.imp_right fun h=>by
     have h3:=B3 sz hroom
     have h4:=B3 sz hle
     rw[C7]at h3
     simp only[Cj,AA,Aa,B5,Cc,hcs,hvl,Dq,DM h4]at h ⊢;omega⟩ (fun b₂ hb₂=> .inl hb₂)
   refine Oper.wq_of_run hr ?_
   refine⟨_,.slice (xs++ys) (.own b c),_,_,rfl,?_,key.1,key.2.1,key.2.2,k _⟩
   have:=VR.of_cells (g:=g.lay b (xs.length*sz) vs) (xs:=xs++ys) (t:= .own b c) (sz:=sz) (b:=b) (off:=0) (cap:=c) hxy (by simpa using hroom) hmm (us:=us++vs) (huv.mono (Gh.le_lay hfree)) (fun j hj=>by
    rw[BG]
    by_cases hju:j < us.length
    ·rw[BC hju]
     have:=(hcell _ rfl).2 j hju
     simp only[BG]at this
     exact(Gh.le_lay hfree).H _ _ _ this
    ·rw[Bk (by omega)]
     have hj2:j - us.length < vs.length:=by simp at hj;omega
     have:=Gh.lay_in (g:=g) (b:=b) (from_:=xs.length*sz) hj2
     rw[show xs.length*sz+(j - us.length)=j by omega]at this
     exact this) (fun b' cap' e=>by cases e;exact⟨rfl,rfl,rfl⟩) (by simp)
   simpa using this
 ·
  have hgrow:cap < xs.length+ys.length:=by omega
  have hcapb:Builtin.nextslicecap (xs.length+ys.length) cap*bytes≤2 ^ 48:=by
   calc Builtin.nextslicecap (xs.length+ys.length) cap*bytes≤(2*(xs.length+ys.length))*bytes:=B3 _ (IG hgrow)
    _=2*((xs.length+ys.length)*bytes):=by rw[yO]
    _≤2*2 ^ 47:=Jz _ hb
    _=2 ^ 48:=by decide
  have hfx: ∀ w',(∀ b o v,g.H b o=some v→w'.cell? ⟨b,o,none⟩=some v)→(Builtin.firstCells sz xs.length (.slice base xs.length cap)).run P w'= .ok us.toArray w':=fun w' hs'=>by
   cases base with
   |none=>
    obtain⟨e3,_⟩:=hnone rfl
    subst e3
    have:us= []:=BL (by simpa using hul)
    subst this;rfl
   |some ad=>
    obtain⟨b,o,s⟩:=ad
    obtain⟨hs,hH⟩:=hcell _ rfl
    show(loadCells _ (xs.length*sz)).run P w'=_
    rw[←hul]
    exact Iw (hs.imp_left fun h=>We hus h.1) fun j hj=>hs' _ _ _ (hH j hj)
  have hfy': ∀ w',(∀ b o v,g.H b o=some v→w'.cell? ⟨b,o,none⟩=some v)→(Builtin.firstCells sz ys.length (.slice base' ys.length cap')).run P w'= .ok vs.toArray w':=fun w' hs'=>by
   cases base' with
   |none=>
    obtain⟨e3,_⟩:=hnone' rfl
    subst e3
    have:vs= []:=BL (by simpa using hvl)
    subst this;rfl
   |some ad=>
    obtain⟨b,o,s⟩:=ad
    obtain⟨hs,hH⟩:=hcell' _ rfl
    show(loadCells _ (ys.length*sz)).run P w'=_
    rw[←hvl]
    exact Iw (hs.imp_left fun h=>We hvs h.1) fun j hj=>hs' _ _ _ (hH j hj)
  have hn: ¬(xs.length+ys.length≤cap):=by omega
  have h63': ¬(9223372036854775807 < ((xs.length:Int)+(ys.length:Int))):=by have:maxN=140737488355328:=rfl;omega
  have h48': ¬(281474976710656 < Builtin.nextslicecap (xs.length+ys.length) cap*i.bytes):=by rw[t4];have:(2:Nat) ^ 48=281474976710656:=by decide
                                                                                             omega
  let nc:=grownCap w (xs.length+ys.length) cap E
  have hnc:xs.length+ys.length≤nc:=grownCap_ge w _ _ _
  have f1:=hfx w.drew hi.sat
  have f2:=hfy' w.drew hi.sat
  have hr:(execOp a.eval ⟨dst,.call { callee:= .builtin .append,args:= #[x,y],argTypes:= #[T,T₂] },ty,pos,af,gd⟩).run P w=
    .ok (.value (.slice (some ⟨w.heap.size,0,none⟩) (xs.length+ys.length) nc)) (w.drew.alloc (.cells ((us++vs).toArray++Builtin.zeroCells z.cells (nc - (xs.length+ys.length))) E (0,0))):=by
   rw[he]
   simp[Builtin.append_,e1,e2,run_underlying t1,run_underlying hT₂.out,sizeOf,typeInfo,zeroValue,t2,t3,t5,Builtin.lenOf,hn,h63',h48',Question.forced,f1,f2,newRow,grownCap,nc]
   congr 2
   apply Q4
   simp[AU]
  have hH0: ∀ o,g.H w.heap.size o=none:=fun o=>by
   cases h:g.H w.heap.size o with
   |none=>rfl
   |some v=>have:=hi.sat _ _ _ h;simp[World.cell?]at this
  have hM0:g.M w.heap.size=none:=by
   cases h:g.M w.heap.size with
   |none=>rfl
   |some v=>exact absurd (hi.satM _ _ h).lt (Ff _)
  have hle:=Gh.le_lay (g:=g) (b:=w.heap.size) (from_:=0) (us:=us++vs) (fun o _=>hH0 o)
  have hget: ∀ (o:Obj) b,b < w.heap.size→(w.heap.push o)[b]? =w.heap[b]?:=fun o b hb=>by
   rw[Hd,if_neg (by omega)]
  have hget2: ∀ (o:Obj) b,b < w.heap.size→(w.drew.alloc o).heap[b]? =w.heap[b]?:=fun o b hb=>hget o b hb
  have hlast: ∀ (o:Obj),(w.drew.alloc o).heap[w.heap.size]? =some o:=fun o=>by show(w.heap.push o)[w.heap.size]? =_;simp
  have hlen:(us++vs).length=(xs.length+ys.length)*sz:=by rw[AA,hul,hvl,C7]
  have key:=hi.repl (w':=w.drew.alloc (.cells ((us++vs).toArray++Builtin.zeroCells z.cells (nc - (xs.length+ys.length))) E (0,0))) (g':=g.lay w.heap.size 0 (us++vs)) (hrep (.own w.heap.size nc)) rfl rfl ⟨rfl,RE _⟩ (by simp) hle
   (fun k hk _=>hget _ k hk) (fun k hk _=>⟨fun o=>Gh.lay_out (fun h=>by have:=h.1;omega),rfl⟩)
   (fun b₂ o v hv=>by
    by_cases hin:b₂=w.heap.size∧0≤o∧o < 0+(us++vs).length
    ·obtain⟨rfl,_,h4⟩:=hin
     have hj:o < (us++vs).length:=by omega
     have:=Gh.lay_in (g:=g) (b:=w.heap.size) (from_:=0) hj
     rw[BG,hv]at this
     cases this
     simp only[World.cell?,hlast,CY,BT,if_false]
     rw[FH (by simpa using hj)]
     simp[hj]
    ·rw[Gh.lay_out hin]at hv
     have h3:=hi.sat b₂ o v hv
     have hb2:b₂ < w.heap.size:=by
      rcases B9 b₂ w.heap.size with h'|h'
      ·exact h'
      ·simp[World.cell?,Bo h']at h3
     simp only[World.cell?]at h3 ⊢
     rw[hget2 _ b₂ hb2];exact h3)
   (fun b₂ es hM=>by
    exact(hi.satM b₂ es hM).congr (hget2 _ b₂ (hi.satM b₂ es hM).lt))
   ⟨(us++vs).toArray++Builtin.zeroCells z.cells (nc - (xs.length+ys.length)),E,(0,0),hlast _,by
    rw[Array.size_append,size_zeroCells,t6,Cj,hlen,←C7]
    congr 1;omega,hnc,fun o ho=>by
    rw[Gh.lay_out (fun h=>by have:=h.2.2;rw[hlen]at this;omega)]
    exact hH0 o,hM0,.inl (Ah _)⟩ (fun b₂ hb₂=> .inr (by simp[Res.block]at hb₂;omega))
  refine Oper.wq_of_run hr ?_
  refine⟨_,.slice (xs++ys) (.own w.heap.size nc),_,_,rfl,?_,key.1,key.2.1,key.2.2,k _⟩
  have:=VR.of_cells (g:=g.lay w.heap.size 0 (us++vs)) (xs:=xs++ys) (t:= .own w.heap.size nc) (sz:=sz) (b:=w.heap.size) (off:=0) (cap:=nc) hxy (by simpa using hnc) hmm (us:=us++vs) (huv.mono hle) (fun j hj=>Gh.lay_in hj) (fun b' cap' e=>by cases e;exact⟨rfl,rfl,rfl⟩) (by simp)
  simpa using this
abbrev Str:=List UInt8
def sB (s:Str):ByteArray:=⟨s.toArray⟩
@[simp] theorem QJ (s:Str):(sB s).size=s.length:=by simp[sB,ByteArray.size]
@[simp] theorem OX (s:Str):(sB s).toList=s:=by rw[ByteArray.toList_eq];simp[sB]
def eS (s:Str):List PV:= [.str s]
def eI (n:Int):List PV:= [.raw (.int .i64 n)]
def eB (b:Bool):List PV:= [.raw (.bool b)]
instance :NX eS 1:=⟨fun _=>rfl⟩
instance :NX eI 1:=⟨fun _=>rfl⟩
class K6 {α:Type} (f:α→List PV):Prop where
 out: ∀ a,KF (f a)
instance :K6 eI:=⟨fun _=>FJ rfl HG⟩
instance :K6 eDig:=⟨fun d=>(inferInstance:Dv (eDig d)).out⟩
instance :K6 eIdent:=⟨fun d=>(inferInstance:Dv (eIdent d)).out⟩
def Dj (x:PV) (cs:List PV):Prop:= ∀ g v,VR g v x→ ∃ us:List Value,v.cells=us.toArray∧EB g us cs
theorem Dj.agg (cs:List PV):Dj (.agg cs) cs:=fun g v h=>by
 obtain⟨vs,rfl,h2⟩:=h.agg_inv
 exact⟨vs,rfl,h2⟩
theorem Dj.one {c:PV} (hf:KF [c]):Dj c [c]:=fun g v hv=>by
 obtain⟨h1,h2,h3,h4⟩:=hf c (by simp)
 have h1:=hv.one h1 h2 h3 h4
 refine⟨[v],?_,.cons hv (.nil g)⟩
 cases v<;>first|rfl|cases h1
theorem VR.ro {g:Gh} {v:Value} {xs:List (List PV)} {t:CF} (h:VR g v (.slice xs t)):VR g v (.slice xs .ro):=by
 cases h with
 |nilN o ho=>exact .nilR
 |nilR=>exact .nilR
 |slice sz f hl hc hm hs hH hv ht hn=>exact .slice sz f hl hc hm hs hH hv (by simp) (by simp)
theorem Dj.ro (xs:List (List PV)) (t:CF):Dj (.slice xs t) [.slice xs .ro]:=fun g v hv=>by
 refine⟨[v],?_,.cons hv.ro (.nil g)⟩
 cases hv<;>rfl
section
variable {P:Program} {N:Nat} {all:Array Oper} {K:Env→List Res→Prop} {fl:List Bool} {os:List Oper} {ρ:Env} {L:List Res}
variable {d:Nat} {ty:TypeId} {pos:String} {af:Array Edge}
theorem Il {T T₂ E₂ sz bytes:Nat} [hT:GV P T sz bytes] [hT₂:MO P T₂ E₂] {x y:Operand} {L':CF→List Res} {α:Type} {f:α→List PV} [hf:NX f sz] [hff:K6 f] {l m:List α} {t u:CF}
  (hx:ρ.ev x= .slice (l.map f) t) (hy:ρ.ev y= .slice (m.map f) u) (hb:(l.length+m.length)*bytes≤140737488355328) (hm:l.length+m.length≤140737488355328) (hrep: ∀ t',sS (.tok t l.length sz) (.tok t' (l++m).length sz) L (L' t'))
  (k: ∀ t',AV P N all K fl.tail os (CV ρ d (.slice ((l++m).map f) t')) (L' t')) (hd:Nat.blt d N=true:=by rfl) (hfl:fl.headD true=true:=by rfl):
  AV P N all K fl (⟨some d,.call { callee:= .builtin .append,args:= #[x,y],argTypes:= #[T,T₂] },ty,pos,af,none⟩::os) ρ L:=
 Da rfl (PO hd) hfl (Tn hx hy (fun e he=>by obtain⟨a,_,rfl⟩:=AQ.1 he;exact hf.out a) (fun e he=>by obtain⟨a,_,rfl⟩:=AQ.1 he;exact hf.out a) (fun e he=>by obtain⟨a,_,rfl⟩:=AQ.1 he;exact hff.out a)
  (by simpa using hb) (by simp only[AR];exact hm) (fun t'=>by simpa using hrep t') (fun t'=>by simpa using k t'))
theorem Dt.lay {w:World} {g:Gh} (hi:Dt w g L) (us:List Value) (E:TypeId):
  Dt { w with heap:=w.heap.push (.cells us.toArray E (0,0)) } (g.lay w.heap.size 0 us) L∧Ec (Al L) w g { w with heap:=w.heap.push (.cells us.toArray E (0,0)) } (g.lay w.heap.size 0 us)∧g.le (g.lay w.heap.size 0 us):=by
 have hH0: ∀ o,g.H w.heap.size o=none:=fun o=>by
  cases h:g.H w.heap.size o with
  |none=>rfl
  |some v=>have:=hi.sat _ _ _ h;simp[World.cell?]at this
 have hle:=Gh.le_lay (g:=g) (b:=w.heap.size) (from_:=0) (us:=us) (fun o _=>hH0 o)
 have hget: ∀ b,b < w.heap.size→(w.heap.push (Obj.cells us.toArray E (0,0)))[b]? =w.heap[b]?:=fun b hb=>by
  rw[Hd,if_neg (by omega)]
 have key:=(hi.tok 0).repl (w':={ w with heap:=w.heap.push (.cells us.toArray E (0,0)) }) (g':=g.lay w.heap.size 0 us) (r':= .tok .nil 0 0) .here rfl rfl ⟨rfl,Ah _⟩ (by simp) hle (fun k hk _=>hget k hk) (fun k hk _=>⟨fun o=>Gh.lay_out (fun h=>by have:=h.1;omega),rfl⟩)
  (fun b₂ o v hv=>by
   by_cases hin:b₂=w.heap.size∧0≤o∧o < 0+us.length
   ·obtain⟨rfl,_,h4⟩:=hin
    have hj:o < us.length:=by omega
    have:=Gh.lay_in (g:=g) (b:=w.heap.size) (from_:=0) hj
    rw[BG,hv]at this
    cases this
    simp[World.cell?,hj]
   ·rw[Gh.lay_out hin]at hv
    have h3:=hi.sat b₂ o v hv
    have hb2:b₂ < w.heap.size:=by
     rcases B9 b₂ w.heap.size with h'|h'
     ·exact h'
     ·simp[World.cell?,Bo h']at h3
    simp only[World.cell?]at h3 ⊢
    rw[hget b₂ hb2];exact h3)
  (fun b₂ es hM=>by
   exact(hi.satM b₂ es hM).congr (hget b₂ (hi.satM b₂ es hM).lt)) rfl (by simp[Res.block])
 exact⟨key.1.sub (EP _ _),key.2.1,hle⟩
theorem QE: ∀ (us:List Value) (cs:List Value) (off i:Nat),off+i+us.length≤cs.length→
  ((us.zipIdx i).foldl (fun(cs:Array Value) (p:Value × Nat)=>cs.setIfInBounds (off+p.2) p.1) cs.toArray)=(cs.take (off+i)++us++cs.drop (off+i+us.length)).toArray
 | [],cs,off,i,h=>by simp
 |u::us,cs,off,i,h=>by
  simp only[AN]at h
  simp only[List.zipIdx_cons,BM,List.setIfInBounds_toArray]
  rw[QE us (cs.set (off+i) u) off (i+1) (by simp;omega)]
  congr 1
  rw[show off+(i+1)=off+i+1 by omega,List.take_set,List.drop_set_of_lt (by omega),A7 (by omega:off+i < cs.length),List.set_append]
  simp only[Aa,DM (by omega:off+i≤cs.length),Ff,if_false,Nat.sub_self,cw,AU,B0,B8,AN]
  rw[show off+i+1+us.length=off+i+(us.length+1) by omega]
theorem W4 {place:Nat→Option (Nat × Nat)} {cs:List Value} {i off size:Nat} {v:Value} {us:List Value} {rest:List (Nat × Value)} (hp:place i=some (off,size)) (hv:v.cells=us.toArray) (hs:us.length=size) (hl:off+us.length≤cs.length):
  Instr.fill place cs.toArray ((i,v)::rest)=Instr.fill place (cs.take off++us++cs.drop (off+us.length)).toArray rest:=by
 simp only[Instr.fill,hp,hv]
 rw[if_neg (by simp;omega)]
 congr 1
 have:=QE us cs off 0 (by omega)
 simp only[Dq]at this
 rw[←this]
 rw[←Array.foldl_toList]
 simp
theorem O6 {sz:Nat}: ∀ (vs:List (List Value)) (xs:List Value) (k:Nat) (cs:List Value),xs.length=vs.length→(∀ i (h1:i < xs.length) (h2:i < vs.length),xs[i].cells=vs[i].toArray∧vs[i].length=sz)→cs.length=(k+vs.length)*sz→
  Instr.fill (fun i=>some (i*sz,sz)) cs.toArray ((xs.zipIdx k).map fun p=>(p.2,p.1))=some (cs.take (k*sz)++vs.flatten).toArray
 | [],[],k,cs,_,_,hl=>by simp[Instr.fill,AE (show cs.length≤k*sz by simp at hl;omega)]
 | [],_::_,_,_,h,_,_=>by simp at h
 |_::_,[],_,_,h,_,_=>by simp at h
 |v::vs,x::xs,k,cs,h,hv,hl=>by
  obtain⟨h1,h2⟩:=hv 0 (by simp) (by simp)
  simp only[BJ]at h1 h2
  simp only[AN,C7,nB]at hl
  simp only[List.zipIdx_cons,Ar]
  rw[W4 rfl h1 h2 (by omega)]
  rw[O6 vs xs (k+1) _ (by simpa using h) (fun i h3 h4=>hv (i+1) (by simpa using h3) (by simpa using h4)) (by simp only[AA,Aa,B5];rw[C7,C7];omega)]
  congr 2
  rw[C7,nB,AU,List.take_append,Aa,DM (by omega)]
  rw[AE (by simp;omega),show k*sz+sz - k*sz=v.length by omega,List.take_append,E8]
  simp
theorem Ua {T n:Nat} {xs:List Operand} {i:Nat} (h:i < xs.length):xs[i]∈(Op.buildSlice T n ((xs.zipIdx.map fun p=>(p.2,p.1)).toArray)).operands:=by
 have e:(Op.buildSlice T n ((xs.zipIdx.map fun p=>(p.2,p.1)).toArray)).operands=xs.toArray:=by
  unfold Op.operands
  simp only[CG]
  congr 1
  have:((fun(x:Nat × Operand)=>x.2) ∘ fun(p:Operand × Nat)=>(p.2,p.1))=Prod.fst:=by funext p;rfl
  rw[this,aV]
 rw[e];simp
theorem RZ {T n sz by_:Nat} [hE:GV P T sz by_] {xs:List Operand} {cs:List (List PV)} {dst:Option Nat} {gd:Option (Nat × Bool)} (hn:xs.length=n) (hl:cs.length=n) (h24:n*sz≤16777216) (hm:n≤maxN)
  (hx: ∀ i (h1:i < xs.length) (h2:i < cs.length),Dj (ρ.ev xs[i]) cs[i]∧cs[i].length=sz):iE P ⟨dst,.buildSlice T n ((xs.zipIdx.map fun p=>(p.2,p.1)).toArray),ty,pos,af,gd⟩ ρ L (.slice cs .ro):=by
 intro a w g ha hi
 obtain⟨E,i,z,t1,t2,t3,t4,t5,t6,t7,t8⟩:=hE.out
 have hcell: ∀ i,i < n→ ∃ us:List Value,(∀ (h1:i < xs.length),(a.eval xs[i]).cells=us.toArray)∧(∀ (h2:i < cs.length),EB g us cs[i]):=fun i h1=>by
  obtain⟨us,e1,e2⟩:=(hx i (by omega) (by omega)).1 g _ (ha xs[i] (Ua (by omega)))
  exact⟨us,fun _=>e1,fun _=>e2⟩
 let F:Nat→List Value:=fun i=>by classical exact if h:i < n then Classical.choose (hcell i h)else []
 have hF: ∀ i (h:i < n),(∀ (h1:i < xs.length),(a.eval xs[i]).cells=(F i).toArray)∧(∀ (h2:i < cs.length),EB g (F i) cs[i]):=fun i h=>by
  have:=MU (hcell i h)
  simp only[F,dif_pos h];exact this
 let vs:List (List Value):=(List.range n).map F
 have hvl:vs.length=n:=by simp[vs]
 have hvi: ∀ i (h:i < vs.length),vs[i]=F i:=fun i h=>by simp[vs]
 have hFl: ∀ i,i < n→(F i).length=sz:=fun i h=>by rw[((hF i h).2 (by omega)).len,(hx i (by omega) (by omega)).2]
 have hflat:EB g vs.flatten cs.flatten:=by
  have: ∀ m,m≤n→EB g (vs.take m).flatten (cs.take m).flatten:=by
   intro m
   induction m with
   |zero=>intro _;simp;exact .nil g
   |succ m ih=>
    intro hm'
    rw[A7 (by omega:m < vs.length),A7 (by omega:m < cs.length),CJ,CJ]
    refine(ih (by omega)).append ?_
    simp only[Ck,mb,BX,hvi]
    exact(hF m (by omega)).2 (by omega)
  have:=this n (Ah _)
  rwa [AE (by omega),AE (by omega)]at this
 have hcs: ∀ e∈cs,e.length=sz:=fun e he=>by
  obtain⟨j,hj,rfl⟩:=AZ.1 he
  exact(hx j (by omega) hj).2
 have hparts:(((xs.zipIdx.map fun p=>(p.2,p.1)).toArray).map fun(p:Nat × Operand)=>(p.1,a.eval p.2)).toList=((xs.map a.eval).zipIdx 0).map fun p=>(p.2,p.1):=by
  simp only[Hn,CG]
  rw[qe,CG]
  rfl
 obtain⟨j1,j2,j3⟩:=hi.lay vs.flatten E
 have hr:(execOp a.eval ⟨dst,.buildSlice T n ((xs.zipIdx.map fun p=>(p.2,p.1)).toArray),ty,pos,af,gd⟩).run P w= .ok (.value (.slice (some ⟨w.heap.size,0,none⟩) n n)) { w with heap:=w.heap.push (.cells vs.flatten.toArray E (0,0)) }:=by
  have hz: ∀ (zz:Array Value),Instr.fill (fun i=>some (i*sz,sz)) ((Array.range (n*sz)).map (zz[·% zz.size]!)) (((xs.map a.eval).zipIdx 0).map fun p=>(p.2,p.1))=some vs.flatten.toArray:=fun zz=>by
   have e:(Array.range (n*sz)).map (zz[·% zz.size]!)=((List.range (n*sz)).map (zz[·% zz.size]!)).toArray:=by
    apply Q4;simp
   rw[e,O6 vs (xs.map a.eval) 0 _ (by simp[hvl,hn]) (fun i h1 h2=>by
    simp only[AR]at h1
    rw[hvi]
    simp only[BN]
    exact⟨(hF i (by omega)).1 h1,hFl i (by omega)⟩) (by simp[hvl])]
   simp
  show(do pure (Next.value (←Instr.buildSlice T n (((xs.zipIdx.map fun p=>(p.2,p.1)).toArray).map fun(p:Nat × Operand)=>(p.1,a.eval p.2)))):Sem Next).run P w=_
  simp only[Instr.buildSlice,Sem.run_bind,run_underlying t1,Result.andThen_ok,sizeOf,typeInfo,run_program,t2,Sem.run_pure,t3,hparts]
  rw[if_neg (by have:(2:Nat) ^ 24=16777216:=by decide
                omega)]
  have hzv:(zeroValue E).run P w= .ok z w:=by simp[zeroValue,typeInfo,t2,t5]
  split
  ·simp only[Sem.run_bind,Sem.run_pure,Result.andThen_ok,hz #[],newRow,run_newObj]
  ·simp only[Sem.run_bind,hzv,Sem.run_pure,Result.andThen_ok,hz z.cells,newRow,run_newObj]
 refine Oper.wq_of_run hr ?_
 refine⟨_,.slice cs .ro,_,L,rfl,?_,j1,j2,.refl _ _,rfl,rfl⟩
 have:=VR.of_cells (g:=g.lay w.heap.size 0 vs.flatten) (xs:=cs) (t:= .ro) (sz:=sz) (b:=w.heap.size) (off:=0) (cap:=n) hcs (by omega) ⟨by omega,by rw[hl];exact CZ h24 (by decide)⟩ (us:=vs.flatten) (hflat.mono j3) (fun j hj=>Gh.lay_in hj) (by simp) (by simp)
 rw[hl]at this
 exact this
end
end Go.Q
