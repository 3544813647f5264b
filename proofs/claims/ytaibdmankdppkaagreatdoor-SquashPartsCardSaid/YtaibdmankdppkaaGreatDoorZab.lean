/- The small logic, sixth text: digests and identities. Library, no statement of its own. -/
import Derived.Test.YtaibdmankdppkaaGreatDoorZaa
import Derived.ChangeKeysEq
import Derived.Laws.StructEq
import Derived.Laws.AppendOwn
set_option linter.unusedSimpArgs false
set_option linter.unusedVariables false
namespace Go.Q
open Go
structure Dig where
 bs:List UInt8
 len:bs.length=32
theorem Dig.ext {a b:Dig} (h:a.bs=b.bs):a=b:=by cases a;cases b;cases h;rfl
instance :DecidableEq Dig:=fun a b=>if h:a.bs=b.bs then isTrue (Dig.ext h)else isFalse fun e=>h (e ▸ rfl)
def u8 (b:UInt8):Value:= .int .u8 b.toNat
def eU8 (b:UInt8):PV:= .raw (u8 b)
def eDig (d:Dig):List PV:=d.bs.map eU8
@[simp] theorem sE (d:Dig):(eDig d).length=32:=by simp[eDig,d.len]
structure Ident where
 patch:Dig
 n:Int
deriving DecidableEq
def eIdent (x:Ident):List PV:=eDig x.patch++ [.raw (.int .i64 x.n)]
@[simp] theorem nN (x:Ident):(eIdent x).length=33:=by simp[eIdent]
class VL (P:Program) (T:Nat):Prop where
 arr: ∃ E i,P.underlying T=some (.array 32 E)∧P.underlying E=some (.int .u8)∧P.info? E=some i∧i.size=1
 guard:P.eqGuardType P.depth T=false
class LX (P:Program) (T:Nat):Prop where
 str: ∃ D I,P.fieldsOf T= #[⟨ "Patch",D,0,false, "", "",0⟩,⟨ "N",I,32,false, "", "",32⟩]∧P.underlying I=some (.int .i64)∧(∃ i,P.info? D=some i∧i.size=32)∧
  (∃ E i,P.underlying D=some (.array 32 E)∧P.underlying E=some (.int .u8)∧P.info? E=some i∧i.size=1)
 und:P.underlying T=some (.struct (P.fieldsOf T))
 held:P.stoodInHeld T=false
 guard:P.eqGuardType P.depth T=false
section
variable {P:Program}
theorem sr {a b:UInt8}:((a.toNat:Int)==(b.toNat:Int))=decide (a=b):=by
 rw[Iu];simp only[beq_iff_eq,AD]
 exact⟨fun h=>UInt8.toNat.inj (by omega),fun h=>by rw[h]⟩
theorem Gy {E:TypeId} (h:WY P E) {xs:Array Value} {o:Nat} {v:Value} (hx:xs[o]? =some v) (w:World):(part E xs o).run P w= .ok v w:=by
 unfold part;rw[Sem.run_bind,NI h];simp[hx]
theorem Lq {E:TypeId} {k:IntKind} (h:P.underlying E=some (.int k)):WY P E:=⟨_,h,by simp,by simp⟩
theorem Ta (d:Nat) {E:TypeId} (hE:P.underlying E=some (.int .u8)) (xs ys:List UInt8) (hl:xs.length=ys.length) (w:World): ∀ (n k:Nat),k+n=xs.length→
  (Op.eqItems (d+1) E 1 (xs.map u8).toArray (ys.map u8).toArray (List.range' k n)).run P w= .ok (decide (xs.drop k=ys.drop k)) w:=by
 intro n
 induction n with
 |zero=>intro k hk;simp[Op.eqItems,DN (show xs.length≤k by omega),DN (show ys.length≤k by omega)]
 |succ n ih=>
  intro k hk
  have h1:k < xs.length:=by omega
  have h2:k < ys.length:=by omega
  rw[List.range'_succ]
  simp only[Op.eqItems,Sem.run_bind,IV]
  rw[Gy (Lq hE) (v:=u8 xs[k]) (by simp[h1]),Result.andThen_ok,Gy (Lq hE) (v:=u8 ys[k]) (by simp[h2]),Result.andThen_ok]
  rw[u8,u8,run_equalIn_int w d E .u8 .u8 _ _ hE,Result.andThen_ok,sr]
  by_cases he:xs[k]=ys[k]
  ·rw[C6 h1,C6 h2]
   simp only[he,decide_true,aq,BQ,if_false,Oc,true_and]
   exact ih (k+1) (by omega)
  ·have: ¬xs.drop k=ys.drop k:=by
    intro e
    have:=congrArg (fun l=>l[0]?) e
    simp[h1,h2]at this
    exact he this
   simp[he,this]
theorem JY (d:Nat) {T:TypeId} (hT: ∃ E i,P.underlying T=some (.array 32 E)∧P.underlying E=some (.int .u8)∧P.info? E=some i∧i.size=1) (a b:Dig) (w:World):
  (Op.equalIn (d+2) T (.agg (a.bs.map u8).toArray) (.agg (b.bs.map u8).toArray)).run P w= .ok (decide (a=b)) w:=by
 obtain⟨E,i,h1,h2,h3,h4⟩:=hT
 rw[run_equalIn_array w (d+1) _ _ h1 h3]
 have hc:P.cellsOf E=1:=by simp[Program.cellsOf,h3,h4]
 rw[hc,List.range_eq_range',Ta d h2 a.bs b.bs (by rw[a.len,b.len]) w 32 0 (by rw[a.len])]
 simp only[Lb]
 congr 1
 rw[Iu];simp only[AD]
 exact⟨fun e=>Dig.ext e,fun e=>e ▸ rfl⟩
theorem J5 {g:Gh} {v:Value} {d:Dig} (h:VR g v (.agg (eDig d))):v= .agg (d.bs.map u8).toArray:=by
 obtain⟨vs,rfl,h2⟩:=h.agg_inv
 have:eDig d=(d.bs.map u8).map .raw:=by simp[eDig,eU8]
 rw[this]at h2
 rw[h2.raws_inv]
theorem Gm {g:Gh} {v:Value} {x:Ident} (h:VR g v (.agg (eIdent x))):v= .agg (x.patch.bs.map u8++ [Value.int .i64 x.n]).toArray:=by
 obtain⟨vs,rfl,h2⟩:=h.agg_inv
 have:eIdent x=(x.patch.bs.map u8++ [Value.int .i64 x.n]).map .raw:=by simp[eIdent,eDig,eU8]
 rw[this]at h2
 rw[h2.raws_inv]
theorem Jy (d:Nat) {T:TypeId} [hT:LX P T] (a b:Ident) (w:World):
  (Op.equalIn (d+3) T (.agg (a.patch.bs.map u8++ [Value.int .i64 a.n]).toArray) (.agg (b.patch.bs.map u8++ [Value.int .i64 b.n]).toArray)).run P w= .ok (decide (a=b)) w:=by
 obtain⟨D,I,h1,h2,⟨i,h3,h3'⟩,h4⟩:=hT.str
 rw[run_equalIn_struct w (d+2) T _ _ hT.und hT.held,h1]
 have hagg:ij P D 32:=by obtain⟨E,j,e1,_⟩:=h4;exact⟨.inr ⟨32,E,e1⟩,i,h3,h3'⟩
 have pD: ∀ (x:Ident),(part D (x.patch.bs.map u8++ [Value.int .i64 x.n]).toArray 0).run P w= .ok (.agg (x.patch.bs.map u8).toArray) w:=fun x=>by
  obtain⟨q1,q2⟩:=P5 hagg w
  unfold part
  simp only[Sem.run_bind,q1,Result.andThen_ok,if_true,q2,Sem.run_pure]
  congr 2
  simp[x.patch.len]
 have pI: ∀ (x:Ident),(part I (x.patch.bs.map u8++ [Value.int .i64 x.n]).toArray 32).run P w= .ok (.int .i64 x.n) w:=fun x=>
  Gy (Lq h2) (by simp[x.patch.len]) w
 simp only[Op.eqFields,ne_eq,String.reduceEq,not_false_eq_true,if_true,Sem.run_bind,pD,Result.andThen_ok,JY d h4]
 by_cases e1:a.patch=b.patch
 ·have d1:decide (a.patch=b.patch)=true:=by simp[e1]
  simp only[d1,aq,BQ,if_false,Sem.run_bind,pI,Result.andThen_ok,run_equalIn_int w (d+1) I .i64 .i64 _ _ h2]
  by_cases e2:a.n=b.n
  ·have:a=b:=by cases a;cases b;simp_all
   have d2:(a.n==b.n)=true:=by simp[e2]
   have d3:decide (a=b)=true:=by simp[this]
   simp[d2,d3]
  ·have: ¬a=b:=fun e=>e2 (e ▸ rfl)
   simp[e2,this]
 ·have: ¬a=b:=fun e=>e1 (e ▸ rfl)
  simp[e1,this]
end
section
variable {P:Program} {N:Nat} {all:Array Oper} {K:Env→List Res→Prop} {fl:List Bool} {os:List Oper} {ρ:Env} {L:List Res}
variable {d:Nat} {ty:TypeId} {pos:String} {af:Array Edge}
theorem oE {T T':TypeId} [hT:VL P T] {x y:Operand} {a b:Dig} (hx:ρ.ev x= .agg (eDig a)) (hy:ρ.ev y= .agg (eDig b)) (k:AU P N all K fl.tail os (CU ρ d (.raw (.bool (decide (a=b))))) L) (hd:Nat.blt d N=true:=by rfl):
  AU P N all K fl (⟨some d,.binOp .eql T x y T',ty,pos,af,none⟩::os) ρ L:=
 Bk hd (B9 fun A w g ha hi=>⟨.bool (decide (a=b)),by
  have h1:=ha x (by simp[Op.operands]);rw[hx]at h1
  have h2:=ha y (by simp[Op.operands]);rw[hy]at h2
  simp only[execOp,J5 h1,J5 h2,Sem.run_bind,run_eqGuard_agg w .eql T x y _ _ hT.guard,Result.andThen_ok,run_eql_struct,JY 9998 hT.arr,Sem.run_pure],.raw _⟩) k
theorem oC {T T':TypeId} [hT:VL P T] {x y:Operand} {a b:Dig} (hx:ρ.ev x= .agg (eDig a)) (hy:ρ.ev y= .agg (eDig b)) (k:AU P N all K fl.tail os (CU ρ d (.raw (.bool (!decide (a=b))))) L) (hd:Nat.blt d N=true:=by rfl):
  AU P N all K fl (⟨some d,.binOp .neq T x y T',ty,pos,af,none⟩::os) ρ L:=
 Bk hd (B9 fun A w g ha hi=>⟨.bool (!decide (a=b)),by
  have h1:=ha x (by simp[Op.operands]);rw[hx]at h1
  have h2:=ha y (by simp[Op.operands]);rw[hy]at h2
  simp only[execOp,J5 h1,J5 h2,Sem.run_bind,run_eqGuard_agg w .neq T x y _ _ hT.guard,Result.andThen_ok,run_neq_struct,JY 9998 hT.arr,Sem.run_pure],.raw _⟩) k
theorem tL {T T':TypeId} [hT:LX P T] {x y:Operand} {a b:Ident} (hx:ρ.ev x= .agg (eIdent a)) (hy:ρ.ev y= .agg (eIdent b)) (k:AU P N all K fl.tail os (CU ρ d (.raw (.bool (decide (a=b))))) L) (hd:Nat.blt d N=true:=by rfl):
  AU P N all K fl (⟨some d,.binOp .eql T x y T',ty,pos,af,none⟩::os) ρ L:=
 Bk hd (B9 fun A w g ha hi=>⟨.bool (decide (a=b)),by
  have h1:=ha x (by simp[Op.operands]);rw[hx]at h1
  have h2:=ha y (by simp[Op.operands]);rw[hy]at h2
  simp only[execOp,Gm h1,Gm h2,Sem.run_bind,run_eqGuard_agg w .eql T x y _ _ hT.guard,Result.andThen_ok,run_eql_struct,Jy 9997,Sem.run_pure],.raw _⟩) k
theorem tI {T T':TypeId} [hT:LX P T] {x y:Operand} {a b:Ident} (hx:ρ.ev x= .agg (eIdent a)) (hy:ρ.ev y= .agg (eIdent b)) (k:AU P N all K fl.tail os (CU ρ d (.raw (.bool (!decide (a=b))))) L) (hd:Nat.blt d N=true:=by rfl):
  AU P N all K fl (⟨some d,.binOp .neq T x y T',ty,pos,af,none⟩::os) ρ L:=
 Bk hd (B9 fun A w g ha hi=>⟨.bool (!decide (a=b)),by
  have h1:=ha x (by simp[Op.operands]);rw[hx]at h1
  have h2:=ha y (by simp[Op.operands]);rw[hy]at h2
  simp only[execOp,Gm h1,Gm h2,Sem.run_bind,run_eqGuard_agg w .neq T x y _ _ hT.guard,Result.andThen_ok,run_neq_struct,Jy 9997,Sem.run_pure],.raw _⟩) k
end
def yO (P:Program) (T:Nat):Option Nat:=match P.underlying T with
 |some (.struct _)=>(P.info? T).map (·.size)
 |some (.array _ _)=>(P.info? T).map (·.size)
 |_=>none
def rE (P:Program) (T:Nat):Bool:=match P.underlying T with
 |some (.struct _)=>false
 |some (.array _ _)=>false
 |some _=>true
 |none=>false
def y7 (P:Program) (S k:Nat):Option Nat:=match P.underlying S with
 |some (.struct fs)=>match fs[k]? with
  |some f=>match P.info? f.type with
   |some i=>if i.size=0 then none else some f.offset
   |none=>none
  |none=>none
 |_=>none
theorem FA.of {P:Program} {T n:Nat} (h:yO P T=some n):FA P T n:=⟨by
 unfold yO at h
 split at h
 ·rename_i fs hu
  obtain⟨i,h1,h2⟩:=Bl.1 h
  exact⟨.inl ⟨fs,hu⟩,i,h1,h2⟩
 ·rename_i m e hu
  obtain⟨i,h1,h2⟩:=Bl.1 h
  exact⟨.inr ⟨m,e,hu⟩,i,h1,h2⟩
 ·cases h⟩
theorem DJ.of {P:Program} {T:Nat} (h:rE P T=true):DJ P T:=⟨by
 unfold rE at h
 split at h
 ·cases h
 ·cases h
 ·rename_i d h1 h2 hu;exact⟨d,hu,fun fs e=>h1 fs e,fun m e' e=>h2 m e' e⟩
 ·cases h⟩
theorem CP.of {P:Program} {S k off:Nat} (h:y7 P S k=some off):CP P S k off:=⟨by
 unfold y7 at h
 split at h
 ·rename_i fs hu
  split at h
  ·rename_i f hf
   split at h
   ·rename_i i hi
    split at h
    ·cases h
    ·rename_i h0;exact⟨fs,f,i,hu,hf,CJ h,hi,h0⟩
   ·cases h
  ·cases h
 ·cases h⟩
theorem Ea.of {P:Program} {E sz bytes:Nat} (h:(P.info? E).map (fun i=>(i.size,i.bytes))=some (sz,bytes)):Ea P E sz bytes:=⟨by
 obtain⟨i,h1,h2⟩:=Bl.1 h
 simp only[Prod.mk.injEq]at h2
 exact⟨i,h1,h2.1,h2.2⟩⟩
theorem VL.of {P:Program} {T E:Nat} (h1:P.underlying T=some (.array 32 E)) (h2:P.underlying E=some (.int .u8)) (h3:(P.info? E).map (·.size)=some 1) (h4:P.eqGuardType P.depth T=false):VL P T:=⟨by
 obtain⟨i,h5,h6⟩:=Bl.1 h3
 exact⟨E,i,h1,h2,h5,h6⟩,h4⟩
theorem LX.of {P:Program} {T D I E:Nat} (h1:P.fieldsOf T= #[⟨ "Patch",D,0,false, "", "",0⟩,⟨ "N",I,32,false, "", "",32⟩]) (h2:P.underlying I=some (.int .i64)) (h3:(P.info? D).map (·.size)=some 32)
  (h4:P.underlying D=some (.array 32 E)) (h5:P.underlying E=some (.int .u8)) (h6:(P.info? E).map (·.size)=some 1) (h7:P.underlying T=some (.struct (P.fieldsOf T))) (h8:P.stoodInHeld T=false) (h9:P.eqGuardType P.depth T=false):LX P T:=⟨by
 obtain⟨i,e1,e2⟩:=Bl.1 h3
 obtain⟨j,e3,e4⟩:=Bl.1 h6
 exact⟨D,I,h1,h2,⟨i,e1,e2⟩,E,j,h4,h5,e3,e4⟩,h7,h8,h9⟩
class Jt (cs:List PV) (off:Nat) (r:outParam (List PV)):Prop where
 out:(cs.drop off).take r.length=r∧off+r.length≤cs.length
class YB (cs:List PV) (off n:Nat) (r:outParam (List PV)):Prop where
 out:(cs.drop off).take n=r∧off+n≤cs.length
class FO (cs:List PV) (off:Nat) (new:List PV) (r:outParam (List PV)):Prop where
 out:cs.take off++new++cs.drop (off+new.length)=r∧off+new.length≤cs.length
class At (cs:List PV) (off:Nat) (c:outParam PV):Prop where
 out:cs[off]? =some c
theorem Hs {cs:List PV} {off:Nat} {c:PV} (h:Jt cs off [c]):At cs off c:=⟨by
 obtain⟨h1,h2⟩:=h.out
 have:=congrArg (fun l=>l[0]?) h1
 simpa [Gp]using this⟩
class NS {α:Type} (f:α→List PV) (n:outParam Nat):Prop where
 out: ∀ a,(f a).length=n
instance :NS eDig 32:=⟨fun _=>by simp⟩
instance :NS eIdent 33:=⟨fun _=>by simp⟩
instance (x:Ident):Jt (eIdent x) 0 (eDig x.patch):=⟨by simp[eIdent]⟩
instance Zq (x:Ident):Jt (eIdent x) 32 [.raw (.int .i64 x.n)]:=⟨by simp[eIdent]⟩
instance (x:Ident):At (eIdent x) 32 (.raw (.int .i64 x.n)):=Hs (Zq x)
instance (x:Ident):YB (eIdent x) 0 32 (eDig x.patch):=⟨by simp[eIdent]⟩
instance (x:Ident) (d:Dig):FO (eIdent x) 0 (eDig d) (eIdent ⟨d,x.n⟩):=⟨by simp[eIdent]⟩
instance (x:Ident) (n:Int):FO (eIdent x) 32 [.raw (.int .i64 n)] (eIdent ⟨x.patch,n⟩):=⟨by simp[eIdent]⟩
section
variable {P:Program} {N:Nat} {all:Array Oper} {K:Env→List Res→Prop} {fl:List Bool} {os:List Oper} {ρ:Env} {L:List Res}
variable {d:Nat} {ty:TypeId} {pos:String} {af:Array Edge}
theorem jn {T:TypeId} {E sz by_:Nat} [hT:Ma P T E] [hE:Ea P E sz by_] {x y:Operand} {α:Type} {f:α→List PV} [hf:NS f sz] {l:List α} {t:CC} {kk:IntKind} {n:Nat} (hx:ρ.ev x= .slice (l.map f) t) (hy:ρ.ev y= .raw (.int kk (n:Int))) (hn:n < l.length)
  (k:AU P N all K fl.tail os (CU ρ d (.pt (f l[n]) 0)) L) (hd:Nat.blt d N=true:=by rfl):
  AU P N all K fl (⟨some d,.indexAddr T x y,ty,pos,af,none⟩::os) ρ L:=
 db hx hy (by omega) (by simpa using hn) (by simp[hf.out]) (by simpa using k) hd
theorem jk {T:TypeId} {E:Nat} [hT:Ma P T E] {x:Operand} {α:Type} {f:α→List PV} {l:List α} {t:CC} (hx:ρ.ev x= .slice (l.map f) t) (k:AU P N all K fl.tail os (CU ρ d (.raw (.int .i64 l.length))) L) (hd:Nat.blt d N=true:=by rfl):
  AU P N all K fl (⟨some d,.call { callee:= .builtin .len,args:= #[x],argTypes:= #[T] },ty,pos,af,none⟩::os) ρ L:=jl hx (by simpa using k) hd
theorem ji {T n:Nat} [hT:FA P T n] {x:Operand} {cs:List PV} (hx:ρ.ev x= .pt cs 0) (hl:cs.length=n) (k:AU P N all K fl.tail os (CU ρ d (.agg cs)) L) (hd:Nat.blt d N=true:=by rfl):
  AU P N all K fl (⟨some d,.load T x,ty,pos,af,none⟩::os) ρ L:=
 oD hx (by omega) (by rw[Lb,AF (by omega)];exact k) hd
theorem Vf {T n:Nat} [hT:FA P T n] {x:Operand} {b T':Nat} {cs:List PV} (hx:ρ.ev x= .raw (.pointer (some ⟨b,0,none⟩))) (hm:Res.box b T' cs∈L) (hl:cs.length=n) (k:AU P N all K fl.tail os (CU ρ d (.agg cs)) L) (hd:Nat.blt d N=true:=by rfl):
  AU P N all K fl (⟨some d,.load T x,ty,pos,af,none⟩::os) ρ L:=
 Ye hx hm (by omega) (by rw[Lb,AF (by omega)];exact k) hd
theorem Yd {T n:Nat} [hT:FA P T n] {x:Operand} {b off T':Nat} {cs r:List PV} (hx:ρ.ev x= .raw (.pointer (some ⟨b,off,none⟩))) (hm:Res.box b T' cs∈L) [hs:YB cs off n r] (k:AU P N all K fl.tail os (CU ρ d (.agg r)) L) (hd:Nat.blt d N=true:=by rfl):
  AU P N all K fl (⟨some d,.load T x,ty,pos,af,none⟩::os) ρ L:=
 Ye hx hm hs.out.2 (by rw[hs.out.1];exact k) hd
theorem jh {T:Nat} [hT:DJ P T] {x:Operand} {b off T':Nat} {cs:List PV} {c:PV} (hx:ρ.ev x= .raw (.pointer (some ⟨b,off,none⟩))) (hm:Res.box b T' cs∈L) [hs:At cs off c] (k:AU P N all K fl.tail os (CU ρ d c) L) (hd:Nat.blt d N=true:=by rfl):
  AU P N all K fl (⟨some d,.load T x,ty,pos,af,none⟩::os) ρ L:=
 TW hx hm hs.out k hd
theorem bR {S f off':Nat} [hF:CP P S f off'] {x:Operand} {cs r:List PV} (hx:ρ.ev x= .pt cs 0) [hr:Jt cs off' r] (k:AU P N all K fl.tail os (CU ρ d (.pt r 0)) L) (hd:Nat.blt d N=true:=by rfl):
  AU P N all K fl (⟨some d,.fieldAddr S x f,ty,pos,af,none⟩::os) ρ L:=
 Bk hd (B9 fun a w g ha hi=>by
  have h1:=ha x (by simp[Op.operands])
  rw[hx]at h1
  generalize hv:a.eval x=v at h1
  obtain⟨fs,fd,i,h2,h3,h4,h5,h6⟩:=hF.out
  obtain⟨e1,e2⟩:=hr.out
  cases h1 with
  |pt ff hH hv'=>
   rename_i b o
   refine⟨.pointer (some ⟨b,o+off'+0,none⟩),?_,.pt (fun j=>ff (off'+j)) (fun j hj=>?_) (fun j hj=>?_)⟩
   ·simp[execOp,Instr.fieldAt,hv,IQ h2,h3,Instr.sureAddr,fieldPlace,sizeOf,typeInfo,h5,h6,h4,Dr]
   ·rw[E9];exact hH (off'+j) (by omega)
   ·have:=hv' (off'+j) (by omega)
    have e3:r[j]=cs[off'+j]:=by
     have:=congrArg (fun l=>l[j]?) e1
     simp only[Fh,hj,if_true,Gp]at this
     rw[AO (by omega),AO hj]at this
     exact(CJ this).symm
    rw[e3];exact this) k
inductive qe (b:Nat):List PV→List PV→List Res→List Res→Prop
 |here {T:TypeId} {cs cs':List PV} {L:List Res}:qe b cs cs' (.box b T cs::L) (.box b T cs'::L)
 |there {cs cs':List PV} {r:Res} {L L':List Res} (h:qe b cs cs' L L'):qe b cs cs' (r::L) (r::L')
theorem qe.split {b:Nat} {cs cs':List PV} {L L':List Res} (h:qe b cs cs' L L'): ∃ A B T,L=A++ .box b T cs::B∧L'=A++ .box b T cs'::B:=by
 induction h with
 |here=>rename_i T cs cs' L;exact⟨[],L,T,rfl,rfl⟩
 |there h ih=>rename_i r _ _;obtain⟨A,B,T,h1,h2⟩:=ih;exact⟨r::A,B,T,by rw[h1];rfl,by rw[h2];rfl⟩
theorem NX {P:Program} {b T:Nat} {fr:Nat × Nat}: ∀ (new:List Value) (w:World) (vs:List Value) (off i:Nat),w.heap[b]? =some (.cells vs.toArray T fr)→off+i+new.length≤vs.length→(fr.2≤fr.1∨vs.length≤fr.1)→(∀ v∈new,v.oneCell'=true)→
  ∃ w',(storeCells ⟨b,off,none⟩ new i).run P w= .ok () w'∧w'.heap[b]? =some (.cells (vs.take (off+i)++new++vs.drop (off+i+new.length)).toArray T fr)∧w'.os=w.os∧w'.tape=w.tape∧(w'.output=w.output∧w.drawn≤w'.drawn)∧w'.heap.size=w.heap.size∧ ∀ k,k≠b→w'.heap[k]? =w.heap[k]?:=by
 intro new
 induction new with
 |nil=>intro w vs off i hb hl _ _;exact⟨w,rfl,by simpa using hb,rfl,rfl,⟨rfl,Ak _⟩,rfl,fun _ _=>rfl⟩
 |cons v new ih=>
  intro w vs off i hb hl hfr hone
  simp only[AL]at hl
  have hc:w.cell? ⟨b,off+i,none⟩=some (vs[off+i]'(by omega)):=HX hb (off+i) (by omega)
  have hf:w.frozen? ⟨b,off+i,none⟩=false:=by simp[World.frozen?,hb];omega
  have hblt:b < w.heap.size:=(BH.1 hb).1
  have hset:(w.setCell ⟨b,off+i,none⟩ v).heap[b]? =some (.cells (vs.set (off+i) v).toArray T fr):=by
   obtain⟨_,hk⟩:=BH.1 hb
   show(w.heap.modify b _)[b]? =_
   rw[CN (by rw[HL];exact hblt),Array.getElem_modify_self,hk]
   simp
  obtain⟨w',h1,h2,h3,h4,h5,h6,h7⟩:=ih (w.setCell ⟨b,off+i,none⟩ v) (vs.set (off+i) v) off (i+1) hset (by simp;omega) (by simpa using hfr) (fun u hu=>hone u (AJ _ hu))
  refine⟨w',?_,?_,h3,h4,h5,h6.trans (by simp[World.setCell]),fun k hk=>(h7 k hk).trans ?_⟩
  ·unfold storeCells
   rw[Sem.run_bind,Dr,run_store P w _ v .plain (hone v (AG)),hc]
   simp only[hf,BQ,if_false,Result.andThen_ok]
   exact h1
  ·rw[h2]
   congr 3
   rw[show off+(i+1)=off+i+1 by omega,List.take_set,List.drop_set_of_lt (by omega)]
   rw[A7 (by omega:off+i < vs.length)]
   rw[List.set_append]
   simp only[Aa,DP (by omega:off+i≤vs.length),Fo,if_false,Nat.sub_self,dK,AV,B3,BB,AL]
   rw[show off+i+1+new.length=off+i+(new.length+1) by omega]
  ·simp only[World.setCell,Mi]
   rw[if_neg (Ne.symm hk)]
theorem FZ {P:Program} {b T:Nat}: ∀ (new:List Value) (w:World) (vs:List Value) (off i:Nat),w.heap[b]? =some (.cells vs.toArray T (0,0))→off+i+new.length≤vs.length→(∀ v∈new,v.oneCell'=true)→
  ∃ w',(storeCells ⟨b,off,none⟩ new i).run P w= .ok () w'∧w'.heap[b]? =some (.cells (vs.take (off+i)++new++vs.drop (off+i+new.length)).toArray T (0,0))∧w'.os=w.os∧w'.tape=w.tape∧(w'.output=w.output∧w.drawn≤w'.drawn)∧w'.heap.size=w.heap.size∧ ∀ k,k≠b→w'.heap[k]? =w.heap[k]?:=
 fun new w vs off i hb hl h1=>NX new w vs off i hb hl (.inl (Ak _)) h1
theorem VR.one {g:Gh} {v:Value} {x:PV} (h:VR g v x) (hx: ∀ cs,x≠ .agg cs) (hx': ∀ cs,x≠ .tuple cs) (hr: ∀ u,x= .raw u→u.oneCell'=true) (hj:x≠ .junk):v.oneCell'=true:=by
 cases h<;>first|rfl|exact hr _ rfl|exact absurd rfl hj|exact absurd rfl (hx _)|exact absurd rfl (hx' _)
def KJ:List PV→Prop:=fun cs=> ∀ x∈cs,(∀ cs,x≠ .agg cs)∧(∀ cs,x≠ .tuple cs)∧(∀ u,x= .raw u→u.oneCell'=true)∧x≠ .junk
theorem HS:KJ []:=fun _ h=>by cases h
theorem Zx {a b:List PV} (h:KJ a) (k:KJ b):KJ (a++b):=fun x hx=>by
 rcases Aj.1 hx with h'|h'
 ·exact h x h'
 ·exact k x h'
theorem FM {v:Value} {cs:List PV} (hv:v.oneCell'=true) (h:KJ cs):KJ (.raw v::cs):=fun x hx=>by
 rcases AH.1 hx with rfl|h'
 ·exact⟨by simp,by simp,(fun u e=>by cases e;exact hv),by simp⟩
 ·exact h x h'
theorem NK {xs:List (List PV)} {t:CC} {cs:List PV} (h:KJ cs):KJ (.slice xs t::cs):=fun x hx=>by
 rcases AH.1 hx with rfl|h'
 ·exact⟨by simp,by simp,by simp,by simp⟩
 ·exact h x h'
theorem gv {xs:List (PV × PV)} {cs:List PV} (h:KJ cs):KJ (.fmap xs::cs):=fun x hx=>by
 rcases AH.1 hx with rfl|h'
 ·exact⟨by simp,by simp,by simp,by simp⟩
 ·exact h x h'
theorem OG {s:List UInt8} {cs:List PV} (h:KJ cs):KJ (.str s::cs):=fun x hx=>by
 rcases AH.1 hx with rfl|h'
 ·exact⟨by simp,by simp,by simp,by simp⟩
 ·exact h x h'
class Dx (cs:List PV):Prop where
 out:KJ cs
instance :Dx []:=⟨HS⟩
instance (d:Dig):Dx (eDig d):=⟨fun x hx=>by
 obtain⟨b,_,rfl⟩:=AQ.1 hx
 exact FM (v:=u8 b) rfl HS _ (by simp[eU8])⟩
instance {a b:List PV} [h:Dx a] [k:Dx b]:Dx (a++b):=⟨Zx h.out k.out⟩
instance {cs:List PV} {xs:List (List PV)} {t:CC} [h:Dx cs]:Dx (.slice xs t::cs):=⟨NK h.out⟩
instance {cs:List PV} {s:List UInt8} [h:Dx cs]:Dx (.str s::cs):=⟨OG h.out⟩
instance {cs:List PV} {xs:List (PV × PV)} [h:Dx cs]:Dx (.fmap xs::cs):=⟨gv h.out⟩
instance {cs:List PV} {k:IntKind} {n:Int} [h:Dx cs]:Dx (.raw (.int k n)::cs):=⟨FM rfl h.out⟩
instance {cs:List PV} {b:Bool} [h:Dx cs]:Dx (.raw (.bool b)::cs):=⟨FM rfl h.out⟩
instance {cs:List PV} {b:Option Addr} [h:Dx cs]:Dx (.raw (.pointer b)::cs):=⟨FM rfl h.out⟩
instance {cs:List PV} {b:Option Nat} [h:Dx cs]:Dx (.raw (.map b)::cs):=⟨FM rfl h.out⟩
instance {cs:List PV} {a:Fn} {b c:Array Value} [h:Dx cs]:Dx (.raw (.func a b c)::cs):=⟨FM rfl h.out⟩
instance (x:Ident):Dx (eIdent x):=⟨by unfold eIdent;exact Dx.out⟩
theorem Dv.write {w w':World} {g:Gh} {b:Nat} {cs cs':List PV} {L':List Res} (hi:Dv w g L) (hu:qe b cs cs' L L') (hsz:w'.heap.size=w.heap.size) (hos:w'.os=w.os) (htp:w'.tape=w.tape) (hout:w'.output=w.output∧w.drawn≤w'.drawn)
  (hk: ∀ k,k≠b→w'.heap[k]? =w.heap[k]?) (hb: ∀ T vs,w.heap[b]? =some (.cells vs T (0,0))→ ∃ us:List Value,w'.heap[b]? =some (.cells us.toArray T (0,0))∧ED g us cs'):
  Dv w' g L'∧Ef (An L) w g w' g∧De w L L':=by
 obtain⟨A,B,T,rfl,rfl⟩:=hu.split
 have hme:=hi.res (.box b T cs) (by simp)
 obtain⟨vs,h1,h2,h3,h4⟩:=hme
 have hbl:An (A++ .box b T cs'::B)=An (A++ .box b T cs::B):=by simp[An,Dp,Res.block]
 have hnd:=hi.nodup
 have hne: ∀ r∈A++B,r.block≠some b:=fun r hr e=>by
  simp only[An,Dp,Az,Res.block]at hnd
  rw[EG]at hnd
  obtain⟨n1,n2,n3⟩:=hnd
  rcases Aj.1 hr with hr|hr
  ·exact n3 b (Bz.2 ⟨r,hr,e⟩) b (by simp) rfl
  ·exact(Bo.1 n2).1 (Bz.2 ⟨r,hr,e⟩)
 have hcell: ∀ k o,k≠b→w'.cell? ⟨k,o,none⟩=w.cell? ⟨k,o,none⟩:=fun k o h=>by simp only[World.cell?];rw[hk k h]
 refine⟨⟨fun b' o v h=>?_,fun b' es h=>?_,fun r hr=>?_,by rw[hbl];exact hi.nodup,hi.glob⟩,⟨hos,htp,hout,EF hsz.symm,fun k hlt hn=>hk k (fun e=>hn ?_),.refl g,fun _ _ _=>⟨fun _=>rfl,rfl⟩⟩,fun b' hb' _=>by rw[hbl]at hb';exact hb'⟩
 ·have hne':b'≠b:=fun e=>by subst e;rw[h3]at h;cases h
  rw[hcell _ _ hne'];exact hi.sat _ _ _ h
 ·have hne':b'≠b:=fun e=>by subst e;rw[h4]at h;cases h
  exact(hi.satM _ _ h).congr (hk _ hne')
 ·have hr':r= .box b T cs'∨r∈A++B:=by
   simp only[Aj,AH]at hr ⊢
   rcases hr with h|h|h
   ·exact .inr (.inl h)
   ·exact .inl h
   ·exact .inr (.inr h)
  rcases hr' with rfl|hr'
  ·obtain⟨us,e1,e2⟩:=hb T vs.toArray h1
   exact⟨us,e1,e2,h3,h4⟩
  ·have hold:=hi.res r (by simp only[Aj,AH]at hr' ⊢;rcases hr' with h|h;exact .inl h;exact .inr (.inr h))
   have hblk:=hne r hr'
   cases r with
   |box b' T' cs''=>obtain⟨us,e1,e2⟩:=hold;exact⟨us,by rw[hk b' (fun e=>hblk (by simp[Res.block,e]))];exact e1,e2⟩
   |tok t n sz=>cases t with
    |own b' cap=>obtain⟨us,T',fr,e1,e2⟩:=hold;exact⟨us,T',fr,by rw[hk b' (fun e=>hblk (by simp[Res.block,e]))];exact e1,e2⟩
    |_=>exact hold
   |map b' kvs=>obtain⟨es,c,e1,e2⟩:=hold;exact⟨es,c,by rw[hk b' (fun e=>hblk (by simp[Res.block,e]))];exact e1,e2⟩
   |raw b' o=>obtain⟨e1,e2⟩:=hold;exact⟨by rw[hk b' (fun e=>hblk (by simp[Res.block,e]))];exact e1,e2⟩
   |know vs xs=>exact hold
   |iter b' kvs dn=>obtain⟨m,es,c,e1,e2⟩:=hold;exact⟨m,es,c,by rw[hk b' (fun e=>hblk (by simp[Res.block,e]))];exact e1,e2⟩
 ·subst e;simp[An,Dp,Res.block]
theorem ED.one {g:Gh} {vs:List Value} {cs:List PV} (h:ED g vs cs) (hf:KJ cs): ∀ v∈vs,v.oneCell'=true:=fun v hv=>by
 obtain⟨i,hi,rfl⟩:=AY.1 hv
 have hi':i < cs.length:=by rw[←h.len];exact hi
 obtain⟨h1,h2,h3,h4⟩:=hf cs[i] (AB hi')
 exact(h.at_ i hi hi').one h1 h2 h3 h4
theorem JR {T:TypeId} {x y:Operand} {b off sz by_:Nat} {cs cs' new:List PV} {L':List Res} [hT:Ea P T sz by_] {gd:Option (Nat × Bool)} {dst:Option Nat}
  (hx:ρ.ev x= .raw (.pointer (some ⟨b,off,none⟩))) (hv: ∀ g v,VR g v (ρ.ev y)→ ∃ us:List Value,v.cells=us.toArray∧ED g us new) (hlen:new.length=sz) (hfl:KJ new) (hp:cs.take off++new++cs.drop (off+new.length)=cs') (hle:off+new.length≤cs.length) (hu:qe b cs cs' L L')
  {Ψ:PV→List Res→Prop} (k:Ψ (.raw undef) L'):Fk P ⟨dst,.store T x y,ty,pos,af,gd⟩ ρ L Ψ:=by
 intro a w g ha hi
 have h1:=Cc ha (x:=x) (by simp[Op.operands]) hx
 obtain⟨us,hc,hus⟩:=hv g (a.eval y) (ha y (by simp[Op.operands]))
 obtain⟨A,B,T',e1,_⟩:=hu.split
 have hme:=hi.res (.box b T' cs) (by rw[e1];simp)
 obtain⟨vs,hb,hvs,_,_⟩:=hme
 obtain⟨w',hrun,hb',hos,htp,hout,hsz,hk⟩:=FZ (P:=P) us w vs off 0 hb (by rw[hus.len,hvs.len];exact hle) (hus.one hfl)
 have hr:(execOp a.eval ⟨dst,.store T x y,ty,pos,af,gd⟩).run P w= .ok .skip w':=by
  simp only[execOp,Instr.storeAt,h1,Instr.sureAddr,Sem.run_bind,Sem.run_pure,Result.andThen_ok,storeVar,Ea.run hT,hc,Cg]
  rw[if_neg (by rw[hus.len,hlen];simp)]
  simp[hrun]
 obtain⟨j1,j2,j3⟩:=hi.write hu hsz hos htp hout hk (fun T'' vs' hb''=>by
  rw[hb]at hb''
  injection hb'' with hb''
  injection hb'' with e2 e3
  subst e3
  refine⟨_,hb',?_⟩
  rw[←hp,Dt,←hus.len]
  exact(((hvs.take off).append hus).append (hvs.drop _)))
 refine Oper.wq_of_run hr ?_
 exact⟨undef,.raw undef,g,L',rfl,.raw _,j1,j2,j3,k⟩
end
@[reducible] def j9:List (Nat × PV)→Env
 | []=>fun _=> .junk
 |(i,v)::E=>CU (j9 E) i v
@[reducible] def Pj (ρ:Env):List (Nat × PV)→Prop
 | []=>True
 | [(i,v)]=>ρ i=v
 |(i,v)::E=>ρ i=v∧Pj ρ E
theorem cY {ρ:Env}: ∀ {E:List (Nat × PV)},Pj ρ E→ ∀ i,j9 E i=ρ i∨j9 E i= .junk
 | [],_,_=> .inr rfl
 | [(j,v)],h,i=>by
   by_cases e:i=j
   ·subst e;left;show CU _ _ _ _=_;rw[DB];exact h.symm
   ·right;show CU _ _ _ _=_;rw[H6 _ _ e]
 |(j,v)::(p::E),h,i=>by
  by_cases e:i=j
  ·subst e;left;show CU _ _ _ _=_;rw[DB];exact h.1.symm
  ·show CU _ _ _ _=_∨CU _ _ _ _=_;rw[H6 _ _ e];exact cY h.2 i
section
variable {P:Program} {N:Nat} {Q:PPost} {ρ:Env} {L:List Res} {c:Code}
theorem KQ {ρ':Env} {L':List Res} (hg: ∀ base a w g,VO base g N a ρ→Dv w g L→ ∃ g',VO base g' N a ρ'∧Dv w g' L'∧Ef (An L) w g w g'∧De w L L') (h:ER P N c Q ρ' L'):ER P N c Q ρ L:=fun ro base a w g hs=>by
 obtain⟨g',h1,h2,h3,h4⟩:=hg base a w g hs.agr hs.inv
 exact wpIn_mono (h ro base a w g' (hs.step h1 h2 h3 h4)) fun e a' w' k=>SO.later h3 h4 (fun _ _ x=>x) k
theorem N9 {ρ':Env} {L':List Res} (hρ: ∀ i,ρ' i=ρ i∨ρ' i= .junk) (hL:L'.Sublist L) (h:ER P N c Q ρ' L'):ER P N c Q ρ L:=
 KQ (fun base a w g ha hi=>⟨g,⟨ha.size,ha.defers,fun i=>by
  rcases hρ i with e|e
  ·rw[e];exact ha.slot i
  ·rw[e];exact .junk _⟩,hi.sub hL,.refl _ _ _,fun b hb _=>(Ga hL).subset hb⟩) h
theorem E3 {L':List Res} (hL:L.Perm L') (h:ER P N c Q ρ L'):ER P N c Q ρ L:=
 KQ (fun base a w g ha hi=>⟨g,ha,hi.perm hL,.refl _ _ _,fun b hb _=>(hL.symm.filterMap _).subset hb⟩) h
theorem HD {L':List Res} (E:List (Nat × PV)) (hE:Pj ρ E) (hL:L'.Sublist L) (h:ER P N c Q (j9 E) L'):ER P N c Q ρ L:=N9 (cY hE) hL h
@[reducible] def qg {σ:Type} (I:σ→Prop) (μ:σ→Nat) (E:σ→List (Nat × PV)) (Ls:σ→List Res) (s:σ) (Q:PPost):PPost
 | .normal,ρ,L=> ∃ s',I s'∧μ s' < μ s∧Pj ρ (E s')∧(Ls s').Sublist L
 |e,ρ,L=>Q e ρ L
theorem Ab {σ:Type} (I:σ→Prop) (μ:σ→Nat) (E:σ→List (Nat × PV)) (Ls:σ→List Res) (s₀:σ) (h0:I s₀) (hρ:Pj ρ (E s₀)) (hL:(Ls s₀).Sublist L)
  (round: ∀ s,I s→ER P N c (qg I μ E Ls s Q) (j9 (E s)) (Ls s)):ER P N (.loop c) Q ρ L:=by
 refine kU (fun n ρ L=> ∃ s,I s∧μ s=n∧Pj ρ (E s)∧(Ls s).Sublist L) ⟨s₀,h0,rfl,hρ,hL⟩ ?_
 rintro n ρ L ⟨s,hI,rfl,hE,hS⟩
 refine Ts (HD (E s) hE hS (round s hI)) ?_
 intro e ρ' L' h
 cases e with
 |normal=>obtain⟨s',h1,h2,h3,h4⟩:=h;exact⟨μ s',h2,s',h1,rfl,h3,h4⟩
 |_=>exact h
end
inductive Bd:PV→Prop
 |raw (v:Value):Bd (.raw v)
 |junk:Bd .junk
 |str {s:List UInt8} (h:s.length≤maxN):Bd (.str s)
 |agg {cs:List PV} (h: ∀ c∈cs,Bd c):Bd (.agg cs)
 |tuple {cs:List PV} (h: ∀ c∈cs,Bd c):Bd (.tuple cs)
 |slice {xs:List (List PV)} {t:CC} (hl:xs.length≤maxN) (hc: ∀ sz,(∀ e∈xs,e.length=sz)→xs.length*sz≤maxN) (h: ∀ e∈xs,∀ c∈e,Bd c):Bd (.slice xs t)
 |pt {cs:List PV} {off:Nat} (h: ∀ c∈cs,Bd c):Bd (.pt cs off)
 |fmap {kvs:List (PV × PV)} (h1: ∀ p∈kvs,Bd p.1) (h2: ∀ p∈kvs,Bd p.2):Bd (.fmap kvs)
 |clo {f:Nat} {cs:List PV} (h: ∀ c∈cs,Bd c):Bd (.clo f cs)
 |ifc {t:Nat} {x:PV} (h:Bd x):Bd (.ifc t x)
theorem VR.bd {g:Gh} {v:Value} {x:PV} (h:VR g v x):Bd x:=by
 induction h with
 |raw v=>exact .raw v
 |junk v=>exact .junk
 |str h=>exact .str h
 |agg hl _ ih=>exact .agg fun c hc=>by obtain⟨i,hi,rfl⟩:=AY.1 hc;exact ih i (by omega) hi
 |tuple hl _ ih=>exact .tuple fun c hc=>by obtain⟨i,hi,rfl⟩:=AY.1 hc;exact ih i (by omega) hi
 |nilN=>exact .slice (RQ _) (by simp) (by simp)
 |nilR=>exact .slice (RQ _) (by simp) (by simp)
 |slice sz f hl hc hm hs hH _ ht hn ih=>
  refine .slice (by have:=hm.1;omega) (fun sz' hs'=>?_) fun e he c hc=>?_
  ·rename_i xs t _
   clear ht hn ih
   cases xs with
   |nil=>simp
   |cons x xs=>
    have e1:=hs x (by simp)
    have e2:=hs' x (by simp)
    rw[←e2,e1,hl];exact hm.2
  obtain⟨i,hi,rfl⟩:=AY.1 he
  obtain⟨j,hj,rfl⟩:=AY.1 hc
  exact ih i hi j hj
 |pt f hH _ ih=>exact .pt fun c hc=>by obtain⟨i,hi,rfl⟩:=AY.1 hc;exact ih i hi
 |fmap hM hl _ _ ik iv=>exact .fmap (fun p hp=>by obtain⟨i,hi,rfl⟩:=AY.1 hp;exact ik i (by omega) hi) (fun p hp=>by obtain⟨i,hi,rfl⟩:=AY.1 hp;exact iv i (by omega) hi)
 |nilM=>exact .fmap (by simp) (by simp)
 |clo f hl _ ih=>exact .clo fun c hc=>by obtain⟨i,hi,rfl⟩:=AY.1 hc;exact ih i (by omega) hi
 |ifc t _ ih=>exact .ifc ih
theorem Bd.slice_len {xs:List (List PV)} {t:CC} (h:Bd (.slice xs t)):xs.length≤maxN:=by cases h;assumption
theorem Bd.slice_map {α:Type} {f:α→List PV} {l:List α} {t:CC} (h:Bd (.slice (l.map f) t)):l.length≤maxN:=by simpa using h.slice_len
theorem Bd.slice_cells {α:Type} {f:α→List PV} {sz:Nat} [hf:NS f sz] {l:List α} {t:CC} (h:Bd (.slice (l.map f) t)):l.length*sz≤maxN:=by
 cases h with
 |slice _ hc _=>simpa using hc sz (fun e he=>by obtain⟨a,_,rfl⟩:=AQ.1 he;exact hf.out a)
theorem Bd.slice_at {α:Type} {f:α→List PV} {l:List α} {t:CC} (h:Bd (.slice (l.map f) t)) {a:α} (ha:a∈l) {c:PV} (hc:c∈f a):Bd c:=by
 cases h with
 |slice _ _ h=>exact h (f a) (AQ.2 ⟨a,ha,rfl⟩) c hc
theorem Bd.str_len {s:List UInt8} (h:Bd (.str s)):s.length≤maxN:=by cases h;assumption
theorem Bd.agg_at {cs:List PV} (h:Bd (.agg cs)) {c:PV} (hc:c∈cs):Bd c:=by cases h with|agg h=>exact h c hc
def Fn (P:Program) (f:FuncId) (args:List PV) (X:PV):Prop:=BA P f args [] (fun r L'=>r=X∧L'= [])
class C8 (P:Program) (f:Nat) (args:List PV) (X:outParam PV):Prop where
 out:Fn P f args X
theorem C4 {P:Program} {f:FuncId} {fn:Func} {c:Code} {rs:List ResultVar} {N:Nat} {args:List PV} {L:List Res} {R:PV→List Res→Prop}
  (hf:P.funcs[f]? =some fn) (hb:fn.body=some c) (hn:fn.ntmps=N) (hr:fn.results=rs.toArray) (hN:Nat.ble args.length N=true)
  (h:(∀ x∈args,Bd x)→ ∀ LF,ER P N c (qf P rs R LF) (yx args) (L++LF)):BA P f args L R:=by
 intro vs w g LF hv hi
 have hbd: ∀ x∈args,Bd x:=fun x hx=>by
  obtain⟨i,hi,rfl⟩:=AY.1 hx
  exact(hv.at_ i (by rw[hv.len];exact hi) hi).bd
 exact VB hf hb hn hr (Gq hN) (fun LF=>h hbd LF) vs w g LF hv hi
theorem Tr {P:Program} {dst:Option Nat} {f:FuncId} {xs:List Operand} {ats:Array TypeId} {ty:TypeId} {pos:String} {af:Array Edge} {gd:Option (Nat × Bool)} {ρ:Env} {L:List Res} {args:List PV} {X:PV} [hf:B2 P f]
  (ha:xs.map ρ.ev=args) (hc:Fn P f args X):ie P ⟨dst,.call { callee:= .value (.func f),args:=xs.toArray,argTypes:=ats },ty,pos,af,gd⟩ ρ L X:=by
 have:=km (P:=P) (dst:=dst) (ats:=ats) (ty:=ty) (pos:=pos) (after:=af) (gd:=gd) (ρ:=ρ) (L₁:= []) (LF:=L) (Ψ:=fun x L'=>x=X∧L'=L) hf.out ha (hc.mono fun x L' ⟨h1,h2⟩=>⟨h1,by rw[h2];rfl⟩)
 exact this
section
variable {P:Program} {N:Nat} {all:Array Oper} {K:Env→List Res→Prop} {fl:List Bool} {os:List Oper} {ρ:Env} {L:List Res}
variable {d:Nat} {ty:TypeId} {pos:String} {af:Array Edge} {ats:Array TypeId} {f:Nat} {X:PV} {x₁ x₂ x₃ x₄ x₅:Operand} {a₁ a₂ a₃ a₄ a₅:PV}
end
section
variable {P:Program} {ρ:Env} {L LF:List Res} {X:PV}
end
inductive sZ (r r':Res):List Res→List Res→Prop
 |here {L:List Res}:sZ r r' (r::L) (r'::L)
 |there {s:Res} {L L':List Res} (h:sZ r r' L L'):sZ r r' (s::L) (s::L')
theorem sZ.split {r r':Res} {L L':List Res} (h:sZ r r' L L'): ∃ A B,L=A++r::B∧L'=A++r'::B:=by
 induction h with
 |here=>rename_i L;exact⟨[],L,rfl,rfl⟩
 |there h ih=>rename_i s _ _;obtain⟨A,B,h1,h2⟩:=ih;exact⟨s::A,B,by rw[h1];rfl,by rw[h2];rfl⟩
theorem Res.holds_lt {w:World} {g:Gh} {r:Res} (h:r.holds w g) {b:Nat} (hb:r.block=some b):b < w.heap.size:=by
 rcases B8 b w.heap.size with h'|h'
 ·exact h'
 ·have hn:w.heap[b]? =none:=Bm h'
  cases r with
  |box b' T' cs'=>obtain⟨_,h1,_⟩:=h;simp[Res.block]at hb;subst hb;rw[hn]at h1;cases h1
  |tok t n sz=>cases t with
   |own b' cap=>obtain⟨_,_,_,h1,_⟩:=h;simp[Res.block]at hb;subst hb;rw[hn]at h1;cases h1
   |_=>simp[Res.block]at hb
  |map b' kvs=>obtain⟨_,_,h1,_⟩:=h;simp[Res.block]at hb;subst hb;rw[hn]at h1;cases h1
  |raw b' o=>obtain⟨h1,_⟩:=h;simp[Res.block]at hb;subst hb;rw[hn]at h1;cases h1
  |know vs xs=>simp[Res.block]at hb
  |iter b' kvs dn=>obtain⟨_,_,_,h1,_⟩:=h;simp[Res.block]at hb;subst hb;rw[hn]at h1;cases h1
theorem Entries.mono {g g':Gh} (hg:g.le g') {es:Array MapEntry} {kvs:List (PV × PV)} (h:Entries g es kvs):Entries g' es kvs:=⟨h.len,fun i h1 h2=>(h.key i h1 h2).mono hg,fun i h1 h2=>(h.val i h1 h2).mono hg⟩
theorem Res.holds_kept {w w':World} {g g':Gh} (hg:g.le g') {r:Res} (h:r.holds w g) (hk: ∀ b,r.block=some b→w'.heap[b]? =w.heap[b]? ∧(∀ o,g'.H b o=g.H b o)∧g'.M b=g.M b):r.holds w' g':=by
 cases r with
 |box b' T' cs'=>obtain⟨us,h1,h2,h3,h4⟩:=h;obtain⟨k1,k2,k3⟩:=hk b' rfl;exact⟨us,by rw[k1];exact h1,h2.mono hg,fun o=>by rw[k2];exact h3 o,by rw[k3];exact h4⟩
 |tok t n sz=>cases t with
  |own b' cap=>obtain⟨us,T',fr,h1,h2,h3,h4,h5,h6⟩:=h;obtain⟨k1,k2,k3⟩:=hk b' rfl;exact⟨us,T',fr,by rw[k1];exact h1,h2,h3,fun o ho=>by rw[k2];exact h4 o ho,by rw[k3];exact h5,h6⟩
  |_=>exact h
 |map b' kvs=>obtain⟨es,c,h1,h2,h3,h4,h5⟩:=h;obtain⟨k1,k2,k3⟩:=hk b' rfl;exact⟨es,c,by rw[k1];exact h1,h2.mono hg,fun o=>by rw[k2];exact h3 o,by rw[k3];exact h4,h5⟩
 |raw b' o=>obtain⟨h1,h3,h4⟩:=h;obtain⟨k1,k2,k3⟩:=hk b' rfl;exact⟨by rw[k1];exact h1,fun o=>by rw[k2];exact h3 o,by rw[k3];exact h4⟩
 |know vs xs=>exact ED.mono hg h
 |iter b' kvs dn=>obtain⟨m,es,c,h1,hr,h2,h3,h4,h5⟩:=h;obtain⟨k1,k2,k3⟩:=hk b' rfl;exact⟨m,es,c,by rw[k1];exact h1,hr.mono hg,h2.mono hg,fun o=>by rw[k2];exact h3 o,by rw[k3];exact h4,h5⟩
theorem Dv.repl {w w':World} {g g':Gh} {r r':Res} {L L':List Res} (hi:Dv w g L) (hrep:sZ r r' L L') (hos:w'.os=w.os) (htp:w'.tape=w.tape) (hout:w'.output=w.output∧w.drawn≤w'.drawn) (hsz:w.heap.size≤w'.heap.size) (hg:g.le g')
  (keep: ∀ k,k < w.heap.size→r.block≠some k→w'.heap[k]? =w.heap[k]?) (hnew: ∀ k,k < w.heap.size→r.block≠some k→(∀ o,g'.H k o=g.H k o)∧g'.M k=g.M k)
  (sat': ∀ b o v,g'.H b o=some v→w'.cell? ⟨b,o,none⟩=some v) (satM': ∀ b es,g'.M b=some es→es.sat w' b) (hr':r'.holds w' g') (hb': ∀ b,r'.block=some b→r.block=some b∨w.heap.size≤b):
  Dv w' g' L'∧Ef (An L) w g w' g'∧De w L L':=by
 obtain⟨A,B,rfl,rfl⟩:=hrep.split
 have hnd:=hi.nodup
 have hne: ∀ s∈A++B,∀ b,s.block=some b→r.block≠some b:=fun s hs b hb e=>by
  simp only[An,Dp,Az,e]at hnd
  rw[EG]at hnd
  obtain⟨n1,n2,n3⟩:=hnd
  rcases Aj.1 hs with hs|hs
  ·exact n3 b (Bz.2 ⟨s,hs,hb⟩) b (by simp) rfl
  ·exact(Bo.1 n2).1 (Bz.2 ⟨s,hs,hb⟩)
 have hmem: ∀ s∈A++B,s∈A++r::B:=fun s hs=>by
  simp only[Aj,AH]at hs ⊢
  rcases hs with h|h
  ·exact .inl h
  ·exact .inr (.inr h)
 have hlt: ∀ s∈A++B,∀ b,s.block=some b→b < w.heap.size:=fun s hs b hb=>Res.holds_lt (hi.res s (hmem s hs)) hb
 have hfm: ∀ s:Res,(An (A++s::B))=An A++(s.block.toList++An B):=fun s=>by
  simp only[An,Dp,Az]
  cases s.block<;>rfl
 refine⟨⟨sat',satM',fun s hs=>?_,?_,hi.glob.mono hg⟩,⟨hos,htp,hout,hsz,fun k hk hn=>keep k hk (fun e=>hn ?_),hg,fun k hk hn=>hnew k hk (fun e=>hn ?_)⟩,fun b hb hl=>?_⟩
 ·have hs':s=r'∨s∈A++B:=by
   simp only[Aj,AH]at hs ⊢
   rcases hs with h|h|h
   ·exact .inr (.inl h)
   ·exact .inl h
   ·exact .inr (.inr h)
  rcases hs' with rfl|hs'
  ·exact hr'
  ·exact Res.holds_kept hg (hi.res s (hmem s hs')) fun b hb=>⟨keep b (hlt s hs' b hb) (hne s hs' b hb),hnew b (hlt s hs' b hb) (hne s hs' b hb)⟩
 ·rw[hfm]
  rw[hfm]at hnd
  cases hrb:r'.block with
  |none=>
   simp only[Option.toList_none,BB]
   exact hnd.sublist (List.Sublist.append (EZ _) (DH _ _))
  |some b=>
   have hAB:(An A++An B).Nodup:=hnd.sublist (List.Sublist.append (EZ _) (DH _ _))
   have hnb: ∀ s∈A++B,s.block≠some b:=fun s hs e=>by
    rcases hb' b hrb with h|h
    ·exact hne s hs b e h
    ·have:=hlt s hs b e;omega
   simp only[Option.toList_some,Mb]
   rw[EG]at hAB ⊢
   obtain⟨n1,n2,n3⟩:=hAB
   refine⟨n1,Bo.2 ⟨fun hm=>?_,n2⟩,fun x hx y hy=>?_⟩
   ·obtain⟨s,hs,e⟩:=Bz.1 hm
    exact hnb s (DW _ hs) e
   ·rcases AH.1 hy with rfl|hy
    ·intro e;subst e
     obtain⟨s,hs,e⟩:=Bz.1 hx
     exact hnb s (E1 _ hs) e
    ·exact n3 x hx y hy
 ·rw[hfm];simp[e]
 ·rw[hfm];simp[e]
 ·rw[hfm]at hb ⊢
  simp only[Aj]at hb ⊢
  rcases hb with h|h|h
  ·exact .inl h
  ·have h:r'.block=some b:=by cases hrb:r'.block<;>simp_all
   rcases hb' b h with e|e
   ·exact .inr (.inl (by simp[e]))
   ·omega
  ·exact .inr (.inr h)
theorem Dv.tok {w:World} {g:Gh} {L:List Res} (hi:Dv w g L) (sz:Nat):Dv w g (.tok .nil 0 sz::L):=
 ⟨hi.sat,hi.satM,fun r hr=>by
  rcases AH.1 hr with rfl|hr
  ·rfl
  ·exact hi.res r hr,hi.nodup,hi.glob⟩
theorem EO {P:Program} {N:Nat} {c:Code} {Q:PPost} {ρ:Env} {L:List Res} (sz:Nat) (h:ER P N c Q ρ (.tok .nil 0 sz::L)):ER P N c Q ρ L:=fun ro base a w g hs=>h ro base a w g ⟨hs.ro,hs.low,hs.agr,hs.inv.tok sz⟩
theorem K0 {sz:Nat}: ∀ {xs:List (List PV)} (_: ∀ e∈xs,e.length=sz) {i j:Nat} (hi:i < xs.length) (hj:j < xs[i].length) (h:i*sz+j < xs.flatten.length),xs.flatten[i*sz+j]=xs[i][j]
 |x::xs,hs,i,j,hi,hj,h=>by
  have hx:x.length=sz:=hs x (by simp)
  cases i with
  |zero=>
   simp only[BL]at hj ⊢
   simp only[Ch]
   rw[BM (by simpa using hj)]
   simp
  |succ i=>
   simp only[DM]at hj ⊢
   simp only[Ch]
   rw[Bu (by rw[hx,C7];omega)]
   have e:(i+1)*sz+j - x.length=i*sz+j:=by rw[hx,C7];omega
   simp only[e]
   exact K0 (fun e he=>hs e (by simp[he])) (by simpa using hi) hj _
theorem Dh {sz:Nat} {xs:List (List PV)} (hs: ∀ e∈xs,e.length=sz):xs.flatten.length=xs.length*sz:=by
 induction xs with
 |nil=>simp
 |cons x xs ih=>simp only[Ch,AA,AL,hs x (by simp),ih (fun e he=>hs e (by simp[he])),C7];omega
theorem VR.slice_cells {g:Gh} {v:Value} {xs:List (List PV)} {t:CC} {sz:Nat} (h:VR g v (.slice xs t)) (hs: ∀ e∈xs,e.length=sz): ∃ base cap,v= .slice base xs.length cap∧xs.length≤cap∧(xs.length≤maxN∧xs.length*sz≤maxN)∧(base=none→xs= []∧cap=0)∧
  (∀ b' cap',t= .own b' cap'→base=some ⟨b',0,none⟩∧cap'=cap)∧(t= .nil→xs= []∧cap=0∧ ∀ a,base=some a→a.spot=none)∧
  ∃ us:List Value,ED g us xs.flatten∧ ∀ a,base=some a→(xs= []∧cap=0∨a.spot=none)∧(∀ j (hj:j < us.length),g.H a.block (a.off+j)=some us[j]):=by
 cases h with
 |nilN o ho=>exact⟨o,0,rfl,by simp,by simp,by simp,by simp,fun _=>⟨rfl,rfl,ho⟩,[],.nil g,fun a e=>⟨.inl ⟨rfl,rfl⟩,by simp⟩⟩
 |nilR=>exact⟨_,0,rfl,by simp,by simp,by simp,by simp,by simp,[],.nil g,fun a e=>⟨.inl ⟨rfl,rfl⟩,by simp⟩⟩
 |slice sz' f hl hc hm hs' hH hv ht hn=>
  rename_i b off len cap
  subst hl
  have hm2:xs.length≤maxN∧xs.length*sz≤maxN:=by
   cases xs with
   |nil=>simp
   |cons x xs=>
    have e1:=hs x (by simp)
    have e2:=hs' x (by simp)
    rw[←e1,e2];exact hm
  refine⟨some ⟨b,off,none⟩,cap,rfl,hc,hm2,by simp,fun b' cap' e=>?_,fun e=>absurd e hn,(List.range xs.flatten.length).map f,?_,?_⟩
  ·obtain⟨e1,e2,e3⟩:=ht b' cap' e
   subst e1 e2 e3;exact⟨rfl,rfl⟩
  ·refine⟨by simp,fun k h1 h2=>?_⟩
   have hk:k < xs.length*sz':=by rw[←Dh hs'];exact h2
   have hsz:0 < sz':=by rcases QJ sz' with h|h;(subst h;simp at hk);exact h
   have hi:k / sz' < xs.length:=Y3 (by rw[PN];exact hk)
   have hj:k % sz' < xs[k / sz'].length:=by rw[hs' _ (AB hi)];exact dJ _ hsz
   have e:k / sz'*sz'+k % sz'=k:=by rw[PN];exact Nat.div_add_mod k sz'
   have h3:=hv (k / sz') hi (k % sz') hj
   rw[←K0 hs' hi hj (by rw[e];exact h2)]at h3
   simp only[e]at h3
   simpa using h3
  ·rintro a rfl'
   cases rfl'
   refine⟨.inr rfl,fun j hj=>?_⟩
   have hj':j < xs.length*sz':=by rw[←Dh hs'];simpa using hj
   have hsz:0 < sz':=by rcases QJ sz' with h|h;(subst h;simp at hj');exact h
   have hi:j / sz' < xs.length:=Y3 (by rw[PN];exact hj')
   have e:j / sz'*sz'+j % sz'=j:=by rw[PN];exact Nat.div_add_mod j sz'
   have:=hH (j / sz') (j % sz') hi (dJ _ hsz)
   rw[E9,e]at this
   simpa using this
theorem VR.of_cells {g:Gh} {xs:List (List PV)} {t:CC} {sz b off cap:Nat} (hs: ∀ e∈xs,e.length=sz) (hc:xs.length≤cap) (hm:xs.length≤maxN∧xs.length*sz≤maxN) {us:List Value} (hus:ED g us xs.flatten) (hH: ∀ j (hj:j < us.length),g.H b (off+j)=some us[j])
  (ht: ∀ b' cap',t= .own b' cap'→b'=b∧cap'=cap∧off=0) (hn:t≠ .nil):VR g (.slice (some ⟨b,off,none⟩) xs.length cap) (.slice xs t):=by
 have hlen:us.length=xs.length*sz:=by rw[hus.len,Dh hs]
 have hix: ∀ i j,i < xs.length→j < sz→i*sz+j < us.length:=fun i j hi hj=>by
  rw[hlen]
  calc i*sz+j < i*sz+sz:=by omega
   _=(i+1)*sz:=by rw[C7];omega
   _≤xs.length*sz:=B6 _ (by omega)
 refine .slice sz (fun k=>us.getD k undef) rfl hc hm hs (fun i j hi hj=>?_) (fun i hi j hj=>?_) ht hn
 ·have hk:=hix i j hi hj
  rw[E9,hH _ hk]
  simp[List.getD,hk]
 ·have hk:=hix i j hi (by rw[←hs _ (AB hi)];exact hj)
  have:=hus.at_ _ hk (by rw[←hus.len];exact hk)
  rw[K0 hs hi hj]at this
  simpa [List.getD,hk]using this
class Gf (P:Program) (T:Nat) (sz bytes:outParam Nat):Prop where
 out: ∃ E i z,P.underlying T=some (.slice E)∧P.info? E=some i∧i.size=sz∧i.bytes=bytes∧i.zero=some z∧z.cells.size=sz∧bytes≠0∧(sz≠0∧sz≤bytes)
theorem W6 (newLen:Nat): ∀ (r c:Nat),256≤newLen→c≤newLen→Builtin.growBy newLen r c≤2*newLen
 |0,c,_,h=>by unfold Builtin.growBy;omega
 |r+1,c,h0,h=>by
  unfold Builtin.growBy
  split
  ·omega
  ·rcases B8 (c+(c+768) / 4) newLen with h'|h'
   ·exact W6 newLen r _ h0 (by omega)
   ·cases r with
    |zero=>unfold Builtin.growBy;omega
    |succ r=>unfold Builtin.growBy;rw[if_pos h'];omega
theorem IU {need cap:Nat} (h:cap < need):Builtin.nextslicecap need cap≤2*need:=by
 unfold Builtin.nextslicecap
 split
 ·omega
 ·split
  ·omega
  ·exact W6 need 4 cap (by omega) (by omega)
theorem J2 {P:Program} {w:World} {b o:Nat} {s:Option Nat} {us:List Value} (hs:us= []∨s=none) (h: ∀ j (hj:j < us.length),w.cell? ⟨b,o+j,none⟩=some us[j]):(loadCells ⟨b,o,s⟩ us.length).run P w= .ok us.toArray w:=by
 rcases hs with rfl|rfl
 ·rfl
 ·exact FS h
theorem Wt {g:Gh} {us:List Value} {xs:List (List PV)} (h:ED g us xs.flatten) (h0:xs= []):us= []:=by
 subst h0
 exact BN (by simpa using h.len)
theorem UZ {P:Program} {w:World} {g:Gh} {L:List Res} (hi:Dv w g L) {base:Option Addr} {n cap sz:Nat} {us:List Value} (hl:us.length=n*sz) (h0:base=none→us= [])
  (hus: ∀ a,base=some a→(us= []∨a.spot=none)∧(∀ j (hj:j < us.length),g.H a.block (a.off+j)=some us[j])):(Builtin.firstCells sz n (.slice base n cap)).run P w= .ok us.toArray w:=by
 cases base with
 |none=>rw[h0 rfl];rfl
 |some a=>
  obtain⟨b,o,s⟩:=a
  obtain⟨hs,hH⟩:=hus _ rfl
  show(loadCells _ (n*sz)).run P w=_
  rw[←hl]
  exact J2 hs fun j hj=>hi.sat _ _ _ (hH j hj)
def Gh.lay (g:Gh) (b from_:Nat) (us:List Value):Gh:={ g with H:=fun b' o=>if b'=b∧from_≤o∧o < from_+us.length then us[o - from_]? else g.H b' o }
theorem Gh.lay_in {g:Gh} {b from_:Nat} {us:List Value} {j:Nat} (hj:j < us.length):(g.lay b from_ us).H b (from_+j)=some us[j]:=by
 simp only[Gh.lay]
 rw[if_pos ⟨trivial,by omega,by omega⟩]
 simp[hj]
theorem Gh.lay_out {g:Gh} {b from_:Nat} {us:List Value} {b' o:Nat} (h: ¬(b'=b∧from_≤o∧o < from_+us.length)):(g.lay b from_ us).H b' o=g.H b' o:=by
 simp only[Gh.lay]
 rw[if_neg h]
theorem Gh.le_lay {g:Gh} {b from_:Nat} {us:List Value} (h: ∀ o,from_≤o→g.H b o=none):g.le (g.lay b from_ us):=by
 refine⟨fun b' o v hv=>?_,fun _ _ h=>h⟩
 rw[Gh.lay_out]
 ·exact hv
 ·rintro⟨rfl,h1,_⟩
  rw[h o h1]at hv;cases hv
theorem U1 {P:Program} {T T₂ E₂ sz bytes:Nat} [hT:Gf P T sz bytes] [hT₂:Ma P T₂ E₂] {x y:Operand} {dst:Option Nat} {ty:TypeId} {pos:String} {af:Array Edge} {gd:Option (Nat × Bool)} {ρ:Env} {L:List Res} {L':CC→List Res}
  {xs ys:List (List PV)} {t u:CC} (hx:ρ.ev x= .slice xs t) (hy:ρ.ev y= .slice ys u) (hxs: ∀ e∈xs,e.length=sz) (hys: ∀ e∈ys,e.length=sz) (hfl: ∀ e∈ys,KJ e) (hb:(xs.length+ys.length)*bytes≤2 ^ 47) (hm:xs.length+ys.length≤maxN)
  (hrep: ∀ t',sZ (.tok t xs.length sz) (.tok t' (xs.length+ys.length) sz) L (L' t')) {Ψ:PV→List Res→Prop} (k: ∀ t',Ψ (.slice (xs++ys) t') (L' t')):
  Fk P ⟨dst,.call { callee:= .builtin .append,args:= #[x,y],argTypes:= #[T,T₂] },ty,pos,af,gd⟩ ρ L Ψ:=by
 intro a w g ha hi
 obtain⟨E,i,z,t1,t2,t3,t4,t5,t6,t7,t8⟩:=hT.out
 have h1:=ha x (by simp[Op.operands,Call.operands]);rw[hx]at h1
 have h2:=ha y (by simp[Op.operands,Call.operands]);rw[hy]at h2
 obtain⟨base,cap,e1,hcap,hmx,hnone,hown,hnil,us,hus,hcell⟩:=h1.slice_cells hxs
 obtain⟨base',cap',e2,hcap',_,hnone',_,_,vs,hvs,hcell'⟩:=h2.slice_cells hys
 have hmm:(xs++ys).length≤maxN∧(xs++ys).length*sz≤maxN:=by
  rw[AA]
  exact⟨hm,Cz (K3 _ t8.2) hb⟩
 have hul:us.length=xs.length*sz:=by rw[hus.len,Dh hxs]
 have hvl:vs.length=ys.length*sz:=by rw[hvs.len,Dh hys]
 have hflat: ∀ v∈vs,v.oneCell'=true:=hvs.one (fun c hc=>by
  obtain⟨e,he,hce⟩:=EB.1 hc
  exact hfl e he c hce)
 have hxy: ∀ e∈xs++ys,e.length=sz:=fun e he=>by
  rcases Aj.1 he with h|h
  ·exact hxs e h
  ·exact hys e h
 have huv:ED g (us++vs) (xs++ys).flatten:=by rw[CG];exact hus.append hvs
 have he:execOp a.eval ⟨dst,.call { callee:= .builtin .append,args:= #[x,y],argTypes:= #[T,T₂] },ty,pos,af,gd⟩=(do pure (.value (←Builtin.append_ #[T,T₂] ty (#[x,y].map a.eval)))):=rfl
 have hsz:(sizeOf E).run P w= .ok sz w:=by unfold sizeOf typeInfo;simp[t2,t3]
 have hfy:(Builtin.firstCells sz ys.length (.slice base' ys.length cap')).run P w= .ok vs.toArray w:=UZ hi hvl (fun e=>by
  obtain⟨e3,_⟩:=hnone' e
  subst e3
  simpa using hvl) (fun a e=>⟨(hcell' a e).1.imp_left fun h=>Wt hvs h.1,(hcell' a e).2⟩)
 have hti: ∀ w,(typeInfo E).run P w= .ok i w:=fun w=>by unfold typeInfo;simp[t2]
 obtain⟨A,B,hL,_⟩:=(hrep t).split
 have htok:=hi.res (.tok t xs.length sz) (by rw[hL];simp)
 by_cases hroom:xs.length+ys.length≤cap
 ·
  cases t with
  |ro=>exact htok.elim
  |nil=>
   obtain⟨hx0,hc0,hsp⟩:=hnil rfl
   subst hx0 hc0
   simp only[Af,BC,Nat.le_zero]at hroom
   have hy0:ys= []:=BN hroom
   subst hy0
   have hr:(execOp a.eval ⟨dst,.call { callee:= .builtin .append,args:= #[x,y],argTypes:= #[T,T₂] },ty,pos,af,gd⟩).run P w= .ok (.value (.slice base 0 0)) w:=by
    have hv0:vs= []:=BN (by simpa using hvl)
    subst hv0
    rw[he]
    simp only[Af]at hfy
    simp[Builtin.append_,e1,e2,run_underlying t1,run_underlying hT₂.out,sizeOf,typeInfo,t2,t3,Builtin.lenOf,hfy]
    cases base<;>simp[storeCells]
   have key:=hi.repl (hrep .nil) rfl rfl ⟨rfl,Ak _⟩ (Ak _) (.refl g) (fun _ _ _=>rfl) (fun _ _ _=>⟨fun _=>rfl,rfl⟩) hi.sat hi.satM rfl (by simp[Res.block])
   refine Oper.wq_of_run hr ?_
   exact⟨_,_,g,_,rfl,.nilN base hsp,key.1,key.2.1,key.2.2,k .nil⟩
  |own b c=>
   obtain⟨hbase,rfl⟩:=hown b c rfl
   subst hbase
   obtain⟨cs,T',fr,hbk,hcs,hle,hfree,hMb,hfr⟩:=htok
   have hblt:b < w.heap.size:=(BH.1 hbk).1
   have hbk':w.heap[b]? =some (.cells cs.toList.toArray T' fr):=by simpa using hbk
   obtain⟨w',hrun,hb',hos,htp,hout,hsz',hkk⟩:=NX (P:=P) vs w cs.toList (xs.length*sz) 0 hbk' (by
    simp only[Cb,hcs,hvl,Dt];rw[←C7];exact B6 _ hroom) (by simpa using hfr) hflat
   have hr:(execOp a.eval ⟨dst,.call { callee:= .builtin .append,args:= #[x,y],argTypes:= #[T,T₂] },ty,pos,af,gd⟩).run P w= .ok (.value (.slice (some ⟨b,0,none⟩) (xs.length+ys.length) c)) w':=by
    rw[he]
    simp[Builtin.append_,e1,e2,run_underlying t1,run_underlying hT₂.out,sizeOf,typeInfo,t2,t3,Builtin.lenOf,hroom,hfy,Dr,hrun]
   have hcell2: ∀ o v,g.H b o=some v→w'.cell? ⟨b,o,none⟩=some v:=fun o v hv=>by
    have hlt:o < xs.length*sz:=by
     rcases B8 o (xs.length*sz)with h|h
     ·exact h
     ·rw[hfree o h]at hv;cases hv
    have h3:=hi.sat b o v hv
    simp only[World.cell?,hbk]at h3
    simp only[World.cell?,hb']
    simp at h3 ⊢
    rw[CF (by rw[Aa,Cb (xs:=cs),hcs,DP (B6 _ hle)];exact hlt),Fh,if_pos hlt]
    simpa using h3
   have key:=hi.repl (g':=g.lay b (xs.length*sz) vs) (hrep (.own b c)) hos htp hout (EF hsz'.symm) (Gh.le_lay hfree) (fun k hk hn=>hkk k (fun e=>hn (by simp[Res.block,e]))) (fun k hk hn=>⟨fun o=>Gh.lay_out (fun h=>hn (by simp[Res.block,h.1])),rfl⟩)
    (fun b₂ o v hv=>by
     by_cases hin:b₂=b∧xs.length*sz≤o∧o < xs.length*sz+vs.length
     ·obtain⟨rfl,h3,h4⟩:=hin
      obtain⟨j,rfl⟩: ∃ j,o=xs.length*sz+j:=⟨o - xs.length*sz,by omega⟩
      have hj:j < vs.length:=by omega
      rw[Gh.lay_in hj]at hv
      cases hv
      have hlt:(cs.toList.take (xs.length*sz)).length=xs.length*sz:=by
       rw[Aa,Cb (xs:=cs),hcs,DP (B6 _ hle)]
      simp only[World.cell?,hb',Dt]
      simp only[CX,BQ,if_false,VP,AV]
      rw[EI (by rw[hlt];omega),hlt,CF (by omega)]
      simp[hj]
     ·rw[Gh.lay_out hin]at hv
      by_cases hb2:b₂=b
      ·subst hb2;exact hcell2 o v hv
      ·have:=hi.sat b₂ o v hv
       simp only[World.cell?]at this ⊢
       rw[hkk b₂ hb2];exact this)
    (fun b₂ es hM=>by
     have hM':g.M b₂=some es:=hM
     have hne:b₂≠b:=fun e=>by rw[e,hMb]at hM';cases hM'
     exact(hi.satM b₂ es hM').congr (hkk b₂ hne))
    ⟨_,T',fr,hb',by
     have h3:=B6 sz hroom
     have h4:=B6 sz hle
     rw[C7]at h3
     simp only[Cg,AA,Aa,B4,Cb,hcs,hvl,Dt,DP h4];omega,hroom,fun o ho=>by
     rw[Gh.lay_out (by rintro⟨_,_,h3⟩;rw[C7]at ho;omega)]
     exact hfree o (by rw[C7]at ho;omega),hMb,hfr.imp_right fun h=>by
     have h3:=B6 sz hroom
     have h4:=B6 sz hle
     rw[C7]at h3
     simp only[Cg,AA,Aa,B4,Cb,hcs,hvl,Dt,DP h4]at h ⊢;omega⟩ (fun b₂ hb₂=> .inl hb₂)
   refine Oper.wq_of_run hr ?_
   refine⟨_,.slice (xs++ys) (.own b c),_,_,rfl,?_,key.1,key.2.1,key.2.2,k _⟩
   have:=VR.of_cells (g:=g.lay b (xs.length*sz) vs) (xs:=xs++ys) (t:= .own b c) (sz:=sz) (b:=b) (off:=0) (cap:=c) hxy (by simpa using hroom) hmm (us:=us++vs) (huv.mono (Gh.le_lay hfree)) (fun j hj=>by
    rw[BC]
    by_cases hju:j < us.length
    ·rw[BM hju]
     have:=(hcell _ rfl).2 j hju
     simp only[BC]at this
     exact(Gh.le_lay hfree).H _ _ _ this
    ·rw[Bu (by omega)]
     have hj2:j - us.length < vs.length:=by simp at hj;omega
     have:=Gh.lay_in (g:=g) (b:=b) (from_:=xs.length*sz) hj2
     rw[show xs.length*sz+(j - us.length)=j by omega]at this
     exact this) (fun b' cap' e=>by cases e;exact⟨rfl,rfl,rfl⟩) (by simp)
   simpa using this
 ·
  have hgrow:cap < xs.length+ys.length:=by omega
  have hcapb:Builtin.nextslicecap (xs.length+ys.length) cap*bytes≤2 ^ 48:=by
   calc Builtin.nextslicecap (xs.length+ys.length) cap*bytes≤(2*(xs.length+ys.length))*bytes:=B6 _ (IU hgrow)
    _=2*((xs.length+ys.length)*bytes):=by rw[yW]
    _≤2*2 ^ 47:=K3 _ hb
    _=2 ^ 48:=by decide
  have hfx: ∀ w',(∀ b o v,g.H b o=some v→w'.cell? ⟨b,o,none⟩=some v)→(Builtin.firstCells sz xs.length (.slice base xs.length cap)).run P w'= .ok us.toArray w':=fun w' hs'=>by
   cases base with
   |none=>
    obtain⟨e3,_⟩:=hnone rfl
    subst e3
    have:us= []:=BN (by simpa using hul)
    subst this;rfl
   |some ad=>
    obtain⟨b,o,s⟩:=ad
    obtain⟨hs,hH⟩:=hcell _ rfl
    show(loadCells _ (xs.length*sz)).run P w'=_
    rw[←hul]
    exact J2 (hs.imp_left fun h=>Wt hus h.1) fun j hj=>hs' _ _ _ (hH j hj)
  have hfy': ∀ w',(∀ b o v,g.H b o=some v→w'.cell? ⟨b,o,none⟩=some v)→(Builtin.firstCells sz ys.length (.slice base' ys.length cap')).run P w'= .ok vs.toArray w':=fun w' hs'=>by
   cases base' with
   |none=>
    obtain⟨e3,_⟩:=hnone' rfl
    subst e3
    have:vs= []:=BN (by simpa using hvl)
    subst this;rfl
   |some ad=>
    obtain⟨b,o,s⟩:=ad
    obtain⟨hs,hH⟩:=hcell' _ rfl
    show(loadCells _ (ys.length*sz)).run P w'=_
    rw[←hvl]
    exact J2 (hs.imp_left fun h=>Wt hvs h.1) fun j hj=>hs' _ _ _ (hH j hj)
  have hn: ¬(xs.length+ys.length≤cap):=by omega
  have h63': ¬(9223372036854775807 < ((xs.length:Int)+(ys.length:Int))):=by have:maxN=140737488355328:=rfl;omega
  have h48': ¬(281474976710656 < Builtin.nextslicecap (xs.length+ys.length) cap*i.bytes):=by rw[t4];have:(2:Nat) ^ 48=281474976710656:=by decide
                                                                                             omega
  let nc:=grownCap w (xs.length+ys.length) cap E
  have hnc:xs.length+ys.length≤nc:=grownCap_ge w _ _ _
  have f1:=hfx w.drew hi.sat
  have f2:=hfy' w.drew hi.sat
  have hr:(execOp a.eval ⟨dst,.call { callee:= .builtin .append,args:= #[x,y],argTypes:= #[T,T₂] },ty,pos,af,gd⟩).run P w=
    .ok (.value (.slice (some ⟨w.heap.size,0,none⟩) (xs.length+ys.length) nc)) (w.drew.alloc (.cells ((us++vs).toArray++Builtin.zeroCells z.cells (nc - (xs.length+ys.length))) E (0,0))):=by
   rw[he]
   simp[Builtin.append_,e1,e2,run_underlying t1,run_underlying hT₂.out,sizeOf,typeInfo,zeroValue,t2,t3,t5,Builtin.lenOf,hn,h63',h48',Question.forced,f1,f2,newRow,grownCap,nc]
   congr 2
   apply QL
   simp[AV]
  have hH0: ∀ o,g.H w.heap.size o=none:=fun o=>by
   cases h:g.H w.heap.size o with
   |none=>rfl
   |some v=>have:=hi.sat _ _ _ h;simp[World.cell?]at this
  have hM0:g.M w.heap.size=none:=by
   cases h:g.M w.heap.size with
   |none=>rfl
   |some v=>exact absurd (hi.satM _ _ h).lt (Fo _)
  have hle:=Gh.le_lay (g:=g) (b:=w.heap.size) (from_:=0) (us:=us++vs) (fun o _=>hH0 o)
  have hget: ∀ (o:Obj) b,b < w.heap.size→(w.heap.push o)[b]? =w.heap[b]?:=fun o b hb=>by
   rw[Hq,if_neg (by omega)]
  have hget2: ∀ (o:Obj) b,b < w.heap.size→(w.drew.alloc o).heap[b]? =w.heap[b]?:=fun o b hb=>hget o b hb
  have hlast: ∀ (o:Obj),(w.drew.alloc o).heap[w.heap.size]? =some o:=fun o=>by show(w.heap.push o)[w.heap.size]? =_;simp
  have hlen:(us++vs).length=(xs.length+ys.length)*sz:=by rw[AA,hul,hvl,C7]
  have key:=hi.repl (w':=w.drew.alloc (.cells ((us++vs).toArray++Builtin.zeroCells z.cells (nc - (xs.length+ys.length))) E (0,0))) (g':=g.lay w.heap.size 0 (us++vs)) (hrep (.own w.heap.size nc)) rfl rfl ⟨rfl,RR _⟩ (by simp) hle
   (fun k hk _=>hget _ k hk) (fun k hk _=>⟨fun o=>Gh.lay_out (fun h=>by have:=h.1;omega),rfl⟩)
   (fun b₂ o v hv=>by
    by_cases hin:b₂=w.heap.size∧0≤o∧o < 0+(us++vs).length
    ·obtain⟨rfl,_,h4⟩:=hin
     have hj:o < (us++vs).length:=by omega
     have:=Gh.lay_in (g:=g) (b:=w.heap.size) (from_:=0) hj
     rw[BC,hv]at this
     cases this
     simp only[World.cell?,hlast,CX,BQ,if_false]
     rw[FJ (by simpa using hj)]
     simp[hj]
    ·rw[Gh.lay_out hin]at hv
     have h3:=hi.sat b₂ o v hv
     have hb2:b₂ < w.heap.size:=by
      rcases B8 b₂ w.heap.size with h'|h'
      ·exact h'
      ·simp[World.cell?,Bm h']at h3
     simp only[World.cell?]at h3 ⊢
     rw[hget2 _ b₂ hb2];exact h3)
   (fun b₂ es hM=>by
    exact(hi.satM b₂ es hM).congr (hget2 _ b₂ (hi.satM b₂ es hM).lt))
   ⟨(us++vs).toArray++Builtin.zeroCells z.cells (nc - (xs.length+ys.length)),E,(0,0),hlast _,by
    rw[Array.size_append,size_zeroCells,t6,Cg,hlen,←C7]
    congr 1;omega,hnc,fun o ho=>by
    rw[Gh.lay_out (fun h=>by have:=h.2.2;rw[hlen]at this;omega)]
    exact hH0 o,hM0,.inl (Ak _)⟩ (fun b₂ hb₂=> .inr (by simp[Res.block]at hb₂;omega))
  refine Oper.wq_of_run hr ?_
  refine⟨_,.slice (xs++ys) (.own w.heap.size nc),_,_,rfl,?_,key.1,key.2.1,key.2.2,k _⟩
  have:=VR.of_cells (g:=g.lay w.heap.size 0 (us++vs)) (xs:=xs++ys) (t:= .own w.heap.size nc) (sz:=sz) (b:=w.heap.size) (off:=0) (cap:=nc) hxy (by simpa using hnc) hmm (us:=us++vs) (huv.mono hle) (fun j hj=>Gh.lay_in hj) (fun b' cap' e=>by cases e;exact⟨rfl,rfl,rfl⟩) (by simp)
  simpa using this
abbrev Str:=List UInt8
def sB (s:Str):ByteArray:=⟨s.toArray⟩
@[simp] theorem Qb (s:Str):(sB s).size=s.length:=by simp[sB,ByteArray.size]
@[simp] theorem Om (s:Str):(sB s).toList=s:=by rw[ByteArray.toList_eq];simp[sB]
def eS (s:Str):List PV:= [.str s]
def eI (n:Int):List PV:= [.raw (.int .i64 n)]
def eB (b:Bool):List PV:= [.raw (.bool b)]
instance :NS eS 1:=⟨fun _=>rfl⟩
instance :NS eI 1:=⟨fun _=>rfl⟩
class K8 {α:Type} (f:α→List PV):Prop where
 out: ∀ a,KJ (f a)
instance :K8 eI:=⟨fun _=>FM rfl HS⟩
instance :K8 eDig:=⟨fun d=>(inferInstance:Dx (eDig d)).out⟩
instance :K8 eIdent:=⟨fun d=>(inferInstance:Dx (eIdent d)).out⟩
def Dn (x:PV) (cs:List PV):Prop:= ∀ g v,VR g v x→ ∃ us:List Value,v.cells=us.toArray∧ED g us cs
theorem Dn.agg (cs:List PV):Dn (.agg cs) cs:=fun g v h=>by
 obtain⟨vs,rfl,h2⟩:=h.agg_inv
 exact⟨vs,rfl,h2⟩
theorem Dn.one {c:PV} (hf:KJ [c]):Dn c [c]:=fun g v hv=>by
 obtain⟨h1,h2,h3,h4⟩:=hf c (by simp)
 have h1:=hv.one h1 h2 h3 h4
 refine⟨[v],?_,.cons hv (.nil g)⟩
 cases v<;>first|rfl|cases h1
theorem VR.ro {g:Gh} {v:Value} {xs:List (List PV)} {t:CC} (h:VR g v (.slice xs t)):VR g v (.slice xs .ro):=by
 cases h with
 |nilN o ho=>exact .nilR
 |nilR=>exact .nilR
 |slice sz f hl hc hm hs hH hv ht hn=>exact .slice sz f hl hc hm hs hH hv (by simp) (by simp)
theorem Dn.ro (xs:List (List PV)) (t:CC):Dn (.slice xs t) [.slice xs .ro]:=fun g v hv=>by
 refine⟨[v],?_,.cons hv.ro (.nil g)⟩
 cases hv<;>rfl
section
variable {P:Program} {N:Nat} {all:Array Oper} {K:Env→List Res→Prop} {fl:List Bool} {os:List Oper} {ρ:Env} {L:List Res}
variable {d:Nat} {ty:TypeId} {pos:String} {af:Array Edge}
theorem Iw {T T₂ E₂ sz bytes:Nat} [hT:Gf P T sz bytes] [hT₂:Ma P T₂ E₂] {x y:Operand} {L':CC→List Res} {α:Type} {f:α→List PV} [hf:NS f sz] [hff:K8 f] {l m:List α} {t u:CC}
  (hx:ρ.ev x= .slice (l.map f) t) (hy:ρ.ev y= .slice (m.map f) u) (hb:(l.length+m.length)*bytes≤140737488355328) (hm:l.length+m.length≤140737488355328) (hrep: ∀ t',sZ (.tok t l.length sz) (.tok t' (l++m).length sz) L (L' t'))
  (k: ∀ t',AU P N all K fl.tail os (CU ρ d (.slice ((l++m).map f) t')) (L' t')) (hd:Nat.blt d N=true:=by rfl) (hfl:fl.headD true=true:=by rfl):
  AU P N all K fl (⟨some d,.call { callee:= .builtin .append,args:= #[x,y],argTypes:= #[T,T₂] },ty,pos,af,none⟩::os) ρ L:=
 Dd rfl (Ph hd) hfl (U1 hx hy (fun e he=>by obtain⟨a,_,rfl⟩:=AQ.1 he;exact hf.out a) (fun e he=>by obtain⟨a,_,rfl⟩:=AQ.1 he;exact hf.out a) (fun e he=>by obtain⟨a,_,rfl⟩:=AQ.1 he;exact hff.out a)
  (by simpa using hb) (by simp only[AR];exact hm) (fun t'=>by simpa using hrep t') (fun t'=>by simpa using k t'))
theorem Dv.lay {w:World} {g:Gh} (hi:Dv w g L) (us:List Value) (E:TypeId):
  Dv { w with heap:=w.heap.push (.cells us.toArray E (0,0)) } (g.lay w.heap.size 0 us) L∧Ef (An L) w g { w with heap:=w.heap.push (.cells us.toArray E (0,0)) } (g.lay w.heap.size 0 us)∧g.le (g.lay w.heap.size 0 us):=by
 have hH0: ∀ o,g.H w.heap.size o=none:=fun o=>by
  cases h:g.H w.heap.size o with
  |none=>rfl
  |some v=>have:=hi.sat _ _ _ h;simp[World.cell?]at this
 have hle:=Gh.le_lay (g:=g) (b:=w.heap.size) (from_:=0) (us:=us) (fun o _=>hH0 o)
 have hget: ∀ b,b < w.heap.size→(w.heap.push (Obj.cells us.toArray E (0,0)))[b]? =w.heap[b]?:=fun b hb=>by
  rw[Hq,if_neg (by omega)]
 have key:=(hi.tok 0).repl (w':={ w with heap:=w.heap.push (.cells us.toArray E (0,0)) }) (g':=g.lay w.heap.size 0 us) (r':= .tok .nil 0 0) .here rfl rfl ⟨rfl,Ak _⟩ (by simp) hle (fun k hk _=>hget k hk) (fun k hk _=>⟨fun o=>Gh.lay_out (fun h=>by have:=h.1;omega),rfl⟩)
  (fun b₂ o v hv=>by
   by_cases hin:b₂=w.heap.size∧0≤o∧o < 0+us.length
   ·obtain⟨rfl,_,h4⟩:=hin
    have hj:o < us.length:=by omega
    have:=Gh.lay_in (g:=g) (b:=w.heap.size) (from_:=0) hj
    rw[BC,hv]at this
    cases this
    simp[World.cell?,hj]
   ·rw[Gh.lay_out hin]at hv
    have h3:=hi.sat b₂ o v hv
    have hb2:b₂ < w.heap.size:=by
     rcases B8 b₂ w.heap.size with h'|h'
     ·exact h'
     ·simp[World.cell?,Bm h']at h3
    simp only[World.cell?]at h3 ⊢
    rw[hget b₂ hb2];exact h3)
  (fun b₂ es hM=>by
   exact(hi.satM b₂ es hM).congr (hget b₂ (hi.satM b₂ es hM).lt)) rfl (by simp[Res.block])
 exact⟨key.1.sub (EP _ _),key.2.1,hle⟩
theorem QW: ∀ (us:List Value) (cs:List Value) (off i:Nat),off+i+us.length≤cs.length→
  ((us.zipIdx i).foldl (fun(cs:Array Value) (p:Value × Nat)=>cs.setIfInBounds (off+p.2) p.1) cs.toArray)=(cs.take (off+i)++us++cs.drop (off+i+us.length)).toArray
 | [],cs,off,i,h=>by simp
 |u::us,cs,off,i,h=>by
  simp only[AL]at h
  simp only[List.zipIdx_cons,Bp,List.setIfInBounds_toArray]
  rw[QW us (cs.set (off+i) u) off (i+1) (by simp;omega)]
  congr 1
  rw[show off+(i+1)=off+i+1 by omega,List.take_set,List.drop_set_of_lt (by omega),A7 (by omega:off+i < cs.length),List.set_append]
  simp only[Aa,DP (by omega:off+i≤cs.length),Fo,if_false,Nat.sub_self,dK,AV,B3,BB,AL]
  rw[show off+i+1+us.length=off+i+(us.length+1) by omega]
theorem WG {place:Nat→Option (Nat × Nat)} {cs:List Value} {i off size:Nat} {v:Value} {us:List Value} {rest:List (Nat × Value)} (hp:place i=some (off,size)) (hv:v.cells=us.toArray) (hs:us.length=size) (hl:off+us.length≤cs.length):
  Instr.fill place cs.toArray ((i,v)::rest)=Instr.fill place (cs.take off++us++cs.drop (off+us.length)).toArray rest:=by
 simp only[Instr.fill,hp,hv]
 rw[if_neg (by simp;omega)]
 congr 1
 have:=QW us cs off 0 (by omega)
 simp only[Dt]at this
 rw[←this]
 rw[←Array.foldl_toList]
 simp
theorem OH {sz:Nat}: ∀ (vs:List (List Value)) (xs:List Value) (k:Nat) (cs:List Value),xs.length=vs.length→(∀ i (h1:i < xs.length) (h2:i < vs.length),xs[i].cells=vs[i].toArray∧vs[i].length=sz)→cs.length=(k+vs.length)*sz→
  Instr.fill (fun i=>some (i*sz,sz)) cs.toArray ((xs.zipIdx k).map fun p=>(p.2,p.1))=some (cs.take (k*sz)++vs.flatten).toArray
 | [],[],k,cs,_,_,hl=>by simp[Instr.fill,AF (show cs.length≤k*sz by simp at hl;omega)]
 | [],_::_,_,_,h,_,_=>by simp at h
 |_::_,[],_,_,h,_,_=>by simp at h
 |v::vs,x::xs,k,cs,h,hv,hl=>by
  obtain⟨h1,h2⟩:=hv 0 (by simp) (by simp)
  simp only[BL]at h1 h2
  simp only[AL,C7,nS]at hl
  simp only[List.zipIdx_cons,Ar]
  rw[WG rfl h1 h2 (by omega)]
  rw[OH vs xs (k+1) _ (by simpa using h) (fun i h3 h4=>hv (i+1) (by simpa using h3) (by simpa using h4)) (by simp only[AA,Aa,B4];rw[C7,C7];omega)]
  congr 2
  rw[C7,nS,AV,List.take_append,Aa,DP (by omega)]
  rw[AF (by simp;omega),show k*sz+sz - k*sz=v.length by omega,List.take_append,EA]
  simp
theorem Uo {T n:Nat} {xs:List Operand} {i:Nat} (h:i < xs.length):xs[i]∈(Op.buildSlice T n ((xs.zipIdx.map fun p=>(p.2,p.1)).toArray)).operands:=by
 have e:(Op.buildSlice T n ((xs.zipIdx.map fun p=>(p.2,p.1)).toArray)).operands=xs.toArray:=by
  unfold Op.operands
  simp only[CR]
  congr 1
  have:((fun(x:Nat × Operand)=>x.2) ∘ fun(p:Operand × Nat)=>(p.2,p.1))=Prod.fst:=by funext p;rfl
  rw[this,aj]
 rw[e];simp
theorem Rm {T n sz by_:Nat} [hE:Gf P T sz by_] {xs:List Operand} {cs:List (List PV)} {dst:Option Nat} {gd:Option (Nat × Bool)} (hn:xs.length=n) (hl:cs.length=n) (h24:n*sz≤16777216) (hm:n≤maxN)
  (hx: ∀ i (h1:i < xs.length) (h2:i < cs.length),Dn (ρ.ev xs[i]) cs[i]∧cs[i].length=sz):ie P ⟨dst,.buildSlice T n ((xs.zipIdx.map fun p=>(p.2,p.1)).toArray),ty,pos,af,gd⟩ ρ L (.slice cs .ro):=by
 intro a w g ha hi
 obtain⟨E,i,z,t1,t2,t3,t4,t5,t6,t7,t8⟩:=hE.out
 have hcell: ∀ i,i < n→ ∃ us:List Value,(∀ (h1:i < xs.length),(a.eval xs[i]).cells=us.toArray)∧(∀ (h2:i < cs.length),ED g us cs[i]):=fun i h1=>by
  obtain⟨us,e1,e2⟩:=(hx i (by omega) (by omega)).1 g _ (ha xs[i] (Uo (by omega)))
  exact⟨us,fun _=>e1,fun _=>e2⟩
 let F:Nat→List Value:=fun i=>by classical exact if h:i < n then Classical.choose (hcell i h)else []
 have hF: ∀ i (h:i < n),(∀ (h1:i < xs.length),(a.eval xs[i]).cells=(F i).toArray)∧(∀ (h2:i < cs.length),ED g (F i) cs[i]):=fun i h=>by
  have:=Me (hcell i h)
  simp only[F,dif_pos h];exact this
 let vs:List (List Value):=(List.range n).map F
 have hvl:vs.length=n:=by simp[vs]
 have hvi: ∀ i (h:i < vs.length),vs[i]=F i:=fun i h=>by simp[vs]
 have hFl: ∀ i,i < n→(F i).length=sz:=fun i h=>by rw[((hF i h).2 (by omega)).len,(hx i (by omega) (by omega)).2]
 have hflat:ED g vs.flatten cs.flatten:=by
  have: ∀ m,m≤n→ED g (vs.take m).flatten (cs.take m).flatten:=by
   intro m
   induction m with
   |zero=>intro _;simp;exact .nil g
   |succ m ih=>
    intro hm'
    rw[A7 (by omega:m < vs.length),A7 (by omega:m < cs.length),CG,CG]
    refine(ih (by omega)).append ?_
    simp only[Ch,mq,BW,hvi]
    exact(hF m (by omega)).2 (by omega)
  have:=this n (Ak _)
  rwa [AF (by omega),AF (by omega)]at this
 have hcs: ∀ e∈cs,e.length=sz:=fun e he=>by
  obtain⟨j,hj,rfl⟩:=AY.1 he
  exact(hx j (by omega) hj).2
 have hparts:(((xs.zipIdx.map fun p=>(p.2,p.1)).toArray).map fun(p:Nat × Operand)=>(p.1,a.eval p.2)).toList=((xs.map a.eval).zipIdx 0).map fun p=>(p.2,p.1):=by
  simp only[Hx,CR]
  rw[qn,CR]
  rfl
 obtain⟨j1,j2,j3⟩:=hi.lay vs.flatten E
 have hr:(execOp a.eval ⟨dst,.buildSlice T n ((xs.zipIdx.map fun p=>(p.2,p.1)).toArray),ty,pos,af,gd⟩).run P w= .ok (.value (.slice (some ⟨w.heap.size,0,none⟩) n n)) { w with heap:=w.heap.push (.cells vs.flatten.toArray E (0,0)) }:=by
  have hz: ∀ (zz:Array Value),Instr.fill (fun i=>some (i*sz,sz)) ((Array.range (n*sz)).map (zz[·% zz.size]!)) (((xs.map a.eval).zipIdx 0).map fun p=>(p.2,p.1))=some vs.flatten.toArray:=fun zz=>by
   have e:(Array.range (n*sz)).map (zz[·% zz.size]!)=((List.range (n*sz)).map (zz[·% zz.size]!)).toArray:=by
    apply QL;simp
   rw[e,OH vs (xs.map a.eval) 0 _ (by simp[hvl,hn]) (fun i h1 h2=>by
    simp only[AR]at h1
    rw[hvi]
    simp only[BK]
    exact⟨(hF i (by omega)).1 h1,hFl i (by omega)⟩) (by simp[hvl])]
   simp
  show(do pure (Next.value (←Instr.buildSlice T n (((xs.zipIdx.map fun p=>(p.2,p.1)).toArray).map fun(p:Nat × Operand)=>(p.1,a.eval p.2)))):Sem Next).run P w=_
  simp only[Instr.buildSlice,Sem.run_bind,run_underlying t1,Result.andThen_ok,sizeOf,typeInfo,run_program,t2,Sem.run_pure,t3,hparts]
  rw[if_neg (by have:(2:Nat) ^ 24=16777216:=by decide
                omega)]
  have hzv:(zeroValue E).run P w= .ok z w:=by simp[zeroValue,typeInfo,t2,t5]
  split
  ·simp only[Sem.run_bind,Sem.run_pure,Result.andThen_ok,hz #[],newRow,run_newObj]
  ·simp only[Sem.run_bind,hzv,Sem.run_pure,Result.andThen_ok,hz z.cells,newRow,run_newObj]
 refine Oper.wq_of_run hr ?_
 refine⟨_,.slice cs .ro,_,L,rfl,?_,j1,j2,.refl _ _,rfl,rfl⟩
 have:=VR.of_cells (g:=g.lay w.heap.size 0 vs.flatten) (xs:=cs) (t:= .ro) (sz:=sz) (b:=w.heap.size) (off:=0) (cap:=n) hcs (by omega) ⟨by omega,by rw[hl];exact Cz h24 (by decide)⟩ (us:=vs.flatten) (hflat.mono j3) (fun j hj=>Gh.lay_in hj) (by simp) (by simp)
 rw[hl]at this
 exact this
end
end Go.Q
