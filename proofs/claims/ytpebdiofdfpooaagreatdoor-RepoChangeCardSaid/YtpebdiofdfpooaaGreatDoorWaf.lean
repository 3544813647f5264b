/- The small logic: maps. Library, no statement of its own. -/
import Derived.Test.YtpebdiofdfpooaaGreatDoorWae
import Derived.WideKeyRuns
import Derived.Test.YtpebdiofdfpooaaGreatDoorWad
import Derived.Lib.Bytealg
import Derived.Lib.BytesEntry
import Derived.Laws.Externs
import Derived.Lib.UnsafeStr
import Derived.Lib.Builder
set_option linter.unusedSimpArgs false
set_option linter.unusedVariables false
namespace Go.Q
open Go
def Kt {κ:Type} [DecidableEq κ] (k:κ):List κ→Option Nat
 | []=>none
 |a::l=>if k=a then some 0 else(Kt k l).map (·+1)
def Dr {κ α:Type} [DecidableEq κ] (k:κ):List (κ × α)→Option α
 | []=>none
 |(a,x)::l=>if k=a then some x else Dr k l
def HJ {κ α:Type} [DecidableEq κ] (k:κ) (x:α):List (κ × α)→List (κ × α)
 | []=> [(k,x)]
 |(a,y)::l=>if k=a then(k,x)::l else(a,y)::HJ k x l
theorem K4 {κ α:Type} [DecidableEq κ] (k k':κ) (x:α): ∀ l:List (κ × α),Dr k' (HJ k x l)=if k'=k then some x else Dr k' l
 | []=>by simp[HJ,Dr]
 |(a,y)::l=>by
  unfold HJ
  by_cases h:k=a
  ·subst h
   rw[if_pos rfl]
   simp only[Dr]
   by_cases h2:k'=k<;>simp[h2]
  ·rw[if_neg h]
   simp only[Dr,K4 k k' x l]
   by_cases h2:k'=a
   ·subst h2;simp[Ne.symm h]
   ·simp[h2]
theorem OW {κ α:Type} [DecidableEq κ] (k:κ) (x:α): ∀ {l:List (κ × α)},Kt k (l.map (·.1))=none→HJ k x l=l++ [(k,x)]
 | [],_=>rfl
 |(a,y)::l,h=>by
  simp only[BH,Kt]at h
  by_cases e:k=a
  ·simp[e]at h
  ·simp only[e,if_false,xl]at h
   simp[HJ,e,OW k x h]
theorem Ks {κ α:Type} [DecidableEq κ] (k:κ) (x:α): ∀ {l:List (κ × α)} {i:Nat},Kt k (l.map (·.1))=some i→ ∃ y,l[i]? =some (k,y)∧HJ k x l=l.set i (k,x)∧Dr k l=some y
 | [],_,h=>by simp[Kt]at h
 |(a,y)::l,i,h=>by
  simp only[BH,Kt]at h
  by_cases e:k=a
  ·subst e
   simp at h;subst h
   exact⟨y,rfl,by simp[HJ],by simp[Dr]⟩
  ·simp only[e,if_false,Bk]at h
   obtain⟨j,hj,rfl⟩:=h
   obtain⟨z,h1,h2,h3⟩:=Ks k x hj
   exact⟨z,by simpa using h1,by simp[HJ,e,h2],by simp[Dr,e,h3]⟩
theorem Nu {κ α:Type} [DecidableEq κ] (k:κ): ∀ {l:List (κ × α)},Kt k (l.map (·.1))=none→Dr k l=none
 | [],_=>rfl
 |(a,y)::l,h=>by
  simp only[BH,Kt]at h
  by_cases e:k=a
  ·simp[e]at h
  ·simp only[e,if_false,xl]at h
   simp[Dr,e,Nu k h]
def Cq {κ α:Type} (ek:κ→PV) (ev:α→PV) (l:List (κ × α)):List (PV × PV):=l.map fun p=>(ek p.1,ev p.2)
class QD (P:Program) (T:Nat) (K E:outParam Nat):Prop where
 out:P.underlying T=some (.map K E)
class ZV (P:Program) (E:Nat) {α:Type} (ev:α→PV) (a0:outParam α):Prop where
 out: ∃ i v,P.info? E=some i∧i.zero=some v∧ ∀ g,VR g v (ev a0)
structure cz (P:Program) (K:Nat) {κ:Type} [DecidableEq κ] (ek:κ→PV):Prop where
 check: ∀ (b:Bool) (g:Gh) (v:Value) (k:κ) (w:World),VR g v (ek k)→(Instr.checkKey b 10000 K v).run P w= .ok () w
 find: ∀ (g:Gh) (v:Value) (k:κ) (es:List MapEntry) (l:List κ) (w:World),VR g v (ek k)→es.length=l.length→(∀ i (h:i < es.length) (h':i < l.length),VR g es[i].key (ek l[i]))→
  (Instr.findKey K v es).run P w= .ok ((Kt k l).bind fun i=>(es[i]?).map fun e=>(i,e.val)) w
 same: ∀ (g:Gh) (u v:Value) (k:κ),VR g u (ek k)→VR g v (ek k)→Instr.sameBits 10000 u v=true
class Tc (P:Program) (K:Nat) {κ:Type} [DecidableEq κ] (ek:κ→PV):Prop where
 out:cz P K ek
def kDig (d:Dig):PV:= .agg (eDig d)
def kInt (n:Int):PV:= .raw (.int .i64 n)
def vBool (b:Bool):PV:= .raw (.bool b)
def PD {α:Type} (f:α→List PV) (l:List α):PV:= .slice (l.map f) .ro
def xJ {κ α:Type} (ek:κ→PV) (ev:α→PV) (l:List (κ × α)):PV:= .fmap (Cq ek ev l)
def vInt (n:Int):PV:= .raw (.int .i64 n)
def vId (x:PV):PV:=x
theorem TF {α β:Type} {r:Option Nat} {e:α} {es:List α} {f:Nat→α→β}:((r.map (·+1)).bind fun i=>((e::es)[i]?).map (f i))=(r.bind fun i=>(es[i]?).map (f (i+1))):=by
 cases r<;>simp
theorem Yh {P:Program} {K:Nat} (hT: ∃ E i,P.underlying K=some (.array 32 E)∧P.underlying E=some (.int .u8)∧P.info? E=some i∧i.size=1) (k:Dig) (w:World): ∀ (es:List MapEntry) (l:List Dig) (n:Nat),es.length=l.length→
  (∀ i (h:i < es.length) (h':i < l.length),es[i].key= .agg (l[i].bs.map u8).toArray)→
  (Instr.findAsking K (.agg (k.bs.map u8).toArray) es n).run P w= .ok ((Kt k l).bind fun i=>(es[i]?).map fun e=>(n+i,e.val)) w
 | [],[],n,_,_=>by simp[Instr.findAsking,Kt]
 | [],_::_,_,h,_=>by simp at h
 |_::_,[],_,h,_=>by simp at h
 |e::es,a::l,n,h,hk=>by
  have h0:=hk 0 (by simp) (by simp)
  simp only[B8]at h0
  unfold Instr.findAsking
  simp only[Sem.run_bind,Op.equal,h0,Op.maxDepth,JE 9998 hT,Result.andThen_ok]
  by_cases e1:k=a
  ·subst e1
   simp[Kt]
  ·have d1:decide (k=a)=false:=by simp[e1]
   simp only[d1,BP,if_false]
   rw[Yh hT k w es l (n+1) (by simpa using h) (fun i h1 h2=>by have:=hk (i+1) (by simpa using h1) (by simpa using h2);simpa using this)]
   simp only[Kt,e1,if_false]
   rw[TF]
   congr 1
   cases Kt k l with
   |none=>rfl
   |some j=>simp only[HL];congr 1;funext e;rw[E3,L5 1]
theorem PK: ∀ (l:List UInt8),(((l.map u8).zip (l.map u8)).all fun(p:Value × Value)=>Instr.sameBits 9999 p.1 p.2)=true
 | []=>rfl
 |a::l=>by
  simp only[BH,List.zip_cons_cons,vX,Bx]
  exact⟨by simp[u8,Instr.sameBits],PK l⟩
theorem eK {P:Program} {K:Nat} [hT:U3 P K]:cz P K kDig where
 check:=fun b g v k w hv=>by
  obtain⟨E,i,h1,h2,h3,h4⟩:=hT.arr
  have hv:=IU hv
  subst hv
  rw[show(10000:Nat)=9999+1 from rfl,Instr.checkKey]
  simp only[Sem.run_bind,run_underlying h1,Result.andThen_ok]
  simp only[Std.Legacy.Range.forIn_eq_forIn_range',Std.Legacy.Range.size,Te,Nat.add_one_sub_one,Nat.div_one]
  have each: ∀ j∈List.range' 0 32,j < 32:=fun j hj=>by simpa using hj
  generalize List.range' 0 32=is at each
  induction is with
  |nil=>simp
  |cons j is ih=>
   have hj:=each j (by simp)
   have hlt:j < k.bs.length:=by rw[k.len];exact hj
   have p0:(sizeOf E).run P w= .ok 1 w:=by unfold sizeOf typeInfo;simp[h3,h4]
   have p1:(part E (k.bs.map u8).toArray (j*1)).run P w= .ok (u8 k.bs[j]) w:=JD (PJ h2) (by simp[hlt]) w
   have p2:(Instr.checkKey b 9999 E (u8 k.bs[j])).run P w= .ok () w:=by rw[show(9999:Nat)=9998+1 from rfl,Instr.checkKey];simp[run_underlying h2,u8]
   simp only[List.forIn_cons,Sem.run_bind,p0,Result.andThen_ok,p1,p2,Sem.run_pure]
   exact ih (fun y hy=>each y (by simp[hy]))
 find:=fun g v k es l w hv hl hk=>by
  obtain⟨E,i,h1,_⟩:=hT.arr
  have hv:=IU hv
  subst hv
  rw[run_findKey_eq w (by rw[h1]),Yh hT.arr k w es l 0 hl (fun i h h'=>IU (hk i h h'))]
  simp
 same:=fun g u v k hu hv=>by
  rw[IU hu,IU hv,show(10000:Nat)=9999+1 from rfl,Instr.sameBits]
  simpa using PK k.bs
instance {P:Program} {K:Nat} [U3 P K]:Tc P K kDig:=⟨eK⟩
theorem Yg {k:Int} {q:IntKind}: ∀ (es:List MapEntry) (l:List Int) (n:Nat),es.length=l.length→(∀ i (h:i < es.length) (h':i < l.length),es[i].key= .int .i64 l[i])→
  Instr.findNow (.int q) (.int .i64 k) es n=some ((Kt k l).bind fun i=>(es[i]?).map fun e=>(n+i,e.val))
 | [],[],n,_,_=>by simp[Instr.findNow,Kt]
 | [],_::_,_,h,_=>by simp at h
 |_::_,[],_,h,_=>by simp at h
 |e::es,a::l,n,h,hk=>by
  have h0:=hk 0 (by simp) (by simp)
  simp only[B8]at h0
  unfold Instr.findNow
  by_cases e1:k=a
  ·subst e1
   simp[h0,Instr.sameNow,Kt]
  ·have d1:(k==a)=false:=by simp[e1]
   simp only[h0,Instr.sameNow,if_true,d1]
   rw[Yg es l (n+1) (by simpa using h) (fun i h1 h2=>by have:=hk (i+1) (by simpa using h1) (by simpa using h2);simpa using this)]
   simp only[Kt,e1,if_false]
   rw[TF]
   congr 1
   cases Kt k l with
   |none=>rfl
   |some j=>simp only[HL];congr 1;funext e;rw[E3,L5 1]
theorem eJ {P:Program} {K:Nat} {q:IntKind} [hT:MU P K q]:cz P K kInt where
 check:=fun b g v k w hv=>by
  rw[hv.raw_inv,show(10000:Nat)=9999+1 from rfl,Instr.checkKey]
  simp[run_underlying hT.out]
 find:=fun g v k es l w hv hl hk=>by
  rw[hv.raw_inv,MapKept.run_findKey hT.out (Yg es l 0 hl (fun i h h'=>(hk i h h').raw_inv))]
  simp
 same:=fun g u v k hu hv=>by
  rw[hu.raw_inv,hv.raw_inv];simp[Instr.sameBits]
instance {P:Program} {K:Nat} {q:IntKind} [MU P K q]:Tc P K kInt:=⟨eJ⟩
section
variable {P:Program} {κ α:Type} [DecidableEq κ] {ek:κ→PV} {ev:α→PV} {T K E:Nat}
theorem MG (hT:P.underlying T=some (.map K E)) (hk:cz P K ek) {a0:α} (hz: ∃ i v,P.info? E=some i∧i.zero=some v∧ ∀ g,VR g v (ev a0)) {w:World} {g:Gh} {es:Array MapEntry} {l:List (κ × α)}
  (hE:Entries g es (Cq ek ev l)) {x v:Value} {k:κ} (hx:(∃ m c,x= .map (some m)∧w.heap[m]? =some (.map es c))∨(x= .map none∧es= #[])) (hv:VR g v (ek k)) (ok:Bool):
  ∃ u,(Instr.lookup T x v ok).run P w= .ok (if ok then .tuple #[u,.bool (Dr k l).isSome]else u) w∧VR g u (ev ((Dr k l).getD a0)):=by
 have hlen:es.toList.length=(l.map (·.1)).length:=by have:=hE.len;simpa [Cq]using this
 have hf:=hk.find g v k es.toList (l.map (·.1)) w hv hlen (fun i h h'=>by
  have:=hE.key i (by simpa using h) (by simpa [Cq]using h')
  simpa [Cq]using this)
 cases hi:Kt k (l.map (·.1))with
 |none=>
  rw[hi]at hf
  obtain⟨i,z,z1,z2,z3⟩:=hz
  refine⟨z,?_,by rw[Nu k hi];exact z3 g⟩
  unfold Instr.lookup
  rcases hx with ⟨m,c,rfl,hb⟩|⟨rfl,rfl⟩
  ·simp only[Sem.run_bind,run_underlying hT,Result.andThen_ok,MapKept.run_getObj_map hb,Sem.run_pure,hk.check _ g v k w hv,hf,kY,zeroValue,typeInfo,run_program,z1,z2,Nu k hi]
   cases ok<;>simp
  ·simp only[Sem.run_bind,run_underlying hT,Result.andThen_ok,Sem.run_pure,hk.check _ g v k w hv,hf,kY,zeroValue,typeInfo,run_program,z1,z2,Nu k hi]
   cases ok<;>simp
 |some i=>
  rw[hi]at hf
  obtain⟨y,h1,_,h3⟩:=Ks (α:=α) k a0 hi
  have hlt:i < l.length:=(DA.1 h1).1
  have hlt':i < es.size:=by have:=hE.len;simp[Cq]at this;omega
  have hval:=hE.val i hlt' (by simpa [Cq]using hlt)
  have hy:l[i]=(k,y):=(DA.1 h1).2
  simp only[Cq,BT,hy]at hval
  refine⟨es[i].val,?_,by rw[h3];exact hval⟩
  unfold Instr.lookup
  have e1:es.toList[i]? =some es[i]:=by simp[hlt']
  rcases hx with ⟨m,c,rfl,hb⟩|⟨rfl,rfl⟩
  ·simp only[Sem.run_bind,run_underlying hT,Result.andThen_ok,MapKept.run_getObj_map hb,Sem.run_pure,hk.check _ g v k w hv,hf,HL,e1,FB,h3]
   cases ok<;>simp
  ·simp at hlt'
end
section
variable {P:Program} {N:Nat} {all:Array Oper} {K:Env→List Res→Prop} {fl:List Bool} {os:List Oper} {ρ:Env} {L:List Res} {Q:PPost} {c:Code} {d:Nat} {ty:TypeId} {pos:String} {af:Array Edge}
variable {κ α:Type} [DecidableEq κ] {ek:κ→PV} {ev:α→PV} {T KT ET:Nat}
class Nb (x:PV) (ek:κ→PV) (k:outParam κ):Prop where
 out:Le x (ek k)
instance (d:Dig):Nb (.agg (eDig d)) kDig d:=⟨.refl _⟩
instance (n:Int):Nb (.raw (.int .i64 n)) kInt n:=⟨.refl _⟩
theorem bN {x y:Operand} {l:List (κ × α)} {ay:PV} {k0:κ} (hx:ρ.ev x= .fmap (Cq ek ev l)) (hy:ρ.ev y=ay) [hT:QD P T KT ET] [hK:Tc P KT ek] {a0:α} [hz:ZV P ET ev a0] [hk:Nb ay ek k0]
  (k:AW P N all K fl.tail os (CT ρ d (ev ((Dr k0 l).getD a0))) L) (hd:Nat.blt d N=true:=by rfl):AW P N all K fl (⟨some d,.lookup T x y false,ty,pos,af,none⟩::os) ρ L:=
 Bb hd (B7 fun a w g ha hi=>by
  have h1:=ha x (by simp[Op.operands]);rw[hx]at h1
  have h2:=hk.out g _ (hy ▸ ha y (by simp[Op.operands]))
  have key: ∃ es,((∃ m c,a.eval x= .map (some m)∧w.heap[m]? =some (.map es c))∨(a.eval x= .map none∧es= #[]))∧Entries g es (Cq ek ev l):=by
   generalize a.eval x=v at h1
   generalize Cq ek ev l=kvs at h1 ⊢
   cases h1 with
   |fmap hM hl hk' hv'=>obtain⟨hc,_⟩:=hi.satM _ _ hM;exact⟨_,.inl ⟨_,_,rfl,hc⟩,⟨hl,hk',hv'⟩⟩
   |nilM=>exact⟨#[],.inr ⟨rfl,rfl⟩,⟨rfl,by simp,by simp⟩⟩
  obtain⟨es,he,hE⟩:=key
  obtain⟨u,hr,hu⟩:=MG hT.out hK.out hz.out hE he h2 false
  refine⟨u,?_,hu⟩
  simp only[execOp,hr,Sem.run_bind,Result.andThen_ok,Sem.run_pure];rfl) k
theorem UO {x y:Operand} {l:List (κ × α)} {ay:PV} {k0:κ} (hx:ρ.ev x= .fmap (Cq ek ev l)) (hy:ρ.ev y=ay) [hT:QD P T KT ET] [hK:Tc P KT ek] {a0:α} [hz:ZV P ET ev a0] [hk:Nb ay ek k0]
  (k:AW P N all K fl.tail os (CT ρ d (.tuple [ev ((Dr k0 l).getD a0),.raw (.bool (Dr k0 l).isSome)])) L) (hd:Nat.blt d N=true:=by rfl):AW P N all K fl (⟨some d,.lookup T x y true,ty,pos,af,none⟩::os) ρ L:=
 Bb hd (B7 fun a w g ha hi=>by
  have h1:=ha x (by simp[Op.operands]);rw[hx]at h1
  have h2:=hk.out g _ (hy ▸ ha y (by simp[Op.operands]))
  have key: ∃ es,((∃ m c,a.eval x= .map (some m)∧w.heap[m]? =some (.map es c))∨(a.eval x= .map none∧es= #[]))∧Entries g es (Cq ek ev l):=by
   generalize a.eval x=v at h1
   generalize Cq ek ev l=kvs at h1 ⊢
   cases h1 with
   |fmap hM hl hk' hv'=>obtain⟨hc,_⟩:=hi.satM _ _ hM;exact⟨_,.inl ⟨_,_,rfl,hc⟩,⟨hl,hk',hv'⟩⟩
   |nilM=>exact⟨#[],.inr ⟨rfl,rfl⟩,⟨rfl,by simp,by simp⟩⟩
  obtain⟨es,he,hE⟩:=key
  obtain⟨u,hr,hu⟩:=MG hT.out hK.out hz.out hE he h2 true
  refine⟨_,?_,E5.tuple (.cons hu (.cons (.raw (.bool (Dr k0 l).isSome)) (.nil g)))⟩
  simp only[execOp,hr,Sem.run_bind,Result.andThen_ok,Sem.run_pure];rfl) k
theorem bM {x y:Operand} {b:Nat} {l:List (κ × α)} {ay:PV} {k0:κ} (hx:ρ.ev x= .raw (.map (some b))) (hm:Res.map b (Cq ek ev l)∈L) (hy:ρ.ev y=ay) [hT:QD P T KT ET] [hK:Tc P KT ek] {a0:α} [hz:ZV P ET ev a0] [hk:Nb ay ek k0]
  (k:AW P N all K fl.tail os (CT ρ d (ev ((Dr k0 l).getD a0))) L) (hd:Nat.blt d N=true:=by rfl):AW P N all K fl (⟨some d,.lookup T x y false,ty,pos,af,none⟩::os) ρ L:=
 Bb hd (B7 fun a w g ha hi=>by
  have h1:=CW ha (x:=x) (by simp[Op.operands]) hx
  have h2:=hk.out g _ (hy ▸ ha y (by simp[Op.operands]))
  obtain⟨es,c,hb,hE,_⟩:=hi.res _ hm
  obtain⟨u,hr,hu⟩:=MG hT.out hK.out hz.out hE (.inl ⟨b,c,h1,hb⟩) h2 false
  refine⟨u,?_,hu⟩
  simp only[execOp,hr,Sem.run_bind,Result.andThen_ok,Sem.run_pure];rfl) k
theorem UM {x y:Operand} {b:Nat} {l:List (κ × α)} {ay:PV} {k0:κ} (hx:ρ.ev x= .raw (.map (some b))) (hm:Res.map b (Cq ek ev l)∈L) (hy:ρ.ev y=ay) [hT:QD P T KT ET] [hK:Tc P KT ek] {a0:α} [hz:ZV P ET ev a0] [hk:Nb ay ek k0]
  (k:AW P N all K fl.tail os (CT ρ d (.tuple [ev ((Dr k0 l).getD a0),.raw (.bool (Dr k0 l).isSome)])) L) (hd:Nat.blt d N=true:=by rfl):AW P N all K fl (⟨some d,.lookup T x y true,ty,pos,af,none⟩::os) ρ L:=
 Bb hd (B7 fun a w g ha hi=>by
  have h1:=CW ha (x:=x) (by simp[Op.operands]) hx
  have h2:=hk.out g _ (hy ▸ ha y (by simp[Op.operands]))
  obtain⟨es,c,hb,hE,_⟩:=hi.res _ hm
  obtain⟨u,hr,hu⟩:=MG hT.out hK.out hz.out hE (.inl ⟨b,c,h1,hb⟩) h2 true
  refine⟨_,?_,E5.tuple (.cons hu (.cons (.raw (.bool (Dr k0 l).isSome)) (.nil g)))⟩
  simp only[execOp,hr,Sem.run_bind,Result.andThen_ok,Sem.run_pure];rfl) k
theorem QT (k: ∀ b,AW P N all K fl.tail os (CT ρ d (.raw (.map (some b)))) (.map b []::L)) (hd:Nat.blt d N=true:=by rfl) (hf:fl.headD true=true:=by rfl):
  AW P N all K fl (⟨some d,.makeMap T none,ty,pos,af,none⟩::os) ρ L:=
 Dp rfl (QF hd) hf (fun a w g ha hi=>by
  obtain⟨i1,s1⟩:=hi.allocO (.map #[] 0)
  have hr:(execOp a.eval ⟨some d,.makeMap T none,ty,pos,af,none⟩).run P w= .ok (.value (.map (some w.heap.size))) (w.alloc (.map #[] 0)):=by
   simp only[execOp,Instr.makeMap,Option.map_none,Sem.run_bind,run_newObj_alloc,Result.andThen_ok,Sem.run_pure]
  refine Oper.wq_of_run hr ?_
  obtain⟨f1,f2⟩:=hi.fresh (b:=w.heap.size) (B4 _)
  refine⟨_,_,g,_,rfl,.raw _,⟨i1.sat,i1.satM,fun r hr=>?_,?_,i1.glob⟩,s1,?_,k _⟩
  ·rcases AI.1 hr with rfl|hr
   ·exact⟨#[],0,by show(w.heap.push _)[w.heap.size]? =_;simp,⟨rfl,by simp,by simp⟩,f1,f2,⟨by simp,by simp⟩⟩
   ·exact i1.res r hr
  ·simp only[Ao,BF,Res.block]
   exact CP.2 ⟨fun h=>by have:=hi.lt h;omega,hi.nodup⟩
  ·intro b' hb' hlt
   simp only[Ao,BF,Res.block]at hb'
   rcases AI.1 hb' with rfl|hb'
   ·omega
   ·exact hb')
theorem JI.push {es:Array MapEntry} {cl:Nat} {e:MapEntry} (h:JI es cl) (he:e.born=cl):JI (es.push e) (cl+1):=by
 refine⟨fun x hx=>?_,?_⟩
 ·rw[Array.toList_push,Ay,B9]at hx
  rcases hx with hx|rfl
  ·have:=h.lt x hx;omega
  ·omega
 ·rw[Array.toList_push,Az]
  refine QH.2 ⟨h.nd,by simp,fun a ha b hb e2=>?_⟩
  obtain⟨x,hx,rfl⟩:=AX.1 ha
  have:=h.lt x hx
  simp only[BH,CX,B9]at hb
  omega
theorem JI.modify {es:Array MapEntry} {cl i:Nat} {f:MapEntry→MapEntry} (h:JI es cl) (hf: ∀ e,(f e).born=e.born):JI (es.modify i f) cl:=by
 have e:(es.modify i f).toList.map (·.born)=es.toList.map (·.born):=by
  refine GK (by simp) fun k h1 h2=>?_
  simp only[BT,Array.getElem_toList,X7]
  split
  ·exact hf _
  ·rfl
 refine⟨fun x hx=>?_,by rw[e];exact h.nd⟩
 have hm:x.born∈(es.modify i f).toList.map (·.born):=AX.2 ⟨x,hx,rfl⟩
 rw[e]at hm
 obtain⟨y,hy,e2⟩:=AX.1 hm
 have:=h.lt y hy
 omega
theorem Sc {dst:Option Nat} {gd:Option (Nat × Bool)} [hT:QD P T KT ET] [hK:Tc P KT ek] {x y z:Operand} {b:Nat} {l:List (κ × α)} {k0:κ} {x0:α} {L':List Res} {op:Op} (hop:op= .mapUpdate T x y z∨op= .insert T x y z) (hx:ρ.ev x= .raw (.map (some b))) (hp:L.Perm (.map b (Cq ek ev l)::L'))
  (hk:Le (ρ.ev y) (ek k0)) (hz:Le (ρ.ev z) (ev x0)) {Ψ:PV→List Res→Prop} (k:Ψ (.raw undef) (.map b (Cq ek ev (HJ k0 x0 l))::L')):FW P ⟨dst,op,ty,pos,af,gd⟩ ρ L Ψ:=by
 refine FW.perm hp fun a w g ha hi=>?_
 have hopx:x∈op.operands:=by rcases hop with rfl|rfl<;>simp[Op.operands]
 have hopy:y∈op.operands:=by rcases hop with rfl|rfl<;>simp[Op.operands]
 have hopz:z∈op.operands:=by rcases hop with rfl|rfl<;>simp[Op.operands]
 have h1:=CW ha (x:=x) hopx hx
 have h2:=hk g _ (ha y hopy)
 have h3:=hz g _ (ha z hopz)
 obtain⟨es,cl,hb,hE,hH,hM,hS⟩:=hi.res _ (AK)
 have hlen:es.toList.length=(l.map (·.1)).length:=by have:=hE.len;simpa [Cq]using this
 have hf:=hK.out.find g (a.eval y) k0 es.toList (l.map (·.1)) w h2 hlen (fun i h h'=>by
  have:=hE.key i (by simpa using h) (by simpa [Cq]using h')
  simpa [Cq]using this)
 have hlt:b < w.heap.size:=(BK.1 hb).1
 have hnd:=hi.nodup
 simp only[Ao,BF,Res.block]at hnd
 have hrest:DM w g L':=hi.sub (L6 _ _)
 have fin: ∀ (es':Array MapEntry) (cl':Nat),Entries g es' (Cq ek ev (HJ k0 x0 l))→JI es' cl'→(Instr.mapUpdate T (a.eval x) (a.eval y) (a.eval z)).run P w= .ok () (w.putObj b (.map es' cl'))→
   Oper.wq P ⟨dst,op,ty,pos,af,gd⟩ a w (fun a' w'=> ∃ v x g' L'',a'=a.put dst v∧VR g' v x∧DM w' g' L''∧Ej (Ao (.map b (Cq ek ev l)::L')) w g w' g'∧DV w (.map b (Cq ek ev l)::L') L''∧Ψ x L''):=fun es' cl' hE' hS' hr=>by
  have hr':(execOp a.eval ⟨dst,op,ty,pos,af,gd⟩).run P w= .ok .skip (w.putObj b (.map es' cl')):=by
   rcases hop with rfl|rfl<;>simp only[execOp,hr,Sem.run_bind,Result.andThen_ok,Sem.run_pure]
  refine Oper.wq_of_run hr' ?_
  have i2:=hrest.put (.map es' cl') hH hM (CP.1 hnd).1
  refine⟨undef,.raw undef,g,.map b (Cq ek ev (HJ k0 x0 l))::L',rfl,.raw _,⟨i2.sat,i2.satM,fun r hr=>?_,hi.nodup,hi.glob⟩,.put _ (by simp[Ao,Res.block]),fun b' hb' _=>hb',k⟩
  rcases AI.1 hr with rfl|hr
  ·exact⟨es',cl',World.putObj_heap_same hlt,hE',hH,hM,hS'⟩
  ·exact i2.res r hr
 cases hi':Kt k0 (l.map (·.1))with
 |none=>
  rw[hi']at hf
  refine fin (es.push { key:=a.eval y,val:=a.eval z,born:=cl }) (cl+1) ?_ (hS.push rfl) ?_
  ·rw[OW k0 x0 hi',Cq,Az]
   have hl:es.size=l.length:=by simpa [Cq]using hE.len
   refine⟨by simp[hl],fun i j1 j2=>?_,fun i j1 j2=>?_⟩
   ·by_cases hi2:i < es.size
    ·rw[xz hi2,Bf (by simp;omega)]
     exact hE.key i hi2 (by simp[Cq];omega)
    ·have e:i=es.size:=by simp at j1;omega
     subst e
     rw[C6 (by simp[hl])]
     rw[y1];simpa [hl]using h2
   ·by_cases hi2:i < es.size
    ·rw[xz hi2,Bf (by simp;omega)]
     exact hE.val i hi2 (by simp[Cq];omega)
    ·have e:i=es.size:=by simp at j1;omega
     subst e
     rw[C6 (by simp[hl])]
     rw[y1];simpa [hl]using h3
  ·unfold Instr.mapUpdate
   simp only[Sem.run_bind,run_underlying hT.out,Result.andThen_ok,h1,MapKept.run_getObj_map hb,hK.out.check false g _ k0 w h2,hf,kY,MapKept.run_setObj_map _ hb]
   rfl
 |some i=>
  rw[hi']at hf
  obtain⟨y0,e1,e2,_⟩:=Ks k0 x0 hi'
  have hl:es.size=l.length:=by simpa [Cq]using hE.len
  have hli:i < l.length:=(DA.1 e1).1
  have hli':i < es.size:=by omega
  have hy0:l[i]=(k0,y0):=(DA.1 e1).2
  have hkey:VR g es[i].key (ek k0):=by
   have:=hE.key i hli' (by simp[Cq];exact hli)
   simpa [Cq,hy0]using this
  have hsame:=hK.out.same g _ _ k0 hkey h2
  refine fin (es.modify i fun e=>{ e with key:=a.eval y,val:=a.eval z }) cl ?_ (hS.modify fun _=>rfl) ?_
  ·rw[e2]
   refine⟨by simp[Cq,hl],fun j j1 j2=>?_,fun j j1 j2=>?_⟩
   ·simp only[fF]at j1
    have j3:j < l.length:=by omega
    rw[X7 (by simpa using j1)]
    by_cases hj:i=j
    ·subst hj
     simp[Cq];exact h2
    ·simp only[hj,if_false]
     have:=hE.key j j1 (by simp[Cq];exact j3)
     simpa [Cq,List.getElem_set_ne hj]using this
   ·simp only[fF]at j1
    have j3:j < l.length:=by omega
    rw[X7 (by simpa using j1)]
    by_cases hj:i=j
    ·subst hj
     simp[Cq];exact h3
    ·simp only[hj,if_false]
     have:=hE.val j j1 (by simp[Cq];exact j3)
     simpa [Cq,List.getElem_set_ne hj]using this
  ·have hf2:(Instr.findKey KT (a.eval y) es.toList).run P w= .ok (some (i,es[i].val)) w:=by rw[hf];simp[hli']
   have hst:(Instr.keyThatStays es[i].key (a.eval y)).run P w= .ok (a.eval y) w:=by unfold Instr.keyThatStays;rw[if_pos hsame];rfl
   unfold Instr.mapUpdate
   simp only[Sem.run_bind,run_underlying hT.out,Result.andThen_ok,h1,MapKept.run_getObj_map hb,hK.out.check false g _ k0 w h2,hf2,Cf hli',FB,BO,hst,MapKept.run_setObj_map _ hb]
   rfl
theorem XZ [hT:QD P T KT ET] [hK:Tc P KT ek] {x y z:Operand} {b:Nat} {l:List (κ × α)} {k0:κ} {x0:α} {L':List Res} (hx:ρ.ev x= .raw (.map (some b))) (hp:L.Perm (.map b (Cq ek ev l)::L')) (hk:Le (ρ.ev y) (ek k0)) (hz:Le (ρ.ev z) (ev x0))
  (k:AW P N all K fl.tail os ρ (.map b (Cq ek ev (HJ k0 x0 l))::L')) (hfl:fl.headD true=true:=by rfl):AW P N all K fl (⟨none,.mapUpdate T x y z,ty,pos,af,none⟩::os) ρ L:=
 Dp rfl (fun _ e=>by cases e) hfl (Sc (.inl rfl) hx hp hk hz k)
theorem gJ [hT:QD P T KT ET] [hK:Tc P KT ek] {x y z:Operand} {b:Nat} {l:List (κ × α)} {k0:κ} {x0:α} {L':List Res} (hx:ρ.ev x= .raw (.map (some b))) (hp:L.Perm (.map b (Cq ek ev l)::L')) (hk:Le (ρ.ev y) (ek k0)) (hz:Le (ρ.ev z) (ev x0))
  (k:AW P N all K fl.tail os ρ (.map b (Cq ek ev (HJ k0 x0 l))::L')) (hfl:fl.headD true=true:=by rfl):AW P N all K fl (⟨none,.insert T x y z,ty,pos,af,none⟩::os) ρ L:=
 Dp rfl (fun _ e=>by cases e) hfl (Sc (.inr rfl) hx hp hk hz k)
theorem DM.freezeM {w:World} {g:Gh} {L':List Res} {b:Nat} {kvs:List (PV × PV)} (hi:DM w g L) (hp:L.Perm (.map b kvs::L')):
  ∃ g',DM w g' L'∧Ej (Ao L) w g w g'∧DV w L L'∧VR g' (.map (some b)) (.fmap kvs):=by
 have hi2:=hi.perm hp
 obtain⟨es,cl,h1,h2,h3,h4,h5⟩:=hi2.res _ (AK)
 let g':Gh:={ g with M:=fun k=>if k=b then some (.map es cl)else g.M k }
 have hle:g.le g':=⟨fun _ _ _ h=>h,fun k z h=>by
  show(if k=b then some (fS.map es cl)else g.M k)=_
  rw[if_neg (fun e=>by rw[e,h4]at h;cases h)];exact h⟩
 have hbl:b∈Ao L:=(DC hp).symm.subset (by simp[Ao,Res.block])
 have hnd:=hi2.nodup
 simp only[Ao,BF,Res.block]at hnd
 have hnb: ∀ r∈L',r.block≠some b:=fun r hr e=>(CP.1 hnd).1 (Bo.2 ⟨r,hr,e⟩)
 refine⟨g',⟨hi.sat,fun k z hz=>?_,fun r hr=>?_,(CP.1 hnd).2,hi.glob.mono hle⟩,⟨rfl,rfl,⟨rfl,B4 _⟩,B4 _,fun _ _ _=>rfl,hle,fun k _ hn=>⟨fun _=>rfl,?_⟩⟩,fun b' hb' _=>(DC hp).symm.subset ?_,?_⟩
 ·change (if k=b then some (fS.map es cl)else g.M k)=some z at hz
  split at hz
  ·rename_i e;subst e;cases hz;exact⟨h1,h5⟩
  ·exact hi.satM k z hz
 ·refine Res.holds_kept hle (hi2.res r (AD _ hr)) fun b' hb'=>⟨rfl,fun _=>rfl,?_⟩
  show(if b'=b then some (fS.map es cl)else g.M b')=_
  rw[if_neg (fun e=>by subst e;exact hnb r hr hb')]
 ·show(if k=b then some (fS.map es cl)else g.M k)=_
  rw[if_neg (fun e=>by subst e;exact hn hbl)]
 ·simp only[Ao,BF,Res.block];exact AD _ hb'
 ·exact .fmap (es:=es) (clock:=cl) (by show(if b=b then some (fS.map es cl)else g.M b)=_;simp) h2.len (fun i a c=>(h2.key i a c).mono hle) (fun i a c=>(h2.val i a c).mono hle)
def Fm (b:Nat) (kvs:List (PV × PV)) (x y:PV):Prop:=x=y∨(x= .raw (.map (some b))∧y= .fmap kvs)
theorem R9 {b:Nat} {kvs:List (PV × PV)} {L':List Res} (E:List (Nat × PV)) (hE:av (Fm b kvs) ρ E) (hp:L.Perm (.map b kvs::L')) (k:EB P N c Q (fL E) L'):EB P N c Q ρ L:=
 HA (fun base a w g ha hi=>by
  obtain⟨g',h1,h2,h3,h4⟩:=hi.freezeM hp
  refine⟨g',⟨ha.size,ha.defers.mono h2.le,fun i=>?_⟩,h1,h2,h3⟩
  rcases cR hE i with (e|⟨e1,e2⟩)|e
  ·rw[←e];exact(ha.slot i).mono h2.le
  ·rw[e2]
   have:=(ha.slot i).mono h2.le
   rw[e1]at this
   rw[this.raw_inv];exact h4
  ·rw[e];exact .junk _) k
end
theorem fg {a b:UInt8} (h:a≠b):a < b∨b < a:=by
 have h2:a.toNat≠b.toNat:=fun e=>h (UInt8.toNat.inj e)
 rw[UInt8.lt_iff_toNat_lt,UInt8.lt_iff_toNat_lt];omega
def NR:List UInt8→List UInt8→Int
 |x::xs,y::ys=>if x < y then -1 else if y < x then 1 else NR xs ys
 | [],[]=>0
 | [],_::_=> -1
 |_::_,[]=>1
def DY (a b:Dig):Int:=NR a.bs b.bs
theorem MQ: ∀ a b:List UInt8,NR a b= -1∧a < b∨NR a b=0∧a=b∨NR a b=1∧b < a
 | [],[]=> .inr (.inl ⟨rfl,rfl⟩)
 | [],y::ys=> .inl ⟨rfl,List.nil_lt_cons y ys⟩
 |x::xs,[]=> .inr (.inr ⟨rfl,List.nil_lt_cons x xs⟩)
 |x::xs,y::ys=>by
  unfold NR
  by_cases h1:x < y
  ·simp[h1,LU]
  ·by_cases h2:y < x
   ·simp[h1,h2,LU]
   ·have e:x=y:=by
     have:=fg (a:=x) (b:=y)
     by_cases he:x=y
     ·exact he
     ·rcases this he with h|h
      ·exact absurd h h1
      ·exact absurd h h2
    subst e
    simp only[h1,if_false]
    rcases MQ xs ys with ⟨h3,h4⟩|⟨h3,h4⟩|⟨h3,h4⟩
    ·exact .inl ⟨h3,by simp[LU,h4]⟩
    ·exact .inr (.inl ⟨h3,by rw[h4]⟩)
    ·exact .inr (.inr ⟨h3,by simp[LU,h4]⟩)
theorem Q8 {a b:List UInt8}:NR a b=0↔a=b:=by
 rcases MQ a b with ⟨h1,h2⟩|⟨h1,h2⟩|⟨h1,h2⟩
 ·exact⟨fun h=>by omega,fun h=>by subst h;exact absurd h2 (P9 a)⟩
 ·exact⟨fun _=>h2,fun _=>h1⟩
 ·exact⟨fun h=>by omega,fun h=>by subst h;exact absurd h2 (P9 a)⟩
theorem LQ {a b:List UInt8}:NR a b < 0↔a < b:=by
 rcases MQ a b with ⟨h1,h2⟩|⟨h1,h2⟩|⟨h1,h2⟩
 ·exact⟨fun _=>h2,fun _=>by omega⟩
 ·exact⟨fun h=>by omega,fun h=>by subst h2;exact absurd h (P9 a)⟩
 ·exact⟨fun h=>by omega,fun h=>absurd (List.lt_trans h h2) (P9 a)⟩
def Dig.lt (a b:Dig):Prop:=DY a b < 0
instance (a b:Dig):Decidable (Dig.lt a b):=by unfold Dig.lt;infer_instance
theorem Dig.lt_irrefl (a:Dig): ¬Dig.lt a a:=fun h=>P9 a.bs (LQ.1 h)
theorem Dig.lt_trans {a b c:Dig} (h:Dig.lt a b) (k:Dig.lt b c):Dig.lt a c:=LQ.2 (List.lt_trans (LQ.1 h) (LQ.1 k))
theorem Dig.lt_asymm {a b:Dig} (h:Dig.lt a b): ¬Dig.lt b a:=fun k=>Dig.lt_irrefl a (Dig.lt_trans h k)
theorem Dig.ne_of_lt {a b:Dig} (h:Dig.lt a b):a≠b:=fun e=>by subst e;exact Dig.lt_irrefl _ h
theorem Dig.tri (a b:Dig):Dig.lt a b∨a=b∨Dig.lt b a:=by
 rcases MQ a.bs b.bs with ⟨h1,h2⟩|⟨h1,h2⟩|⟨h1,h2⟩
 ·exact .inl (LQ.2 h2)
 ·exact .inr (.inl (Dig.ext h2))
 ·exact .inr (.inr (LQ.2 h2))
theorem LS {a b:Dig}:DY a b=0↔a=b:=⟨fun h=>Dig.ext (Q8.1 h),fun h=>by subst h;exact Q8.2 rfl⟩
theorem cZ: ∀ {a b:List UInt8} {k:Nat},a.length=b.length→k < a.length→(∀ i,i < k→a.getD i 0=b.getD i 0)→a.getD k 0≠b.getD k 0→NR a b=if a.getD k 0 < b.getD k 0 then -1 else 1
 |x::xs,y::ys,0,hl,hk,he,hn=>by
  simp only[List.getD_cons_zero]at hn ⊢
  unfold NR
  by_cases h1:x < y
  ·simp[h1]
  ·have:=fg hn
   have h2:y < x:=this.resolve_left h1
   simp[h1,h2]
 |x::xs,y::ys,k+1,hl,hk,he,hn=>by
  have h0:=he 0 (by omega)
  simp only[List.getD_cons_zero]at h0
  subst h0
  simp only[List.getD_cons_succ]at hn ⊢
  unfold NR
  simp only[UInt8.lt_irrefl,if_false]
  exact cZ (by simpa using hl) (by simpa using hk) (fun i hi=>by have:=he (i+1) (by omega);simpa using this) hn
 | [],_,_,_,hk,_,_=>by simp at hk
 |_::_,[],_,hl,_,_,_=>by simp at hl
theorem ca {a b:Dig} {k:Nat} (hk:k < 32) (he: ∀ i,i < k→a.at i=b.at i) (hn:a.at k≠b.at k):DY a b=if a.at k < b.at k then -1 else 1:=
 cZ (by rw[a.len,b.len]) (by rw[a.len];exact hk) he hn
def Fu:List Dig→Dig→List Dig
 | [],d=> [d]
 |x::xs,d=>if Dig.lt x d then x::Fu xs d else if x=d then x::xs else d::x::xs
theorem PA: ∀ {l:List Dig} {d:Dig} {k:Nat},k≤l.length→(∀ i (h:i < l.length),i < k→Dig.lt l[i] d)→(∀ h:k < l.length,¬Dig.lt l[k] d)→
  Fu l d=if ∃ h:k < l.length,l[k]=d then l else l.take k++d::l.drop k
 | [],d,k,hk,_,_=>by simp[Fu]
 |x::xs,d,0,_,_,hk=>by
  have:=hk (by simp)
  simp only[B8]at this
  simp[Fu,this]
 |x::xs,d,k+1,hl,h1,h2=>by
  have h0:=h1 0 (by simp) (by omega)
  simp only[B8]at h0
  have ih:=PA (l:=xs) (d:=d) (k:=k) (by simpa using hl) (fun i h hi=>by have:=h1 (i+1) (by simpa using h) (by omega);simpa using this) (fun h=>by have:=h2 (by simpa using h);simpa using this)
  simp only[Fu,h0,if_true,ih]
  simp only[AH,vW,Ct,O1,ZH]
  split<;>rfl
section
variable {P:Program} {N:Nat} {all:Array Oper} {K:Env→List Res→Prop} {fl:List Bool} {os:List Oper} {ρ:Env} {L:List Res} {Q:PPost} {c:Code} {d:Nat} {ty:TypeId} {pos:String} {af:Array Edge}
theorem Yq (l:List UInt8):(l.map eBy).flatten=l.map eU8:=by
 induction l with
 |nil=>rfl
 |cons a l ih=>simp[ih,eBy,eU8,u8]
theorem gA {T:TypeId} [hT:U3 P T] {x:Operand} {dg:Dig} (hx:ρ.ev x= .pt (eDig dg) 0) (k:AW P N all K fl.tail os (CT ρ d (.slice (dg.bs.map eBy) .ro)) L) (hd:Nat.blt d N=true:=by rfl):
  AW P N all K fl (⟨some d,.slice T x none none none,ty,pos,af,none⟩::os) ρ L:=
 Bb hd (B7 fun a' w g ha hi=>by
  obtain⟨E,i,e1,e2,e3,e4⟩:=hT.arr
  have h1:=ha x (by simp[Op.operands]);rw[hx]at h1
  generalize hv:a'.eval x=v at h1
  generalize hcs:eDig dg=cs at h1
  cases h1 with
  |pt f hH hv'=>
   rename_i b o
   subst hcs
   refine⟨.slice (some ⟨b,o,none⟩) 32 32,?_,?_⟩
   ·show(do pure (Next.value (←Instr.sliceAt T (a'.eval x) none none none)):Sem Next).run P w=_
    simp[Instr.sliceAt,Hf e1,hv,Instr.sureAddr,Instr.sliceBounds,sizeOf,typeInfo,e3,e4,DQ]
   ·have hl:(eDig dg).length=32:=by simp
    let us:List Value:=(List.range 32).map f
    have hus:E5 g us (eDig dg):=⟨by simp[us],fun j j1 j2=>by simpa [us]using hv' j j2⟩
    have:=VR.of_cells (g:=g) (xs:=dg.bs.map eBy) (t:= .ro) (sz:=1) (b:=b) (off:=o) (cap:=32) (fun e he=>by obtain⟨a,_,rfl⟩:=AX.1 he;rfl) (by simp[dg.len]) ⟨by rw[AF,dg.len];decide,by rw[AF,dg.len];decide⟩ (us:=us)
     (by rw[Yq];exact hus) (fun j hj=>by
      have hj':j < 32:=by simpa [us]using hj
      rw[hH j (by omega)];simp[us]) (by simp) (by simp)
    simpa [dg.len]using this) k
class ZC (P:Program) (f:Nat) (args:List PV) (X:outParam PV):Prop where
 out: ∀ (vs:List Value) (w:World) (g:Gh),E5 g vs args→(∀ b o v,g.H b o=some v→w.cell? ⟨b,o,none⟩=some v)→ ∃ v,(callFunc f vs.toArray).run P w= .ok (.value v) w∧VR g v X
theorem oX {f:Nat} {X:PV} {ats:Array TypeId} {xs:List Operand} {xa:Array Operand} {args:List PV} (hxa:xa=xs.toArray) (hargs: ∀ i (h1:i < xs.length) (h2:i < args.length),Le (ρ.ev xs[i]) args[i]) (hl:xs.length=args.length) [hc:ZC P f args X] (k:AW P N all K fl.tail os (CT ρ d X) L) (hd:Nat.blt d N=true:=by rfl):
  AW P N all K fl (⟨some d,.call { callee:= .value (.func f),args:=xa,argTypes:=ats },ty,pos,af,none⟩::os) ρ L:=by
 subst hxa
 refine Bb hd (B7 fun a w g ha hi=>?_) k
 have hvs:E5 g (xs.map a.eval) args:=⟨by simpa using hl,fun i h1 h2=>by
  simp only[BT]
  exact hargs i (by simpa using h1) h2 g _ (ha _ (by simp[Op.operands,Call.operands]))⟩
 obtain⟨v,hr,hv⟩:=hc.out _ w g hvs hi.sat
 refine⟨v,?_,hv⟩
 have he:execOp a.eval ⟨some d,.call { callee:= .value (.func f),args:=xs.toArray,argTypes:=ats },ty,pos,af,none⟩=callFunc f (#[]++xs.toArray.map a.eval++ #[]):=rfl
 rw[he]
 simpa using hr
theorem rL {f:Nat} {X:PV} {ats:Array TypeId} {x0 x1:Operand} {a0 a1 b0 b1:PV} (q0:ρ.ev x0=a0) (q1:ρ.ev x1=a1) [hN0:Ja a0 b0] [hN1:Ja a1 b1] [hc:ZC P f [b0,b1] X] (k:AW P N all K fl.tail os (CT ρ d X) L) (hd:Nat.blt d N=true:=by rfl):
  AW P N all K fl (⟨some d,.call { callee:= .value (.func f),args:= #[x0,x1],argTypes:=ats },ty,pos,af,none⟩::os) ρ L:=
 oX (xs:= [x0,x1]) (args:= [b0,b1]) rfl (fun i h1 h2=>by
  match i,h1,h2 with
  |0,_,_=>exact q0 ▸ hN0.out
  |1,_,_=>exact q1 ▸ hN1.out
  |m+2,h1,_=>exact absurd h1 (by simp only[AH,Aa];omega)) rfl k hd
theorem RN {w:World} {g:Gh} (hsat: ∀ b o v,g.H b o=some v→w.cell? ⟨b,o,none⟩=some v) {v:Value} {bs:List UInt8} {t:CZ} (h:VR g v (.slice (bs.map eBy) t)):(Extern.Bytes.bytesOf v).run P w= .ok ⟨bs.toArray⟩ w:=by
 obtain⟨base,cap,e1,hcap,hmx,hnone,_,_,us,hus,hcell⟩:=h.slice_cells (sz:=1) (fun e he=>by obtain⟨a,_,rfl⟩:=AX.1 he;rfl)
 subst e1
 rw[Yq]at hus
 cases base with
 |none=>
  have:bs= []:=by simpa using (hnone rfl).1
  subst this
  simp[Extern.Bytes.bytesOf];rfl
 |some ad=>
  obtain⟨b,o,s⟩:=ad
  obtain⟨hs,hH⟩:=hcell _ rfl
  rcases hs with ⟨e3,e4⟩|hs
  ·have:bs= []:=by simpa using e3
   subst this
   simp[Extern.Bytes.bytesOf,Extern.Bytes.loadBytes];rfl
  simp only at hs
  subst hs
  have:=Lib.run_loadBytesX (P:=P) w (bs.map fun x=>(x.toNat:Int)) ⟨b,o,none⟩ .empty (fun j x hx=>by
   rw[Gw]at hx
   obtain⟨y,hy,rfl⟩:=Bk.1 hx
   have hj:j < bs.length:=(DA.1 hy).1
   have hj':j < us.length:=by rw[hus.len];simpa using hj
   rw[DQ,hsat _ _ _ (hH j hj')]
   have h2:=hus.at_ j hj' (by simpa using hj)
   have h3:bs[j]=y:=(DA.1 hy).2
   simp only[BT,eU8,h3]at h2
   rw[h2.raw_inv];rfl)
  rw[AF]at this
  simp only[Extern.Bytes.bytesOf,AF,this]
  congr 1
  apply ByteArray.ext
  have e2:Lib.bytesOf (bs.map fun x=>(x.toNat:Int))=bs:=by
   unfold Lib.bytesOf
   rw[DK]
   conv=>rhs;rw[←List.map_id bs]
   apply O2
   intro x _
   simp
  simp[e2]
end
theorem Mm: ∀ a b:List UInt8,Lib.compareBytes a b=NR a b
 | [],[]=>rfl
 | [],_::_=>rfl
 |_::_,[]=>rfl
 |x::xs,y::ys=>by simp[Lib.compareBytes,NR,Mm xs ys]
theorem Wg {P:Program} {f:Nat} {fn:Func} (hf:P.funcs[f]? =some fn) (hn:(fn.name== "runtime.NumGoroutine")=false) (hb:fn.body.isNone=true) (h1:Extern.findNext fn=none) (h2:Extern.find fn=some Extern.BytealgCompare.compare) (a b:List UInt8) (t u:CZ):
  ZC P f [.slice (a.map eBy) t,.slice (b.map eBy) u] (.raw (.int .i64 (NR a b))):=⟨fun vs w g hv hs=>by
 match vs,hv with
 | [x,y],hv=>
   obtain⟨q1,q2⟩:=hv.uncons
   obtain⟨q2,_⟩:=q2.uncons
   refine⟨_,?_,.raw _⟩
   rw[run_callFunc_extern hf hn hb h1 h2]
   show((do pure (goInt (Extern.BytealgCompare.cmp (←Extern.Bytes.bytesOf x) (←Extern.Bytes.bytesOf y))):Sem Value).run P w).andThen _=_
   simp only[Sem.run_bind,RN hs q1,RN hs q2,Result.andThen_ok,Sem.run_pure,Lib.cmp_eq,Mm]
   rfl
 | [],hv=>have:=hv.len;simp at this
 | [_],hv=>have:=hv.len;simp at this
 |_::_::_::_,hv=>have:=hv.len;simp at this⟩
theorem TI {P:Program} {f:Nat} {fn:Func} (hf:P.funcs[f]? =some fn) (hn:(fn.name== "runtime.NumGoroutine")=false) (hb:fn.body.isNone=true) (h1:Extern.findNext fn=none) (h2:Extern.find fn=some Extern.BytealgIndexByte.indexByte) (s:Str) (c:Int):
  ZC P f [.str s,.raw (.int .u8 c)] (.raw (.int .i64 (Lib.indexByte s c.toNat.toUInt8))):=⟨fun vs w g hv hs=>by
 match vs,hv with
 | [x,y],hv=>
   obtain⟨q1,q2⟩:=hv.uncons
   obtain⟨q2,_⟩:=q2.uncons
   have e1:x= .string ⟨s.toArray⟩:=by cases q1;rfl
   have e2:=q2.raw_inv
   subst e1 e2
   refine⟨_,?_,.raw _⟩
   rw[run_callFunc_extern hf hn hb h1 h2,Lib.run_indexByteString]
   rfl
 | [],hv=>have:=hv.len;simp at this
 | [_],hv=>have:=hv.len;simp at this
 |_::_::_::_,hv=>have:=hv.len;simp at this⟩
class kR (b:Nat) (L:List Res) (kvs:outParam (List (PV × PV))) (L':outParam (List Res)):Prop where
 out:L.Perm (.map b kvs::L')
instance {b:Nat} {kvs:List (PV × PV)} {L:List Res}:kR b (.map b kvs::L) kvs L:=⟨.refl _⟩
class xj (b:Nat) (L:List Res) (T:outParam Nat) (cs:outParam (List PV)) (L':outParam (List Res)):Prop where
 out:L.Perm (.box b T cs::L')
instance {x:PV}:At [x] 0 x:=⟨rfl⟩
class Kn (P:Program) (T:Nat) {κ α:outParam Type} (ek:outParam (κ→PV)) (ev:outParam (α→PV)):Prop where
 out:True
class VS {α:Type} (x:PV) (ev:α→PV) (a:outParam α):Prop where
 out:Le x (ev a)
instance (b:Bool):VS (.raw (.bool b)) vBool b:=⟨.refl _⟩
instance (n:Int):VS (.raw (.int .i64 n)) vInt n:=⟨.refl _⟩
instance {α:Type} (f:α→List PV) (l:List α) (t:CZ):VS (.slice (l.map f) t) (PD f) l:=⟨.ro _ _⟩
instance (priority:=low) (x:PV):VS x vId x:=⟨.refl _⟩
section
variable {P:Program} {N:Nat} {all:Array Oper} {K:Env→List Res→Prop} {fl:List Bool} {os:List Oper} {ρ:Env} {L:List Res} {Q:PPost} {c:Code} {d:Nat} {ty:TypeId} {pos:String} {af:Array Edge}
variable {κ α:Type} [DecidableEq κ] {ek:κ→PV} {ev:α→PV} {T KT ET:Nat}
omit [DecidableEq κ] in
theorem Qq [hF:Kn P T ek ev] (k: ∀ b,AW P N all K fl.tail os (CT ρ d (.raw (.map (some b)))) (.map b (Cq ek ev [])::L)) (hd:Nat.blt d N=true:=by rfl) (hf:fl.headD true=true:=by rfl):
  AW P N all K fl (⟨some d,.makeMap T none,ty,pos,af,none⟩::os) ρ L:=QT k hd hf
theorem YO [hF:Kn P T ek ev] [hT:QD P T KT ET] [hK:Tc P KT ek] {x y z:Operand} {b:Nat} {l:List (κ × α)} {ay az:PV} {k0:κ} {x0:α} {L':List Res} (hx:ρ.ev x= .raw (.map (some b))) [hp:kR b L (Cq ek ev l) L'] (hy:ρ.ev y=ay) [hk:Nb ay ek k0] (hz:ρ.ev z=az) [hv:VS az ev x0]
  (k:AW P N all K fl.tail os ρ (.map b (Cq ek ev (HJ k0 x0 l))::L')) (hfl:fl.headD true=true:=by rfl):AW P N all K fl (⟨none,.mapUpdate T x y z,ty,pos,af,none⟩::os) ρ L:=
 XZ hx hp.out (hy ▸ hk.out) (hz ▸ hv.out) k hfl
theorem YP [hF:Kn P T ek ev] [hT:QD P T KT ET] [hK:Tc P KT ek] {x y z:Operand} {b:Nat} {l:List (κ × α)} {ay az:PV} {k0:κ} {x0:α} {L':List Res} (hx:ρ.ev x= .raw (.map (some b))) [hp:kR b L (Cq ek ev l) L'] (hy:ρ.ev y=ay) [hk:Nb ay ek k0] (hz:ρ.ev z=az) [hv:VS az ev x0]
  (k:AW P N all K fl.tail os ρ (.map b (Cq ek ev (HJ k0 x0 l))::L')) (hfl:fl.headD true=true:=by rfl):AW P N all K fl (⟨none,.insert T x y z,ty,pos,af,none⟩::os) ρ L:=
 gJ hx hp.out (hy ▸ hk.out) (hz ▸ hv.out) k hfl
class VT (x:PV) (f:outParam Nat) (cs:outParam (List PV)):Prop where
 out:Le x (.clo f cs)
instance (f:Nat) (cs:List PV):VT (.clo f cs) f cs:=⟨.refl _⟩
instance (f:Nat):VT (.raw (.func (.func f) #[] #[])) f []:=⟨Ja.out⟩
theorem jI {f:Nat} {cs:List PV} {X ax:PV} {x x0:Operand} {ats:Array TypeId} {a0 b0:PV} (qx:ρ.ev x=ax) [hx:VT ax f cs] [hf:Av P f] (q0:ρ.ev x0=a0) [hN0:Ja a0 b0] [hc:Bj P f (b0::cs) X] (k:AW P N all K fl.tail os (CT ρ d X) L) (hd:Nat.blt d N=true:=by rfl):
  AW P N all K fl (⟨some d,.call { callee:= .value x,args:= #[x0],argTypes:=ats },ty,pos,af,none⟩::os) ρ L:=
 Vh (xs:= [x0]) (qx ▸ hx.out) rfl rfl (B2.args (by simp) (fun i h1 h2=>by
  match i,h1,h2 with
  |0,_,_=>simp only[BH,CX,BM,BL,B8,q0];exact hN0.out
  |m+1,h1,h2=>exact .of_eq (by simp)) hc.out) k hd
theorem jH {f:Nat} {cs:List PV} {X ax:PV} {x x0 x1:Operand} {ats:Array TypeId} {a0 b0 a1 b1:PV} (qx:ρ.ev x=ax) [hx:VT ax f cs] [hf:Av P f] (q0:ρ.ev x0=a0) (q1:ρ.ev x1=a1) [hN0:Ja a0 b0] [hN1:Ja a1 b1] [hc:Bj P f (b0::b1::cs) X] (k:AW P N all K fl.tail os (CT ρ d X) L) (hd:Nat.blt d N=true:=by rfl):
  AW P N all K fl (⟨some d,.call { callee:= .value x,args:= #[x0,x1],argTypes:=ats },ty,pos,af,none⟩::os) ρ L:=
 Vh (xs:= [x0,x1]) (qx ▸ hx.out) rfl rfl (B2.args (by simp) (fun i h1 h2=>by
  match i,h1,h2 with
  |0,_,_=>simp only[BH,CX,BM,BL,B8,q0];exact hN0.out
  |1,_,_=>simp only[BH,CX,BM,BL,Ct,B8,q1];exact hN1.out
  |m+2,h1,h2=>exact .of_eq (by simp)) hc.out) k hd
theorem fy {T:TypeId} {x y:Operand} {b by_:Nat} {c0 ay:PV} {L':List Res} [hT:EG P T 1 by_]
  (hx:ρ.ev x= .raw (.pointer (some ⟨b,0,none⟩))) (hy:ρ.ev y=ay) [hB:RQ b L [c0]] [hu:U2 b [c0] [ay] L L'] [hf:EH [ay]]
  (k:AW P N all K fl.tail os ρ L') (hfl:fl.headD true=true:=by rfl):AW P N all K fl (⟨none,.store T x y,ty,pos,af,none⟩::os) ρ L:=
 Dp rfl (fun _ e=>by cases e) hfl (J2 (new:= [ay]) (cs:= [c0]) (cs':= [ay]) hx (fun g v hv=>by
  rw[hy]at hv
  obtain⟨h1,h2,h3,h4⟩:=hf.out ay (by simp)
  have h1:=hv.one h1 h2 h3 h4
  refine⟨[v],?_,.cons hv (.nil g)⟩
  cases v<;>first|rfl|cases h1) rfl hf.out rfl (by simp) hu.out k)
theorem mw {f:Nat} {xs:Array Operand} {dst:Option Nat} (k:AW P N all K fl (⟨dst,.makeFunc (.func f) #[] xs,ty,pos,af,none⟩::os) ρ L):AW P N all K fl (⟨dst,.makeFunc (.func f) #[] xs,ty,pos,af,none⟩::os) ρ L:=k
theorem mz {t:Nat} {xs:Array Operand} {ats:Array TypeId} {dst:Option Nat} (k:AW P N all K fl (⟨dst,.call { callee:= .value (.tmp t),args:=xs,argTypes:=ats },ty,pos,af,none⟩::os) ρ L):AW P N all K fl (⟨dst,.call { callee:= .value (.tmp t),args:=xs,argTypes:=ats },ty,pos,af,none⟩::os) ρ L:=k
theorem rV {T:TypeId} {x y:Operand} {b:Bool} {dst:Option Nat} (k:AW P N all K fl (⟨dst,.lookup T x y b,ty,pos,af,none⟩::os) ρ L):AW P N all K fl (⟨dst,.lookup T x y b,ty,pos,af,none⟩::os) ρ L:=k
theorem rS {T:TypeId} {x y z:Operand} {dst:Option Nat} (k:AW P N all K fl (⟨dst,.mapUpdate T x y z,ty,pos,af,none⟩::os) ρ L):AW P N all K fl (⟨dst,.mapUpdate T x y z,ty,pos,af,none⟩::os) ρ L:=k
theorem rU {T:TypeId} {x y z:Operand} {dst:Option Nat} (k:AW P N all K fl (⟨dst,.insert T x y z,ty,pos,af,none⟩::os) ρ L):AW P N all K fl (⟨dst,.insert T x y z,ty,pos,af,none⟩::os) ρ L:=k
theorem pB {T:TypeId} {x:Operand} {dst:Option Nat} (k:AW P N all K fl (⟨dst,.box T x,ty,pos,af,none⟩::os) ρ L):AW P N all K fl (⟨dst,.box T x,ty,pos,af,none⟩::os) ρ L:=k
theorem w1 {A B:Prop} (k:B) (h:NZ B→A:=by
  intro hB
  first
   |(refine WC ?_;first|refine fy (by rfl) (by(conv=>lhs;whnf);done) (hB:=(by first|infer_instance|fail)) (hu:=(by first|infer_instance|fail)) (hf:=(by first|infer_instance|fail)) ?_)
   |refine ma ?_
   |refine qw ?_
   |(refine aU ?_;first|refine rL (by(conv=>lhs;whnf);done) (by(conv=>lhs;whnf);done) (hN0:=(by first|infer_instance|fail)) (hN1:=(by first|infer_instance|fail)) (hc:=(by first|infer_instance|fail)) ?_)
   |(refine WE ?_;first|refine gA (by rfl) ?_)
   |(refine mw ?_;first|refine qY (by(conv=>lhs;whnf);done) ?_|refine qX (by(conv=>lhs;whnf);done) (by(conv=>lhs;whnf);done) ?_|refine qW (by(conv=>lhs;whnf);done) (by(conv=>lhs;whnf);done) (by(conv=>lhs;whnf);done) ?_|refine s_clo0 ?_|refine s_clo4 (by(conv=>lhs;whnf);done) (by(conv=>lhs;whnf);done) (by(conv=>lhs;whnf);done) (by(conv=>lhs;whnf);done) ?_)
   |(refine mz ?_;first|refine jI (by(conv=>lhs;whnf);done) (by(conv=>lhs;whnf);done) (hx:=(by first|infer_instance|fail)) (hN0:=(by first|infer_instance|fail)) (hc:=(by first|infer_instance|fail)) ?_|refine jH (by(conv=>lhs;whnf);done) (by(conv=>lhs;whnf);done) (by(conv=>lhs;whnf);done) (hx:=(by first|infer_instance|fail)) (hN0:=(by first|infer_instance|fail)) (hN1:=(by first|infer_instance|fail)) (hc:=(by first|infer_instance|fail)) ?_)
   |(refine rV ?_;first|refine bN (κ:=Dig) (by(conv=>lhs;whnf);done) (by(conv=>lhs;whnf);done) (hT:=(by first|infer_instance|fail)) (hK:=(by first|infer_instance|fail)) (hz:=(by first|infer_instance|fail)) (hk:=(by first|infer_instance|fail)) ?_|refine bN (κ:=Int) (by(conv=>lhs;whnf);done) (by(conv=>lhs;whnf);done) (hT:=(by first|infer_instance|fail)) (hK:=(by first|infer_instance|fail)) (hz:=(by first|infer_instance|fail)) (hk:=(by first|infer_instance|fail)) ?_|refine UO (κ:=Dig) (by(conv=>lhs;whnf);done) (by(conv=>lhs;whnf);done) (hT:=(by first|infer_instance|fail)) (hK:=(by first|infer_instance|fail)) (hz:=(by first|infer_instance|fail)) (hk:=(by first|infer_instance|fail)) ?_|refine UO (κ:=Int) (by(conv=>lhs;whnf);done) (by(conv=>lhs;whnf);done) (hT:=(by first|infer_instance|fail)) (hK:=(by first|infer_instance|fail)) (hz:=(by first|infer_instance|fail)) (hk:=(by first|infer_instance|fail)) ?_|refine bM (κ:=Dig) (by rfl) (by repeat(first|exact AK|apply AD)) (by(conv=>lhs;whnf);done) (hT:=(by first|infer_instance|fail)) (hK:=(by first|infer_instance|fail)) (hz:=(by first|infer_instance|fail)) (hk:=(by first|infer_instance|fail)) ?_|refine bM (κ:=Int) (by rfl) (by repeat(first|exact AK|apply AD)) (by(conv=>lhs;whnf);done) (hT:=(by first|infer_instance|fail)) (hK:=(by first|infer_instance|fail)) (hz:=(by first|infer_instance|fail)) (hk:=(by first|infer_instance|fail)) ?_|refine UM (κ:=Dig) (by rfl) (by repeat(first|exact AK|apply AD)) (by(conv=>lhs;whnf);done) (hT:=(by first|infer_instance|fail)) (hK:=(by first|infer_instance|fail)) (hz:=(by first|infer_instance|fail)) (hk:=(by first|infer_instance|fail)) ?_|refine UM (κ:=Int) (by rfl) (by repeat(first|exact AK|apply AD)) (by(conv=>lhs;whnf);done) (hT:=(by first|infer_instance|fail)) (hK:=(by first|infer_instance|fail)) (hz:=(by first|infer_instance|fail)) (hk:=(by first|infer_instance|fail)) ?_)
   |(refine rS ?_;first|refine YO (κ:=Dig) (by rfl) (by(conv=>lhs;whnf);done) (by(conv=>lhs;whnf);done) (hF:=(by first|infer_instance|fail)) (hT:=(by first|infer_instance|fail)) (hK:=(by first|infer_instance|fail)) (hp:=(by first|infer_instance|fail)) (hk:=(by first|infer_instance|fail)) (hv:=(by first|infer_instance|fail)) ?_|refine YO (κ:=Int) (by rfl) (by(conv=>lhs;whnf);done) (by(conv=>lhs;whnf);done) (hF:=(by first|infer_instance|fail)) (hT:=(by first|infer_instance|fail)) (hK:=(by first|infer_instance|fail)) (hp:=(by first|infer_instance|fail)) (hk:=(by first|infer_instance|fail)) (hv:=(by first|infer_instance|fail)) ?_)
   |(refine rU ?_;first|refine YP (κ:=Dig) (by rfl) (by(conv=>lhs;whnf);done) (by(conv=>lhs;whnf);done) (hF:=(by first|infer_instance|fail)) (hT:=(by first|infer_instance|fail)) (hK:=(by first|infer_instance|fail)) (hp:=(by first|infer_instance|fail)) (hk:=(by first|infer_instance|fail)) (hv:=(by first|infer_instance|fail)) ?_|refine YP (κ:=Int) (by rfl) (by(conv=>lhs;whnf);done) (by(conv=>lhs;whnf);done) (hF:=(by first|infer_instance|fail)) (hT:=(by first|infer_instance|fail)) (hK:=(by first|infer_instance|fail)) (hp:=(by first|infer_instance|fail)) (hk:=(by first|infer_instance|fail)) (hv:=(by first|infer_instance|fail)) ?_)
   |(refine pB ?_;first|refine qa (by(conv=>lhs;whnf);done) (hC:=(by first|infer_instance|fail)) ?_)
  exact hB.out):A:=h ⟨k⟩
theorem wk {A B:Prop} (k:B) (h:NZ B→A:=by
  intro hB
  repeat(first
   |(fail_if_success (refine pB ?_));refine w1 ?_
   |refine AE ?_
   |refine DU ?_
   |refine CD (by kernel_rfl) ?_
   |refine Hr ?_
   |refine Fx ?_
   |refine Jq ?_
   |refine H0 ?_
   |refine Da (by decide+kernel) ?_
   |refine Hp (by rfl) ?_
   |refine Hq (by rfl) ?_)
  exact hB.out):A:=h ⟨k⟩
theorem wf {A B:Prop} (k:B) (h:NZ B→A:=by
  intro hB
  repeat(first
   |refine w1 ?_
   |refine AE ?_
   |refine DU ?_
   |refine CD (by kernel_rfl) ?_
   |refine Hr ?_
   |refine Fx ?_
   |refine Jq ?_
   |refine H0 ?_
   |refine Da (by decide+kernel) ?_
   |refine Hp (by rfl) ?_
   |refine Hq (by rfl) ?_)
  exact hB.out):A:=h ⟨k⟩
theorem wn {A B:Prop} (k:B) (h:NZ B→A:=by
  intro hB
  repeat(first
   |refine w1 ?_
   |refine AE ?_
   |refine DU ?_
   |refine CD (by kernel_rfl) ?_
   |refine Hr ?_
   |refine Fx ?_
   |refine Jq ?_
   |refine H0 ?_
   |refine Hp (by rfl) ?_
   |refine Hq (by rfl) ?_)
  exact hB.out):A:=h ⟨k⟩
theorem wo {A B:Prop} (k:B) (h:NZ B→A:=by
  intro hB
  repeat(first
   |refine w1 ?_)
  exact hB.out):A:=h ⟨k⟩
theorem ws {A B:Prop} (k:B) (h:NZ B→A:=by
  intro hB
  repeat(first
   |refine w1 ?_
   |refine AE ?_
   |refine DU ?_
   |refine CD (by kernel_rfl) ?_
   |refine Fx ?_
   |refine Jq ?_
   |refine H0 ?_
   |refine Da (by decide+kernel) ?_)
  exact hB.out):A:=h ⟨k⟩
theorem X8 {A:Prop} {B:Nat→Prop} (k: ∀ b,B b) (h:KQ B→A:=by
  intro hB
  refine wk ?_
  first|refine Xi (by rfl) fun b=>?_|refine BN fun b=>?_|refine s_boxC (by(conv=>lhs;whnf);done) (hC:=(by first|infer_instance|fail)) fun b=>?_
  refine wk ?_
  exact hB.out b):A:=h ⟨k⟩
theorem ZO {A:Prop} {B:Nat→Prop} (k: ∀ b,B b) (h:KQ B→A:=by
  intro hB
  refine wf ?_
  refine BN fun b=>?_
  refine wf ?_
  exact hB.out b):A:=h ⟨k⟩
theorem tj {A:Prop} {B:Nat→Prop} (k: ∀ b,B b) (h:KQ B→A:=by
  intro hB
  refine wf ?_
  refine Qq fun b=>?_
  refine wf ?_
  exact hB.out b):A:=h ⟨k⟩
theorem QL {A:Prop} {B:CZ→Prop} (k: ∀ t,B t) (h:KQ B→A:=by
  intro hB
  refine wf ?_
  first
   |refine H6 (by rfl) (by rfl) (by simp only[A7,AH,Aa,AF,AG,Ab,B3];omega) (by simp only[A7,AH,Aa,AF,AG,Ab,B3];omega) fun t=>?_
   |refine FZ (by rfl) (by rfl) (by simp only[A7,AH,Aa,AF,AG,Ab,B3];omega) (by simp only[A7,AH,Aa,AF,AG,Ab,B3];omega) (fun t=>by first|exact .here|exact(.there .here)|exact(.there (.there .here))|exact(.there (.there (.there .here)))|exact(.there (.there (.there (.there .here))))|exact(.there (.there (.there (.there (.there .here)))))|exact(.there (.there (.there (.there (.there (.there .here))))))|exact(.there (.there (.there (.there (.there (.there (.there .here)))))))|exact(.there (.there (.there (.there (.there (.there (.there (.there .here))))))))) fun t=>?_
  refine wf ?_
  exact hB.out t):A:=h ⟨k⟩
theorem wz {A:Prop} {B:Nat→Prop} (k: ∀ b,B b) (h:KQ B→A:=by
  intro hB
  refine wf ?_
  refine BN fun b=>?_
  refine wo ?_
  refine AE ?_
  exact hB.out b):A:=h ⟨k⟩
end
section
variable {P:Program} {N:Nat} {all:Array Oper} {K:Env→List Res→Prop} {os:List Oper} {ρ:Env} {L:List Res} {Q:PPost} {c:Code}
def Na (ρ' ρ:Env):Prop:= ∀ i,ρ' i=ρ i∨ρ' i= .junk
theorem Na.ev {ρ' ρ:Env} (h:Na ρ' ρ) (x:Operand):ρ'.ev x=ρ.ev x∨ρ'.ev x= .junk:=by
 cases x with
 |tmp t=>exact h t
 |_=>exact .inl rfl
theorem Na.updo {ρ' ρ:Env} (h:Na ρ' ρ) (dst:Option Nat) (x:PV):Na (updo ρ' dst x) (updo ρ dst x):=by
 cases dst with
 |none=>exact h
 |some d=>intro i;by_cases e:i=d
          ·left;subst e;show CT _ _ _ _=CT _ _ _ _;rw[C4,C4]
          ·show CT _ _ _ _=CT _ _ _ _∨CT _ _ _ _=_
           rw[GM _ _ e,GM _ _ e];exact h i
theorem FW.weak {o:Oper} {ρ':Env} {L':List Res} {Ψ:PV→List Res→Prop} (hw:Na ρ' ρ) (hL:L'.Sublist L) (h:FW P o ρ' L' Ψ):FW P o ρ L Ψ:=fun a w g ha hi=>by
 have hb: ∀ b,b∈Ao L'→b∈Ao L:=fun b hb=>(GD hL).subset hb
 refine(h a w g (fun x hx=>?_) (hi.sub hL)).mono fun a' w' ⟨v,x,g'',L'',k1,k2,k3,k4,k5,k6⟩=>⟨v,x,g'',L'',k1,k2,k3,k4.grow hb,fun b hm hl=>hb b (k5 b hm hl),k6⟩
 rcases hw.ev x with e|e
 ·rw[e];exact ha x hx
 ·rw[e];exact .junk _
theorem Nr (hK: ∀ ρ ρ' L L',Na ρ' ρ→L'.Sublist L→K ρ' L'→K ρ L): ∀ {os:List Oper} {ρ ρ':Env} {L L':List Res},Na ρ' ρ→L'.Sublist L→AW P N all K [] os ρ' L'→AW P N all K [] os ρ L
 | [],_,_,_,_,hw,hL,h=>hK _ _ _ _ hw hL h
 |o::os,ρ,ρ',L,L',hw,hL,h=>by
  obtain⟨hd,h⟩:=h
  refine⟨hd,?_⟩
  rcases h with ⟨hno,h⟩|⟨hyes,h⟩
  ·refine .inl ⟨?_,Nr hK (hw.updo _ _) hL h⟩
   unfold kS at*
   cases hg:o.guard with
   |none=>simp only[hg]at hno
   |some p=>
    simp only[hg]at hno ⊢
    obtain⟨s,v,h1,h2,h3⟩:=hno
    have h4:ρ s= .raw v:=by
     rcases hw s with e|e
     ·rw[e]at h2;exact h2
     ·rw[e]at h2;cases h2
    exact⟨s,v,h1,h4,h3⟩
  ·refine .inr ⟨?_,.inr ⟨rfl,?_⟩⟩
   ·unfold QE at*
    cases hg:o.guard with
    |none=>trivial
    |some p=>
     simp only[hg]at hyes ⊢
     obtain⟨s,h1,h2⟩:=hyes
     exact⟨s,h1,by
      rcases hw s with e|e
      ·rw[e]at h2;exact h2
      ·rw[e]at h2;cases h2⟩
   ·rcases h with ⟨x,hq,h⟩|⟨_,h⟩
    ·exact(FW.mono hq fun x' L'' ⟨e1,e2⟩=>by subst e1;subst e2;exact Nr hK (hw.updo _ _) (.refl _) h).weak hw hL
    ·exact(h.mono fun x L'' h=>Nr hK (hw.updo _ _) (.refl _) h).weak hw hL
theorem Pe {K:Env→List Res→Prop} {os2:List Oper}: ∀ {os1:List Oper} {ρ:Env} {L:List Res},AW P N all (fun ρ L=>AW P N all K [] os2 ρ L) [] os1 ρ L→AW P N all K [] (os1++os2) ρ L
 | [],_,_,h=>h
 |o::os1,ρ,L,h=>by
  obtain⟨hd,h⟩:=h
  refine⟨hd,?_⟩
  rcases h with ⟨hno,h⟩|⟨hyes,h⟩
  ·exact .inl ⟨hno,Pe h⟩
  ·refine .inr ⟨hyes,?_⟩
   rcases h with ⟨x,hq,h⟩|⟨hf,h⟩
   ·exact .inl ⟨x,hq,Pe h⟩
   ·exact .inr ⟨hf,h.mono fun x L' h=>Pe h⟩
theorem K2 {y:Code} (n:Nat) (E:List (Nat × PV)) (LL:List Res) (h:AW P N all (fun ρ L=>Oc ρ E∧LL.Sublist L) [] (os.take n) ρ L) (k:AW P N all (fun ρ L=>EB P N y Q ρ L) [] (os.drop n) (fL E) LL)
  (hK: ∀ ρ L,EB P N y Q ρ L→K ρ L:=by intro _ _ h;exact h):AW P N all K [] os ρ L:=by
 have:=Pe (P:=P) (N:=N) (all:=all) (K:=K) (os1:=os.take n) (os2:=os.drop n) (ρ:=ρ) (L:=L) (K1 (fun ρ' L' ⟨h1,h2⟩=>K1 hK (Nr (fun _ _ _ _ hw hL h=>MA hw hL h) (ab h1) h2 k)) h)
 rwa [CB]at this
end
section
variable {P:Program} {w w':World} {g:Gh} {L:List Res}
theorem DM.later (hi:DM w g L) (hk: ∀ k,k < w.heap.size→w'.heap[k]? =w.heap[k]?):DM w' g L:=by
 refine⟨fun b i v h=>?_,fun b z h=>(hi.satM b z h).congr (hk b (hi.satM b z h).lt),fun r hr=>?_,hi.nodup,hi.glob⟩
 ·have h0:=hi.sat b i v h
  have hb:b < w.heap.size:=by
   rcases BC b w.heap.size with h'|h'
   ·exact h'
   ·simp[World.cell?,Bl h']at h0
  simp only[World.cell?]at h0 ⊢
  rw[hk b hb];exact h0
 ·exact Res.holds_kept (.refl g) (hi.res r hr) fun b hb=>⟨hk b (hi.lt (Bo.2 ⟨r,hr,hb⟩)),fun _=>rfl,rfl⟩
theorem DM.other {l:Nat} (hi:DM w g L) (hH: ∀ o,g.H l o=none) (hM:g.M l=none) (hl:l∉Ao L) (hk: ∀ k,k≠l→w'.heap[k]? =w.heap[k]?):DM w' g L:=by
 refine⟨fun b i v h=>?_,fun b z h=>?_,fun r hr=>?_,hi.nodup,hi.glob⟩
 ·have:b≠l:=fun e=>by subst e;rw[hH]at h;cases h
  have h0:=hi.sat b i v h
  simp only[World.cell?]at h0 ⊢
  rw[hk b this];exact h0
 ·have:b≠l:=fun e=>by subst e;rw[hM]at h;cases h
  exact(hi.satM b z h).congr (hk b this)
 ·exact Res.holds_kept (.refl g) (hi.res r hr) fun b hb=>⟨hk b (fun e=>hl (Bo.2 ⟨r,hr,by rw[hb,e]⟩)),fun _=>rfl,rfl⟩
theorem DM.rawHead {l:Nat} {o:Obj} (hi:DM w g (.raw l o::L)):w.heap[l]? =some o∧(∀ o,g.H l o=none)∧g.M l=none∧l∉Ao L∧DM w g L:=by
 obtain⟨h1,h2,h3⟩:=hi.res _ (AK)
 have hnd:=hi.nodup
 simp only[Ao,BF,Res.block]at hnd
 exact⟨h1,h2,h3,(CP.1 hnd).1,hi.sub (L6 _ _)⟩
theorem DM.turnRaw {l:Nat} {o o':Obj} (hi:DM w g (.raw l o::L)) (h:w'.heap[l]? =some o') (hk: ∀ k,k≠l→w'.heap[k]? =w.heap[k]?):DM w' g (.raw l o'::L):=by
 obtain⟨_,h2,h3,hn,hi'⟩:=hi.rawHead
 exact(hi'.other h2 h3 hn hk).addRaw h h2 h3 hn
theorem rY {f:FuncId} {args:List PV} {X:PV} (h: ∀ vs w g LF,E5 g vs args→DM w g LF→Calls P f vs.toArray w (fun e w'=> ∃ v,e= .returned v∧(∀ g,VR g v X)∧w'.os=w.os∧w'.tape=w.tape∧w'.output=w.output∧w.drawn≤w'.drawn∧w.heap.size≤w'.heap.size∧ ∀ k,k < w.heap.size→w'.heap[k]? =w.heap[k]?)):Fn P f args X:=fun vs w g LF hv hi=>by
 rw[BL]at hi
 refine(h vs w g LF hv hi).mono ?_
 rintro e w' ⟨v,rfl,h1,h2,h3,h4,h5,h6,h7⟩
 exact⟨v,X,g,[],rfl,h1 g,hi.later h7,⟨h2,h3,⟨h4,h5⟩,h6,fun k hk _=>h7 k hk,.refl g,fun _ _ _=>⟨fun _=>rfl,rfl⟩⟩,.refl _ _,rfl,rfl⟩
end
def Mu (l:List UInt8):List Value:=l.map fun b=>Value.int .u8 b.toNat
@[simp] theorem W6 (l:List UInt8):(Mu l).length=l.length:=by simp[Mu]
theorem P2 (l m:List UInt8):Mu (l++m)=Mu l++Mu m:=by simp[Mu]
class fA (P:Program) (T:Nat) (E:outParam Nat):Prop where
 out: ∃ i,P.underlying T=some (.slice E)∧P.info? E=some i∧i.size=1∧i.bytes=1∧i.zero=some (.int .u8 0)∧P.cellsOf E=1
inductive Km (E:Nat):Value→List UInt8→List Res→Prop
 |nil:Km E (.slice none 0 0) [] []
 |row {r cap:Nat} {cur:Array Value} {l:List UInt8} (hl:l.length≤cap) (hs:cur.size=cap) (hc:cur.toList.take l.length=Mu l):Km E (.slice (some ⟨r,0,none⟩) l.length cap) l [.raw r (.cells cur E (0,0))]
theorem Nw {w:World} {g:Gh} {R LF:List Res} (hi:DM w g (R++LF)) (o:Obj):DM (w.drew.alloc o) g (.raw w.heap.size o::LF)∧Ej (Ao (R++LF)) w g (w.drew.alloc o) g∧DV w (R++LF) (.raw w.heap.size o::LF):=by
 have hk: ∀ k,k < w.heap.size→(w.drew.alloc o).heap[k]? =w.heap[k]?:=fun k hk=>by
  show(w.heap.push o)[k]? =_
  rw[HH,if_neg (by omega)]
 have h1:(w.drew.alloc o).heap[w.heap.size]? =some o:=by show(w.heap.push o)[w.heap.size]? =_;simp
 have hiL:DM w g LF:=hi.sub (Dj _ _)
 obtain⟨h2,h3⟩:=hi.fresh (B4 w.heap.size)
 refine⟨(hiL.later hk).addRaw h1 h2 h3 (fun h=>GH _ (hiL.lt h)),⟨rfl,rfl,⟨rfl,QG _⟩,by simp,fun k h _=>hk k h,.refl g,fun _ _ _=>⟨fun _=>rfl,rfl⟩⟩,fun b hb hlt=>?_⟩
 simp only[Ao,BF,Res.block]at hb
 rcases AI.1 hb with rfl|hb
 ·exact absurd hlt (GH _)
 ·simp only[Ao,CC];exact EP _ hb
theorem Z8 {P:Program} {T T₂ E ty:Nat} [hT:fA P T E] (hu:P.underlying T₂=some .string∨ ∃ e,P.underlying T₂=some (.slice e)) {w:World} {g:Gh} {LF R:List Res} {v:Value} {l:List UInt8} (u:Value) (s:List UInt8)
  (hi:DM w g (R++LF)) (hv:Km E v l R) (hl: ∀ w',(Builtin.lenOf u).run P w'= .ok s.length w')
  (hf: ∀ w',(∀ b o x,g.H b o=some x→w'.cell? ⟨b,o,none⟩=some x)→(Builtin.firstCells 1 s.length u).run P w'= .ok (Mu s).toArray w') (hb:l.length+s.length≤140737488355328):
  ∃ v' w' R',(Builtin.append_ #[T,T₂] ty #[v,u]).run P w= .ok v' w'∧Km E v' (l++s) R'∧DM w' g (R'++LF)∧Ej (Ao (R++LF)) w g w' g∧DV w (R++LF) (R'++LF):=by
 obtain⟨i,t1,t2,t3,t4,t5,_⟩:=hT.out
 have hone: ∀ x∈Mu s,x.oneCell'=true:=fun x hx=>by
  obtain⟨b,_,rfl⟩:=AX.1 hx;rfl
 have grown: ∀ cap nc (base:Option Addr),¬(l.length+s.length≤cap)→v= .slice base l.length cap→(∀ w',w'.heap=w.heap→(Builtin.firstCells 1 l.length (.slice base l.length cap)).run P w'= .ok (Mu l).toArray w')→nc=grownCap w (l.length+s.length) cap E→
   (Builtin.append_ #[T,T₂] ty #[v,u]).run P w= .ok (.slice (some ⟨w.heap.size,0,none⟩) (l.length+s.length) nc) (w.drew.alloc (.cells ((Mu l++Mu s).toArray++Builtin.zeroCells (Value.int .u8 0).cells (nc - (l.length+s.length))) E (0,0))):=by
  rintro cap nc base hn rfl hfl rfl
  have hcapb:Builtin.nextslicecap (l.length+s.length) cap≤2 ^ 48:=by
   have:=GZ (show cap < l.length+s.length by omega)
   have:(2:Nat) ^ 48=2*140737488355328:=by decide
   omega
  have h63': ¬(9223372036854775807 < ((l.length:Int)+(s.length:Int))):=by omega
  have h48': ¬(281474976710656 < Builtin.nextslicecap (l.length+s.length) cap*i.bytes):=by
   rw[t4];have:(2:Nat) ^ 48=281474976710656:=by decide
   omega
  have f1:=hfl w.drew rfl
  have f2:=hf w.drew hi.sat
  rcases hu with hu|⟨e,hu⟩<;>
  ·simp[Builtin.append_,run_underlying t1,run_underlying hu,sizeOf,typeInfo,zeroValue,t2,t3,t5,hl,hn,h63',h48',Question.forced,f1,f2,newRow,grownCap]
   congr 2
   apply MY
   simp[AL]
 have res: ∀ nc,l.length+s.length≤nc→ ∃ R',Km E (.slice (some ⟨w.heap.size,0,none⟩) (l.length+s.length) nc) (l++s) R'∧DM (w.drew.alloc (.cells ((Mu l++Mu s).toArray++Builtin.zeroCells (Value.int .u8 0).cells (nc - (l.length+s.length))) E (0,0))) g (R'++LF)∧
   Ej (Ao (R++LF)) w g (w.drew.alloc (.cells ((Mu l++Mu s).toArray++Builtin.zeroCells (Value.int .u8 0).cells (nc - (l.length+s.length))) E (0,0))) g∧DV w (R++LF) (R'++LF):=fun nc hnc=>by
  obtain⟨k1,k2,k3⟩:=Nw hi (.cells ((Mu l++Mu s).toArray++Builtin.zeroCells (Value.int .u8 0).cells (nc - (l.length+s.length))) E (0,0))
  refine⟨[.raw w.heap.size (.cells ((Mu l++Mu s).toArray++Builtin.zeroCells (Value.int .u8 0).cells (nc - (l.length+s.length))) E (0,0))],?_,k1,k2,k3⟩
  have:=Km.row (E:=E) (r:=w.heap.size) (cap:=nc) (cur:=(Mu l++Mu s).toArray++Builtin.zeroCells (Value.int .u8 0).cells (nc - (l.length+s.length))) (l:=l++s) (by simpa using hnc) (by
   have hz1:(Value.int IntKind.u8 0).cells.size=1:=rfl
   simp[size_zeroCells,hz1];omega) (by
   simp only[Array.toList_append,P2]
   rw[←P2,Dy (by simp)])
  simpa using this
 cases hv with
 |nil=>
  by_cases hs:s= []
  ·subst hs
   refine⟨.slice none 0 0,w,[],?_,.nil,hi,.refl _ _ _,.refl _ _⟩
   have f2:=hf w hi.sat
   simp only[Aa]at f2 hl
   rcases hu with hu|⟨e,hu⟩<;>simp[Builtin.append_,run_underlying t1,run_underlying hu,sizeOf,typeInfo,t2,t3,hl,f2,Mu]
  ·have hpos:0 < s.length:=ZF.2 hs
   have hr:=grown 0 _ none (by simp;omega) rfl (fun w' _=>rfl) rfl
   obtain⟨R',k1,k2,k3,k4⟩:=res _ (grownCap_ge w (([]:List UInt8).length+s.length) 0 E)
   exact⟨_,_,R',hr,k1,k2,k3,k4⟩
 |row hlc hs hc=>
  rename_i r cap cur
  obtain⟨h1,h2,h3,hn,hiL⟩:=hi.rawHead
  by_cases hroom:l.length+s.length≤cap
  ·have hbk':w.heap[r]? =some (.cells cur.toList.toArray E (0,0)):=by simpa using h1
   obtain⟨w',hrun,hb',hos,htp,hout,hsz',hkk⟩:=Eg (P:=P) (Mu s) w cur.toList l.length 0 hbk' (by simp[hs];omega) hone
   refine⟨.slice (some ⟨r,0,none⟩) (l.length+s.length) cap,w',[.raw r (.cells (cur.toList.take (l.length+0)++Mu s++cur.toList.drop (l.length+0+(Mu s).length)).toArray E (0,0))],?_,?_,hi.turnRaw hb' hkk,⟨hos,htp,hout,Dd hsz'.symm,fun k _ hk=>hkk k (fun e=>hk (by simp[Ao,Res.block,e])),.refl g,fun _ _ _=>⟨fun _=>rfl,rfl⟩⟩,fun b hb _=>by simpa [Ao,Res.block]using hb⟩
   ·have f2:=hf w hi.sat
    rcases hu with hu|⟨e,hu⟩<;>simp[Builtin.append_,run_underlying t1,run_underlying hu,sizeOf,typeInfo,t2,t3,hl,hroom,f2,DQ,hrun]
   ·have:=Km.row (E:=E) (r:=r) (cap:=cap) (cur:=(cur.toList.take (l.length+0)++Mu s++cur.toList.drop (l.length+0+(Mu s).length)).toArray) (l:=l++s) (by simpa using hroom) (by
     simp only[BJ,A7,AG,Ab,C8,hs,W6,DR];omega) (by
     rw[DR,hc,←P2,Dy (by simp)])
    simpa using this
  ·have hr:=grown cap _ (some ⟨r,0,none⟩) hroom rfl (fun w' hw'=>by
    show(loadCells _ (l.length*1)).run P w'=_
    rw[J9,←W6 l]
    refine Ec fun j hj=>?_
    have hj2:j < cur.toList.length:=by rw[C8,hs];rw[W6]at hj;omega
    simp only[World.cell?,hw',h1,BZ,BP,if_false,B3]
    have:(Mu l)[j]=cur.toList[j]:=by
     have:=KS hc.symm hj
     rw[this,Ep]
    rw[this]
    simp[Cf (show j < cur.size by simpa using hj2)]) rfl
   obtain⟨R',k1,k2,k3,k4⟩:=res _ (grownCap_ge w (l.length+s.length) cap E)
   exact⟨_,_,R',hr,k1,k2,k3,k4⟩
section
variable {P:Program} {N:Nat} {all:Array Oper} {K:Env→List Res→Prop} {fl:List Bool} {os:List Oper} {ρ:Env} {L:List Res} {d:Nat} {ty:TypeId} {pos:String} {af:Array Edge}
theorem jX (s:List UInt8) (w:World):(Builtin.firstCells 1 s.length (.string ⟨s.toArray⟩)).run P w= .ok (Mu s).toArray w:=by
 have h:=Lib.run_firstCells_string (P:=P) w 1 ⟨s.toArray⟩
 have e:(⟨s.toArray⟩:ByteArray).size=s.length:=by simp[ByteArray.size]
 rw[e]at h
 rw[h];congr 1
theorem gk {T T₂ E:Nat} [hT:fA P T E] [h2:O6 P T₂] {x y:Operand} {v:Value} {l s:List UInt8} {R LF:List Res} (F:List Res→List Res) {ay:PV} (hx:ρ.ev x= .raw v) (hy:ρ.ev y=ay) [jy:HF ay s] (hv:Km E v l R) (hp:L.Perm (R++LF)) (hq: ∀ R',(R'++LF).Perm (F R')) (hb:l.length+s.length≤140737488355328)
  (k: ∀ v' R',Km E v' (l++s) R'→AW P N all K fl.tail os (CT ρ d (.raw v')) (F R')) (hd:Nat.blt d N=true:=by rfl) (hfl:fl.headD true=true:=by rfl):
  AW P N all K fl (⟨some d,.call { callee:= .builtin .append,args:= #[x,y],argTypes:= #[T,T₂] },ty,pos,af,none⟩::os) ρ L:=
 Dp rfl (QF hd) hfl (FW.perm hp fun a w g ha hi=>by
  have h1:=CW ha (x:=x) (by simp[Op.operands,Call.operands]) hx
  have h3:=ha y (by simp[Op.operands,Call.operands])
  rw[hy]at h3
  have e:a.eval y= .string ⟨s.toArray⟩:=jy.out g _ h3
  obtain⟨v',w',R',q1,q2,q3,q4,q5⟩:=Z8 (P:=P) (T:=T) (T₂:=T₂) (ty:=ty) (.inl h2.out) (.string ⟨s.toArray⟩) s hi hv (fun _=>by simp[Builtin.lenOf,ByteArray.size]) (fun w' _=>jX s w') hb
  have he:execOp a.eval ⟨some d,.call { callee:= .builtin .append,args:= #[x,y],argTypes:= #[T,T₂] },ty,pos,af,none⟩=(do pure (.value (←Builtin.append_ #[T,T₂] ty (#[x,y].map a.eval)))):=rfl
  have hr:(execOp a.eval ⟨some d,.call { callee:= .builtin .append,args:= #[x,y],argTypes:= #[T,T₂] },ty,pos,af,none⟩).run P w= .ok (.value v') w':=by
   rw[he];simp[h1,e,q1]
  refine Oper.wq_of_run hr ?_
  exact⟨v',.raw v',g,F R',rfl,.raw _,q3.perm (hq R'),q4,fun b hb hlt=>q5 b ((DC (hq R')).symm.subset hb) hlt,k v' R' q2⟩)
theorem dU {T T₂ E E₂:Nat} [hT:fA P T E] [h2:L0 P T₂ E₂] {x y:Operand} {v:Value} {l:List UInt8} {c:UInt8} {t:CZ} {R LF:List Res} (F:List Res→List Res) (hx:ρ.ev x= .raw v) (hy:ρ.ev y= .slice [[.raw (.int .u8 c.toNat)]] t) (hv:Km E v l R) (hp:L.Perm (R++LF)) (hq: ∀ R',(R'++LF).Perm (F R')) (hb:l.length+1≤140737488355328)
  (k: ∀ v' R',Km E v' (l++ [c]) R'→AW P N all K fl.tail os (CT ρ d (.raw v')) (F R')) (hd:Nat.blt d N=true:=by rfl) (hfl:fl.headD true=true:=by rfl):
  AW P N all K fl (⟨some d,.call { callee:= .builtin .append,args:= #[x,y],argTypes:= #[T,T₂] },ty,pos,af,none⟩::os) ρ L:=
 Dp rfl (QF hd) hfl (FW.perm hp fun a w g ha hi=>by
  have h1:=CW ha (x:=x) (by simp[Op.operands,Call.operands]) hx
  have h3:=ha y (by simp[Op.operands,Call.operands])
  rw[hy]at h3
  obtain⟨base,cap,e,_,_,hnone,_,_,us,hus,hcell⟩:=h3.slice_cells (sz:=1) (by simp)
  simp only[CH,MX,B1]at hus
  obtain⟨v1,rfl⟩: ∃ v1,us= [v1]:=by
   have:=hus.len
   match us,this with
   | [v1],_=>exact⟨v1,rfl⟩
  rw[hus.uncons.1.raw_inv]at hcell
  simp only[AH,Aa,B3]at e
  obtain⟨v',w',R',q1,q2,q3,q4,q5⟩:=Z8 (P:=P) (T:=T) (T₂:=T₂) (ty:=ty) (.inr ⟨_,h2.out⟩) (.slice base 1 cap) [c] hi hv (fun _=>rfl) (fun w' hs'=>by
   cases base with
   |none=>exact absurd (hnone rfl).1 (by simp)
   |some ad=>
    obtain⟨b,o,sp⟩:=ad
    obtain⟨hs,hH⟩:=hcell _ rfl
    rcases hs with ⟨e3,_⟩|hs
    ·cases e3
    simp only at hs
    subst hs
    exact Ec (vs:= [.int .u8 c.toNat]) fun j hj=>hs' _ _ _ (hH j hj)) (by simpa using hb)
  have he:execOp a.eval ⟨some d,.call { callee:= .builtin .append,args:= #[x,y],argTypes:= #[T,T₂] },ty,pos,af,none⟩=(do pure (.value (←Builtin.append_ #[T,T₂] ty (#[x,y].map a.eval)))):=rfl
  have hr:(execOp a.eval ⟨some d,.call { callee:= .builtin .append,args:= #[x,y],argTypes:= #[T,T₂] },ty,pos,af,none⟩).run P w= .ok (.value v') w':=by
   rw[he];simp[h1,e,q1]
  refine Oper.wq_of_run hr ?_
  exact⟨v',.raw v',g,F R',rfl,.raw _,q3.perm (hq R'),q4,fun b hb hlt=>q5 b ((DC (hq R')).symm.subset hb) hlt,k v' R' q2⟩)
theorem FO {T:TypeId} {E:Nat} [hT:L0 P T E] {x:Operand} {a:Option Addr} {n c:Nat} (hx:ρ.ev x= .raw (.slice a n c)) (k:AW P N all K fl.tail os (CT ρ d (.raw (.int .i64 n))) L) (hd:Nat.blt d N=true:=by rfl):
  AW P N all K fl (⟨some d,.call { callee:= .builtin .len,args:= #[x],argTypes:= #[T] },ty,pos,af,none⟩::os) ρ L:=
 Bb hd (B7 fun a' w g ha hi=>⟨.int .i64 n,by
  have h1:=CW ha (x:=x) (by simp[Op.operands,Call.operands]) hx
  have he:execOp a'.eval ⟨some d,.call { callee:= .builtin .len,args:= #[x],argTypes:= #[T] },ty,pos,af,none⟩=(do pure (.value (←Builtin.len_ #[T] ty (#[x].map a'.eval)))):=rfl
  rw[he]
  simp[Builtin.len_,h1,Hf hT.out,goInt],.raw _⟩) k
theorem XR {T:TypeId} {x:Operand} {a:Addr} {n c:Nat} (hx:ρ.ev x= .raw (.slice (some a) n c)) (hc:c≠0) (k:AW P N all K fl.tail os (CT ρ d (.raw (.pointer (some a)))) L) (hd:Nat.blt d N=true:=by rfl):
  AW P N all K fl (⟨some d,.call { callee:= .builtin .unsafeSliceData,args:= #[x],argTypes:= #[T] },ty,pos,af,none⟩::os) ρ L:=
 Bb hd (B7 fun a' w g ha hi=>⟨.pointer (some a),by
  have h1:=CW ha (x:=x) (by simp[Op.operands,Call.operands]) hx
  have he:execOp a'.eval ⟨some d,.call { callee:= .builtin .unsafeSliceData,args:= #[x],argTypes:= #[T] },ty,pos,af,none⟩=(do pure (.value (←Builtin.unsafeSliceData_ #[T] ty (#[x].map a'.eval)))):=rfl
  rw[he]
  have:=Lib.run_unsafeSliceData_row (P:=P) w #[T] ty a n c hc
  simp[h1,this],.raw _⟩) k
theorem S0 {T T₂ E r:Nat} (hT:P.underlying T=some (.pointer E)) (hE:P.cellsOf E=1) {x y:Operand} {cur:Array Value} {l:List UInt8} {L':List Res} (hx:ρ.ev x= .raw (.pointer (some ⟨r,0,none⟩))) (hy:ρ.ev y= .raw (.int .i64 l.length)) (hp:L.Perm (.raw r (.cells cur E (0,0))::L'))
  (h0:l≠ []) (hl:l.length≤cur.size) (hc:cur.toList.take l.length=Mu l) (hb:l.length≤140737488355328) (k:AW P N all K fl.tail os (CT ρ d (.str l)) L') (hd:Nat.blt d N=true:=by rfl) (hfl:fl.headD true=true:=by rfl):
  AW P N all K fl (⟨some d,.call { callee:= .builtin .unsafeString,args:= #[x,y],argTypes:= #[T,T₂] },ty,pos,af,none⟩::os) ρ L:=
 Dp rfl (QF hd) hfl (FW.perm hp fun a w g ha hi=>by
  have h1:=CW ha (x:=x) (by simp[Op.operands,Call.operands]) hx
  have h2:=CW ha (x:=y) (by simp[Op.operands,Call.operands]) hy
  obtain⟨k1,k2,k3,k4,k5⟩:=hi.rawHead
  have he:execOp a.eval ⟨some d,.call { callee:= .builtin .unsafeString,args:= #[x,y],argTypes:= #[T,T₂] },ty,pos,af,none⟩=(do pure (.value (←Builtin.unsafeString_ #[T,T₂] ty (#[x,y].map a.eval)))):=rfl
  have hrun:=Lib.run_unsafeString_row (P:=P) w T T₂ ty E hT hE r cur.size (by simp[World.shape?,k1]) l h0 hl (by omega) (fun j x hj=>by
   have hjl:=(DA.1 hj).1
   have e1:(Mu l)[j]? =some (.int .u8 x.toNat):=by simp[Mu,hj]
   rw[←hc,GV,if_pos hjl]at e1
   rw[DQ]
   simp only[World.cell?,k1,BZ,BP,if_false,B3]
   simpa using e1)
  have hr:(execOp a.eval ⟨some d,.call { callee:= .builtin .unsafeString,args:= #[x,y],argTypes:= #[T,T₂] },ty,pos,af,none⟩).run P w= .ok (.value (.string ⟨l.toArray⟩)) (w.freeze ⟨r,0,none⟩ l.length):=by
   rw[he];simp[h1,h2,hrun]
  have hk: ∀ b,b≠r→(w.freeze ⟨r,0,none⟩ l.length).heap[b]? =w.heap[b]?:=fun b hb=>by
   unfold World.freeze
   split
   ·rfl
   ·simp[LZ,Ne.symm hb]
  have hsz:(w.freeze ⟨r,0,none⟩ l.length).heap.size=w.heap.size:=by
   unfold World.freeze
   split<;>simp
  have hws:(w.freeze ⟨r,0,none⟩ l.length).os=w.os∧(w.freeze ⟨r,0,none⟩ l.length).tape=w.tape∧(w.freeze ⟨r,0,none⟩ l.length).output=w.output∧(w.freeze ⟨r,0,none⟩ l.length).drawn=w.drawn:=by
   unfold World.freeze
   split<;>exact⟨rfl,rfl,rfl,rfl⟩
  refine Oper.wq_of_run hr ?_
  exact⟨_,.str l,g,L',rfl,.str (by show l.length≤maxN;exact hb),k5.other k2 k3 k4 hk,⟨hws.1,hws.2.1,⟨hws.2.2.1,Dd hws.2.2.2.symm⟩,Dd hsz.symm,fun b _ hb=>hk b (fun e=>hb (by simp[Ao,Res.block,e])),.refl g,fun _ _ _=>⟨fun _=>rfl,rfl⟩⟩,
   fun b hb _=>by simp only[Ao,BF,Res.block];exact AD _ hb,k⟩)
instance {x y:PV}:At [x,y] 0 x:=⟨rfl⟩
instance {x y:PV}:At [x,y] 1 y:=⟨rfl⟩
theorem Km.one {E:Nat} {v:Value} {l:List UInt8} {R:List Res} (h:Km E v l R):v.oneCell'=true:=by cases h<;>rfl
theorem K7 {T:TypeId} {x y:Operand} {b off by_:Nat} {cs:List PV} {v:Value} {L':List Res} [hT:EG P T 1 by_] (cs':List PV)
  (hx:ρ.ev x= .raw (.pointer (some ⟨b,off,none⟩))) (hy:ρ.ev y= .raw v) (hv:v.oneCell'=true) [hB:RQ b L cs] (hp:cs.take off++ [.raw v]++cs.drop (off+1)=cs') (hle:off+1≤cs.length) [hu:U2 b cs cs' L L']
  (k:AW P N all K fl.tail os ρ L') (hfl:fl.headD true=true:=by rfl):AW P N all K fl (⟨none,.store T x y,ty,pos,af,none⟩::os) ρ L:=
 Dp rfl (fun _ e=>by cases e) hfl (J2 (new:= [.raw v]) (cs:=cs) (cs':=cs') hx (fun g v' hv'=>by
  rw[hy]at hv'
  rw[hv'.raw_inv]
  refine⟨[v],?_,.cons (.raw v) (.nil g)⟩
  cases v<;>first|rfl|cases hv) rfl (fun x hx=>by
   rcases AI.1 hx with rfl|h
   ·exact⟨by simp,by simp,fun u e=>by cases e;exact hv,by simp⟩
   ·cases h) hp hle hu.out k)
theorem Bu (f:Nat):Le (.raw (.func (.func f) #[] #[])) (.clo f []):=Ja.out
theorem fA.of {P:Program} {T E:Nat} (h1:P.underlying T=some (.slice E)) (h2:(P.info? E).map (fun i=>(i.zero,i.size,i.bytes))=some (some (.int .u8 0),1,1)) (h3:P.cellsOf E=1):fA P T E:=⟨by
 obtain⟨i,hi,e⟩:=Bk.1 h2
 injection e with e1 e2
 injection e2 with e2 e3
 exact⟨i,h1,hi,e2,e3,e1,h3⟩⟩
class sD (P:Program) (T:Nat) (E sz:outParam Nat):Prop where
 out:P.underlying T=some (.pointer E)∧ ∃ j,P.info? E=some j∧j.size=sz
theorem sD.of {P:Program} {T E sz:Nat} (h1:P.underlying T=some (.pointer E)) (h2:(P.info? E).map (·.size)=some sz):sD P T E sz:=⟨h1,Bk.1 h2⟩
theorem qU {T T' E sz:Nat} [hT:sD P T E sz] {x y:Operand} {p:Option Addr} (hx:ρ.ev x= .raw (.pointer p)) (hy:ρ.ev y= .raw (.pointer none)) (k:AW P N all K fl.tail os (CT ρ d (.raw (.bool p.isNone))) L) (hd:Nat.blt d N=true:=by rfl):
  AW P N all K fl (⟨some d,.binOp .eql T x y T',ty,pos,af,none⟩::os) ρ L:=
 ob hx hy (fun w=>by unfold eqGuard;simp) (fun w=>by
  have h: ∀ d:Nat,(Op.equalIn (d+1) T (.pointer p) (.pointer none)).run P w= .ok p.isNone w:=fun d=>by
   cases p<;>simp[Op.equalIn,run_underlying hT.out.1]
  simp only[binOp]
  simp[Op.equal,Op.maxDepth,h 9999]) k hd
theorem qQ {T T' E sz:Nat} [hT:sD P T E sz] {x y:Operand} {a:Addr} (hx:ρ.ev x= .raw (.pointer (some a))) (hy:ρ.ev y= .raw (.pointer (some a))) (k:AW P N all K fl.tail os (CT ρ d (.raw (.bool false))) L) (hd:Nat.blt d N=true:=by rfl):
  AW P N all K fl (⟨some d,.binOp .neq T x y T',ty,pos,af,none⟩::os) ρ L:=
 ob hx hy (fun w=>by unfold eqGuard;simp) (fun w=>by
  obtain⟨h1,j,h2,_⟩:=hT.out
  exact Lib.run_neq_ptr_same w a h1 h2) k hd
theorem Zb {S D E sz T' b:Nat} [hS:sD P S E sz] (hD:P.underlying D=some .unsafePointer) (hz:sz≠0) {x:Operand} {cs:List PV} (hx:ρ.ev x= .raw (.pointer (some ⟨b,0,none⟩))) (hm:Res.box b T' cs∈L) (hc:cs≠ []) (k:AW P N all K fl.tail os (CT ρ d (.raw (.pointer (some ⟨b,0,none⟩)))) L) (hd:Nat.blt d N=true:=by rfl):
  AW P N all K fl (⟨some d,.convert S D x,ty,pos,af,none⟩::os) ρ L:=
 Bb hd (B7 fun a w g ha hi=>⟨.pointer (some ⟨b,0,none⟩),by
  have h1:=CW ha (x:=x) (by simp[Op.operands]) hx
  obtain⟨vs,hb,hvs,_⟩:=hi.res _ hm
  obtain⟨q1,j,q2,q3⟩:=hS.out
  have hl:0 < vs.length:=by rw[hvs.len];exact ZF.2 hc
  have hrun:=Lib.run_to_unsafe (P:=P) w ⟨b,0,none⟩ q1 hD q2 (by rw[q3];exact hz) (e:=T') (cells:=vs.length) (by simp[World.shape?,hb]) hl
  have he:execOp a.eval ⟨some d,.convert S D x,ty,pos,af,none⟩=(do pure (.value (←convert S D (a.eval x)))):=rfl
  rw[he];simp[h1,hrun],.raw _⟩) k
theorem Ve {S D E sz T' b:Nat} [hD:sD P D E sz] (hS:P.underlying S=some .unsafePointer) {x:Operand} {cs:List PV} (hx:ρ.ev x= .raw (.pointer (some ⟨b,0,none⟩))) (hm:Res.box b T' cs∈L) (hl:liesAt P P.depth T' (cs.length / P.cellsOf T') 0 E 1=true) (k:AW P N all K fl.tail os (CT ρ d (.raw (.pointer (some ⟨b,0,none⟩)))) L) (hd:Nat.blt d N=true:=by rfl):
  AW P N all K fl (⟨some d,.convert S D x,ty,pos,af,none⟩::os) ρ L:=
 Bb hd (B7 fun a w g ha hi=>⟨.pointer (some ⟨b,0,none⟩),by
  have h1:=CW ha (x:=x) (by simp[Op.operands]) hx
  obtain⟨vs,hb,hvs,_⟩:=hi.res _ hm
  obtain⟨q1,j,q2,q3⟩:=hD.out
  have hrun:=Lib.run_from_unsafe (P:=P) w ⟨b,0,none⟩ hS q1 q2 (e:=T') (cells:=vs.length) (by simp[World.shape?,hb]) (by rw[hvs.len];exact hl)
  have he:execOp a.eval ⟨some d,.convert S D x,ty,pos,af,none⟩=(do pure (.value (←convert S D (a.eval x)))):=rfl
  rw[he];simp[h1,hrun],.raw _⟩) k
theorem eb {f:Nat} {fn:Func} (hf:P.funcs[f]? =some fn) (hn:(fn.name== "runtime.NumGoroutine")=false) (hb:fn.body.isNone=true) (h1:Extern.findNext fn=none) (h2:Extern.find fn=some Extern.AbiNoEscape.same) (v:Value):
  ZC P f [.raw v] (.raw v):=⟨fun vs w g hv hs=>by
 match vs,hv with
 | [x],hv=>
   have e:=hv.uncons.1.raw_inv
   subst e
   refine⟨x,?_,.raw _⟩
   rw[run_callFunc_extern hf hn hb h1 h2]
   rw[show #[x]= [x].toArray from rfl]at*
   rfl
 | [],hv=>have:=hv.len;simp at this
 |_::_::_,hv=>have:=hv.len;simp at this⟩
theorem LG {T:TypeId} {x y:Operand} {b off by_:Nat} {cs:List PV} {ay:PV} {L':List Res} [hT:EG P T 1 by_] (cs':List PV)
  (hx:ρ.ev x= .raw (.pointer (some ⟨b,off,none⟩))) (hy:ρ.ev y=ay) [hB:RQ b L cs] (hf:JU [ay]) (hp:cs.take off++ [ay]++cs.drop (off+1)=cs') (hle:off+1≤cs.length) [hu:U2 b cs cs' L L']
  (k:AW P N all K fl.tail os ρ L') (hfl:fl.headD true=true:=by rfl):AW P N all K fl (⟨none,.store T x y,ty,pos,af,none⟩::os) ρ L:=
 Dp rfl (fun _ e=>by cases e) hfl (J2 (new:= [ay]) (cs:=cs) (cs':=cs') hx (fun g v hv=>by
  rw[hy]at hv
  obtain⟨h1,h2,h3,h4⟩:=hf ay (by simp)
  have h1:=hv.one h1 h2 h3 h4
  refine⟨[v],?_,.cons hv (.nil g)⟩
  cases v<;>first|rfl|cases h1) rfl hf hp hle hu.out k)
end
end Go.Q
