/- The small logic: maps. Library, no statement of its own. -/
import Derived.Test.YtpebdiofdfpooaaGreatDoorUae
import Derived.WideKeyRuns
import Derived.Test.YtpebdiofdfpooaaGreatDoorUad
import Derived.Lib.Bytealg
import Derived.Lib.BytesEntry
import Derived.Laws.Externs
import Derived.Lib.UnsafeStr
import Derived.Lib.Builder
set_option linter.unusedSimpArgs false
set_option linter.unusedVariables false
namespace Go.Q
open Go
def LX {κ:Type} [DecidableEq κ] (k:κ):List κ→Option Nat
 | []=>none
 |a::l=>if k=a then some 0 else(LX k l).map (·+1)
def Dv {κ α:Type} [DecidableEq κ] (k:κ):List (κ × α)→Option α
 | []=>none
 |(a,x)::l=>if k=a then some x else Dv k l
def Hb {κ α:Type} [DecidableEq κ] (k:κ) (x:α):List (κ × α)→List (κ × α)
 | []=> [(k,x)]
 |(a,y)::l=>if k=a then(k,x)::l else(a,y)::Hb k x l
theorem KR {κ α:Type} [DecidableEq κ] (k k':κ) (x:α): ∀ l:List (κ × α),Dv k' (Hb k x l)=if k'=k then some x else Dv k' l
 | []=>by simp[Hb,Dv]
 |(a,y)::l=>by
  unfold Hb
  by_cases h:k=a
  ·subst h
   rw[if_pos rfl]
   simp only[Dv]
   by_cases h2:k'=k<;>simp[h2]
  ·rw[if_neg h]
   simp only[Dv,KR k k' x l]
   by_cases h2:k'=a
   ·subst h2;simp[Ne.symm h]
   ·simp[h2]
theorem P6 {κ α:Type} [DecidableEq κ] (k:κ) (x:α): ∀ {l:List (κ × α)},LX k (l.map (·.1))=none→Hb k x l=l++ [(k,x)]
 | [],_=>rfl
 |(a,y)::l,h=>by
  simp only[BG,LX]at h
  by_cases e:k=a
  ·simp[e]at h
  ·simp only[e,if_false,z7]at h
   simp[Hb,e,P6 k x h]
theorem LV {κ α:Type} [DecidableEq κ] (k:κ) (x:α): ∀ {l:List (κ × α)} {i:Nat},LX k (l.map (·.1))=some i→ ∃ y,l[i]? =some (k,y)∧Hb k x l=l.set i (k,x)∧Dv k l=some y
 | [],_,h=>by simp[LX]at h
 |(a,y)::l,i,h=>by
  simp only[BG,LX]at h
  by_cases e:k=a
  ·subst e
   simp at h;subst h
   exact⟨y,rfl,by simp[Hb],by simp[Dv]⟩
  ·simp only[e,if_false,Bj]at h
   obtain⟨j,hj,rfl⟩:=h
   obtain⟨z,h1,h2,h3⟩:=LV k x hj
   exact⟨z,by simpa using h1,by simp[Hb,e,h2],by simp[Dv,e,h3]⟩
theorem OW {κ α:Type} [DecidableEq κ] (k:κ): ∀ {l:List (κ × α)},LX k (l.map (·.1))=none→Dv k l=none
 | [],_=>rfl
 |(a,y)::l,h=>by
  simp only[BG,LX]at h
  by_cases e:k=a
  ·simp[e]at h
  ·simp only[e,if_false,z7]at h
   simp[Dv,e,OW k h]
def Cj {κ α:Type} (ek:κ→PV) (ev:α→PV) (l:List (κ × α)):List (PV × PV):=l.map fun p=>(ek p.1,ev p.2)
class Ql (P:Program) (T:Nat) (K E:outParam Nat):Prop where
 out:P.underlying T=some (.map K E)
class ZV (P:Program) (E:Nat) {α:Type} (ev:α→PV) (a0:outParam α):Prop where
 out: ∃ i v,P.info? E=some i∧i.zero=some v∧ ∀ g,VR g v (ev a0)
structure eC (P:Program) (K:Nat) {κ:Type} [DecidableEq κ] (ek:κ→PV):Prop where
 check: ∀ (b:Bool) (g:Gh) (v:Value) (k:κ) (w:World),VR g v (ek k)→(Instr.checkKey b 10000 K v).run P w= .ok () w
 find: ∀ (g:Gh) (v:Value) (k:κ) (es:List MapEntry) (l:List κ) (w:World),VR g v (ek k)→es.length=l.length→(∀ i (h:i < es.length) (h':i < l.length),VR g es[i].key (ek l[i]))→
  (Instr.findKey K v es).run P w= .ok ((LX k l).bind fun i=>(es[i]?).map fun e=>(i,e.val)) w
 same: ∀ (g:Gh) (u v:Value) (k:κ),VR g u (ek k)→VR g v (ek k)→Instr.sameBits 10000 u v=true
class UH (P:Program) (K:Nat) {κ:Type} [DecidableEq κ] (ek:κ→PV):Prop where
 out:eC P K ek
def kDig (d:Dig):PV:= .agg (eDig d)
def kInt (n:Int):PV:= .raw (.int .i64 n)
def vBool (b:Bool):PV:= .raw (.bool b)
def Pw {α:Type} (f:α→List PV) (l:List α):PV:= .slice (l.map f) .ro
def yd {κ α:Type} (ek:κ→PV) (ev:α→PV) (l:List (κ × α)):PV:= .fmap (Cj ek ev l)
def vInt (n:Int):PV:= .raw (.int .i64 n)
def vId (x:PV):PV:=x
theorem Tt {α β:Type} {r:Option Nat} {e:α} {es:List α} {f:Nat→α→β}:((r.map (·+1)).bind fun i=>((e::es)[i]?).map (f i))=(r.bind fun i=>(es[i]?).map (f (i+1))):=by
 cases r<;>simp
theorem ZT {P:Program} {K:Nat} (hT: ∃ E i,P.underlying K=some (.array 32 E)∧P.underlying E=some (.int .u8)∧P.info? E=some i∧i.size=1) (k:Dig) (w:World): ∀ (es:List MapEntry) (l:List Dig) (n:Nat),es.length=l.length→
  (∀ i (h:i < es.length) (h':i < l.length),es[i].key= .agg (l[i].bs.map u8).toArray)→
  (Instr.findAsking K (.agg (k.bs.map u8).toArray) es n).run P w= .ok ((LX k l).bind fun i=>(es[i]?).map fun e=>(n+i,e.val)) w
 | [],[],n,_,_=>by simp[Instr.findAsking,LX]
 | [],_::_,_,h,_=>by simp at h
 |_::_,[],_,h,_=>by simp at h
 |e::es,a::l,n,h,hk=>by
  have h0:=hk 0 (by simp) (by simp)
  simp only[B9]at h0
  unfold Instr.findAsking
  simp only[Sem.run_bind,Op.equal,h0,Op.maxDepth,JY 9998 hT,Result.andThen_ok]
  by_cases e1:k=a
  ·subst e1
   simp[LX]
  ·have d1:decide (k=a)=false:=by simp[e1]
   simp only[d1,BQ,if_false]
   rw[ZT hT k w es l (n+1) (by simpa using h) (fun i h1 h2=>by have:=hk (i+1) (by simpa using h1) (by simpa using h2);simpa using this)]
   simp only[LX,e1,if_false]
   rw[Tt]
   congr 1
   cases LX k l with
   |none=>rfl
   |some j=>simp only[Hc];congr 1;funext e;rw[EH,Oo 1]
theorem Q2: ∀ (l:List UInt8),(((l.map u8).zip (l.map u8)).all fun(p:Value × Value)=>Instr.sameBits 9999 p.1 p.2)=true
 | []=>rfl
 |a::l=>by
  simp only[BG,List.zip_cons_cons,xb,Bu]
  exact⟨by simp[u8,Instr.sameBits],Q2 l⟩
theorem fe {P:Program} {K:Nat} [hT:Uu P K]:eC P K kDig where
 check:=fun b g v k w hv=>by
  obtain⟨E,i,h1,h2,h3,h4⟩:=hT.arr
  have hv:=Iw hv
  subst hv
  rw[show(10000:Nat)=9999+1 from rfl,Instr.checkKey]
  simp only[Sem.run_bind,run_underlying h1,Result.andThen_ok]
  simp only[Std.Legacy.Range.forIn_eq_forIn_range',Std.Legacy.Range.size,UI,Nat.add_one_sub_one,Nat.div_one]
  have each: ∀ j∈List.range' 0 32,j < 32:=fun j hj=>by simpa using hj
  generalize List.range' 0 32=is at each
  induction is with
  |nil=>simp
  |cons j is ih=>
   have hj:=each j (by simp)
   have hlt:j < k.bs.length:=by rw[k.len];exact hj
   have p0:(sizeOf E).run P w= .ok 1 w:=by unfold sizeOf typeInfo;simp[h3,h4]
   have p1:(part E (k.bs.map u8).toArray (j*1)).run P w= .ok (u8 k.bs[j]) w:=JX (Q1 h2) (by simp[hlt]) w
   have p2:(Instr.checkKey b 9999 E (u8 k.bs[j])).run P w= .ok () w:=by rw[show(9999:Nat)=9998+1 from rfl,Instr.checkKey];simp[run_underlying h2,u8]
   simp only[List.forIn_cons,Sem.run_bind,p0,Result.andThen_ok,p1,p2,Sem.run_pure]
   exact ih (fun y hy=>each y (by simp[hy]))
 find:=fun g v k es l w hv hl hk=>by
  obtain⟨E,i,h1,_⟩:=hT.arr
  have hv:=Iw hv
  subst hv
  rw[run_findKey_eq w (by rw[h1]),ZT hT.arr k w es l 0 hl (fun i h h'=>Iw (hk i h h'))]
  simp
 same:=fun g u v k hu hv=>by
  rw[Iw hu,Iw hv,show(10000:Nat)=9999+1 from rfl,Instr.sameBits]
  simpa using Q2 k.bs
instance {P:Program} {K:Nat} [Uu P K]:UH P K kDig:=⟨fe⟩
theorem ZS {k:Int} {q:IntKind}: ∀ (es:List MapEntry) (l:List Int) (n:Nat),es.length=l.length→(∀ i (h:i < es.length) (h':i < l.length),es[i].key= .int .i64 l[i])→
  Instr.findNow (.int q) (.int .i64 k) es n=some ((LX k l).bind fun i=>(es[i]?).map fun e=>(n+i,e.val))
 | [],[],n,_,_=>by simp[Instr.findNow,LX]
 | [],_::_,_,h,_=>by simp at h
 |_::_,[],_,h,_=>by simp at h
 |e::es,a::l,n,h,hk=>by
  have h0:=hk 0 (by simp) (by simp)
  simp only[B9]at h0
  unfold Instr.findNow
  by_cases e1:k=a
  ·subst e1
   simp[h0,Instr.sameNow,LX]
  ·have d1:(k==a)=false:=by simp[e1]
   simp only[h0,Instr.sameNow,if_true,d1]
   rw[ZS es l (n+1) (by simpa using h) (fun i h1 h2=>by have:=hk (i+1) (by simpa using h1) (by simpa using h2);simpa using this)]
   simp only[LX,e1,if_false]
   rw[Tt]
   congr 1
   cases LX k l with
   |none=>rfl
   |some j=>simp only[Hc];congr 1;funext e;rw[EH,Oo 1]
theorem fc {P:Program} {K:Nat} {q:IntKind} [hT:My P K q]:eC P K kInt where
 check:=fun b g v k w hv=>by
  rw[hv.raw_inv,show(10000:Nat)=9999+1 from rfl,Instr.checkKey]
  simp[run_underlying hT.out]
 find:=fun g v k es l w hv hl hk=>by
  rw[hv.raw_inv,MapKept.run_findKey hT.out (ZS es l 0 hl (fun i h h'=>(hk i h h').raw_inv))]
  simp
 same:=fun g u v k hu hv=>by
  rw[hu.raw_inv,hv.raw_inv];simp[Instr.sameBits]
instance {P:Program} {K:Nat} {q:IntKind} [My P K q]:UH P K kInt:=⟨fc⟩
section
variable {P:Program} {κ α:Type} [DecidableEq κ] {ek:κ→PV} {ev:α→PV} {T K E:Nat}
theorem Ml (hT:P.underlying T=some (.map K E)) (hk:eC P K ek) {a0:α} (hz: ∃ i v,P.info? E=some i∧i.zero=some v∧ ∀ g,VR g v (ev a0)) {w:World} {g:Gh} {es:Array MapEntry} {l:List (κ × α)}
  (hE:Entries g es (Cj ek ev l)) {x v:Value} {k:κ} (hx:(∃ m c,x= .map (some m)∧w.heap[m]? =some (.map es c))∨(x= .map none∧es= #[])) (hv:VR g v (ek k)) (ok:Bool):
  ∃ u,(Instr.lookup T x v ok).run P w= .ok (if ok then .tuple #[u,.bool (Dv k l).isSome]else u) w∧VR g u (ev ((Dv k l).getD a0)):=by
 have hlen:es.toList.length=(l.map (·.1)).length:=by have:=hE.len;simpa [Cj]using this
 have hf:=hk.find g v k es.toList (l.map (·.1)) w hv hlen (fun i h h'=>by
  have:=hE.key i (by simpa using h) (by simpa [Cj]using h')
  simpa [Cj]using this)
 cases hi:LX k (l.map (·.1))with
 |none=>
  rw[hi]at hf
  obtain⟨i,z,z1,z2,z3⟩:=hz
  refine⟨z,?_,by rw[OW k hi];exact z3 g⟩
  unfold Instr.lookup
  rcases hx with ⟨m,c,rfl,hb⟩|⟨rfl,rfl⟩
  ·simp only[Sem.run_bind,run_underlying hT,Result.andThen_ok,MapKept.run_getObj_map hb,Sem.run_pure,hk.check _ g v k w hv,hf,mC,zeroValue,typeInfo,run_program,z1,z2,OW k hi]
   cases ok<;>simp
  ·simp only[Sem.run_bind,run_underlying hT,Result.andThen_ok,Sem.run_pure,hk.check _ g v k w hv,hf,mC,zeroValue,typeInfo,run_program,z1,z2,OW k hi]
   cases ok<;>simp
 |some i=>
  rw[hi]at hf
  obtain⟨y,h1,_,h3⟩:=LV (α:=α) k a0 hi
  have hlt:i < l.length:=(Cx.1 h1).1
  have hlt':i < es.size:=by have:=hE.len;simp[Cj]at this;omega
  have hval:=hE.val i hlt' (by simpa [Cj]using hlt)
  have hy:l[i]=(k,y):=(Cx.1 h1).2
  simp only[Cj,BT,hy]at hval
  refine⟨es[i].val,?_,by rw[h3];exact hval⟩
  unfold Instr.lookup
  have e1:es.toList[i]? =some es[i]:=by simp[hlt']
  rcases hx with ⟨m,c,rfl,hb⟩|⟨rfl,rfl⟩
  ·simp only[Sem.run_bind,run_underlying hT,Result.andThen_ok,MapKept.run_getObj_map hb,Sem.run_pure,hk.check _ g v k w hv,hf,Hc,e1,FG,h3]
   cases ok<;>simp
  ·simp at hlt'
end
section
variable {P:Program} {N:Nat} {all:Array Oper} {K:Env→List Res→Prop} {fl:List Bool} {os:List Oper} {ρ:Env} {L:List Res} {Q:PPost} {c:Code} {d:Nat} {ty:TypeId} {pos:String} {af:Array Edge}
variable {κ α:Type} [DecidableEq κ] {ek:κ→PV} {ev:α→PV} {T KT ET:Nat}
class O7 (x:PV) (ek:κ→PV) (k:outParam κ):Prop where
 out:Le x (ek k)
instance (d:Dig):O7 (.agg (eDig d)) kDig d:=⟨.refl _⟩
instance (n:Int):O7 (.raw (.int .i64 n)) kInt n:=⟨.refl _⟩
theorem cU {x y:Operand} {l:List (κ × α)} {ay:PV} {k0:κ} (hx:ρ.ev x= .fmap (Cj ek ev l)) (hy:ρ.ev y=ay) [hT:Ql P T KT ET] [hK:UH P KT ek] {a0:α} [hz:ZV P ET ev a0] [hk:O7 ay ek k0]
  (k:AY P N all K fl.tail os (CN ρ d (ev ((Dv k0 l).getD a0))) L) (hd:Nat.blt d N=true:=by rfl):AY P N all K fl (⟨some d,.lookup T x y false,ty,pos,af,none⟩::os) ρ L:=
 Bg hd (B7 fun a w g ha hi=>by
  have h1:=ha x (by simp[Op.operands]);rw[hx]at h1
  have h2:=hk.out g _ (hy ▸ ha y (by simp[Op.operands]))
  have key: ∃ es,((∃ m c,a.eval x= .map (some m)∧w.heap[m]? =some (.map es c))∨(a.eval x= .map none∧es= #[]))∧Entries g es (Cj ek ev l):=by
   generalize a.eval x=v at h1
   generalize Cj ek ev l=kvs at h1 ⊢
   cases h1 with
   |fmap hM hl hk' hv'=>obtain⟨hc,_⟩:=hi.satM _ _ hM;exact⟨_,.inl ⟨_,_,rfl,hc⟩,⟨hl,hk',hv'⟩⟩
   |nilM=>exact⟨#[],.inr ⟨rfl,rfl⟩,⟨rfl,by simp,by simp⟩⟩
  obtain⟨es,he,hE⟩:=key
  obtain⟨u,hr,hu⟩:=Ml hT.out hK.out hz.out hE he h2 false
  refine⟨u,?_,hu⟩
  simp only[execOp,hr,Sem.run_bind,Result.andThen_ok,Sem.run_pure];rfl) k
theorem VN {x y:Operand} {l:List (κ × α)} {ay:PV} {k0:κ} (hx:ρ.ev x= .fmap (Cj ek ev l)) (hy:ρ.ev y=ay) [hT:Ql P T KT ET] [hK:UH P KT ek] {a0:α} [hz:ZV P ET ev a0] [hk:O7 ay ek k0]
  (k:AY P N all K fl.tail os (CN ρ d (.tuple [ev ((Dv k0 l).getD a0),.raw (.bool (Dv k0 l).isSome)])) L) (hd:Nat.blt d N=true:=by rfl):AY P N all K fl (⟨some d,.lookup T x y true,ty,pos,af,none⟩::os) ρ L:=
 Bg hd (B7 fun a w g ha hi=>by
  have h1:=ha x (by simp[Op.operands]);rw[hx]at h1
  have h2:=hk.out g _ (hy ▸ ha y (by simp[Op.operands]))
  have key: ∃ es,((∃ m c,a.eval x= .map (some m)∧w.heap[m]? =some (.map es c))∨(a.eval x= .map none∧es= #[]))∧Entries g es (Cj ek ev l):=by
   generalize a.eval x=v at h1
   generalize Cj ek ev l=kvs at h1 ⊢
   cases h1 with
   |fmap hM hl hk' hv'=>obtain⟨hc,_⟩:=hi.satM _ _ hM;exact⟨_,.inl ⟨_,_,rfl,hc⟩,⟨hl,hk',hv'⟩⟩
   |nilM=>exact⟨#[],.inr ⟨rfl,rfl⟩,⟨rfl,by simp,by simp⟩⟩
  obtain⟨es,he,hE⟩:=key
  obtain⟨u,hr,hu⟩:=Ml hT.out hK.out hz.out hE he h2 true
  refine⟨_,?_,E8.tuple (.cons hu (.cons (.raw (.bool (Dv k0 l).isSome)) (.nil g)))⟩
  simp only[execOp,hr,Sem.run_bind,Result.andThen_ok,Sem.run_pure];rfl) k
theorem cT {x y:Operand} {b:Nat} {l:List (κ × α)} {ay:PV} {k0:κ} (hx:ρ.ev x= .raw (.map (some b))) (hm:Res.map b (Cj ek ev l)∈L) (hy:ρ.ev y=ay) [hT:Ql P T KT ET] [hK:UH P KT ek] {a0:α} [hz:ZV P ET ev a0] [hk:O7 ay ek k0]
  (k:AY P N all K fl.tail os (CN ρ d (ev ((Dv k0 l).getD a0))) L) (hd:Nat.blt d N=true:=by rfl):AY P N all K fl (⟨some d,.lookup T x y false,ty,pos,af,none⟩::os) ρ L:=
 Bg hd (B7 fun a w g ha hi=>by
  have h1:=CR ha (x:=x) (by simp[Op.operands]) hx
  have h2:=hk.out g _ (hy ▸ ha y (by simp[Op.operands]))
  obtain⟨es,c,hb,hE,_⟩:=hi.res _ hm
  obtain⟨u,hr,hu⟩:=Ml hT.out hK.out hz.out hE (.inl ⟨b,c,h1,hb⟩) h2 false
  refine⟨u,?_,hu⟩
  simp only[execOp,hr,Sem.run_bind,Result.andThen_ok,Sem.run_pure];rfl) k
theorem VM {x y:Operand} {b:Nat} {l:List (κ × α)} {ay:PV} {k0:κ} (hx:ρ.ev x= .raw (.map (some b))) (hm:Res.map b (Cj ek ev l)∈L) (hy:ρ.ev y=ay) [hT:Ql P T KT ET] [hK:UH P KT ek] {a0:α} [hz:ZV P ET ev a0] [hk:O7 ay ek k0]
  (k:AY P N all K fl.tail os (CN ρ d (.tuple [ev ((Dv k0 l).getD a0),.raw (.bool (Dv k0 l).isSome)])) L) (hd:Nat.blt d N=true:=by rfl):AY P N all K fl (⟨some d,.lookup T x y true,ty,pos,af,none⟩::os) ρ L:=
 Bg hd (B7 fun a w g ha hi=>by
  have h1:=CR ha (x:=x) (by simp[Op.operands]) hx
  have h2:=hk.out g _ (hy ▸ ha y (by simp[Op.operands]))
  obtain⟨es,c,hb,hE,_⟩:=hi.res _ hm
  obtain⟨u,hr,hu⟩:=Ml hT.out hK.out hz.out hE (.inl ⟨b,c,h1,hb⟩) h2 true
  refine⟨_,?_,E8.tuple (.cons hu (.cons (.raw (.bool (Dv k0 l).isSome)) (.nil g)))⟩
  simp only[execOp,hr,Sem.run_bind,Result.andThen_ok,Sem.run_pure];rfl) k
theorem Qz (k: ∀ b,AY P N all K fl.tail os (CN ρ d (.raw (.map (some b)))) (.map b []::L)) (hd:Nat.blt d N=true:=by rfl) (hf:fl.headD true=true:=by rfl):
  AY P N all K fl (⟨some d,.makeMap T none,ty,pos,af,none⟩::os) ρ L:=
 Dr rfl (Qn hd) hf (fun a w g ha hi=>by
  obtain⟨i1,s1⟩:=hi.allocO (.map #[] 0)
  have hr:(execOp a.eval ⟨some d,.makeMap T none,ty,pos,af,none⟩).run P w= .ok (.value (.map (some w.heap.size))) (w.alloc (.map #[] 0)):=by
   simp only[execOp,Instr.makeMap,Option.map_none,Sem.run_bind,run_newObj_alloc,Result.andThen_ok,Sem.run_pure]
  refine Oper.wq_of_run hr ?_
  obtain⟨f1,f2⟩:=hi.fresh (b:=w.heap.size) (B5 _)
  refine⟨_,_,g,_,rfl,.raw _,⟨i1.sat,i1.satM,fun r hr=>?_,?_,i1.glob⟩,s1,?_,k _⟩
  ·rcases AQ.1 hr with rfl|hr
   ·exact⟨#[],0,by show(w.heap.push _)[w.heap.size]? =_;simp,⟨rfl,by simp,by simp⟩,f1,f2,⟨by simp,by simp⟩⟩
   ·exact i1.res r hr
  ·simp only[Al,BA,Res.block]
   exact CH.2 ⟨fun h=>by have:=hi.lt h;omega,hi.nodup⟩
  ·intro b' hb' hlt
   simp only[Al,BA,Res.block]at hb'
   rcases AQ.1 hb' with rfl|hb'
   ·omega
   ·exact hb')
theorem Jc.push {es:Array MapEntry} {cl:Nat} {e:MapEntry} (h:Jc es cl) (he:e.born=cl):Jc (es.push e) (cl+1):=by
 refine⟨fun x hx=>?_,?_⟩
 ·rw[Array.toList_push,Ai,B1]at hx
  rcases hx with hx|rfl
  ·have:=h.lt x hx;omega
  ·omega
 ·rw[Array.toList_push,Az]
  refine Lf.2 ⟨h.nd,by simp,fun a ha b hb e2=>?_⟩
  obtain⟨x,hx,rfl⟩:=AU.1 ha
  have:=h.lt x hx
  simp only[BG,CY,B1]at hb
  omega
theorem Jc.modify {es:Array MapEntry} {cl i:Nat} {f:MapEntry→MapEntry} (h:Jc es cl) (hf: ∀ e,(f e).born=e.born):Jc (es.modify i f) cl:=by
 have e:(es.modify i f).toList.map (·.born)=es.toList.map (·.born):=by
  refine GX (by simp) fun k h1 h2=>?_
  simp only[BT,Array.getElem_toList,Xu]
  split
  ·exact hf _
  ·rfl
 refine⟨fun x hx=>?_,by rw[e];exact h.nd⟩
 have hm:x.born∈(es.modify i f).toList.map (·.born):=AU.2 ⟨x,hx,rfl⟩
 rw[e]at hm
 obtain⟨y,hy,e2⟩:=AU.1 hm
 have:=h.lt y hy
 omega
theorem TR {dst:Option Nat} {gd:Option (Nat × Bool)} [hT:Ql P T KT ET] [hK:UH P KT ek] {x y z:Operand} {b:Nat} {l:List (κ × α)} {k0:κ} {x0:α} {L':List Res} {op:Op} (hop:op= .mapUpdate T x y z∨op= .insert T x y z) (hx:ρ.ev x= .raw (.map (some b))) (hp:L.Perm (.map b (Cj ek ev l)::L'))
  (hk:Le (ρ.ev y) (ek k0)) (hz:Le (ρ.ev z) (ev x0)) {Ψ:PV→List Res→Prop} (k:Ψ (.raw undef) (.map b (Cj ek ev (Hb k0 x0 l))::L')):FZ P ⟨dst,op,ty,pos,af,gd⟩ ρ L Ψ:=by
 refine FZ.perm hp fun a w g ha hi=>?_
 have hopx:x∈op.operands:=by rcases hop with rfl|rfl<;>simp[Op.operands]
 have hopy:y∈op.operands:=by rcases hop with rfl|rfl<;>simp[Op.operands]
 have hopz:z∈op.operands:=by rcases hop with rfl|rfl<;>simp[Op.operands]
 have h1:=CR ha (x:=x) hopx hx
 have h2:=hk g _ (ha y hopy)
 have h3:=hz g _ (ha z hopz)
 obtain⟨es,cl,hb,hE,hH,hM,hS⟩:=hi.res _ (AI)
 have hlen:es.toList.length=(l.map (·.1)).length:=by have:=hE.len;simpa [Cj]using this
 have hf:=hK.out.find g (a.eval y) k0 es.toList (l.map (·.1)) w h2 hlen (fun i h h'=>by
  have:=hE.key i (by simpa using h) (by simpa [Cj]using h')
  simpa [Cj]using this)
 have hlt:b < w.heap.size:=(BP.1 hb).1
 have hnd:=hi.nodup
 simp only[Al,BA,Res.block]at hnd
 have hrest:DJ w g L':=hi.sub (Lb _ _)
 have fin: ∀ (es':Array MapEntry) (cl':Nat),Entries g es' (Cj ek ev (Hb k0 x0 l))→Jc es' cl'→(Instr.mapUpdate T (a.eval x) (a.eval y) (a.eval z)).run P w= .ok () (w.putObj b (.map es' cl'))→
   Oper.wq P ⟨dst,op,ty,pos,af,gd⟩ a w (fun a' w'=> ∃ v x g' L'',a'=a.put dst v∧VR g' v x∧DJ w' g' L''∧Ez (Al (.map b (Cj ek ev l)::L')) w g w' g'∧DV w (.map b (Cj ek ev l)::L') L''∧Ψ x L''):=fun es' cl' hE' hS' hr=>by
  have hr':(execOp a.eval ⟨dst,op,ty,pos,af,gd⟩).run P w= .ok .skip (w.putObj b (.map es' cl')):=by
   rcases hop with rfl|rfl<;>simp only[execOp,hr,Sem.run_bind,Result.andThen_ok,Sem.run_pure]
  refine Oper.wq_of_run hr' ?_
  have i2:=hrest.put (.map es' cl') hH hM (CH.1 hnd).1
  refine⟨undef,.raw undef,g,.map b (Cj ek ev (Hb k0 x0 l))::L',rfl,.raw _,⟨i2.sat,i2.satM,fun r hr=>?_,hi.nodup,hi.glob⟩,.put _ (by simp[Al,Res.block]),fun b' hb' _=>hb',k⟩
  rcases AQ.1 hr with rfl|hr
  ·exact⟨es',cl',World.putObj_heap_same hlt,hE',hH,hM,hS'⟩
  ·exact i2.res r hr
 cases hi':LX k0 (l.map (·.1))with
 |none=>
  rw[hi']at hf
  refine fin (es.push { key:=a.eval y,val:=a.eval z,born:=cl }) (cl+1) ?_ (hS.push rfl) ?_
  ·rw[P6 k0 x0 hi',Cj,Az]
   have hl:es.size=l.length:=by simpa [Cj]using hE.len
   refine⟨by simp[hl],fun i j1 j2=>?_,fun i j1 j2=>?_⟩
   ·by_cases hi2:i < es.size
    ·rw[zL hi2,Bh (by simp;omega)]
     exact hE.key i hi2 (by simp[Cj];omega)
    ·have e:i=es.size:=by simp at j1;omega
     subst e
     rw[C5 (by simp[hl])]
     rw[zM];simpa [hl]using h2
   ·by_cases hi2:i < es.size
    ·rw[zL hi2,Bh (by simp;omega)]
     exact hE.val i hi2 (by simp[Cj];omega)
    ·have e:i=es.size:=by simp at j1;omega
     subst e
     rw[C5 (by simp[hl])]
     rw[zM];simpa [hl]using h3
  ·unfold Instr.mapUpdate
   simp only[Sem.run_bind,run_underlying hT.out,Result.andThen_ok,h1,MapKept.run_getObj_map hb,hK.out.check false g _ k0 w h2,hf,mC,MapKept.run_setObj_map _ hb]
   rfl
 |some i=>
  rw[hi']at hf
  obtain⟨y0,e1,e2,_⟩:=LV k0 x0 hi'
  have hl:es.size=l.length:=by simpa [Cj]using hE.len
  have hli:i < l.length:=(Cx.1 e1).1
  have hli':i < es.size:=by omega
  have hy0:l[i]=(k0,y0):=(Cx.1 e1).2
  have hkey:VR g es[i].key (ek k0):=by
   have:=hE.key i hli' (by simp[Cj];exact hli)
   simpa [Cj,hy0]using this
  have hsame:=hK.out.same g _ _ k0 hkey h2
  refine fin (es.modify i fun e=>{ e with key:=a.eval y,val:=a.eval z }) cl ?_ (hS.modify fun _=>rfl) ?_
  ·rw[e2]
   refine⟨by simp[Cj,hl],fun j j1 j2=>?_,fun j j1 j2=>?_⟩
   ·simp only[gP]at j1
    have j3:j < l.length:=by omega
    rw[Xu (by simpa using j1)]
    by_cases hj:i=j
    ·subst hj
     simp[Cj];exact h2
    ·simp only[hj,if_false]
     have:=hE.key j j1 (by simp[Cj];exact j3)
     simpa [Cj,List.getElem_set_ne hj]using this
   ·simp only[gP]at j1
    have j3:j < l.length:=by omega
    rw[Xu (by simpa using j1)]
    by_cases hj:i=j
    ·subst hj
     simp[Cj];exact h3
    ·simp only[hj,if_false]
     have:=hE.val j j1 (by simp[Cj];exact j3)
     simpa [Cj,List.getElem_set_ne hj]using this
  ·have hf2:(Instr.findKey KT (a.eval y) es.toList).run P w= .ok (some (i,es[i].val)) w:=by rw[hf];simp[hli']
   have hst:(Instr.keyThatStays es[i].key (a.eval y)).run P w= .ok (a.eval y) w:=by unfold Instr.keyThatStays;rw[if_pos hsame];rfl
   unfold Instr.mapUpdate
   simp only[Sem.run_bind,run_underlying hT.out,Result.andThen_ok,h1,MapKept.run_getObj_map hb,hK.out.check false g _ k0 w h2,hf2,CZ hli',FG,Option.getD_some,hst,MapKept.run_setObj_map _ hb]
   rfl
theorem YF [hT:Ql P T KT ET] [hK:UH P KT ek] {x y z:Operand} {b:Nat} {l:List (κ × α)} {k0:κ} {x0:α} {L':List Res} (hx:ρ.ev x= .raw (.map (some b))) (hp:L.Perm (.map b (Cj ek ev l)::L')) (hk:Le (ρ.ev y) (ek k0)) (hz:Le (ρ.ev z) (ev x0))
  (k:AY P N all K fl.tail os ρ (.map b (Cj ek ev (Hb k0 x0 l))::L')) (hfl:fl.headD true=true:=by rfl):AY P N all K fl (⟨none,.mapUpdate T x y z,ty,pos,af,none⟩::os) ρ L:=
 Dr rfl (fun _ e=>by cases e) hfl (TR (.inl rfl) hx hp hk hz k)
theorem iz [hT:Ql P T KT ET] [hK:UH P KT ek] {x y z:Operand} {b:Nat} {l:List (κ × α)} {k0:κ} {x0:α} {L':List Res} (hx:ρ.ev x= .raw (.map (some b))) (hp:L.Perm (.map b (Cj ek ev l)::L')) (hk:Le (ρ.ev y) (ek k0)) (hz:Le (ρ.ev z) (ev x0))
  (k:AY P N all K fl.tail os ρ (.map b (Cj ek ev (Hb k0 x0 l))::L')) (hfl:fl.headD true=true:=by rfl):AY P N all K fl (⟨none,.insert T x y z,ty,pos,af,none⟩::os) ρ L:=
 Dr rfl (fun _ e=>by cases e) hfl (TR (.inr rfl) hx hp hk hz k)
theorem DJ.freezeM {w:World} {g:Gh} {L':List Res} {b:Nat} {kvs:List (PV × PV)} (hi:DJ w g L) (hp:L.Perm (.map b kvs::L')):
  ∃ g',DJ w g' L'∧Ez (Al L) w g w g'∧DV w L L'∧VR g' (.map (some b)) (.fmap kvs):=by
 have hi2:=hi.perm hp
 obtain⟨es,cl,h1,h2,h3,h4,h5⟩:=hi2.res _ (AI)
 let g':Gh:={ g with M:=fun k=>if k=b then some (.map es cl)else g.M k }
 have hle:g.le g':=⟨fun _ _ _ h=>h,fun k z h=>by
  show(if k=b then some (gk.map es cl)else g.M k)=_
  rw[if_neg (fun e=>by rw[e,h4]at h;cases h)];exact h⟩
 have hbl:b∈Al L:=(DA hp).symm.subset (by simp[Al,Res.block])
 have hnd:=hi2.nodup
 simp only[Al,BA,Res.block]at hnd
 have hnb: ∀ r∈L',r.block≠some b:=fun r hr e=>(CH.1 hnd).1 (Bp.2 ⟨r,hr,e⟩)
 refine⟨g',⟨hi.sat,fun k z hz=>?_,fun r hr=>?_,(CH.1 hnd).2,hi.glob.mono hle⟩,⟨rfl,rfl,⟨rfl,B5 _⟩,B5 _,fun _ _ _=>rfl,hle,fun k _ hn=>⟨fun _=>rfl,?_⟩⟩,fun b' hb' _=>(DA hp).symm.subset ?_,?_⟩
 ·change (if k=b then some (gk.map es cl)else g.M k)=some z at hz
  split at hz
  ·rename_i e;subst e;cases hz;exact⟨h1,h5⟩
  ·exact hi.satM k z hz
 ·refine Res.holds_kept hle (hi2.res r (AD _ hr)) fun b' hb'=>⟨rfl,fun _=>rfl,?_⟩
  show(if b'=b then some (gk.map es cl)else g.M b')=_
  rw[if_neg (fun e=>by subst e;exact hnb r hr hb')]
 ·show(if k=b then some (gk.map es cl)else g.M k)=_
  rw[if_neg (fun e=>by subst e;exact hn hbl)]
 ·simp only[Al,BA,Res.block];exact AD _ hb'
 ·exact .fmap (es:=es) (clock:=cl) (by show(if b=b then some (gk.map es cl)else g.M b)=_;simp) h2.len (fun i a c=>(h2.key i a c).mono hle) (fun i a c=>(h2.val i a c).mono hle)
def Fm (b:Nat) (kvs:List (PV × PV)) (x y:PV):Prop:=x=y∨(x= .raw (.map (some b))∧y= .fmap kvs)
theorem Rm {b:Nat} {kvs:List (PV × PV)} {L':List Res} (E:List (Nat × PV)) (hE:bz (Fm b kvs) ρ E) (hp:L.Perm (.map b kvs::L')) (k:EG P N c Q (gf E) L'):EG P N c Q ρ L:=
 HO (fun base a w g ha hi=>by
  obtain⟨g',h1,h2,h3,h4⟩:=hi.freezeM hp
  refine⟨g',⟨ha.size,ha.defers.mono h2.le,fun i=>?_⟩,h1,h2,h3⟩
  rcases de hE i with (e|⟨e1,e2⟩)|e
  ·rw[←e];exact(ha.slot i).mono h2.le
  ·rw[e2]
   have:=(ha.slot i).mono h2.le
   rw[e1]at this
   rw[this.raw_inv];exact h4
  ·rw[e];exact .junk _) k
end
theorem iG {a b:UInt8} (h:a≠b):a < b∨b < a:=by
 have h2:a.toNat≠b.toNat:=fun e=>h (UInt8.toNat.inj e)
 rw[UInt8.lt_iff_toNat_lt,UInt8.lt_iff_toNat_lt];omega
def Nx:List UInt8→List UInt8→Int
 |x::xs,y::ys=>if x < y then -1 else if y < x then 1 else Nx xs ys
 | [],[]=>0
 | [],_::_=> -1
 |_::_,[]=>1
def Dh (a b:Dig):Int:=Nx a.bs b.bs
theorem Mw: ∀ a b:List UInt8,Nx a b= -1∧a < b∨Nx a b=0∧a=b∨Nx a b=1∧b < a
 | [],[]=> .inr (.inl ⟨rfl,rfl⟩)
 | [],y::ys=> .inl ⟨rfl,List.nil_lt_cons y ys⟩
 |x::xs,[]=> .inr (.inr ⟨rfl,List.nil_lt_cons x xs⟩)
 |x::xs,y::ys=>by
  unfold Nx
  by_cases h1:x < y
  ·simp[h1,ME]
  ·by_cases h2:y < x
   ·simp[h1,h2,ME]
   ·have e:x=y:=by
     have:=iG (a:=x) (b:=y)
     by_cases he:x=y
     ·exact he
     ·rcases this he with h|h
      ·exact absurd h h1
      ·exact absurd h h2
    subst e
    simp only[h1,if_false]
    rcases Mw xs ys with ⟨h3,h4⟩|⟨h3,h4⟩|⟨h3,h4⟩
    ·exact .inl ⟨h3,by simp[ME,h4]⟩
    ·exact .inr (.inl ⟨h3,by rw[h4]⟩)
    ·exact .inr (.inr ⟨h3,by simp[ME,h4]⟩)
theorem Qg {a b:List UInt8}:Nx a b=0↔a=b:=by
 rcases Mw a b with ⟨h1,h2⟩|⟨h1,h2⟩|⟨h1,h2⟩
 ·exact⟨fun h=>by omega,fun h=>by subst h;exact absurd h2 (Pq a)⟩
 ·exact⟨fun _=>h2,fun _=>h1⟩
 ·exact⟨fun h=>by omega,fun h=>by subst h;exact absurd h2 (Pq a)⟩
theorem MA {a b:List UInt8}:Nx a b < 0↔a < b:=by
 rcases Mw a b with ⟨h1,h2⟩|⟨h1,h2⟩|⟨h1,h2⟩
 ·exact⟨fun _=>h2,fun _=>by omega⟩
 ·exact⟨fun h=>by omega,fun h=>by subst h2;exact absurd h (Pq a)⟩
 ·exact⟨fun h=>by omega,fun h=>absurd (List.lt_trans h h2) (Pq a)⟩
def Dig.lt (a b:Dig):Prop:=Dh a b < 0
instance (a b:Dig):Decidable (Dig.lt a b):=by unfold Dig.lt;infer_instance
theorem Dig.lt_irrefl (a:Dig): ¬Dig.lt a a:=fun h=>Pq a.bs (MA.1 h)
theorem Dig.lt_trans {a b c:Dig} (h:Dig.lt a b) (k:Dig.lt b c):Dig.lt a c:=MA.2 (List.lt_trans (MA.1 h) (MA.1 k))
theorem Dig.lt_asymm {a b:Dig} (h:Dig.lt a b): ¬Dig.lt b a:=fun k=>Dig.lt_irrefl a (Dig.lt_trans h k)
theorem Dig.ne_of_lt {a b:Dig} (h:Dig.lt a b):a≠b:=fun e=>by subst e;exact Dig.lt_irrefl _ h
theorem Dig.tri (a b:Dig):Dig.lt a b∨a=b∨Dig.lt b a:=by
 rcases Mw a.bs b.bs with ⟨h1,h2⟩|⟨h1,h2⟩|⟨h1,h2⟩
 ·exact .inl (MA.2 h2)
 ·exact .inr (.inl (Dig.ext h2))
 ·exact .inr (.inr (MA.2 h2))
theorem MB {a b:Dig}:Dh a b=0↔a=b:=⟨fun h=>Dig.ext (Qg.1 h),fun h=>by subst h;exact Qg.2 rfl⟩
theorem dq: ∀ {a b:List UInt8} {k:Nat},a.length=b.length→k < a.length→(∀ i,i < k→a.getD i 0=b.getD i 0)→a.getD k 0≠b.getD k 0→Nx a b=if a.getD k 0 < b.getD k 0 then -1 else 1
 |x::xs,y::ys,0,hl,hk,he,hn=>by
  simp only[List.getD_cons_zero]at hn ⊢
  unfold Nx
  by_cases h1:x < y
  ·simp[h1]
  ·have:=iG hn
   have h2:y < x:=this.resolve_left h1
   simp[h1,h2]
 |x::xs,y::ys,k+1,hl,hk,he,hn=>by
  have h0:=he 0 (by omega)
  simp only[List.getD_cons_zero]at h0
  subst h0
  simp only[List.getD_cons_succ]at hn ⊢
  unfold Nx
  simp only[UInt8.lt_irrefl,if_false]
  exact dq (by simpa using hl) (by simpa using hk) (fun i hi=>by have:=he (i+1) (by omega);simpa using this) hn
 | [],_,_,_,hk,_,_=>by simp at hk
 |_::_,[],_,hl,_,_,_=>by simp at hl
theorem dr {a b:Dig} {k:Nat} (hk:k < 32) (he: ∀ i,i < k→a.at i=b.at i) (hn:a.at k≠b.at k):Dh a b=if a.at k < b.at k then -1 else 1:=
 dq (by rw[a.len,b.len]) (by rw[a.len];exact hk) he hn
def Gn:List Dig→Dig→List Dig
 | [],d=> [d]
 |x::xs,d=>if Dig.lt x d then x::Gn xs d else if x=d then x::xs else d::x::xs
theorem Pr: ∀ {l:List Dig} {d:Dig} {k:Nat},k≤l.length→(∀ i (h:i < l.length),i < k→Dig.lt l[i] d)→(∀ h:k < l.length,¬Dig.lt l[k] d)→
  Gn l d=if ∃ h:k < l.length,l[k]=d then l else l.take k++d::l.drop k
 | [],d,k,hk,_,_=>by simp[Gn]
 |x::xs,d,0,_,_,hk=>by
  have:=hk (by simp)
  simp only[B9]at this
  simp[Gn,this]
 |x::xs,d,k+1,hl,h1,h2=>by
  have h0:=h1 0 (by simp) (by omega)
  simp only[B9]at h0
  have ih:=Pr (l:=xs) (d:=d) (k:=k) (by simpa using hl) (fun i h hi=>by have:=h1 (i+1) (by simpa using h) (by omega);simpa using this) (fun h=>by have:=h2 (by simpa using h);simpa using this)
  simp only[Gn,h0,if_true,ih]
  simp only[AH,xY,Cn,Oe,Zx]
  split<;>rfl
section
variable {P:Program} {N:Nat} {all:Array Oper} {K:Env→List Res→Prop} {fl:List Bool} {os:List Oper} {ρ:Env} {L:List Res} {Q:PPost} {c:Code} {d:Nat} {ty:TypeId} {pos:String} {af:Array Edge}
theorem Zb (l:List UInt8):(l.map eBy).flatten=l.map eU8:=by
 induction l with
 |nil=>rfl
 |cons a l ih=>simp[ih,eBy,eU8,u8]
theorem iq {T:TypeId} [hT:Uu P T] {x:Operand} {dg:Dig} (hx:ρ.ev x= .pt (eDig dg) 0) (k:AY P N all K fl.tail os (CN ρ d (.slice (dg.bs.map eBy) .ro)) L) (hd:Nat.blt d N=true:=by rfl):
  AY P N all K fl (⟨some d,.slice T x none none none,ty,pos,af,none⟩::os) ρ L:=
 Bg hd (B7 fun a' w g ha hi=>by
  obtain⟨E,i,e1,e2,e3,e4⟩:=hT.arr
  have h1:=ha x (by simp[Op.operands]);rw[hx]at h1
  generalize hv:a'.eval x=v at h1
  generalize hcs:eDig dg=cs at h1
  cases h1 with
  |pt f hH hv'=>
   rename_i b o
   subst hcs
   refine⟨.slice (some ⟨b,o,none⟩) 32 32,?_,?_⟩
   ·show(do pure (Next.value (←Instr.sliceAt T (a'.eval x) none none none)):Sem Next).run P w=_
    simp[Instr.sliceAt,Hx e1,hv,Instr.sureAddr,Instr.sliceBounds,sizeOf,typeInfo,e3,e4,DN]
   ·have hl:(eDig dg).length=32:=by simp
    let us:List Value:=(List.range 32).map f
    have hus:E8 g us (eDig dg):=⟨by simp[us],fun j j1 j2=>by simpa [us]using hv' j j2⟩
    have:=VR.of_cells (g:=g) (xs:=dg.bs.map eBy) (t:= .ro) (sz:=1) (b:=b) (off:=o) (cap:=32) (fun e he=>by obtain⟨a,_,rfl⟩:=AU.1 he;rfl) (by simp[dg.len]) ⟨by rw[AR,dg.len];decide,by rw[AR,dg.len];decide⟩ (us:=us)
     (by rw[Zb];exact hus) (fun j hj=>by
      have hj':j < 32:=by simpa [us]using hj
      rw[hH j (by omega)];simp[us]) (by simp) (by simp)
    simpa [dg.len]using this) k
class Zr (P:Program) (f:Nat) (args:List PV) (X:outParam PV):Prop where
 out: ∀ (vs:List Value) (w:World) (g:Gh),E8 g vs args→(∀ b o v,g.H b o=some v→w.cell? ⟨b,o,none⟩=some v)→ ∃ v,(callFunc f vs.toArray).run P w= .ok (.value v) w∧VR g v X
theorem qW {f:Nat} {X:PV} {ats:Array TypeId} {xs:List Operand} {xa:Array Operand} {args:List PV} (hxa:xa=xs.toArray) (hargs: ∀ i (h1:i < xs.length) (h2:i < args.length),Le (ρ.ev xs[i]) args[i]) (hl:xs.length=args.length) [hc:Zr P f args X] (k:AY P N all K fl.tail os (CN ρ d X) L) (hd:Nat.blt d N=true:=by rfl):
  AY P N all K fl (⟨some d,.call { callee:= .value (.func f),args:=xa,argTypes:=ats },ty,pos,af,none⟩::os) ρ L:=by
 subst hxa
 refine Bg hd (B7 fun a w g ha hi=>?_) k
 have hvs:E8 g (xs.map a.eval) args:=⟨by simpa using hl,fun i h1 h2=>by
  simp only[BT]
  exact hargs i (by simpa using h1) h2 g _ (ha _ (by simp[Op.operands,Call.operands]))⟩
 obtain⟨v,hr,hv⟩:=hc.out _ w g hvs hi.sat
 refine⟨v,?_,hv⟩
 have he:execOp a.eval ⟨some d,.call { callee:= .value (.func f),args:=xs.toArray,argTypes:=ats },ty,pos,af,none⟩=callFunc f (#[]++xs.toArray.map a.eval++ #[]):=rfl
 rw[he]
 simpa using hr
theorem tB {f:Nat} {X:PV} {ats:Array TypeId} {x0 x1:Operand} {a0 a1 b0 b1:PV} (q0:ρ.ev x0=a0) (q1:ρ.ev x1=a1) [hN0:Jt a0 b0] [hN1:Jt a1 b1] [hc:Zr P f [b0,b1] X] (k:AY P N all K fl.tail os (CN ρ d X) L) (hd:Nat.blt d N=true:=by rfl):
  AY P N all K fl (⟨some d,.call { callee:= .value (.func f),args:= #[x0,x1],argTypes:=ats },ty,pos,af,none⟩::os) ρ L:=
 qW (xs:= [x0,x1]) (args:= [b0,b1]) rfl (fun i h1 h2=>by
  match i,h1,h2 with
  |0,_,_=>exact q0 ▸ hN0.out
  |1,_,_=>exact q1 ▸ hN1.out
  |m+2,h1,_=>exact absurd h1 (by simp only[AH,Aa];omega)) rfl k hd
theorem S3 {w:World} {g:Gh} (hsat: ∀ b o v,g.H b o=some v→w.cell? ⟨b,o,none⟩=some v) {v:Value} {bs:List UInt8} {t:CW} (h:VR g v (.slice (bs.map eBy) t)):(Extern.Bytes.bytesOf v).run P w= .ok ⟨bs.toArray⟩ w:=by
 obtain⟨base,cap,e1,hcap,hmx,hnone,_,_,us,hus,hcell⟩:=h.slice_cells (sz:=1) (fun e he=>by obtain⟨a,_,rfl⟩:=AU.1 he;rfl)
 subst e1
 rw[Zb]at hus
 cases base with
 |none=>
  have:bs= []:=by simpa using (hnone rfl).1
  subst this
  simp[Extern.Bytes.bytesOf];rfl
 |some ad=>
  obtain⟨b,o,s⟩:=ad
  obtain⟨hs,hH⟩:=hcell _ rfl
  rcases hs with ⟨e3,e4⟩|hs
  ·have:bs= []:=by simpa using e3
   subst this
   simp[Extern.Bytes.bytesOf,Extern.Bytes.loadBytes];rfl
  simp only at hs
  subst hs
  have:=Lib.run_loadBytesX (P:=P) w (bs.map fun x=>(x.toNat:Int)) ⟨b,o,none⟩ .empty (fun j x hx=>by
   rw[H9]at hx
   obtain⟨y,hy,rfl⟩:=Bj.1 hx
   have hj:j < bs.length:=(Cx.1 hy).1
   have hj':j < us.length:=by rw[hus.len];simpa using hj
   rw[DN,hsat _ _ _ (hH j hj')]
   have h2:=hus.at_ j hj' (by simpa using hj)
   have h3:bs[j]=y:=(Cx.1 hy).2
   simp only[BT,eU8,h3]at h2
   rw[h2.raw_inv];rfl)
  rw[AR]at this
  simp only[Extern.Bytes.bytesOf,AR,this]
  congr 1
  apply ByteArray.ext
  have e2:Lib.bytesOf (bs.map fun x=>(x.toNat:Int))=bs:=by
   unfold Lib.bytesOf
   rw[DI]
   conv=>rhs;rw[←List.map_id bs]
   apply Og
   intro x _
   simp
  simp[e2]
end
theorem NL: ∀ a b:List UInt8,Lib.compareBytes a b=Nx a b
 | [],[]=>rfl
 | [],_::_=>rfl
 |_::_,[]=>rfl
 |x::xs,y::ys=>by simp[Lib.compareBytes,Nx,NL xs ys]
theorem XZ {P:Program} {f:Nat} {fn:Func} (hf:P.funcs[f]? =some fn) (hn:(fn.name== "runtime.NumGoroutine")=false) (hb:fn.body.isNone=true) (h1:Extern.findNext fn=none) (h2:Extern.find fn=some Extern.BytealgCompare.compare) (a b:List UInt8) (t u:CW):
  Zr P f [.slice (a.map eBy) t,.slice (b.map eBy) u] (.raw (.int .i64 (Nx a b))):=⟨fun vs w g hv hs=>by
 match vs,hv with
 | [x,y],hv=>
   obtain⟨q1,q2⟩:=hv.uncons
   obtain⟨q2,_⟩:=q2.uncons
   refine⟨_,?_,.raw _⟩
   rw[run_callFunc_extern hf hn hb h1 h2]
   show((do pure (goInt (Extern.BytealgCompare.cmp (←Extern.Bytes.bytesOf x) (←Extern.Bytes.bytesOf y))):Sem Value).run P w).andThen _=_
   simp only[Sem.run_bind,S3 hs q1,S3 hs q2,Result.andThen_ok,Sem.run_pure,Lib.cmp_eq,NL]
   rfl
 | [],hv=>have:=hv.len;simp at this
 | [_],hv=>have:=hv.len;simp at this
 |_::_::_::_,hv=>have:=hv.len;simp at this⟩
theorem Tv {P:Program} {f:Nat} {fn:Func} (hf:P.funcs[f]? =some fn) (hn:(fn.name== "runtime.NumGoroutine")=false) (hb:fn.body.isNone=true) (h1:Extern.findNext fn=none) (h2:Extern.find fn=some Extern.BytealgIndexByte.indexByte) (s:Str) (c:Int):
  Zr P f [.str s,.raw (.int .u8 c)] (.raw (.int .i64 (Lib.indexByte s c.toNat.toUInt8))):=⟨fun vs w g hv hs=>by
 match vs,hv with
 | [x,y],hv=>
   obtain⟨q1,q2⟩:=hv.uncons
   obtain⟨q2,_⟩:=q2.uncons
   have e1:x= .string ⟨s.toArray⟩:=by cases q1;rfl
   have e2:=q2.raw_inv
   subst e1 e2
   refine⟨_,?_,.raw _⟩
   rw[run_callFunc_extern hf hn hb h1 h2,Lib.run_indexByteString]
   rfl
 | [],hv=>have:=hv.len;simp at this
 | [_],hv=>have:=hv.len;simp at this
 |_::_::_::_,hv=>have:=hv.len;simp at this⟩
class lr (b:Nat) (L:List Res) (kvs:outParam (List (PV × PV))) (L':outParam (List Res)):Prop where
 out:L.Perm (.map b kvs::L')
instance {b:Nat} {kvs:List (PV × PV)} {L:List Res}:lr b (.map b kvs::L) kvs L:=⟨.refl _⟩
class z6 (b:Nat) (L:List Res) (T:outParam Nat) (cs:outParam (List PV)) (L':outParam (List Res)):Prop where
 out:L.Perm (.box b T cs::L')
instance {x:PV}:At [x] 0 x:=⟨rfl⟩
class LO (P:Program) (T:Nat) {κ α:outParam Type} (ek:outParam (κ→PV)) (ev:outParam (α→PV)):Prop where
 out:True
class WJ {α:Type} (x:PV) (ev:α→PV) (a:outParam α):Prop where
 out:Le x (ev a)
instance (b:Bool):WJ (.raw (.bool b)) vBool b:=⟨.refl _⟩
instance (n:Int):WJ (.raw (.int .i64 n)) vInt n:=⟨.refl _⟩
instance {α:Type} (f:α→List PV) (l:List α) (t:CW):WJ (.slice (l.map f) t) (Pw f) l:=⟨.ro _ _⟩
instance (priority:=low) (x:PV):WJ x vId x:=⟨.refl _⟩
section
variable {P:Program} {N:Nat} {all:Array Oper} {K:Env→List Res→Prop} {fl:List Bool} {os:List Oper} {ρ:Env} {L:List Res} {Q:PPost} {c:Code} {d:Nat} {ty:TypeId} {pos:String} {af:Array Edge}
variable {κ α:Type} [DecidableEq κ] {ek:κ→PV} {ev:α→PV} {T KT ET:Nat}
omit [DecidableEq κ] in
theorem RQ [hF:LO P T ek ev] (k: ∀ b,AY P N all K fl.tail os (CN ρ d (.raw (.map (some b)))) (.map b (Cj ek ev [])::L)) (hd:Nat.blt d N=true:=by rfl) (hf:fl.headD true=true:=by rfl):
  AY P N all K fl (⟨some d,.makeMap T none,ty,pos,af,none⟩::os) ρ L:=Qz k hd hf
theorem ZA [hF:LO P T ek ev] [hT:Ql P T KT ET] [hK:UH P KT ek] {x y z:Operand} {b:Nat} {l:List (κ × α)} {ay az:PV} {k0:κ} {x0:α} {L':List Res} (hx:ρ.ev x= .raw (.map (some b))) [hp:lr b L (Cj ek ev l) L'] (hy:ρ.ev y=ay) [hk:O7 ay ek k0] (hz:ρ.ev z=az) [hv:WJ az ev x0]
  (k:AY P N all K fl.tail os ρ (.map b (Cj ek ev (Hb k0 x0 l))::L')) (hfl:fl.headD true=true:=by rfl):AY P N all K fl (⟨none,.mapUpdate T x y z,ty,pos,af,none⟩::os) ρ L:=
 YF hx hp.out (hy ▸ hk.out) (hz ▸ hv.out) k hfl
theorem ZB [hF:LO P T ek ev] [hT:Ql P T KT ET] [hK:UH P KT ek] {x y z:Operand} {b:Nat} {l:List (κ × α)} {ay az:PV} {k0:κ} {x0:α} {L':List Res} (hx:ρ.ev x= .raw (.map (some b))) [hp:lr b L (Cj ek ev l) L'] (hy:ρ.ev y=ay) [hk:O7 ay ek k0] (hz:ρ.ev z=az) [hv:WJ az ev x0]
  (k:AY P N all K fl.tail os ρ (.map b (Cj ek ev (Hb k0 x0 l))::L')) (hfl:fl.headD true=true:=by rfl):AY P N all K fl (⟨none,.insert T x y z,ty,pos,af,none⟩::os) ρ L:=
 iz hx hp.out (hy ▸ hk.out) (hz ▸ hv.out) k hfl
class WM (x:PV) (f:outParam Nat) (cs:outParam (List PV)):Prop where
 out:Le x (.clo f cs)
instance (f:Nat) (cs:List PV):WM (.clo f cs) f cs:=⟨.refl _⟩
instance (f:Nat):WM (.raw (.func (.func f) #[] #[])) f []:=⟨Jt.out⟩
theorem kX {f:Nat} {cs:List PV} {X ax:PV} {x x0:Operand} {ats:Array TypeId} {a0 b0:PV} (qx:ρ.ev x=ax) [hx:WM ax f cs] [hf:Ax P f] (q0:ρ.ev x0=a0) [hN0:Jt a0 b0] [hc:Bl P f (b0::cs) X] (k:AY P N all K fl.tail os (CN ρ d X) L) (hd:Nat.blt d N=true:=by rfl):
  AY P N all K fl (⟨some d,.call { callee:= .value x,args:= #[x0],argTypes:=ats },ty,pos,af,none⟩::os) ρ L:=
 Wj (xs:= [x0]) (qx ▸ hx.out) rfl rfl (B2.args (by simp) (fun i h1 h2=>by
  match i,h1,h2 with
  |0,_,_=>simp only[BG,CY,BM,BK,B9,q0];exact hN0.out
  |m+1,h1,h2=>exact .of_eq (by simp)) hc.out) k hd
theorem kV {f:Nat} {cs:List PV} {X ax:PV} {x x0 x1:Operand} {ats:Array TypeId} {a0 b0 a1 b1:PV} (qx:ρ.ev x=ax) [hx:WM ax f cs] [hf:Ax P f] (q0:ρ.ev x0=a0) (q1:ρ.ev x1=a1) [hN0:Jt a0 b0] [hN1:Jt a1 b1] [hc:Bl P f (b0::b1::cs) X] (k:AY P N all K fl.tail os (CN ρ d X) L) (hd:Nat.blt d N=true:=by rfl):
  AY P N all K fl (⟨some d,.call { callee:= .value x,args:= #[x0,x1],argTypes:=ats },ty,pos,af,none⟩::os) ρ L:=
 Wj (xs:= [x0,x1]) (qx ▸ hx.out) rfl rfl (B2.args (by simp) (fun i h1 h2=>by
  match i,h1,h2 with
  |0,_,_=>simp only[BG,CY,BM,BK,B9,q0];exact hN0.out
  |1,_,_=>simp only[BG,CY,BM,BK,Cn,B9,q1];exact hN1.out
  |m+2,h1,h2=>exact .of_eq (by simp)) hc.out) k hd
theorem ij {T:TypeId} {x y:Operand} {b by_:Nat} {c0 ay:PV} {L':List Res} [hT:ER P T 1 by_]
  (hx:ρ.ev x= .raw (.pointer (some ⟨b,0,none⟩))) (hy:ρ.ev y=ay) [hB:S6 b L [c0]] [hu:Ur b [c0] [ay] L L'] [hf:EU [ay]]
  (k:AY P N all K fl.tail os ρ L') (hfl:fl.headD true=true:=by rfl):AY P N all K fl (⟨none,.store T x y,ty,pos,af,none⟩::os) ρ L:=
 Dr rfl (fun _ e=>by cases e) hfl (JJ (new:= [ay]) (cs:= [c0]) (cs':= [ay]) hx (fun g v hv=>by
  rw[hy]at hv
  obtain⟨h1,h2,h3,h4⟩:=hf.out ay (by simp)
  have h1:=hv.one h1 h2 h3 h4
  refine⟨[v],?_,.cons hv (.nil g)⟩
  cases v<;>first|rfl|cases h1) rfl hf.out rfl (by simp) hu.out k)
theorem oe {f:Nat} {xs:Array Operand} {dst:Option Nat} (k:AY P N all K fl (⟨dst,.makeFunc (.func f) #[] xs,ty,pos,af,none⟩::os) ρ L):AY P N all K fl (⟨dst,.makeFunc (.func f) #[] xs,ty,pos,af,none⟩::os) ρ L:=k
theorem oh {t:Nat} {xs:Array Operand} {ats:Array TypeId} {dst:Option Nat} (k:AY P N all K fl (⟨dst,.call { callee:= .value (.tmp t),args:=xs,argTypes:=ats },ty,pos,af,none⟩::os) ρ L):AY P N all K fl (⟨dst,.call { callee:= .value (.tmp t),args:=xs,argTypes:=ats },ty,pos,af,none⟩::os) ρ L:=k
theorem tJ {T:TypeId} {x y:Operand} {b:Bool} {dst:Option Nat} (k:AY P N all K fl (⟨dst,.lookup T x y b,ty,pos,af,none⟩::os) ρ L):AY P N all K fl (⟨dst,.lookup T x y b,ty,pos,af,none⟩::os) ρ L:=k
theorem tH {T:TypeId} {x y z:Operand} {dst:Option Nat} (k:AY P N all K fl (⟨dst,.mapUpdate T x y z,ty,pos,af,none⟩::os) ρ L):AY P N all K fl (⟨dst,.mapUpdate T x y z,ty,pos,af,none⟩::os) ρ L:=k
theorem tI {T:TypeId} {x y z:Operand} {dst:Option Nat} (k:AY P N all K fl (⟨dst,.insert T x y z,ty,pos,af,none⟩::os) ρ L):AY P N all K fl (⟨dst,.insert T x y z,ty,pos,af,none⟩::os) ρ L:=k
theorem qp {T:TypeId} {x:Operand} {dst:Option Nat} (k:AY P N all K fl (⟨dst,.box T x,ty,pos,af,none⟩::os) ρ L):AY P N all K fl (⟨dst,.box T x,ty,pos,af,none⟩::os) ρ L:=k
theorem w1 {A B:Prop} (k:B) (h:O5 B→A:=by
  intro hB
  first
   |(refine XI ?_;first|refine ij (by rfl) (by(conv=>lhs;whnf);done) (hB:=(by first|infer_instance|fail)) (hu:=(by first|infer_instance|fail)) (hf:=(by first|infer_instance|fail)) ?_)
   |refine oH ?_
   |refine sg ?_
   |(refine bO ?_;first|refine tB (by(conv=>lhs;whnf);done) (by(conv=>lhs;whnf);done) (hN0:=(by first|infer_instance|fail)) (hN1:=(by first|infer_instance|fail)) (hc:=(by first|infer_instance|fail)) ?_)
   |(refine XJ ?_;first|refine iq (by rfl) ?_)
   |(refine oe ?_;first|refine sG (by(conv=>lhs;whnf);done) ?_|refine sF (by(conv=>lhs;whnf);done) (by(conv=>lhs;whnf);done) ?_|refine sE (by(conv=>lhs;whnf);done) (by(conv=>lhs;whnf);done) (by(conv=>lhs;whnf);done) ?_|refine s_clo0 ?_|refine s_clo4 (by(conv=>lhs;whnf);done) (by(conv=>lhs;whnf);done) (by(conv=>lhs;whnf);done) (by(conv=>lhs;whnf);done) ?_)
   |(refine oh ?_;first|refine kX (by(conv=>lhs;whnf);done) (by(conv=>lhs;whnf);done) (hx:=(by first|infer_instance|fail)) (hN0:=(by first|infer_instance|fail)) (hc:=(by first|infer_instance|fail)) ?_|refine kV (by(conv=>lhs;whnf);done) (by(conv=>lhs;whnf);done) (by(conv=>lhs;whnf);done) (hx:=(by first|infer_instance|fail)) (hN0:=(by first|infer_instance|fail)) (hN1:=(by first|infer_instance|fail)) (hc:=(by first|infer_instance|fail)) ?_)
   |(refine tJ ?_;first|refine cU (κ:=Dig) (by(conv=>lhs;whnf);done) (by(conv=>lhs;whnf);done) (hT:=(by first|infer_instance|fail)) (hK:=(by first|infer_instance|fail)) (hz:=(by first|infer_instance|fail)) (hk:=(by first|infer_instance|fail)) ?_|refine cU (κ:=Int) (by(conv=>lhs;whnf);done) (by(conv=>lhs;whnf);done) (hT:=(by first|infer_instance|fail)) (hK:=(by first|infer_instance|fail)) (hz:=(by first|infer_instance|fail)) (hk:=(by first|infer_instance|fail)) ?_|refine VN (κ:=Dig) (by(conv=>lhs;whnf);done) (by(conv=>lhs;whnf);done) (hT:=(by first|infer_instance|fail)) (hK:=(by first|infer_instance|fail)) (hz:=(by first|infer_instance|fail)) (hk:=(by first|infer_instance|fail)) ?_|refine VN (κ:=Int) (by(conv=>lhs;whnf);done) (by(conv=>lhs;whnf);done) (hT:=(by first|infer_instance|fail)) (hK:=(by first|infer_instance|fail)) (hz:=(by first|infer_instance|fail)) (hk:=(by first|infer_instance|fail)) ?_|refine cT (κ:=Dig) (by rfl) (by repeat(first|exact AI|apply AD)) (by(conv=>lhs;whnf);done) (hT:=(by first|infer_instance|fail)) (hK:=(by first|infer_instance|fail)) (hz:=(by first|infer_instance|fail)) (hk:=(by first|infer_instance|fail)) ?_|refine cT (κ:=Int) (by rfl) (by repeat(first|exact AI|apply AD)) (by(conv=>lhs;whnf);done) (hT:=(by first|infer_instance|fail)) (hK:=(by first|infer_instance|fail)) (hz:=(by first|infer_instance|fail)) (hk:=(by first|infer_instance|fail)) ?_|refine VM (κ:=Dig) (by rfl) (by repeat(first|exact AI|apply AD)) (by(conv=>lhs;whnf);done) (hT:=(by first|infer_instance|fail)) (hK:=(by first|infer_instance|fail)) (hz:=(by first|infer_instance|fail)) (hk:=(by first|infer_instance|fail)) ?_|refine VM (κ:=Int) (by rfl) (by repeat(first|exact AI|apply AD)) (by(conv=>lhs;whnf);done) (hT:=(by first|infer_instance|fail)) (hK:=(by first|infer_instance|fail)) (hz:=(by first|infer_instance|fail)) (hk:=(by first|infer_instance|fail)) ?_)
   |(refine tH ?_;first|refine ZA (κ:=Dig) (by rfl) (by(conv=>lhs;whnf);done) (by(conv=>lhs;whnf);done) (hF:=(by first|infer_instance|fail)) (hT:=(by first|infer_instance|fail)) (hK:=(by first|infer_instance|fail)) (hp:=(by first|infer_instance|fail)) (hk:=(by first|infer_instance|fail)) (hv:=(by first|infer_instance|fail)) ?_|refine ZA (κ:=Int) (by rfl) (by(conv=>lhs;whnf);done) (by(conv=>lhs;whnf);done) (hF:=(by first|infer_instance|fail)) (hT:=(by first|infer_instance|fail)) (hK:=(by first|infer_instance|fail)) (hp:=(by first|infer_instance|fail)) (hk:=(by first|infer_instance|fail)) (hv:=(by first|infer_instance|fail)) ?_)
   |(refine tI ?_;first|refine ZB (κ:=Dig) (by rfl) (by(conv=>lhs;whnf);done) (by(conv=>lhs;whnf);done) (hF:=(by first|infer_instance|fail)) (hT:=(by first|infer_instance|fail)) (hK:=(by first|infer_instance|fail)) (hp:=(by first|infer_instance|fail)) (hk:=(by first|infer_instance|fail)) (hv:=(by first|infer_instance|fail)) ?_|refine ZB (κ:=Int) (by rfl) (by(conv=>lhs;whnf);done) (by(conv=>lhs;whnf);done) (hF:=(by first|infer_instance|fail)) (hT:=(by first|infer_instance|fail)) (hK:=(by first|infer_instance|fail)) (hp:=(by first|infer_instance|fail)) (hk:=(by first|infer_instance|fail)) (hv:=(by first|infer_instance|fail)) ?_)
   |(refine qp ?_;first|refine sI (by(conv=>lhs;whnf);done) (hC:=(by first|infer_instance|fail)) ?_)
  exact hB.out):A:=h ⟨k⟩
theorem wk {A B:Prop} (k:B) (h:O5 B→A:=by
  intro hB
  repeat(first
   |(fail_if_success (refine qp ?_));refine w1 ?_
   |refine AN ?_
   |refine DU ?_
   |refine CC (by kernel_rfl) ?_
   |refine IM ?_
   |refine GH ?_
   |refine KD ?_
   |refine HD ?_
   |refine DZ (by decide+kernel) ?_
   |refine IK (by rfl) ?_
   |refine IL (by rfl) ?_)
  exact hB.out):A:=h ⟨k⟩
theorem wf {A B:Prop} (k:B) (h:O5 B→A:=by
  intro hB
  repeat(first
   |refine w1 ?_
   |refine AN ?_
   |refine DU ?_
   |refine CC (by kernel_rfl) ?_
   |refine IM ?_
   |refine GH ?_
   |refine KD ?_
   |refine HD ?_
   |refine DZ (by decide+kernel) ?_
   |refine IK (by rfl) ?_
   |refine IL (by rfl) ?_)
  exact hB.out):A:=h ⟨k⟩
theorem wn {A B:Prop} (k:B) (h:O5 B→A:=by
  intro hB
  repeat(first
   |refine w1 ?_
   |refine AN ?_
   |refine DU ?_
   |refine CC (by kernel_rfl) ?_
   |refine IM ?_
   |refine GH ?_
   |refine KD ?_
   |refine HD ?_
   |refine IK (by rfl) ?_
   |refine IL (by rfl) ?_)
  exact hB.out):A:=h ⟨k⟩
theorem wo {A B:Prop} (k:B) (h:O5 B→A:=by
  intro hB
  repeat(first
   |refine w1 ?_)
  exact hB.out):A:=h ⟨k⟩
theorem ws {A B:Prop} (k:B) (h:O5 B→A:=by
  intro hB
  repeat(first
   |refine w1 ?_
   |refine AN ?_
   |refine DU ?_
   |refine CC (by kernel_rfl) ?_
   |refine GH ?_
   |refine KD ?_
   |refine HD ?_
   |refine DZ (by decide+kernel) ?_)
  exact hB.out):A:=h ⟨k⟩
theorem gQ {A:Prop} {B:Nat→Prop} (k: ∀ b,B b) (h:Ks B→A:=by
  intro hB
  refine wk ?_
  first|refine YO (by rfl) fun b=>?_|refine BR fun b=>?_|refine s_boxC (by(conv=>lhs;whnf);done) (hC:=(by first|infer_instance|fail)) fun b=>?_
  refine wk ?_
  exact hB.out b):A:=h ⟨k⟩
theorem aE {A:Prop} {B:Nat→Prop} (k: ∀ b,B b) (h:Ks B→A:=by
  intro hB
  refine wf ?_
  refine BR fun b=>?_
  refine wf ?_
  exact hB.out b):A:=h ⟨k⟩
theorem vS {A:Prop} {B:Nat→Prop} (k: ∀ b,B b) (h:Ks B→A:=by
  intro hB
  refine wf ?_
  refine RQ fun b=>?_
  refine wf ?_
  exact hB.out b):A:=h ⟨k⟩
theorem Xw {A:Prop} {B:CW→Prop} (k: ∀ t,B t) (h:Ks B→A:=by
  intro hB
  refine wf ?_
  first
   |refine VT (by rfl) (by rfl) (by simp only[A8,AH,Aa,AR,AV,Ao,B4];omega) (by simp only[A8,AH,Aa,AR,AV,Ao,B4];omega) fun t=>?_
   |refine Ka (by rfl) (by rfl) (by simp only[A8,AH,Aa,AR,AV,Ao,B4];omega) (by simp only[A8,AH,Aa,AR,AV,Ao,B4];omega) (fun t=>by first|exact .here|exact(.there .here)|exact(.there (.there .here))|exact(.there (.there (.there .here)))|exact(.there (.there (.there (.there .here))))|exact(.there (.there (.there (.there (.there .here)))))|exact(.there (.there (.there (.there (.there (.there .here))))))|exact(.there (.there (.there (.there (.there (.there (.there .here)))))))|exact(.there (.there (.there (.there (.there (.there (.there (.there .here))))))))) fun t=>?_
  refine wf ?_
  exact hB.out t):A:=h ⟨k⟩
theorem wz {A:Prop} {B:Nat→Prop} (k: ∀ b,B b) (h:Ks B→A:=by
  intro hB
  refine wf ?_
  refine BR fun b=>?_
  refine wo ?_
  refine AN ?_
  exact hB.out b):A:=h ⟨k⟩
end
section
variable {P:Program} {N:Nat} {all:Array Oper} {K:Env→List Res→Prop} {os:List Oper} {ρ:Env} {L:List Res} {Q:PPost} {c:Code}
def O6 (ρ' ρ:Env):Prop:= ∀ i,ρ' i=ρ i∨ρ' i= .junk
theorem O6.ev {ρ' ρ:Env} (h:O6 ρ' ρ) (x:Operand):ρ'.ev x=ρ.ev x∨ρ'.ev x= .junk:=by
 cases x with
 |tmp t=>exact h t
 |_=>exact .inl rfl
theorem O6.updo {ρ' ρ:Env} (h:O6 ρ' ρ) (dst:Option Nat) (x:PV):O6 (updo ρ' dst x) (updo ρ dst x):=by
 cases dst with
 |none=>exact h
 |some d=>intro i;by_cases e:i=d
          ·left;subst e;show CN _ _ _ _=CN _ _ _ _;rw[CK,CK]
          ·show CN _ _ _ _=CN _ _ _ _∨CN _ _ _ _=_
           rw[Gb _ _ e,Gb _ _ e];exact h i
theorem FZ.weak {o:Oper} {ρ':Env} {L':List Res} {Ψ:PV→List Res→Prop} (hw:O6 ρ' ρ) (hL:L'.Sublist L) (h:FZ P o ρ' L' Ψ):FZ P o ρ L Ψ:=fun a w g ha hi=>by
 have hb: ∀ b,b∈Al L'→b∈Al L:=fun b hb=>(GP hL).subset hb
 refine(h a w g (fun x hx=>?_) (hi.sub hL)).mono fun a' w' ⟨v,x,g'',L'',k1,k2,k3,k4,k5,k6⟩=>⟨v,x,g'',L'',k1,k2,k3,k4.grow hb,fun b hm hl=>hb b (k5 b hm hl),k6⟩
 rcases hw.ev x with e|e
 ·rw[e];exact ha x hx
 ·rw[e];exact .junk _
theorem OQ (hK: ∀ ρ ρ' L L',O6 ρ' ρ→L'.Sublist L→K ρ' L'→K ρ L): ∀ {os:List Oper} {ρ ρ':Env} {L L':List Res},O6 ρ' ρ→L'.Sublist L→AY P N all K [] os ρ' L'→AY P N all K [] os ρ L
 | [],_,_,_,_,hw,hL,h=>hK _ _ _ _ hw hL h
 |o::os,ρ,ρ',L,L',hw,hL,h=>by
  obtain⟨hd,h⟩:=h
  refine⟨hd,?_⟩
  rcases h with ⟨hno,h⟩|⟨hyes,h⟩
  ·refine .inl ⟨?_,OQ hK (hw.updo _ _) hL h⟩
   unfold lu at*
   cases hg:o.guard with
   |none=>simp only[hg]at hno
   |some p=>
    simp only[hg]at hno ⊢
    obtain⟨s,v,h1,h2,h3⟩:=hno
    have h4:ρ s= .raw v:=by
     rcases hw s with e|e
     ·rw[e]at h2;exact h2
     ·rw[e]at h2;cases h2
    exact⟨s,v,h1,h4,h3⟩
  ·refine .inr ⟨?_,.inr ⟨rfl,?_⟩⟩
   ·unfold Qm at*
    cases hg:o.guard with
    |none=>trivial
    |some p=>
     simp only[hg]at hyes ⊢
     obtain⟨s,h1,h2⟩:=hyes
     exact⟨s,h1,by
      rcases hw s with e|e
      ·rw[e]at h2;exact h2
      ·rw[e]at h2;cases h2⟩
   ·rcases h with ⟨x,hq,h⟩|⟨_,h⟩
    ·exact(FZ.mono hq fun x' L'' ⟨e1,e2⟩=>by subst e1;subst e2;exact OQ hK (hw.updo _ _) (.refl _) h).weak hw hL
    ·exact(h.mono fun x L'' h=>OQ hK (hw.updo _ _) (.refl _) h).weak hw hL
theorem QI {K:Env→List Res→Prop} {os2:List Oper}: ∀ {os1:List Oper} {ρ:Env} {L:List Res},AY P N all (fun ρ L=>AY P N all K [] os2 ρ L) [] os1 ρ L→AY P N all K [] (os1++os2) ρ L
 | [],_,_,h=>h
 |o::os1,ρ,L,h=>by
  obtain⟨hd,h⟩:=h
  refine⟨hd,?_⟩
  rcases h with ⟨hno,h⟩|⟨hyes,h⟩
  ·exact .inl ⟨hno,QI h⟩
  ·refine .inr ⟨hyes,?_⟩
   rcases h with ⟨x,hq,h⟩|⟨hf,h⟩
   ·exact .inl ⟨x,hq,QI h⟩
   ·exact .inr ⟨hf,h.mono fun x L' h=>QI h⟩
theorem KO {y:Code} (n:Nat) (E:List (Nat × PV)) (LL:List Res) (h:AY P N all (fun ρ L=>PC ρ E∧LL.Sublist L) [] (os.take n) ρ L) (k:AY P N all (fun ρ L=>EG P N y Q ρ L) [] (os.drop n) (gf E) LL)
  (hK: ∀ ρ L,EG P N y Q ρ L→K ρ L:=by intro _ _ h;exact h):AY P N all K [] os ρ L:=by
 have:=QI (P:=P) (N:=N) (all:=all) (K:=K) (os1:=os.take n) (os2:=os.drop n) (ρ:=ρ) (L:=L) (KN (fun ρ' L' ⟨h1,h2⟩=>KN hK (OQ (fun _ _ _ _ hw hL h=>Mf hw hL h) (bX h1) h2 k)) h)
 rwa [C4]at this
end
section
variable {P:Program} {w w':World} {g:Gh} {L:List Res}
theorem DJ.later (hi:DJ w g L) (hk: ∀ k,k < w.heap.size→w'.heap[k]? =w.heap[k]?):DJ w' g L:=by
 refine⟨fun b i v h=>?_,fun b z h=>(hi.satM b z h).congr (hk b (hi.satM b z h).lt),fun r hr=>?_,hi.nodup,hi.glob⟩
 ·have h0:=hi.sat b i v h
  have hb:b < w.heap.size:=by
   rcases BB b w.heap.size with h'|h'
   ·exact h'
   ·simp[World.cell?,Bk h']at h0
  simp only[World.cell?]at h0 ⊢
  rw[hk b hb];exact h0
 ·exact Res.holds_kept (.refl g) (hi.res r hr) fun b hb=>⟨hk b (hi.lt (Bp.2 ⟨r,hr,hb⟩)),fun _=>rfl,rfl⟩
theorem DJ.other {l:Nat} (hi:DJ w g L) (hH: ∀ o,g.H l o=none) (hM:g.M l=none) (hl:l∉Al L) (hk: ∀ k,k≠l→w'.heap[k]? =w.heap[k]?):DJ w' g L:=by
 refine⟨fun b i v h=>?_,fun b z h=>?_,fun r hr=>?_,hi.nodup,hi.glob⟩
 ·have:b≠l:=fun e=>by subst e;rw[hH]at h;cases h
  have h0:=hi.sat b i v h
  simp only[World.cell?]at h0 ⊢
  rw[hk b this];exact h0
 ·have:b≠l:=fun e=>by subst e;rw[hM]at h;cases h
  exact(hi.satM b z h).congr (hk b this)
 ·exact Res.holds_kept (.refl g) (hi.res r hr) fun b hb=>⟨hk b (fun e=>hl (Bp.2 ⟨r,hr,by rw[hb,e]⟩)),fun _=>rfl,rfl⟩
theorem DJ.rawHead {l:Nat} {o:Obj} (hi:DJ w g (.raw l o::L)):w.heap[l]? =some o∧(∀ o,g.H l o=none)∧g.M l=none∧l∉Al L∧DJ w g L:=by
 obtain⟨h1,h2,h3⟩:=hi.res _ (AI)
 have hnd:=hi.nodup
 simp only[Al,BA,Res.block]at hnd
 exact⟨h1,h2,h3,(CH.1 hnd).1,hi.sub (Lb _ _)⟩
theorem DJ.turnRaw {l:Nat} {o o':Obj} (hi:DJ w g (.raw l o::L)) (h:w'.heap[l]? =some o') (hk: ∀ k,k≠l→w'.heap[k]? =w.heap[k]?):DJ w' g (.raw l o'::L):=by
 obtain⟨_,h2,h3,hn,hi'⟩:=hi.rawHead
 exact(hi'.other h2 h3 hn hk).addRaw h h2 h3 hn
theorem tK {f:FuncId} {args:List PV} {X:PV} (h: ∀ vs w g LF,E8 g vs args→DJ w g LF→Calls P f vs.toArray w (fun e w'=> ∃ v,e= .returned v∧(∀ g,VR g v X)∧w'.os=w.os∧w'.tape=w.tape∧w'.output=w.output∧w.drawn≤w'.drawn∧w.heap.size≤w'.heap.size∧ ∀ k,k < w.heap.size→w'.heap[k]? =w.heap[k]?)):Fn P f args X:=fun vs w g LF hv hi=>by
 rw[BK]at hi
 refine(h vs w g LF hv hi).mono ?_
 rintro e w' ⟨v,rfl,h1,h2,h3,h4,h5,h6,h7⟩
 exact⟨v,X,g,[],rfl,h1 g,hi.later h7,⟨h2,h3,⟨h4,h5⟩,h6,fun k hk _=>h7 k hk,.refl g,fun _ _ _=>⟨fun _=>rfl,rfl⟩⟩,.refl _ _,rfl,rfl⟩
end
def NR (l:List UInt8):List Value:=l.map fun b=>Value.int .u8 b.toNat
@[simp] theorem XD (l:List UInt8):(NR l).length=l.length:=by simp[NR]
theorem Pd (l m:List UInt8):NR (l++m)=NR l++NR m:=by simp[NR]
class gJ (P:Program) (T:Nat) (E:outParam Nat):Prop where
 out: ∃ i,P.underlying T=some (.slice E)∧P.info? E=some i∧i.size=1∧i.bytes=1∧i.zero=some (.int .u8 0)∧P.cellsOf E=1
inductive LN (E:Nat):Value→List UInt8→List Res→Prop
 |nil:LN E (.slice none 0 0) [] []
 |row {r cap:Nat} {cur:Array Value} {l:List UInt8} (hl:l.length≤cap) (hs:cur.size=cap) (hc:cur.toList.take l.length=NR l):LN E (.slice (some ⟨r,0,none⟩) l.length cap) l [.raw r (.cells cur E (0,0))]
theorem OY {w:World} {g:Gh} {R LF:List Res} (hi:DJ w g (R++LF)) (o:Obj):DJ (w.drew.alloc o) g (.raw w.heap.size o::LF)∧Ez (Al (R++LF)) w g (w.drew.alloc o) g∧DV w (R++LF) (.raw w.heap.size o::LF):=by
 have hk: ∀ k,k < w.heap.size→(w.drew.alloc o).heap[k]? =w.heap[k]?:=fun k hk=>by
  show(w.heap.push o)[k]? =_
  rw[HX,if_neg (by omega)]
 have h1:(w.drew.alloc o).heap[w.heap.size]? =some o:=by show(w.heap.push o)[w.heap.size]? =_;simp
 have hiL:DJ w g LF:=hi.sub (Dk _ _)
 obtain⟨h2,h3⟩:=hi.fresh (B5 w.heap.size)
 refine⟨(hiL.later hk).addRaw h1 h2 h3 (fun h=>GV _ (hiL.lt h)),⟨rfl,rfl,⟨rfl,Xo _⟩,by simp,fun k h _=>hk k h,.refl g,fun _ _ _=>⟨fun _=>rfl,rfl⟩⟩,fun b hb hlt=>?_⟩
 simp only[Al,BA,Res.block]at hb
 rcases AQ.1 hb with rfl|hb
 ·exact absurd hlt (GV _)
 ·simp only[Al,CB];exact Ed _ hb
theorem Zo {P:Program} {T T₂ E ty:Nat} [hT:gJ P T E] (hu:P.underlying T₂=some .string∨ ∃ e,P.underlying T₂=some (.slice e)) {w:World} {g:Gh} {LF R:List Res} {v:Value} {l:List UInt8} (u:Value) (s:List UInt8)
  (hi:DJ w g (R++LF)) (hv:LN E v l R) (hl: ∀ w',(Builtin.lenOf u).run P w'= .ok s.length w')
  (hf: ∀ w',(∀ b o x,g.H b o=some x→w'.cell? ⟨b,o,none⟩=some x)→(Builtin.firstCells 1 s.length u).run P w'= .ok (NR s).toArray w') (hb:l.length+s.length≤140737488355328):
  ∃ v' w' R',(Builtin.append_ #[T,T₂] ty #[v,u]).run P w= .ok v' w'∧LN E v' (l++s) R'∧DJ w' g (R'++LF)∧Ez (Al (R++LF)) w g w' g∧DV w (R++LF) (R'++LF):=by
 obtain⟨i,t1,t2,t3,t4,t5,_⟩:=hT.out
 have hone: ∀ x∈NR s,x.oneCell'=true:=fun x hx=>by
  obtain⟨b,_,rfl⟩:=AU.1 hx;rfl
 have grown: ∀ cap nc (base:Option Addr),¬(l.length+s.length≤cap)→v= .slice base l.length cap→(∀ w',w'.heap=w.heap→(Builtin.firstCells 1 l.length (.slice base l.length cap)).run P w'= .ok (NR l).toArray w')→nc=grownCap w (l.length+s.length) cap E→
   (Builtin.append_ #[T,T₂] ty #[v,u]).run P w= .ok (.slice (some ⟨w.heap.size,0,none⟩) (l.length+s.length) nc) (w.drew.alloc (.cells ((NR l++NR s).toArray++Builtin.zeroCells (Value.int .u8 0).cells (nc - (l.length+s.length))) E (0,0))):=by
  rintro cap nc base hn rfl hfl rfl
  have hcapb:Builtin.nextslicecap (l.length+s.length) cap≤2 ^ 48:=by
   have:=Gq (show cap < l.length+s.length by omega)
   have:(2:Nat) ^ 48=2*140737488355328:=by decide
   omega
  have h63': ¬(9223372036854775807 < ((l.length:Int)+(s.length:Int))):=by omega
  have h48': ¬(281474976710656 < Builtin.nextslicecap (l.length+s.length) cap*i.bytes):=by
   rw[t4];have:(2:Nat) ^ 48=281474976710656:=by decide
   omega
  have f1:=hfl w.drew rfl
  have f2:=hf w.drew hi.sat
  rcases hu with hu|⟨e,hu⟩<;>
  ·simp[Builtin.append_,run_underlying t1,run_underlying hu,sizeOf,typeInfo,zeroValue,t2,t3,t5,hl,hn,h63',h48',Question.forced,f1,f2,newRow,grownCap]
   congr 2
   apply N2
   simp[AJ]
 have res: ∀ nc,l.length+s.length≤nc→ ∃ R',LN E (.slice (some ⟨w.heap.size,0,none⟩) (l.length+s.length) nc) (l++s) R'∧DJ (w.drew.alloc (.cells ((NR l++NR s).toArray++Builtin.zeroCells (Value.int .u8 0).cells (nc - (l.length+s.length))) E (0,0))) g (R'++LF)∧
   Ez (Al (R++LF)) w g (w.drew.alloc (.cells ((NR l++NR s).toArray++Builtin.zeroCells (Value.int .u8 0).cells (nc - (l.length+s.length))) E (0,0))) g∧DV w (R++LF) (R'++LF):=fun nc hnc=>by
  obtain⟨k1,k2,k3⟩:=OY hi (.cells ((NR l++NR s).toArray++Builtin.zeroCells (Value.int .u8 0).cells (nc - (l.length+s.length))) E (0,0))
  refine⟨[.raw w.heap.size (.cells ((NR l++NR s).toArray++Builtin.zeroCells (Value.int .u8 0).cells (nc - (l.length+s.length))) E (0,0))],?_,k1,k2,k3⟩
  have:=LN.row (E:=E) (r:=w.heap.size) (cap:=nc) (cur:=(NR l++NR s).toArray++Builtin.zeroCells (Value.int .u8 0).cells (nc - (l.length+s.length))) (l:=l++s) (by simpa using hnc) (by
   have hz1:(Value.int IntKind.u8 0).cells.size=1:=rfl
   simp[size_zeroCells,hz1];omega) (by
   simp only[Array.toList_append,Pd]
   rw[←Pd,E1 (by simp)])
  simpa using this
 cases hv with
 |nil=>
  by_cases hs:s= []
  ·subst hs
   refine⟨.slice none 0 0,w,[],?_,.nil,hi,.refl _ _ _,.refl _ _⟩
   have f2:=hf w hi.sat
   simp only[Aa]at f2 hl
   rcases hu with hu|⟨e,hu⟩<;>simp[Builtin.append_,run_underlying t1,run_underlying hu,sizeOf,typeInfo,t2,t3,hl,f2,NR]
  ·have hpos:0 < s.length:=Zu.2 hs
   have hr:=grown 0 _ none (by simp;omega) rfl (fun w' _=>rfl) rfl
   obtain⟨R',k1,k2,k3,k4⟩:=res _ (grownCap_ge w (([]:List UInt8).length+s.length) 0 E)
   exact⟨_,_,R',hr,k1,k2,k3,k4⟩
 |row hlc hs hc=>
  rename_i r cap cur
  obtain⟨h1,h2,h3,hn,hiL⟩:=hi.rawHead
  by_cases hroom:l.length+s.length≤cap
  ·have hbk':w.heap[r]? =some (.cells cur.toList.toArray E (0,0)):=by simpa using h1
   obtain⟨w',hrun,hb',hos,htp,hout,hsz',hkk⟩:=Eo (P:=P) (NR s) w cur.toList l.length 0 hbk' (by simp[hs];omega) hone
   refine⟨.slice (some ⟨r,0,none⟩) (l.length+s.length) cap,w',[.raw r (.cells (cur.toList.take (l.length+0)++NR s++cur.toList.drop (l.length+0+(NR s).length)).toArray E (0,0))],?_,?_,hi.turnRaw hb' hkk,⟨hos,htp,hout,Db hsz'.symm,fun k _ hk=>hkk k (fun e=>hk (by simp[Al,Res.block,e])),.refl g,fun _ _ _=>⟨fun _=>rfl,rfl⟩⟩,fun b hb _=>by simpa [Al,Res.block]using hb⟩
   ·have f2:=hf w hi.sat
    rcases hu with hu|⟨e,hu⟩<;>simp[Builtin.append_,run_underlying t1,run_underlying hu,sizeOf,typeInfo,t2,t3,hl,hroom,f2,DN,hrun]
   ·have:=LN.row (E:=E) (r:=r) (cap:=cap) (cur:=(cur.toList.take (l.length+0)++NR s++cur.toList.drop (l.length+0+(NR s).length)).toArray) (l:=l++s) (by simpa using hroom) (by
     simp only[BH,A8,AV,Ao,C9,hs,XD,DP];omega) (by
     rw[DP,hc,←Pd,E1 (by simp)])
    simpa using this
  ·have hr:=grown cap _ (some ⟨r,0,none⟩) hroom rfl (fun w' hw'=>by
    show(loadCells _ (l.length*1)).run P w'=_
    rw[JS,←XD l]
    refine Ek fun j hj=>?_
    have hj2:j < cur.toList.length:=by rw[C9,hs];rw[XD]at hj;omega
    simp only[World.cell?,hw',h1,Option.isSome_none,BQ,if_false,B4]
    have:(NR l)[j]=cur.toList[j]:=by
     have:=Ku hc.symm hj
     rw[this,FA]
    rw[this]
    simp[CZ (show j < cur.size by simpa using hj2)]) rfl
   obtain⟨R',k1,k2,k3,k4⟩:=res _ (grownCap_ge w (l.length+s.length) cap E)
   exact⟨_,_,R',hr,k1,k2,k3,k4⟩
section
variable {P:Program} {N:Nat} {all:Array Oper} {K:Env→List Res→Prop} {fl:List Bool} {os:List Oper} {ρ:Env} {L:List Res} {d:Nat} {ty:TypeId} {pos:String} {af:Array Edge}
theorem kp (s:List UInt8) (w:World):(Builtin.firstCells 1 s.length (.string ⟨s.toArray⟩)).run P w= .ok (NR s).toArray w:=by
 have h:=Lib.run_firstCells_string (P:=P) w 1 ⟨s.toArray⟩
 have e:(⟨s.toArray⟩:ByteArray).size=s.length:=by simp[ByteArray.size]
 rw[e]at h
 rw[h];congr 1
theorem jQ {T T₂ E:Nat} [hT:gJ P T E] [h2:Pg P T₂] {x y:Operand} {v:Value} {l s:List UInt8} {R LF:List Res} (F:List Res→List Res) {ay:PV} (hx:ρ.ev x= .raw v) (hy:ρ.ev y=ay) [jy:IX ay s] (hv:LN E v l R) (hp:L.Perm (R++LF)) (hq: ∀ R',(R'++LF).Perm (F R')) (hb:l.length+s.length≤140737488355328)
  (k: ∀ v' R',LN E v' (l++s) R'→AY P N all K fl.tail os (CN ρ d (.raw v')) (F R')) (hd:Nat.blt d N=true:=by rfl) (hfl:fl.headD true=true:=by rfl):
  AY P N all K fl (⟨some d,.call { callee:= .builtin .append,args:= #[x,y],argTypes:= #[T,T₂] },ty,pos,af,none⟩::os) ρ L:=
 Dr rfl (Qn hd) hfl (FZ.perm hp fun a w g ha hi=>by
  have h1:=CR ha (x:=x) (by simp[Op.operands,Call.operands]) hx
  have h3:=ha y (by simp[Op.operands,Call.operands])
  rw[hy]at h3
  have e:a.eval y= .string ⟨s.toArray⟩:=jy.out g _ h3
  obtain⟨v',w',R',q1,q2,q3,q4,q5⟩:=Zo (P:=P) (T:=T) (T₂:=T₂) (ty:=ty) (.inl h2.out) (.string ⟨s.toArray⟩) s hi hv (fun _=>by simp[Builtin.lenOf,ByteArray.size]) (fun w' _=>kp s w') hb
  have he:execOp a.eval ⟨some d,.call { callee:= .builtin .append,args:= #[x,y],argTypes:= #[T,T₂] },ty,pos,af,none⟩=(do pure (.value (←Builtin.append_ #[T,T₂] ty (#[x,y].map a.eval)))):=rfl
  have hr:(execOp a.eval ⟨some d,.call { callee:= .builtin .append,args:= #[x,y],argTypes:= #[T,T₂] },ty,pos,af,none⟩).run P w= .ok (.value v') w':=by
   rw[he];simp[h1,e,q1]
  refine Oper.wq_of_run hr ?_
  exact⟨v',.raw v',g,F R',rfl,.raw _,q3.perm (hq R'),q4,fun b hb hlt=>q5 b ((DA (hq R')).symm.subset hb) hlt,k v' R' q2⟩)
theorem eo {T T₂ E E₂:Nat} [hT:gJ P T E] [h2:LK P T₂ E₂] {x y:Operand} {v:Value} {l:List UInt8} {c:UInt8} {t:CW} {R LF:List Res} (F:List Res→List Res) (hx:ρ.ev x= .raw v) (hy:ρ.ev y= .slice [[.raw (.int .u8 c.toNat)]] t) (hv:LN E v l R) (hp:L.Perm (R++LF)) (hq: ∀ R',(R'++LF).Perm (F R')) (hb:l.length+1≤140737488355328)
  (k: ∀ v' R',LN E v' (l++ [c]) R'→AY P N all K fl.tail os (CN ρ d (.raw v')) (F R')) (hd:Nat.blt d N=true:=by rfl) (hfl:fl.headD true=true:=by rfl):
  AY P N all K fl (⟨some d,.call { callee:= .builtin .append,args:= #[x,y],argTypes:= #[T,T₂] },ty,pos,af,none⟩::os) ρ L:=
 Dr rfl (Qn hd) hfl (FZ.perm hp fun a w g ha hi=>by
  have h1:=CR ha (x:=x) (by simp[Op.operands,Call.operands]) hx
  have h3:=ha y (by simp[Op.operands,Call.operands])
  rw[hy]at h3
  obtain⟨base,cap,e,_,_,hnone,_,_,us,hus,hcell⟩:=h3.slice_cells (sz:=1) (by simp)
  simp only[CD,N1,B6]at hus
  obtain⟨v1,rfl⟩: ∃ v1,us= [v1]:=by
   have:=hus.len
   match us,this with
   | [v1],_=>exact⟨v1,rfl⟩
  rw[hus.uncons.1.raw_inv]at hcell
  simp only[AH,Aa,B4]at e
  obtain⟨v',w',R',q1,q2,q3,q4,q5⟩:=Zo (P:=P) (T:=T) (T₂:=T₂) (ty:=ty) (.inr ⟨_,h2.out⟩) (.slice base 1 cap) [c] hi hv (fun _=>rfl) (fun w' hs'=>by
   cases base with
   |none=>exact absurd (hnone rfl).1 (by simp)
   |some ad=>
    obtain⟨b,o,sp⟩:=ad
    obtain⟨hs,hH⟩:=hcell _ rfl
    rcases hs with ⟨e3,_⟩|hs
    ·cases e3
    simp only at hs
    subst hs
    exact Ek (vs:= [.int .u8 c.toNat]) fun j hj=>hs' _ _ _ (hH j hj)) (by simpa using hb)
  have he:execOp a.eval ⟨some d,.call { callee:= .builtin .append,args:= #[x,y],argTypes:= #[T,T₂] },ty,pos,af,none⟩=(do pure (.value (←Builtin.append_ #[T,T₂] ty (#[x,y].map a.eval)))):=rfl
  have hr:(execOp a.eval ⟨some d,.call { callee:= .builtin .append,args:= #[x,y],argTypes:= #[T,T₂] },ty,pos,af,none⟩).run P w= .ok (.value v') w':=by
   rw[he];simp[h1,e,q1]
  refine Oper.wq_of_run hr ?_
  exact⟨v',.raw v',g,F R',rfl,.raw _,q3.perm (hq R'),q4,fun b hb hlt=>q5 b ((DA (hq R')).symm.subset hb) hlt,k v' R' q2⟩)
theorem FS {T:TypeId} {E:Nat} [hT:LK P T E] {x:Operand} {a:Option Addr} {n c:Nat} (hx:ρ.ev x= .raw (.slice a n c)) (k:AY P N all K fl.tail os (CN ρ d (.raw (.int .i64 n))) L) (hd:Nat.blt d N=true:=by rfl):
  AY P N all K fl (⟨some d,.call { callee:= .builtin .len,args:= #[x],argTypes:= #[T] },ty,pos,af,none⟩::os) ρ L:=
 Bg hd (B7 fun a' w g ha hi=>⟨.int .i64 n,by
  have h1:=CR ha (x:=x) (by simp[Op.operands,Call.operands]) hx
  have he:execOp a'.eval ⟨some d,.call { callee:= .builtin .len,args:= #[x],argTypes:= #[T] },ty,pos,af,none⟩=(do pure (.value (←Builtin.len_ #[T] ty (#[x].map a'.eval)))):=rfl
  rw[he]
  simp[Builtin.len_,h1,Hx hT.out,goInt],.raw _⟩) k
theorem Y8 {T:TypeId} {x:Operand} {a:Addr} {n c:Nat} (hx:ρ.ev x= .raw (.slice (some a) n c)) (hc:c≠0) (k:AY P N all K fl.tail os (CN ρ d (.raw (.pointer (some a)))) L) (hd:Nat.blt d N=true:=by rfl):
  AY P N all K fl (⟨some d,.call { callee:= .builtin .unsafeSliceData,args:= #[x],argTypes:= #[T] },ty,pos,af,none⟩::os) ρ L:=
 Bg hd (B7 fun a' w g ha hi=>⟨.pointer (some a),by
  have h1:=CR ha (x:=x) (by simp[Op.operands,Call.operands]) hx
  have he:execOp a'.eval ⟨some d,.call { callee:= .builtin .unsafeSliceData,args:= #[x],argTypes:= #[T] },ty,pos,af,none⟩=(do pure (.value (←Builtin.unsafeSliceData_ #[T] ty (#[x].map a'.eval)))):=rfl
  rw[he]
  have:=Lib.run_unsafeSliceData_row (P:=P) w #[T] ty a n c hc
  simp[h1,this],.raw _⟩) k
theorem Si {T T₂ E r:Nat} (hT:P.underlying T=some (.pointer E)) (hE:P.cellsOf E=1) {x y:Operand} {cur:Array Value} {l:List UInt8} {L':List Res} (hx:ρ.ev x= .raw (.pointer (some ⟨r,0,none⟩))) (hy:ρ.ev y= .raw (.int .i64 l.length)) (hp:L.Perm (.raw r (.cells cur E (0,0))::L'))
  (h0:l≠ []) (hl:l.length≤cur.size) (hc:cur.toList.take l.length=NR l) (hb:l.length≤140737488355328) (k:AY P N all K fl.tail os (CN ρ d (.str l)) L') (hd:Nat.blt d N=true:=by rfl) (hfl:fl.headD true=true:=by rfl):
  AY P N all K fl (⟨some d,.call { callee:= .builtin .unsafeString,args:= #[x,y],argTypes:= #[T,T₂] },ty,pos,af,none⟩::os) ρ L:=
 Dr rfl (Qn hd) hfl (FZ.perm hp fun a w g ha hi=>by
  have h1:=CR ha (x:=x) (by simp[Op.operands,Call.operands]) hx
  have h2:=CR ha (x:=y) (by simp[Op.operands,Call.operands]) hy
  obtain⟨k1,k2,k3,k4,k5⟩:=hi.rawHead
  have he:execOp a.eval ⟨some d,.call { callee:= .builtin .unsafeString,args:= #[x,y],argTypes:= #[T,T₂] },ty,pos,af,none⟩=(do pure (.value (←Builtin.unsafeString_ #[T,T₂] ty (#[x,y].map a.eval)))):=rfl
  have hrun:=Lib.run_unsafeString_row (P:=P) w T T₂ ty E hT hE r cur.size (by simp[World.shape?,k1]) l h0 hl (by omega) (fun j x hj=>by
   have hjl:=(Cx.1 hj).1
   have e1:(NR l)[j]? =some (.int .u8 x.toNat):=by simp[NR,hj]
   rw[←hc,Gl,if_pos hjl]at e1
   rw[DN]
   simp only[World.cell?,k1,Option.isSome_none,BQ,if_false,B4]
   simpa using e1)
  have hr:(execOp a.eval ⟨some d,.call { callee:= .builtin .unsafeString,args:= #[x,y],argTypes:= #[T,T₂] },ty,pos,af,none⟩).run P w= .ok (.value (.string ⟨l.toArray⟩)) (w.freeze ⟨r,0,none⟩ l.length):=by
   rw[he];simp[h1,h2,hrun]
  have hk: ∀ b,b≠r→(w.freeze ⟨r,0,none⟩ l.length).heap[b]? =w.heap[b]?:=fun b hb=>by
   unfold World.freeze
   split
   ·rfl
   ·simp[MH,Ne.symm hb]
  have hsz:(w.freeze ⟨r,0,none⟩ l.length).heap.size=w.heap.size:=by
   unfold World.freeze
   split<;>simp
  have hws:(w.freeze ⟨r,0,none⟩ l.length).os=w.os∧(w.freeze ⟨r,0,none⟩ l.length).tape=w.tape∧(w.freeze ⟨r,0,none⟩ l.length).output=w.output∧(w.freeze ⟨r,0,none⟩ l.length).drawn=w.drawn:=by
   unfold World.freeze
   split<;>exact⟨rfl,rfl,rfl,rfl⟩
  refine Oper.wq_of_run hr ?_
  exact⟨_,.str l,g,L',rfl,.str (by show l.length≤maxN;exact hb),k5.other k2 k3 k4 hk,⟨hws.1,hws.2.1,⟨hws.2.2.1,Db hws.2.2.2.symm⟩,Db hsz.symm,fun b _ hb=>hk b (fun e=>hb (by simp[Al,Res.block,e])),.refl g,fun _ _ _=>⟨fun _=>rfl,rfl⟩⟩,
   fun b hb _=>by simp only[Al,BA,Res.block];exact AD _ hb,k⟩)
instance {x y:PV}:At [x,y] 0 x:=⟨rfl⟩
instance {x y:PV}:At [x,y] 1 y:=⟨rfl⟩
theorem LN.one {E:Nat} {v:Value} {l:List UInt8} {R:List Res} (h:LN E v l R):v.oneCell'=true:=by cases h<;>rfl
theorem KY {T:TypeId} {x y:Operand} {b off by_:Nat} {cs:List PV} {v:Value} {L':List Res} [hT:ER P T 1 by_] (cs':List PV)
  (hx:ρ.ev x= .raw (.pointer (some ⟨b,off,none⟩))) (hy:ρ.ev y= .raw v) (hv:v.oneCell'=true) [hB:S6 b L cs] (hp:cs.take off++ [.raw v]++cs.drop (off+1)=cs') (hle:off+1≤cs.length) [hu:Ur b cs cs' L L']
  (k:AY P N all K fl.tail os ρ L') (hfl:fl.headD true=true:=by rfl):AY P N all K fl (⟨none,.store T x y,ty,pos,af,none⟩::os) ρ L:=
 Dr rfl (fun _ e=>by cases e) hfl (JJ (new:= [.raw v]) (cs:=cs) (cs':=cs') hx (fun g v' hv'=>by
  rw[hy]at hv'
  rw[hv'.raw_inv]
  refine⟨[v],?_,.cons (.raw v) (.nil g)⟩
  cases v<;>first|rfl|cases hv) rfl (fun x hx=>by
   rcases AQ.1 hx with rfl|h
   ·exact⟨by simp,by simp,fun u e=>by cases e;exact hv,by simp⟩
   ·cases h) hp hle hu.out k)
theorem Bx (f:Nat):Le (.raw (.func (.func f) #[] #[])) (.clo f []):=Jt.out
theorem gJ.of {P:Program} {T E:Nat} (h1:P.underlying T=some (.slice E)) (h2:(P.info? E).map (fun i=>(i.zero,i.size,i.bytes))=some (some (.int .u8 0),1,1)) (h3:P.cellsOf E=1):gJ P T E:=⟨by
 obtain⟨i,hi,e⟩:=Bj.1 h2
 injection e with e1 e2
 injection e2 with e2 e3
 exact⟨i,h1,hi,e2,e3,e1,h3⟩⟩
class ts (P:Program) (T:Nat) (E sz:outParam Nat):Prop where
 out:P.underlying T=some (.pointer E)∧ ∃ j,P.info? E=some j∧j.size=sz
theorem ts.of {P:Program} {T E sz:Nat} (h1:P.underlying T=some (.pointer E)) (h2:(P.info? E).map (·.size)=some sz):ts P T E sz:=⟨h1,Bj.1 h2⟩
theorem sC {T T' E sz:Nat} [hT:ts P T E sz] {x y:Operand} {p:Option Addr} (hx:ρ.ev x= .raw (.pointer p)) (hy:ρ.ev y= .raw (.pointer none)) (k:AY P N all K fl.tail os (CN ρ d (.raw (.bool p.isNone))) L) (hd:Nat.blt d N=true:=by rfl):
  AY P N all K fl (⟨some d,.binOp .eql T x y T',ty,pos,af,none⟩::os) ρ L:=
 qa hx hy (fun w=>by unfold eqGuard;simp) (fun w=>by
  have h: ∀ d:Nat,(Op.equalIn (d+1) T (.pointer p) (.pointer none)).run P w= .ok p.isNone w:=fun d=>by
   cases p<;>simp[Op.equalIn,run_underlying hT.out.1]
  simp only[binOp]
  simp[Op.equal,Op.maxDepth,h 9999]) k hd
theorem s8 {T T' E sz:Nat} [hT:ts P T E sz] {x y:Operand} {a:Addr} (hx:ρ.ev x= .raw (.pointer (some a))) (hy:ρ.ev y= .raw (.pointer (some a))) (k:AY P N all K fl.tail os (CN ρ d (.raw (.bool false))) L) (hd:Nat.blt d N=true:=by rfl):
  AY P N all K fl (⟨some d,.binOp .neq T x y T',ty,pos,af,none⟩::os) ρ L:=
 qa hx hy (fun w=>by unfold eqGuard;simp) (fun w=>by
  obtain⟨h1,j,h2,_⟩:=hT.out
  exact Lib.run_neq_ptr_same w a h1 h2) k hd
theorem aN {S D E sz T' b:Nat} [hS:ts P S E sz] (hD:P.underlying D=some .unsafePointer) (hz:sz≠0) {x:Operand} {cs:List PV} (hx:ρ.ev x= .raw (.pointer (some ⟨b,0,none⟩))) (hm:Res.box b T' cs∈L) (hc:cs≠ []) (k:AY P N all K fl.tail os (CN ρ d (.raw (.pointer (some ⟨b,0,none⟩)))) L) (hd:Nat.blt d N=true:=by rfl):
  AY P N all K fl (⟨some d,.convert S D x,ty,pos,af,none⟩::os) ρ L:=
 Bg hd (B7 fun a w g ha hi=>⟨.pointer (some ⟨b,0,none⟩),by
  have h1:=CR ha (x:=x) (by simp[Op.operands]) hx
  obtain⟨vs,hb,hvs,_⟩:=hi.res _ hm
  obtain⟨q1,j,q2,q3⟩:=hS.out
  have hl:0 < vs.length:=by rw[hvs.len];exact Zu.2 hc
  have hrun:=Lib.run_to_unsafe (P:=P) w ⟨b,0,none⟩ q1 hD q2 (by rw[q3];exact hz) (e:=T') (cells:=vs.length) (by simp[World.shape?,hb]) hl
  have he:execOp a.eval ⟨some d,.convert S D x,ty,pos,af,none⟩=(do pure (.value (←convert S D (a.eval x)))):=rfl
  rw[he];simp[h1,hrun],.raw _⟩) k
theorem Wg {S D E sz T' b:Nat} [hD:ts P D E sz] (hS:P.underlying S=some .unsafePointer) {x:Operand} {cs:List PV} (hx:ρ.ev x= .raw (.pointer (some ⟨b,0,none⟩))) (hm:Res.box b T' cs∈L) (hl:liesAt P P.depth T' (cs.length / P.cellsOf T') 0 E 1=true) (k:AY P N all K fl.tail os (CN ρ d (.raw (.pointer (some ⟨b,0,none⟩)))) L) (hd:Nat.blt d N=true:=by rfl):
  AY P N all K fl (⟨some d,.convert S D x,ty,pos,af,none⟩::os) ρ L:=
 Bg hd (B7 fun a w g ha hi=>⟨.pointer (some ⟨b,0,none⟩),by
  have h1:=CR ha (x:=x) (by simp[Op.operands]) hx
  obtain⟨vs,hb,hvs,_⟩:=hi.res _ hm
  obtain⟨q1,j,q2,q3⟩:=hD.out
  have hrun:=Lib.run_from_unsafe (P:=P) w ⟨b,0,none⟩ hS q1 q2 (e:=T') (cells:=vs.length) (by simp[World.shape?,hb]) (by rw[hvs.len];exact hl)
  have he:execOp a.eval ⟨some d,.convert S D x,ty,pos,af,none⟩=(do pure (.value (←convert S D (a.eval x)))):=rfl
  rw[he];simp[h1,hrun],.raw _⟩) k
theorem fu {f:Nat} {fn:Func} (hf:P.funcs[f]? =some fn) (hn:(fn.name== "runtime.NumGoroutine")=false) (hb:fn.body.isNone=true) (h1:Extern.findNext fn=none) (h2:Extern.find fn=some Extern.AbiNoEscape.same) (v:Value):
  Zr P f [.raw v] (.raw v):=⟨fun vs w g hv hs=>by
 match vs,hv with
 | [x],hv=>
   have e:=hv.uncons.1.raw_inv
   subst e
   refine⟨x,?_,.raw _⟩
   rw[run_callFunc_extern hf hn hb h1 h2]
   rw[show #[x]= [x].toArray from rfl]at*
   rfl
 | [],hv=>have:=hv.len;simp at this
 |_::_::_,hv=>have:=hv.len;simp at this⟩
theorem Ln {T:TypeId} {x y:Operand} {b off by_:Nat} {cs:List PV} {ay:PV} {L':List Res} [hT:ER P T 1 by_] (cs':List PV)
  (hx:ρ.ev x= .raw (.pointer (some ⟨b,off,none⟩))) (hy:ρ.ev y=ay) [hB:S6 b L cs] (hf:Jl [ay]) (hp:cs.take off++ [ay]++cs.drop (off+1)=cs') (hle:off+1≤cs.length) [hu:Ur b cs cs' L L']
  (k:AY P N all K fl.tail os ρ L') (hfl:fl.headD true=true:=by rfl):AY P N all K fl (⟨none,.store T x y,ty,pos,af,none⟩::os) ρ L:=
 Dr rfl (fun _ e=>by cases e) hfl (JJ (new:= [ay]) (cs:=cs) (cs':=cs') hx (fun g v hv=>by
  rw[hy]at hv
  obtain⟨h1,h2,h3,h4⟩:=hf ay (by simp)
  have h1:=hv.one h1 h2 h3 h4
  refine⟨[v],?_,.cons hv (.nil g)⟩
  cases v<;>first|rfl|cases h1) rfl hf hp hle hu.out k)
end
end Go.Q
