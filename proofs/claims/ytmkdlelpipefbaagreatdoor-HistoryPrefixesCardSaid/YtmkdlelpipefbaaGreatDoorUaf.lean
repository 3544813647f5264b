/- The small logic: maps. Library, no statement of its own. -/
import Derived.Test.YtmkdlelpipefbaaGreatDoorUae
import Derived.WideKeyRuns
import Derived.Test.YtmkdlelpipefbaaGreatDoorUad
import Derived.Lib.Bytealg
import Derived.Lib.BytesEntry
import Derived.Laws.Externs
set_option linter.unusedSimpArgs false
set_option linter.unusedVariables false
namespace Go.Q
open Go
def kIdx {κ:Type} [DecidableEq κ] (k:κ):List κ→Option Nat
 | []=>none
 |a::l=>if k=a then some 0 else(kIdx k l).map (·+1)
def mGet {κ α:Type} [DecidableEq κ] (k:κ):List (κ × α)→Option α
 | []=>none
 |(a,x)::l=>if k=a then some x else mGet k l
def mSet {κ α:Type} [DecidableEq κ] (k:κ) (x:α):List (κ × α)→List (κ × α)
 | []=> [(k,x)]
 |(a,y)::l=>if k=a then(k,x)::l else(a,y)::mSet k x l
theorem mGet_mSet {κ α:Type} [DecidableEq κ] (k k':κ) (x:α): ∀ l:List (κ × α),mGet k' (mSet k x l)=if k'=k then some x else mGet k' l
 | []=>by simp[mSet,mGet]
 |(a,y)::l=>by
  unfold mSet
  by_cases h:k=a
  ·subst h
   rw[if_pos rfl]
   simp only[mGet]
   by_cases h2:k'=k<;>simp[h2]
  ·rw[if_neg h]
   simp only[mGet,mGet_mSet k k' x l]
   by_cases h2:k'=a
   ·subst h2;simp[Ne.symm h]
   ·simp[h2]
theorem mSet_keys_new {κ α:Type} [DecidableEq κ] (k:κ) (x:α): ∀ {l:List (κ × α)},kIdx k (l.map (·.1))=none→mSet k x l=l++ [(k,x)]
 | [],_=>rfl
 |(a,y)::l,h=>by
  simp only[List.map_cons,kIdx]at h
  by_cases e:k=a
  ·simp[e]at h
  ·simp only[e,if_false,Option.map_eq_none_iff]at h
   simp[mSet,e,mSet_keys_new k x h]
theorem mSet_keys_old {κ α:Type} [DecidableEq κ] (k:κ) (x:α): ∀ {l:List (κ × α)} {i:Nat},kIdx k (l.map (·.1))=some i→ ∃ y,l[i]? =some (k,y)∧mSet k x l=l.set i (k,x)∧mGet k l=some y
 | [],_,h=>by simp[kIdx]at h
 |(a,y)::l,i,h=>by
  simp only[List.map_cons,kIdx]at h
  by_cases e:k=a
  ·subst e
   simp at h;subst h
   exact⟨y,rfl,by simp[mSet],by simp[mGet]⟩
  ·simp only[e,if_false,Option.map_eq_some_iff]at h
   obtain⟨j,hj,rfl⟩:=h
   obtain⟨z,h1,h2,h3⟩:=mSet_keys_old k x hj
   exact⟨z,by simpa using h1,by simp[mSet,e,h2],by simp[mGet,e,h3]⟩
theorem mGet_none {κ α:Type} [DecidableEq κ] (k:κ): ∀ {l:List (κ × α)},kIdx k (l.map (·.1))=none→mGet k l=none
 | [],_=>rfl
 |(a,y)::l,h=>by
  simp only[List.map_cons,kIdx]at h
  by_cases e:k=a
  ·simp[e]at h
  ·simp only[e,if_false,Option.map_eq_none_iff]at h
   simp[mGet,e,mGet_none k h]
def eMap {κ α:Type} (ek:κ→PV) (ev:α→PV) (l:List (κ × α)):List (PV × PV):=l.map fun p=>(ek p.1,ev p.2)
class TMap (P:Program) (T:Nat) (K E:outParam Nat):Prop where
 out:P.underlying T=some (.map K E)
class ZV (P:Program) (E:Nat) {α:Type} (ev:α→PV) (a0:outParam α):Prop where
 out: ∃ i v,P.info? E=some i∧i.zero=some v∧ ∀ g,VR g v (ev a0)
structure KeyOk (P:Program) (K:Nat) {κ:Type} [DecidableEq κ] (ek:κ→PV):Prop where
 check: ∀ (b:Bool) (g:Gh) (v:Value) (k:κ) (w:World),VR g v (ek k)→(Instr.checkKey b 10000 K v).run P w= .ok () w
 find: ∀ (g:Gh) (v:Value) (k:κ) (es:List MapEntry) (l:List κ) (w:World),VR g v (ek k)→es.length=l.length→(∀ i (h:i < es.length) (h':i < l.length),VR g es[i].key (ek l[i]))→
  (Instr.findKey K v es).run P w= .ok ((kIdx k l).bind fun i=>(es[i]?).map fun e=>(i,e.val)) w
 same: ∀ (g:Gh) (u v:Value) (k:κ),VR g u (ek k)→VR g v (ek k)→Instr.sameBits 10000 u v=true
class TKey (P:Program) (K:Nat) {κ:Type} [DecidableEq κ] (ek:κ→PV):Prop where
 out:KeyOk P K ek
def kDig (d:Dig):PV:= .agg (eDig d)
def kInt (n:Int):PV:= .raw (.int .i64 n)
def vBool (b:Bool):PV:= .raw (.bool b)
def vSl {α:Type} (f:α→List PV) (l:List α):PV:= .slice (l.map f) .ro
def vMap {κ α:Type} (ek:κ→PV) (ev:α→PV) (l:List (κ × α)):PV:= .fmap (eMap ek ev l)
def vInt (n:Int):PV:= .raw (.int .i64 n)
def vId (x:PV):PV:=x
theorem find_shift {α β:Type} {r:Option Nat} {e:α} {es:List α} {f:Nat→α→β}:((r.map (·+1)).bind fun i=>((e::es)[i]?).map (f i))=(r.bind fun i=>(es[i]?).map (f (i+1))):=by
 cases r<;>simp
theorem find_dig {P:Program} {K:Nat} (hT: ∃ E i,P.underlying K=some (.array 32 E)∧P.underlying E=some (.int .u8)∧P.info? E=some i∧i.size=1) (k:Dig) (w:World): ∀ (es:List MapEntry) (l:List Dig) (n:Nat),es.length=l.length→
  (∀ i (h:i < es.length) (h':i < l.length),es[i].key= .agg (l[i].bs.map u8).toArray)→
  (Instr.findAsking K (.agg (k.bs.map u8).toArray) es n).run P w= .ok ((kIdx k l).bind fun i=>(es[i]?).map fun e=>(n+i,e.val)) w
 | [],[],n,_,_=>by simp[Instr.findAsking,kIdx]
 | [],_::_,_,h,_=>by simp at h
 |_::_,[],_,h,_=>by simp at h
 |e::es,a::l,n,h,hk=>by
  have h0:=hk 0 (by simp) (by simp)
  simp only[List.getElem_cons_zero]at h0
  unfold Instr.findAsking
  simp only[Sem.run_bind,Op.equal,h0,Op.maxDepth,run_equal_dig 9998 hT,Result.andThen_ok]
  by_cases e1:k=a
  ·subst e1
   simp[kIdx]
  ·have d1:decide (k=a)=false:=by simp[e1]
   simp only[d1,Bool.false_eq_true,if_false]
   rw[find_dig hT k w es l (n+1) (by simpa using h) (fun i h1 h2=>by have:=hk (i+1) (by simpa using h1) (by simpa using h2);simpa using this)]
   simp only[kIdx,e1,if_false]
   rw[find_shift]
   congr 1
   cases kIdx k l with
   |none=>rfl
   |some j=>simp only[Option.bind_some];congr 1;funext e;rw[Nat.add_assoc,Nat.add_comm 1]
theorem sameBits_u8s: ∀ (l:List UInt8),(((l.map u8).zip (l.map u8)).all fun(p:Value × Value)=>Instr.sameBits 9999 p.1 p.2)=true
 | []=>rfl
 |a::l=>by
  simp only[List.map_cons,List.zip_cons_cons,List.all_cons,Bool.and_eq_true]
  exact⟨by simp[u8,Instr.sameBits],sameBits_u8s l⟩
theorem keyOk_dig {P:Program} {K:Nat} [hT:TDig P K]:KeyOk P K kDig where
 check:=fun b g v k w hv=>by
  obtain⟨E,i,h1,h2,h3,h4⟩:=hT.arr
  have hv:=eDig_inv hv
  subst hv
  rw[show(10000:Nat)=9999+1 from rfl,Instr.checkKey]
  simp only[Sem.run_bind,run_underlying h1,Result.andThen_ok]
  simp only[Std.Legacy.Range.forIn_eq_forIn_range',Std.Legacy.Range.size,Nat.sub_zero,Nat.add_one_sub_one,Nat.div_one]
  have each: ∀ j∈List.range' 0 32,j < 32:=fun j hj=>by simpa using hj
  generalize List.range' 0 32=is at each
  induction is with
  |nil=>simp
  |cons j is ih=>
   have hj:=each j (by simp)
   have hlt:j < k.bs.length:=by rw[k.len];exact hj
   have p0:(sizeOf E).run P w= .ok 1 w:=by unfold sizeOf typeInfo;simp[h3,h4]
   have p1:(part E (k.bs.map u8).toArray (j*1)).run P w= .ok (u8 k.bs[j]) w:=run_part_scal (scal_int h2) (by simp[hlt]) w
   have p2:(Instr.checkKey b 9999 E (u8 k.bs[j])).run P w= .ok () w:=by rw[show(9999:Nat)=9998+1 from rfl,Instr.checkKey];simp[run_underlying h2,u8]
   simp only[List.forIn_cons,Sem.run_bind,p0,Result.andThen_ok,p1,p2,Sem.run_pure]
   exact ih (fun y hy=>each y (by simp[hy]))
 find:=fun g v k es l w hv hl hk=>by
  obtain⟨E,i,h1,_⟩:=hT.arr
  have hv:=eDig_inv hv
  subst hv
  rw[run_findKey_eq w (by rw[h1]),find_dig hT.arr k w es l 0 hl (fun i h h'=>eDig_inv (hk i h h'))]
  simp
 same:=fun g u v k hu hv=>by
  rw[eDig_inv hu,eDig_inv hv,show(10000:Nat)=9999+1 from rfl,Instr.sameBits]
  simpa using sameBits_u8s k.bs
instance {P:Program} {K:Nat} [TDig P K]:TKey P K kDig:=⟨keyOk_dig⟩
theorem find_int {k:Int} {q:IntKind}: ∀ (es:List MapEntry) (l:List Int) (n:Nat),es.length=l.length→(∀ i (h:i < es.length) (h':i < l.length),es[i].key= .int .i64 l[i])→
  Instr.findNow (.int q) (.int .i64 k) es n=some ((kIdx k l).bind fun i=>(es[i]?).map fun e=>(n+i,e.val))
 | [],[],n,_,_=>by simp[Instr.findNow,kIdx]
 | [],_::_,_,h,_=>by simp at h
 |_::_,[],_,h,_=>by simp at h
 |e::es,a::l,n,h,hk=>by
  have h0:=hk 0 (by simp) (by simp)
  simp only[List.getElem_cons_zero]at h0
  unfold Instr.findNow
  by_cases e1:k=a
  ·subst e1
   simp[h0,Instr.sameNow,kIdx]
  ·have d1:(k==a)=false:=by simp[e1]
   simp only[h0,Instr.sameNow,if_true,d1]
   rw[find_int es l (n+1) (by simpa using h) (fun i h1 h2=>by have:=hk (i+1) (by simpa using h1) (by simpa using h2);simpa using this)]
   simp only[kIdx,e1,if_false]
   rw[find_shift]
   congr 1
   cases kIdx k l with
   |none=>rfl
   |some j=>simp only[Option.bind_some];congr 1;funext e;rw[Nat.add_assoc,Nat.add_comm 1]
theorem keyOk_int {P:Program} {K:Nat} {q:IntKind} [hT:TInt P K q]:KeyOk P K kInt where
 check:=fun b g v k w hv=>by
  rw[hv.raw_inv,show(10000:Nat)=9999+1 from rfl,Instr.checkKey]
  simp[run_underlying hT.out]
 find:=fun g v k es l w hv hl hk=>by
  rw[hv.raw_inv,MapKept.run_findKey hT.out (find_int es l 0 hl (fun i h h'=>(hk i h h').raw_inv))]
  simp
 same:=fun g u v k hu hv=>by
  rw[hu.raw_inv,hv.raw_inv];simp[Instr.sameBits]
instance {P:Program} {K:Nat} {q:IntKind} [TInt P K q]:TKey P K kInt:=⟨keyOk_int⟩
section
variable {P:Program} {κ α:Type} [DecidableEq κ] {ek:κ→PV} {ev:α→PV} {T K E:Nat}
theorem lookup_run (hT:P.underlying T=some (.map K E)) (hk:KeyOk P K ek) {a0:α} (hz: ∃ i v,P.info? E=some i∧i.zero=some v∧ ∀ g,VR g v (ev a0)) {w:World} {g:Gh} {es:Array MapEntry} {l:List (κ × α)}
  (hE:Entries g es (eMap ek ev l)) {x v:Value} {k:κ} (hx:(∃ m c,x= .map (some m)∧w.heap[m]? =some (.map es c))∨(x= .map none∧es= #[])) (hv:VR g v (ek k)) (ok:Bool):
  ∃ u,(Instr.lookup T x v ok).run P w= .ok (if ok then .tuple #[u,.bool (mGet k l).isSome]else u) w∧VR g u (ev ((mGet k l).getD a0)):=by
 have hlen:es.toList.length=(l.map (·.1)).length:=by have:=hE.len;simpa [eMap]using this
 have hf:=hk.find g v k es.toList (l.map (·.1)) w hv hlen (fun i h h'=>by
  have:=hE.key i (by simpa using h) (by simpa [eMap]using h')
  simpa [eMap]using this)
 cases hi:kIdx k (l.map (·.1))with
 |none=>
  rw[hi]at hf
  obtain⟨i,z,z1,z2,z3⟩:=hz
  refine⟨z,?_,by rw[mGet_none k hi];exact z3 g⟩
  unfold Instr.lookup
  rcases hx with ⟨m,c,rfl,hb⟩|⟨rfl,rfl⟩
  ·simp only[Sem.run_bind,run_underlying hT,Result.andThen_ok,MapKept.run_getObj_map hb,Sem.run_pure,hk.check _ g v k w hv,hf,Option.bind_none,zeroValue,typeInfo,run_program,z1,z2,mGet_none k hi]
   cases ok<;>simp
  ·simp only[Sem.run_bind,run_underlying hT,Result.andThen_ok,Sem.run_pure,hk.check _ g v k w hv,hf,Option.bind_none,zeroValue,typeInfo,run_program,z1,z2,mGet_none k hi]
   cases ok<;>simp
 |some i=>
  rw[hi]at hf
  obtain⟨y,h1,_,h3⟩:=mSet_keys_old (α:=α) k a0 hi
  have hlt:i < l.length:=(List.getElem?_eq_some_iff.1 h1).1
  have hlt':i < es.size:=by have:=hE.len;simp[eMap]at this;omega
  have hval:=hE.val i hlt' (by simpa [eMap]using hlt)
  have hy:l[i]=(k,y):=(List.getElem?_eq_some_iff.1 h1).2
  simp only[eMap,List.getElem_map,hy]at hval
  refine⟨es[i].val,?_,by rw[h3];exact hval⟩
  unfold Instr.lookup
  have e1:es.toList[i]? =some es[i]:=by simp[hlt']
  rcases hx with ⟨m,c,rfl,hb⟩|⟨rfl,rfl⟩
  ·simp only[Sem.run_bind,run_underlying hT,Result.andThen_ok,MapKept.run_getObj_map hb,Sem.run_pure,hk.check _ g v k w hv,hf,Option.bind_some,e1,Option.map_some,h3]
   cases ok<;>simp
  ·simp at hlt'
end
section
variable {P:Program} {N:Nat} {all:Array Oper} {K:Env→List Res→Prop} {fl:List Bool} {os:List Oper} {ρ:Env} {L:List Res} {Q:PPost} {c:Code} {d:Nat} {ty:TypeId} {pos:String} {af:Array Edge}
variable {κ α:Type} [DecidableEq κ] {ek:κ→PV} {ev:α→PV} {T KT ET:Nat}
class IsKey' (x:PV) (ek:κ→PV) (k:outParam κ):Prop where
 out:Le x (ek k)
instance (d:Dig):IsKey' (.agg (eDig d)) kDig d:=⟨.refl _⟩
instance (n:Int):IsKey' (.raw (.int .i64 n)) kInt n:=⟨.refl _⟩
theorem s_lookF {x y:Operand} {l:List (κ × α)} {ay:PV} {k0:κ} (hx:ρ.ev x= .fmap (eMap ek ev l)) (hy:ρ.ev y=ay) [hT:TMap P T KT ET] [hK:TKey P KT ek] {a0:α} [hz:ZV P ET ev a0] [hk:IsKey' ay ek k0]
  (k:pops P N all K fl.tail os (upd ρ d (ev ((mGet k0 l).getD a0))) L) (hd:Nat.blt d N=true:=by rfl):pops P N all K fl (⟨some d,.lookup T x y false,ty,pos,af,none⟩::os) ρ L:=
 step_q hd (qop_of_run fun a w g ha hi=>by
  have h1:=ha x (by simp[Op.operands]);rw[hx]at h1
  have h2:=hk.out g _ (hy ▸ ha y (by simp[Op.operands]))
  have key: ∃ es,((∃ m c,a.eval x= .map (some m)∧w.heap[m]? =some (.map es c))∨(a.eval x= .map none∧es= #[]))∧Entries g es (eMap ek ev l):=by
   generalize a.eval x=v at h1
   generalize eMap ek ev l=kvs at h1 ⊢
   cases h1 with
   |fmap hM hl hk' hv'=>obtain⟨hc,_⟩:=hi.satM _ _ hM;exact⟨_,.inl ⟨_,_,rfl,hc⟩,⟨hl,hk',hv'⟩⟩
   |nilM=>exact⟨#[],.inr ⟨rfl,rfl⟩,⟨rfl,by simp,by simp⟩⟩
  obtain⟨es,he,hE⟩:=key
  obtain⟨u,hr,hu⟩:=lookup_run hT.out hK.out hz.out hE he h2 false
  refine⟨u,?_,hu⟩
  simp only[execOp,hr,Sem.run_bind,Result.andThen_ok,Sem.run_pure];rfl) k
theorem s_lookFok {x y:Operand} {l:List (κ × α)} {ay:PV} {k0:κ} (hx:ρ.ev x= .fmap (eMap ek ev l)) (hy:ρ.ev y=ay) [hT:TMap P T KT ET] [hK:TKey P KT ek] {a0:α} [hz:ZV P ET ev a0] [hk:IsKey' ay ek k0]
  (k:pops P N all K fl.tail os (upd ρ d (.tuple [ev ((mGet k0 l).getD a0),.raw (.bool (mGet k0 l).isSome)])) L) (hd:Nat.blt d N=true:=by rfl):pops P N all K fl (⟨some d,.lookup T x y true,ty,pos,af,none⟩::os) ρ L:=
 step_q hd (qop_of_run fun a w g ha hi=>by
  have h1:=ha x (by simp[Op.operands]);rw[hx]at h1
  have h2:=hk.out g _ (hy ▸ ha y (by simp[Op.operands]))
  have key: ∃ es,((∃ m c,a.eval x= .map (some m)∧w.heap[m]? =some (.map es c))∨(a.eval x= .map none∧es= #[]))∧Entries g es (eMap ek ev l):=by
   generalize a.eval x=v at h1
   generalize eMap ek ev l=kvs at h1 ⊢
   cases h1 with
   |fmap hM hl hk' hv'=>obtain⟨hc,_⟩:=hi.satM _ _ hM;exact⟨_,.inl ⟨_,_,rfl,hc⟩,⟨hl,hk',hv'⟩⟩
   |nilM=>exact⟨#[],.inr ⟨rfl,rfl⟩,⟨rfl,by simp,by simp⟩⟩
  obtain⟨es,he,hE⟩:=key
  obtain⟨u,hr,hu⟩:=lookup_run hT.out hK.out hz.out hE he h2 true
  refine⟨_,?_,VRl.tuple (.cons hu (.cons (.raw (.bool (mGet k0 l).isSome)) (.nil g)))⟩
  simp only[execOp,hr,Sem.run_bind,Result.andThen_ok,Sem.run_pure];rfl) k
theorem s_lookM {x y:Operand} {b:Nat} {l:List (κ × α)} {ay:PV} {k0:κ} (hx:ρ.ev x= .raw (.map (some b))) (hm:Res.map b (eMap ek ev l)∈L) (hy:ρ.ev y=ay) [hT:TMap P T KT ET] [hK:TKey P KT ek] {a0:α} [hz:ZV P ET ev a0] [hk:IsKey' ay ek k0]
  (k:pops P N all K fl.tail os (upd ρ d (ev ((mGet k0 l).getD a0))) L) (hd:Nat.blt d N=true:=by rfl):pops P N all K fl (⟨some d,.lookup T x y false,ty,pos,af,none⟩::os) ρ L:=
 step_q hd (qop_of_run fun a w g ha hi=>by
  have h1:=evRaw ha (x:=x) (by simp[Op.operands]) hx
  have h2:=hk.out g _ (hy ▸ ha y (by simp[Op.operands]))
  obtain⟨es,c,hb,hE,_⟩:=hi.res _ hm
  obtain⟨u,hr,hu⟩:=lookup_run hT.out hK.out hz.out hE (.inl ⟨b,c,h1,hb⟩) h2 false
  refine⟨u,?_,hu⟩
  simp only[execOp,hr,Sem.run_bind,Result.andThen_ok,Sem.run_pure];rfl) k
theorem s_lookMok {x y:Operand} {b:Nat} {l:List (κ × α)} {ay:PV} {k0:κ} (hx:ρ.ev x= .raw (.map (some b))) (hm:Res.map b (eMap ek ev l)∈L) (hy:ρ.ev y=ay) [hT:TMap P T KT ET] [hK:TKey P KT ek] {a0:α} [hz:ZV P ET ev a0] [hk:IsKey' ay ek k0]
  (k:pops P N all K fl.tail os (upd ρ d (.tuple [ev ((mGet k0 l).getD a0),.raw (.bool (mGet k0 l).isSome)])) L) (hd:Nat.blt d N=true:=by rfl):pops P N all K fl (⟨some d,.lookup T x y true,ty,pos,af,none⟩::os) ρ L:=
 step_q hd (qop_of_run fun a w g ha hi=>by
  have h1:=evRaw ha (x:=x) (by simp[Op.operands]) hx
  have h2:=hk.out g _ (hy ▸ ha y (by simp[Op.operands]))
  obtain⟨es,c,hb,hE,_⟩:=hi.res _ hm
  obtain⟨u,hr,hu⟩:=lookup_run hT.out hK.out hz.out hE (.inl ⟨b,c,h1,hb⟩) h2 true
  refine⟨_,?_,VRl.tuple (.cons hu (.cons (.raw (.bool (mGet k0 l).isSome)) (.nil g)))⟩
  simp only[execOp,hr,Sem.run_bind,Result.andThen_ok,Sem.run_pure];rfl) k
theorem s_makeMap (k: ∀ b,pops P N all K fl.tail os (upd ρ d (.raw (.map (some b)))) (.map b []::L)) (hd:Nat.blt d N=true:=by rfl) (hf:fl.headD true=true:=by rfl):
  pops P N all K fl (⟨some d,.makeMap T none,ty,pos,af,none⟩::os) ρ L:=
 pops_n rfl (dlt hd) hf (fun a w g ha hi=>by
  obtain⟨i1,s1⟩:=hi.allocO (.map #[] 0)
  have hr:(execOp a.eval ⟨some d,.makeMap T none,ty,pos,af,none⟩).run P w= .ok (.value (.map (some w.heap.size))) (w.alloc (.map #[] 0)):=by
   simp only[execOp,Instr.makeMap,Option.map_none,Sem.run_bind,run_newObj_alloc,Result.andThen_ok,Sem.run_pure]
  refine Oper.wq_of_run hr ?_
  obtain⟨f1,f2⟩:=hi.fresh (b:=w.heap.size) (Nat.le_refl _)
  refine⟨_,_,g,_,rfl,.raw _,⟨i1.sat,i1.satM,fun r hr=>?_,?_,i1.glob⟩,s1,?_,k _⟩
  ·rcases List.mem_cons.1 hr with rfl|hr
   ·exact⟨#[],0,by show(w.heap.push _)[w.heap.size]? =_;simp,⟨rfl,by simp,by simp⟩,f1,f2,⟨by simp,by simp⟩⟩
   ·exact i1.res r hr
  ·simp only[blocks,List.filterMap_cons,Res.block]
   exact List.nodup_cons.2 ⟨fun h=>by have:=hi.lt h;omega,hi.nodup⟩
  ·intro b' hb' hlt
   simp only[blocks,List.filterMap_cons,Res.block]at hb'
   rcases List.mem_cons.1 hb' with rfl|hb'
   ·omega
   ·exact hb')
theorem Stamped.push {es:Array MapEntry} {cl:Nat} {e:MapEntry} (h:Stamped es cl) (he:e.born=cl):Stamped (es.push e) (cl+1):=by
 refine⟨fun x hx=>?_,?_⟩
 ·rw[Array.toList_push,List.mem_append,List.mem_singleton]at hx
  rcases hx with hx|rfl
  ·have:=h.lt x hx;omega
  ·omega
 ·rw[Array.toList_push,List.map_append]
  refine List.nodup_append.2 ⟨h.nd,by simp,fun a ha b hb e2=>?_⟩
  obtain⟨x,hx,rfl⟩:=List.mem_map.1 ha
  have:=h.lt x hx
  simp only[List.map_cons,List.map_nil,List.mem_singleton]at hb
  omega
theorem Stamped.modify {es:Array MapEntry} {cl i:Nat} {f:MapEntry→MapEntry} (h:Stamped es cl) (hf: ∀ e,(f e).born=e.born):Stamped (es.modify i f) cl:=by
 have e:(es.modify i f).toList.map (·.born)=es.toList.map (·.born):=by
  refine List.ext_getElem (by simp) fun k h1 h2=>?_
  simp only[List.getElem_map,Array.getElem_toList,Array.getElem_modify]
  split
  ·exact hf _
  ·rfl
 refine⟨fun x hx=>?_,by rw[e];exact h.nd⟩
 have hm:x.born∈(es.modify i f).toList.map (·.born):=List.mem_map.2 ⟨x,hx,rfl⟩
 rw[e]at hm
 obtain⟨y,hy,e2⟩:=List.mem_map.1 hm
 have:=h.lt y hy
 omega
theorem opN_mapUpd {dst:Option Nat} {gd:Option (Nat × Bool)} [hT:TMap P T KT ET] [hK:TKey P KT ek] {x y z:Operand} {b:Nat} {l:List (κ × α)} {k0:κ} {x0:α} {L':List Res} {op:Op} (hop:op= .mapUpdate T x y z∨op= .insert T x y z) (hx:ρ.ev x= .raw (.map (some b))) (hp:L.Perm (.map b (eMap ek ev l)::L'))
  (hk:Le (ρ.ev y) (ek k0)) (hz:Le (ρ.ev z) (ev x0)) {Ψ:PV→List Res→Prop} (k:Ψ (.raw undef) (.map b (eMap ek ev (mSet k0 x0 l))::L')):OpN P ⟨dst,op,ty,pos,af,gd⟩ ρ L Ψ:=by
 refine OpN.perm hp fun a w g ha hi=>?_
 have hopx:x∈op.operands:=by rcases hop with rfl|rfl<;>simp[Op.operands]
 have hopy:y∈op.operands:=by rcases hop with rfl|rfl<;>simp[Op.operands]
 have hopz:z∈op.operands:=by rcases hop with rfl|rfl<;>simp[Op.operands]
 have h1:=evRaw ha (x:=x) hopx hx
 have h2:=hk g _ (ha y hopy)
 have h3:=hz g _ (ha z hopz)
 obtain⟨es,cl,hb,hE,hH,hM,hS⟩:=hi.res _ (List.mem_cons_self)
 have hlen:es.toList.length=(l.map (·.1)).length:=by have:=hE.len;simpa [eMap]using this
 have hf:=hK.out.find g (a.eval y) k0 es.toList (l.map (·.1)) w h2 hlen (fun i h h'=>by
  have:=hE.key i (by simpa using h) (by simpa [eMap]using h')
  simpa [eMap]using this)
 have hlt:b < w.heap.size:=(Array.getElem?_eq_some_iff.1 hb).1
 have hnd:=hi.nodup
 simp only[blocks,List.filterMap_cons,Res.block]at hnd
 have hrest:Inv w g L':=hi.sub (List.sublist_cons_self _ _)
 have fin: ∀ (es':Array MapEntry) (cl':Nat),Entries g es' (eMap ek ev (mSet k0 x0 l))→Stamped es' cl'→(Instr.mapUpdate T (a.eval x) (a.eval y) (a.eval z)).run P w= .ok () (w.putObj b (.map es' cl'))→
   Oper.wq P ⟨dst,op,ty,pos,af,gd⟩ a w (fun a' w'=> ∃ v x g' L'',a'=a.put dst v∧VR g' v x∧Inv w' g' L''∧Step (blocks (.map b (eMap ek ev l)::L')) w g w' g'∧Within w (.map b (eMap ek ev l)::L') L''∧Ψ x L''):=fun es' cl' hE' hS' hr=>by
  have hr':(execOp a.eval ⟨dst,op,ty,pos,af,gd⟩).run P w= .ok .skip (w.putObj b (.map es' cl')):=by
   rcases hop with rfl|rfl<;>simp only[execOp,hr,Sem.run_bind,Result.andThen_ok,Sem.run_pure]
  refine Oper.wq_of_run hr' ?_
  have i2:=hrest.put (.map es' cl') hH hM (List.nodup_cons.1 hnd).1
  refine⟨undef,.raw undef,g,.map b (eMap ek ev (mSet k0 x0 l))::L',rfl,.raw _,⟨i2.sat,i2.satM,fun r hr=>?_,hi.nodup,hi.glob⟩,.put _ (by simp[blocks,Res.block]),fun b' hb' _=>hb',k⟩
  rcases List.mem_cons.1 hr with rfl|hr
  ·exact⟨es',cl',World.putObj_heap_same hlt,hE',hH,hM,hS'⟩
  ·exact i2.res r hr
 cases hi':kIdx k0 (l.map (·.1))with
 |none=>
  rw[hi']at hf
  refine fin (es.push { key:=a.eval y,val:=a.eval z,born:=cl }) (cl+1) ?_ (hS.push rfl) ?_
  ·rw[mSet_keys_new k0 x0 hi',eMap,List.map_append]
   have hl:es.size=l.length:=by simpa [eMap]using hE.len
   refine⟨by simp[hl],fun i j1 j2=>?_,fun i j1 j2=>?_⟩
   ·by_cases hi2:i < es.size
    ·rw[Array.getElem_push_lt hi2,List.getElem_append_left (by simp;omega)]
     exact hE.key i hi2 (by simp[eMap];omega)
    ·have e:i=es.size:=by simp at j1;omega
     subst e
     rw[List.getElem_append_right (by simp[hl])]
     rw[Array.getElem_push_eq];simpa [hl]using h2
   ·by_cases hi2:i < es.size
    ·rw[Array.getElem_push_lt hi2,List.getElem_append_left (by simp;omega)]
     exact hE.val i hi2 (by simp[eMap];omega)
    ·have e:i=es.size:=by simp at j1;omega
     subst e
     rw[List.getElem_append_right (by simp[hl])]
     rw[Array.getElem_push_eq];simpa [hl]using h3
  ·unfold Instr.mapUpdate
   simp only[Sem.run_bind,run_underlying hT.out,Result.andThen_ok,h1,MapKept.run_getObj_map hb,hK.out.check false g _ k0 w h2,hf,Option.bind_none,MapKept.run_setObj_map _ hb]
   rfl
 |some i=>
  rw[hi']at hf
  obtain⟨y0,e1,e2,_⟩:=mSet_keys_old k0 x0 hi'
  have hl:es.size=l.length:=by simpa [eMap]using hE.len
  have hli:i < l.length:=(List.getElem?_eq_some_iff.1 e1).1
  have hli':i < es.size:=by omega
  have hy0:l[i]=(k0,y0):=(List.getElem?_eq_some_iff.1 e1).2
  have hkey:VR g es[i].key (ek k0):=by
   have:=hE.key i hli' (by simp[eMap];exact hli)
   simpa [eMap,hy0]using this
  have hsame:=hK.out.same g _ _ k0 hkey h2
  refine fin (es.modify i fun e=>{ e with key:=a.eval y,val:=a.eval z }) cl ?_ (hS.modify fun _=>rfl) ?_
  ·rw[e2]
   refine⟨by simp[eMap,hl],fun j j1 j2=>?_,fun j j1 j2=>?_⟩
   ·simp only[Array.size_modify]at j1
    have j3:j < l.length:=by omega
    rw[Array.getElem_modify (by simpa using j1)]
    by_cases hj:i=j
    ·subst hj
     simp[eMap];exact h2
    ·simp only[hj,if_false]
     have:=hE.key j j1 (by simp[eMap];exact j3)
     simpa [eMap,List.getElem_set_ne hj]using this
   ·simp only[Array.size_modify]at j1
    have j3:j < l.length:=by omega
    rw[Array.getElem_modify (by simpa using j1)]
    by_cases hj:i=j
    ·subst hj
     simp[eMap];exact h3
    ·simp only[hj,if_false]
     have:=hE.val j j1 (by simp[eMap];exact j3)
     simpa [eMap,List.getElem_set_ne hj]using this
  ·have hf2:(Instr.findKey KT (a.eval y) es.toList).run P w= .ok (some (i,es[i].val)) w:=by rw[hf];simp[hli']
   have hst:(Instr.keyThatStays es[i].key (a.eval y)).run P w= .ok (a.eval y) w:=by unfold Instr.keyThatStays;rw[if_pos hsame];rfl
   unfold Instr.mapUpdate
   simp only[Sem.run_bind,run_underlying hT.out,Result.andThen_ok,h1,MapKept.run_getObj_map hb,hK.out.check false g _ k0 w h2,hf2,Array.getElem?_eq_getElem hli',Option.map_some,Option.getD_some,hst,MapKept.run_setObj_map _ hb]
   rfl
theorem s_mapUpd [hT:TMap P T KT ET] [hK:TKey P KT ek] {x y z:Operand} {b:Nat} {l:List (κ × α)} {k0:κ} {x0:α} {L':List Res} (hx:ρ.ev x= .raw (.map (some b))) (hp:L.Perm (.map b (eMap ek ev l)::L')) (hk:Le (ρ.ev y) (ek k0)) (hz:Le (ρ.ev z) (ev x0))
  (k:pops P N all K fl.tail os ρ (.map b (eMap ek ev (mSet k0 x0 l))::L')) (hfl:fl.headD true=true:=by rfl):pops P N all K fl (⟨none,.mapUpdate T x y z,ty,pos,af,none⟩::os) ρ L:=
 pops_n rfl (fun _ e=>by cases e) hfl (opN_mapUpd (.inl rfl) hx hp hk hz k)
theorem s_mapIns [hT:TMap P T KT ET] [hK:TKey P KT ek] {x y z:Operand} {b:Nat} {l:List (κ × α)} {k0:κ} {x0:α} {L':List Res} (hx:ρ.ev x= .raw (.map (some b))) (hp:L.Perm (.map b (eMap ek ev l)::L')) (hk:Le (ρ.ev y) (ek k0)) (hz:Le (ρ.ev z) (ev x0))
  (k:pops P N all K fl.tail os ρ (.map b (eMap ek ev (mSet k0 x0 l))::L')) (hfl:fl.headD true=true:=by rfl):pops P N all K fl (⟨none,.insert T x y z,ty,pos,af,none⟩::os) ρ L:=
 pops_n rfl (fun _ e=>by cases e) hfl (opN_mapUpd (.inr rfl) hx hp hk hz k)
theorem Inv.freezeM {w:World} {g:Gh} {L':List Res} {b:Nat} {kvs:List (PV × PV)} (hi:Inv w g L) (hp:L.Perm (.map b kvs::L')):
  ∃ g',Inv w g' L'∧Step (blocks L) w g w g'∧Within w L L'∧VR g' (.map (some b)) (.fmap kvs):=by
 have hi2:=hi.perm hp
 obtain⟨es,cl,h1,h2,h3,h4,h5⟩:=hi2.res _ (List.mem_cons_self)
 let g':Gh:={ g with M:=fun k=>if k=b then some (.map es cl)else g.M k }
 have hle:g.le g':=⟨fun _ _ _ h=>h,fun k z h=>by
  show(if k=b then some (Frz.map es cl)else g.M k)=_
  rw[if_neg (fun e=>by rw[e,h4]at h;cases h)];exact h⟩
 have hbl:b∈blocks L:=(blocks_perm hp).symm.subset (by simp[blocks,Res.block])
 have hnd:=hi2.nodup
 simp only[blocks,List.filterMap_cons,Res.block]at hnd
 have hnb: ∀ r∈L',r.block≠some b:=fun r hr e=>(List.nodup_cons.1 hnd).1 (List.mem_filterMap.2 ⟨r,hr,e⟩)
 refine⟨g',⟨hi.sat,fun k z hz=>?_,fun r hr=>?_,(List.nodup_cons.1 hnd).2,hi.glob.mono hle⟩,⟨rfl,rfl,⟨rfl,Nat.le_refl _⟩,Nat.le_refl _,fun _ _ _=>rfl,hle,fun k _ hn=>⟨fun _=>rfl,?_⟩⟩,fun b' hb' _=>(blocks_perm hp).symm.subset ?_,?_⟩
 ·change (if k=b then some (Frz.map es cl)else g.M k)=some z at hz
  split at hz
  ·rename_i e;subst e;cases hz;exact⟨h1,h5⟩
  ·exact hi.satM k z hz
 ·refine Res.holds_kept hle (hi2.res r (List.mem_cons_of_mem _ hr)) fun b' hb'=>⟨rfl,fun _=>rfl,?_⟩
  show(if b'=b then some (Frz.map es cl)else g.M b')=_
  rw[if_neg (fun e=>by subst e;exact hnb r hr hb')]
 ·show(if k=b then some (Frz.map es cl)else g.M k)=_
  rw[if_neg (fun e=>by subst e;exact hn hbl)]
 ·simp only[blocks,List.filterMap_cons,Res.block];exact List.mem_cons_of_mem _ hb'
 ·exact .fmap (es:=es) (clock:=cl) (by show(if b=b then some (Frz.map es cl)else g.M b)=_;simp) h2.len (fun i a c=>(h2.key i a c).mono hle) (fun i a c=>(h2.val i a c).mono hle)
def Fm (b:Nat) (kvs:List (PV × PV)) (x y:PV):Prop:=x=y∨(x= .raw (.map (some b))∧y= .fmap kvs)
theorem pwp_freezeM {b:Nat} {kvs:List (PV × PV)} {L':List Res} (E:List (Nat × PV)) (hE:HoldsR (Fm b kvs) ρ E) (hp:L.Perm (.map b kvs::L')) (k:pwp P N c Q (env E) L'):pwp P N c Q ρ L:=
 pwp_ghost (fun base a w g ha hi=>by
  obtain⟨g',h1,h2,h3,h4⟩:=hi.freezeM hp
  refine⟨g',⟨ha.size,ha.defers.mono h2.le,fun i=>?_⟩,h1,h2,h3⟩
  rcases env_leR hE i with (e|⟨e1,e2⟩)|e
  ·rw[←e];exact(ha.slot i).mono h2.le
  ·rw[e2]
   have:=(ha.slot i).mono h2.le
   rw[e1]at this
   rw[this.raw_inv];exact h4
  ·rw[e];exact .junk _) k
end
end Go.Q
namespace Go.Q
open Go
theorem u8_tri {a b:UInt8} (h:a≠b):a < b∨b < a:=by
 have h2:a.toNat≠b.toNat:=fun e=>h (UInt8.toNat.inj e)
 rw[UInt8.lt_iff_toNat_lt,UInt8.lt_iff_toNat_lt];omega
def cmpL:List UInt8→List UInt8→Int
 |x::xs,y::ys=>if x < y then -1 else if y < x then 1 else cmpL xs ys
 | [],[]=>0
 | [],_::_=> -1
 |_::_,[]=>1
def cmpD (a b:Dig):Int:=cmpL a.bs b.bs
theorem cmpL_cases: ∀ a b:List UInt8,cmpL a b= -1∧a < b∨cmpL a b=0∧a=b∨cmpL a b=1∧b < a
 | [],[]=> .inr (.inl ⟨rfl,rfl⟩)
 | [],y::ys=> .inl ⟨rfl,List.nil_lt_cons y ys⟩
 |x::xs,[]=> .inr (.inr ⟨rfl,List.nil_lt_cons x xs⟩)
 |x::xs,y::ys=>by
  unfold cmpL
  by_cases h1:x < y
  ·simp[h1,List.cons_lt_cons_iff]
  ·by_cases h2:y < x
   ·simp[h1,h2,List.cons_lt_cons_iff]
   ·have e:x=y:=by
     have:=u8_tri (a:=x) (b:=y)
     by_cases he:x=y
     ·exact he
     ·rcases this he with h|h
      ·exact absurd h h1
      ·exact absurd h h2
    subst e
    simp only[h1,if_false]
    rcases cmpL_cases xs ys with ⟨h3,h4⟩|⟨h3,h4⟩|⟨h3,h4⟩
    ·exact .inl ⟨h3,by simp[List.cons_lt_cons_iff,h4]⟩
    ·exact .inr (.inl ⟨h3,by rw[h4]⟩)
    ·exact .inr (.inr ⟨h3,by simp[List.cons_lt_cons_iff,h4]⟩)
theorem cmpL_eq_zero {a b:List UInt8}:cmpL a b=0↔a=b:=by
 rcases cmpL_cases a b with ⟨h1,h2⟩|⟨h1,h2⟩|⟨h1,h2⟩
 ·exact⟨fun h=>by omega,fun h=>by subst h;exact absurd h2 (List.lt_irrefl a)⟩
 ·exact⟨fun _=>h2,fun _=>h1⟩
 ·exact⟨fun h=>by omega,fun h=>by subst h;exact absurd h2 (List.lt_irrefl a)⟩
theorem cmpL_neg {a b:List UInt8}:cmpL a b < 0↔a < b:=by
 rcases cmpL_cases a b with ⟨h1,h2⟩|⟨h1,h2⟩|⟨h1,h2⟩
 ·exact⟨fun _=>h2,fun _=>by omega⟩
 ·exact⟨fun h=>by omega,fun h=>by subst h2;exact absurd h (List.lt_irrefl a)⟩
 ·exact⟨fun h=>by omega,fun h=>absurd (List.lt_trans h h2) (List.lt_irrefl a)⟩
def Dig.lt (a b:Dig):Prop:=cmpD a b < 0
instance (a b:Dig):Decidable (Dig.lt a b):=by unfold Dig.lt;infer_instance
theorem Dig.lt_irrefl (a:Dig): ¬Dig.lt a a:=fun h=>List.lt_irrefl a.bs (cmpL_neg.1 h)
theorem Dig.lt_trans {a b c:Dig} (h:Dig.lt a b) (k:Dig.lt b c):Dig.lt a c:=cmpL_neg.2 (List.lt_trans (cmpL_neg.1 h) (cmpL_neg.1 k))
theorem Dig.lt_asymm {a b:Dig} (h:Dig.lt a b): ¬Dig.lt b a:=fun k=>Dig.lt_irrefl a (Dig.lt_trans h k)
theorem Dig.ne_of_lt {a b:Dig} (h:Dig.lt a b):a≠b:=fun e=>by subst e;exact Dig.lt_irrefl _ h
theorem Dig.tri (a b:Dig):Dig.lt a b∨a=b∨Dig.lt b a:=by
 rcases cmpL_cases a.bs b.bs with ⟨h1,h2⟩|⟨h1,h2⟩|⟨h1,h2⟩
 ·exact .inl (cmpL_neg.2 h2)
 ·exact .inr (.inl (Dig.ext h2))
 ·exact .inr (.inr (cmpL_neg.2 h2))
theorem cmpD_zero {a b:Dig}:cmpD a b=0↔a=b:=⟨fun h=>Dig.ext (cmpL_eq_zero.1 h),fun h=>by subst h;exact cmpL_eq_zero.2 rfl⟩
theorem cmpL_at: ∀ {a b:List UInt8} {k:Nat},a.length=b.length→k < a.length→(∀ i,i < k→a.getD i 0=b.getD i 0)→a.getD k 0≠b.getD k 0→cmpL a b=if a.getD k 0 < b.getD k 0 then -1 else 1
 |x::xs,y::ys,0,hl,hk,he,hn=>by
  simp only[List.getD_cons_zero]at hn ⊢
  unfold cmpL
  by_cases h1:x < y
  ·simp[h1]
  ·have:=u8_tri hn
   have h2:y < x:=this.resolve_left h1
   simp[h1,h2]
 |x::xs,y::ys,k+1,hl,hk,he,hn=>by
  have h0:=he 0 (by omega)
  simp only[List.getD_cons_zero]at h0
  subst h0
  simp only[List.getD_cons_succ]at hn ⊢
  unfold cmpL
  simp only[UInt8.lt_irrefl,if_false]
  exact cmpL_at (by simpa using hl) (by simpa using hk) (fun i hi=>by have:=he (i+1) (by omega);simpa using this) hn
 | [],_,_,_,hk,_,_=>by simp at hk
 |_::_,[],_,hl,_,_,_=>by simp at hl
theorem cmpD_at {a b:Dig} {k:Nat} (hk:k < 32) (he: ∀ i,i < k→a.at i=b.at i) (hn:a.at k≠b.at k):cmpD a b=if a.at k < b.at k then -1 else 1:=
 cmpL_at (by rw[a.len,b.len]) (by rw[a.len];exact hk) he hn
def withD:List Dig→Dig→List Dig
 | [],d=> [d]
 |x::xs,d=>if Dig.lt x d then x::withD xs d else if x=d then x::xs else d::x::xs
theorem withD_at: ∀ {l:List Dig} {d:Dig} {k:Nat},k≤l.length→(∀ i (h:i < l.length),i < k→Dig.lt l[i] d)→(∀ h:k < l.length,¬Dig.lt l[k] d)→
  withD l d=if ∃ h:k < l.length,l[k]=d then l else l.take k++d::l.drop k
 | [],d,k,hk,_,_=>by simp[withD]
 |x::xs,d,0,_,_,hk=>by
  have:=hk (by simp)
  simp only[List.getElem_cons_zero]at this
  simp[withD,this]
 |x::xs,d,k+1,hl,h1,h2=>by
  have h0:=h1 0 (by simp) (by omega)
  simp only[List.getElem_cons_zero]at h0
  have ih:=withD_at (l:=xs) (d:=d) (k:=k) (by simpa using hl) (fun i h hi=>by have:=h1 (i+1) (by simpa using h) (by omega);simpa using this) (fun h=>by have:=h2 (by simpa using h);simpa using this)
  simp only[withD,h0,if_true,ih]
  simp only[List.length_cons,Nat.add_lt_add_iff_right,List.getElem_cons_succ,List.take_succ_cons,List.drop_succ_cons]
  split<;>rfl
end Go.Q
namespace Go.Q
open Go
section
variable {P:Program} {N:Nat} {all:Array Oper} {K:Env→List Res→Prop} {fl:List Bool} {os:List Oper} {ρ:Env} {L:List Res} {Q:PPost} {c:Code} {d:Nat} {ty:TypeId} {pos:String} {af:Array Edge}
theorem eBy_flat (l:List UInt8):(l.map eBy).flatten=l.map eU8:=by
 induction l with
 |nil=>rfl
 |cons a l ih=>simp[ih,eBy,eU8,u8]
theorem s_sliceF {T:TypeId} [hT:TDig P T] {x:Operand} {dg:Dig} (hx:ρ.ev x= .pt (eDig dg) 0) (k:pops P N all K fl.tail os (upd ρ d (.slice (dg.bs.map eBy) .ro)) L) (hd:Nat.blt d N=true:=by rfl):
  pops P N all K fl (⟨some d,.slice T x none none none,ty,pos,af,none⟩::os) ρ L:=
 step_q hd (qop_of_run fun a' w g ha hi=>by
  obtain⟨E,i,e1,e2,e3,e4⟩:=hT.arr
  have h1:=ha x (by simp[Op.operands]);rw[hx]at h1
  generalize hv:a'.eval x=v at h1
  generalize hcs:eDig dg=cs at h1
  cases h1 with
  |pt f hH hv'=>
   rename_i b o
   subst hcs
   refine⟨.slice (some ⟨b,o,none⟩) 32 32,?_,?_⟩
   ·show(do pure (Next.value (←Instr.sliceAt T (a'.eval x) none none none)):Sem Next).run P w=_
    simp[Instr.sliceAt,run_und e1,hv,Instr.sureAddr,Instr.sliceBounds,sizeOf,typeInfo,e3,e4,add_plain]
   ·have hl:(eDig dg).length=32:=by simp
    let us:List Value:=(List.range 32).map f
    have hus:VRl g us (eDig dg):=⟨by simp[us],fun j j1 j2=>by simpa [us]using hv' j j2⟩
    have:=VR.of_cells (g:=g) (xs:=dg.bs.map eBy) (t:= .ro) (sz:=1) (b:=b) (off:=o) (cap:=32) (fun e he=>by obtain⟨a,_,rfl⟩:=List.mem_map.1 he;rfl) (by simp[dg.len]) ⟨by rw[List.length_map,dg.len];decide,by rw[List.length_map,dg.len];decide⟩ (us:=us)
     (by rw[eBy_flat];exact hus) (fun j hj=>by
      have hj':j < 32:=by simpa [us]using hj
      rw[hH j (by omega)];simp[us]) (by simp) (by simp)
    simpa [dg.len]using this) k
class ExtC (P:Program) (f:Nat) (args:List PV) (X:outParam PV):Prop where
 out: ∀ (vs:List Value) (w:World) (g:Gh),VRl g vs args→(∀ b o v,g.H b o=some v→w.cell? ⟨b,o,none⟩=some v)→ ∃ v,(callFunc f vs.toArray).run P w= .ok (.value v) w∧VR g v X
theorem s_ext {f:Nat} {X:PV} {ats:Array TypeId} {xs:List Operand} {xa:Array Operand} {args:List PV} (hxa:xa=xs.toArray) (hargs: ∀ i (h1:i < xs.length) (h2:i < args.length),Le (ρ.ev xs[i]) args[i]) (hl:xs.length=args.length) [hc:ExtC P f args X] (k:pops P N all K fl.tail os (upd ρ d X) L) (hd:Nat.blt d N=true:=by rfl):
  pops P N all K fl (⟨some d,.call { callee:= .value (.func f),args:=xa,argTypes:=ats },ty,pos,af,none⟩::os) ρ L:=by
 subst hxa
 refine step_q hd (qop_of_run fun a w g ha hi=>?_) k
 have hvs:VRl g (xs.map a.eval) args:=⟨by simpa using hl,fun i h1 h2=>by
  simp only[List.getElem_map]
  exact hargs i (by simpa using h1) h2 g _ (ha _ (by simp[Op.operands,Call.operands]))⟩
 obtain⟨v,hr,hv⟩:=hc.out _ w g hvs hi.sat
 refine⟨v,?_,hv⟩
 have he:execOp a.eval ⟨some d,.call { callee:= .value (.func f),args:=xs.toArray,argTypes:=ats },ty,pos,af,none⟩=callFunc f (#[]++xs.toArray.map a.eval++ #[]):=rfl
 rw[he]
 simpa using hr
theorem j_ext2 {f:Nat} {X:PV} {ats:Array TypeId} {x0 x1:Operand} {a0 a1 b0 b1:PV} (q0:ρ.ev x0=a0) (q1:ρ.ev x1=a1) [hN0:Norm a0 b0] [hN1:Norm a1 b1] [hc:ExtC P f [b0,b1] X] (k:pops P N all K fl.tail os (upd ρ d X) L) (hd:Nat.blt d N=true:=by rfl):
  pops P N all K fl (⟨some d,.call { callee:= .value (.func f),args:= #[x0,x1],argTypes:=ats },ty,pos,af,none⟩::os) ρ L:=
 s_ext (xs:= [x0,x1]) (args:= [b0,b1]) rfl (fun i h1 h2=>by
  match i,h1,h2 with
  |0,_,_=>exact q0 ▸ hN0.out
  |1,_,_=>exact q1 ▸ hN1.out
  |m+2,h1,_=>exact absurd h1 (by simp only[List.length_cons,List.length_nil];omega)) rfl k hd
theorem bytesOf_run {w:World} {g:Gh} (hsat: ∀ b o v,g.H b o=some v→w.cell? ⟨b,o,none⟩=some v) {v:Value} {bs:List UInt8} {t:Tag} (h:VR g v (.slice (bs.map eBy) t)):(Extern.Bytes.bytesOf v).run P w= .ok ⟨bs.toArray⟩ w:=by
 obtain⟨base,cap,e1,hcap,hmx,hnone,_,_,us,hus,hcell⟩:=h.slice_cells (sz:=1) (fun e he=>by obtain⟨a,_,rfl⟩:=List.mem_map.1 he;rfl)
 subst e1
 rw[eBy_flat]at hus
 cases base with
 |none=>
  have:bs= []:=by simpa using (hnone rfl).1
  subst this
  simp[Extern.Bytes.bytesOf];rfl
 |some ad=>
  obtain⟨b,o,s⟩:=ad
  obtain⟨hs,hH⟩:=hcell _ rfl
  rcases hs with ⟨e3,e4⟩|hs
  ·have:bs= []:=by simpa using e3
   subst this
   simp[Extern.Bytes.bytesOf,Extern.Bytes.loadBytes];rfl
  simp only at hs
  subst hs
  have:=Lib.run_loadBytesX (P:=P) w (bs.map fun x=>(x.toNat:Int)) ⟨b,o,none⟩ .empty (fun j x hx=>by
   rw[List.getElem?_map]at hx
   obtain⟨y,hy,rfl⟩:=Option.map_eq_some_iff.1 hx
   have hj:j < bs.length:=(List.getElem?_eq_some_iff.1 hy).1
   have hj':j < us.length:=by rw[hus.len];simpa using hj
   rw[add_plain,hsat _ _ _ (hH j hj')]
   have h2:=hus.at_ j hj' (by simpa using hj)
   have h3:bs[j]=y:=(List.getElem?_eq_some_iff.1 hy).2
   simp only[List.getElem_map,eU8,h3]at h2
   rw[h2.raw_inv];rfl)
  rw[List.length_map]at this
  simp only[Extern.Bytes.bytesOf,List.length_map,this]
  congr 1
  apply ByteArray.ext
  have e2:Lib.bytesOf (bs.map fun x=>(x.toNat:Int))=bs:=by
   unfold Lib.bytesOf
   rw[List.map_map]
   conv=>rhs;rw[←List.map_id bs]
   apply List.map_congr_left
   intro x _
   simp
  simp[e2]
end
theorem compareBytes_eq: ∀ a b:List UInt8,Lib.compareBytes a b=cmpL a b
 | [],[]=>rfl
 | [],_::_=>rfl
 |_::_,[]=>rfl
 |x::xs,y::ys=>by simp[Lib.compareBytes,cmpL,compareBytes_eq xs ys]
theorem extC_compare {P:Program} {f:Nat} {fn:Func} (hf:P.funcs[f]? =some fn) (hn:(fn.name== "runtime.NumGoroutine")=false) (hb:fn.body.isNone=true) (h1:Extern.findNext fn=none) (h2:Extern.find fn=some Extern.BytealgCompare.compare) (a b:List UInt8) (t u:Tag):
  ExtC P f [.slice (a.map eBy) t,.slice (b.map eBy) u] (.raw (.int .i64 (cmpL a b))):=⟨fun vs w g hv hs=>by
 match vs,hv with
 | [x,y],hv=>
   obtain⟨q1,q2⟩:=hv.uncons
   obtain⟨q2,_⟩:=q2.uncons
   refine⟨_,?_,.raw _⟩
   rw[run_callFunc_extern hf hn hb h1 h2]
   show((do pure (goInt (Extern.BytealgCompare.cmp (←Extern.Bytes.bytesOf x) (←Extern.Bytes.bytesOf y))):Sem Value).run P w).andThen _=_
   simp only[Sem.run_bind,bytesOf_run hs q1,bytesOf_run hs q2,Result.andThen_ok,Sem.run_pure,Lib.cmp_eq,compareBytes_eq]
   rfl
 | [],hv=>have:=hv.len;simp at this
 | [_],hv=>have:=hv.len;simp at this
 |_::_::_::_,hv=>have:=hv.len;simp at this⟩
theorem extC_indexByte {P:Program} {f:Nat} {fn:Func} (hf:P.funcs[f]? =some fn) (hn:(fn.name== "runtime.NumGoroutine")=false) (hb:fn.body.isNone=true) (h1:Extern.findNext fn=none) (h2:Extern.find fn=some Extern.BytealgIndexByte.indexByte) (s:Str) (c:Int):
  ExtC P f [.str s,.raw (.int .u8 c)] (.raw (.int .i64 (Lib.indexByte s c.toNat.toUInt8))):=⟨fun vs w g hv hs=>by
 match vs,hv with
 | [x,y],hv=>
   obtain⟨q1,q2⟩:=hv.uncons
   obtain⟨q2,_⟩:=q2.uncons
   have e1:x= .string ⟨s.toArray⟩:=by cases q1;rfl
   have e2:=q2.raw_inv
   subst e1 e2
   refine⟨_,?_,.raw _⟩
   rw[run_callFunc_extern hf hn hb h1 h2,Lib.run_indexByteString]
   rfl
 | [],hv=>have:=hv.len;simp at this
 | [_],hv=>have:=hv.len;simp at this
 |_::_::_::_,hv=>have:=hv.len;simp at this⟩
end Go.Q
namespace Go.Q
open Go
class MapAt (b:Nat) (L:List Res) (kvs:outParam (List (PV × PV))) (L':outParam (List Res)):Prop where
 out:L.Perm (.map b kvs::L')
instance {b:Nat} {kvs:List (PV × PV)} {L:List Res}:MapAt b (.map b kvs::L) kvs L:=⟨.refl _⟩
instance (priority:=low) {b:Nat} {kvs:List (PV × PV)} {r:Res} {L L':List Res} [h:MapAt b L kvs L']:MapAt b (r::L) kvs (r::L'):=⟨(List.Perm.cons r h.out).trans (.swap _ _ _)⟩
class BoxAtT (b:Nat) (L:List Res) (T:outParam Nat) (cs:outParam (List PV)) (L':outParam (List Res)):Prop where
 out:L.Perm (.box b T cs::L')
instance {x:PV}:At [x] 0 x:=⟨rfl⟩
class MapForm (P:Program) (T:Nat) {κ α:outParam Type} (ek:outParam (κ→PV)) (ev:outParam (α→PV)):Prop where
 out:True
class IsVal {α:Type} (x:PV) (ev:α→PV) (a:outParam α):Prop where
 out:Le x (ev a)
instance (b:Bool):IsVal (.raw (.bool b)) vBool b:=⟨.refl _⟩
instance (n:Int):IsVal (.raw (.int .i64 n)) vInt n:=⟨.refl _⟩
instance {α:Type} (f:α→List PV) (l:List α) (t:Tag):IsVal (.slice (l.map f) t) (vSl f) l:=⟨.ro _ _⟩
instance (priority:=low) (x:PV):IsVal x vId x:=⟨.refl _⟩
section
variable {P:Program} {N:Nat} {all:Array Oper} {K:Env→List Res→Prop} {fl:List Bool} {os:List Oper} {ρ:Env} {L:List Res} {Q:PPost} {c:Code} {d:Nat} {ty:TypeId} {pos:String} {af:Array Edge}
variable {κ α:Type} [DecidableEq κ] {ek:κ→PV} {ev:α→PV} {T KT ET:Nat}
omit [DecidableEq κ] in
theorem j_makeMap [hF:MapForm P T ek ev] (k: ∀ b,pops P N all K fl.tail os (upd ρ d (.raw (.map (some b)))) (.map b (eMap ek ev [])::L)) (hd:Nat.blt d N=true:=by rfl) (hf:fl.headD true=true:=by rfl):
  pops P N all K fl (⟨some d,.makeMap T none,ty,pos,af,none⟩::os) ρ L:=s_makeMap k hd hf
theorem j_mapUpd [hF:MapForm P T ek ev] [hT:TMap P T KT ET] [hK:TKey P KT ek] {x y z:Operand} {b:Nat} {l:List (κ × α)} {ay az:PV} {k0:κ} {x0:α} {L':List Res} (hx:ρ.ev x= .raw (.map (some b))) [hp:MapAt b L (eMap ek ev l) L'] (hy:ρ.ev y=ay) [hk:IsKey' ay ek k0] (hz:ρ.ev z=az) [hv:IsVal az ev x0]
  (k:pops P N all K fl.tail os ρ (.map b (eMap ek ev (mSet k0 x0 l))::L')) (hfl:fl.headD true=true:=by rfl):pops P N all K fl (⟨none,.mapUpdate T x y z,ty,pos,af,none⟩::os) ρ L:=
 s_mapUpd hx hp.out (hy ▸ hk.out) (hz ▸ hv.out) k hfl
theorem j_mapIns [hF:MapForm P T ek ev] [hT:TMap P T KT ET] [hK:TKey P KT ek] {x y z:Operand} {b:Nat} {l:List (κ × α)} {ay az:PV} {k0:κ} {x0:α} {L':List Res} (hx:ρ.ev x= .raw (.map (some b))) [hp:MapAt b L (eMap ek ev l) L'] (hy:ρ.ev y=ay) [hk:IsKey' ay ek k0] (hz:ρ.ev z=az) [hv:IsVal az ev x0]
  (k:pops P N all K fl.tail os ρ (.map b (eMap ek ev (mSet k0 x0 l))::L')) (hfl:fl.headD true=true:=by rfl):pops P N all K fl (⟨none,.insert T x y z,ty,pos,af,none⟩::os) ρ L:=
 s_mapIns hx hp.out (hy ▸ hk.out) (hz ▸ hv.out) k hfl
end
section
variable {P:Program} {N:Nat} {all:Array Oper} {K:Env→List Res→Prop} {fl:List Bool} {os:List Oper} {ρ:Env} {L:List Res} {Q:PPost} {c:Code} {d:Nat} {ty:TypeId} {pos:String} {af:Array Edge}
class IsClo (x:PV) (f:outParam Nat) (cs:outParam (List PV)):Prop where
 out:Le x (.clo f cs)
instance (f:Nat) (cs:List PV):IsClo (.clo f cs) f cs:=⟨.refl _⟩
instance (f:Nat):IsClo (.raw (.func (.func f) #[] #[])) f []:=⟨Norm.out⟩
theorem j_callv1 {f:Nat} {cs:List PV} {X ax:PV} {x x0:Operand} {ats:Array TypeId} {a0 b0:PV} (qx:ρ.ev x=ax) [hx:IsClo ax f cs] [hf:TFun P f] (q0:ρ.ev x0=a0) [hN0:Norm a0 b0] [hc:FnC P f (b0::cs) X] (k:pops P N all K fl.tail os (upd ρ d X) L) (hd:Nat.blt d N=true:=by rfl):
  pops P N all K fl (⟨some d,.call { callee:= .value x,args:= #[x0],argTypes:=ats },ty,pos,af,none⟩::os) ρ L:=
 s_callV (xs:= [x0]) (qx ▸ hx.out) rfl rfl (PCalls.args (by simp) (fun i h1 h2=>by
  match i,h1,h2 with
  |0,_,_=>simp only[List.map_cons,List.map_nil,List.cons_append,List.nil_append,List.getElem_cons_zero,q0];exact hN0.out
  |m+1,h1,h2=>exact .of_eq (by simp)) hc.out) k hd
theorem j_callv2 {f:Nat} {cs:List PV} {X ax:PV} {x x0 x1:Operand} {ats:Array TypeId} {a0 b0 a1 b1:PV} (qx:ρ.ev x=ax) [hx:IsClo ax f cs] [hf:TFun P f] (q0:ρ.ev x0=a0) (q1:ρ.ev x1=a1) [hN0:Norm a0 b0] [hN1:Norm a1 b1] [hc:FnC P f (b0::b1::cs) X] (k:pops P N all K fl.tail os (upd ρ d X) L) (hd:Nat.blt d N=true:=by rfl):
  pops P N all K fl (⟨some d,.call { callee:= .value x,args:= #[x0,x1],argTypes:=ats },ty,pos,af,none⟩::os) ρ L:=
 s_callV (xs:= [x0,x1]) (qx ▸ hx.out) rfl rfl (PCalls.args (by simp) (fun i h1 h2=>by
  match i,h1,h2 with
  |0,_,_=>simp only[List.map_cons,List.map_nil,List.cons_append,List.nil_append,List.getElem_cons_zero,q0];exact hN0.out
  |1,_,_=>simp only[List.map_cons,List.map_nil,List.cons_append,List.nil_append,List.getElem_cons_succ,List.getElem_cons_zero,q1];exact hN1.out
  |m+2,h1,h2=>exact .of_eq (by simp)) hc.out) k hd
theorem s_storeT {T:TypeId} {x y:Operand} {b by_:Nat} {c0 ay:PV} {L':List Res} [hT:TSz P T 1 by_]
  (hx:ρ.ev x= .raw (.pointer (some ⟨b,0,none⟩))) (hy:ρ.ev y=ay) [hB:BoxAt b L [c0]] [hu:UpdC b [c0] [ay] L L'] [hf:Flat [ay]]
  (k:pops P N all K fl.tail os ρ L') (hfl:fl.headD true=true:=by rfl):pops P N all K fl (⟨none,.store T x y,ty,pos,af,none⟩::os) ρ L:=
 pops_n rfl (fun _ e=>by cases e) hfl (opN_store (new:= [ay]) (cs:= [c0]) (cs':= [ay]) hx (fun g v hv=>by
  rw[hy]at hv
  obtain⟨h1,h2,h3,h4⟩:=hf.out ay (by simp)
  have h1:=hv.one h1 h2 h3 h4
  refine⟨[v],?_,.cons hv (.nil g)⟩
  cases v<;>first|rfl|cases h1) rfl hf.out rfl (by simp) hu.out k)
theorem g_makef {f:Nat} {xs:Array Operand} {dst:Option Nat} (k:pops P N all K fl (⟨dst,.makeFunc (.func f) #[] xs,ty,pos,af,none⟩::os) ρ L):pops P N all K fl (⟨dst,.makeFunc (.func f) #[] xs,ty,pos,af,none⟩::os) ρ L:=k
theorem g_callv {t:Nat} {xs:Array Operand} {ats:Array TypeId} {dst:Option Nat} (k:pops P N all K fl (⟨dst,.call { callee:= .value (.tmp t),args:=xs,argTypes:=ats },ty,pos,af,none⟩::os) ρ L):pops P N all K fl (⟨dst,.call { callee:= .value (.tmp t),args:=xs,argTypes:=ats },ty,pos,af,none⟩::os) ρ L:=k
theorem g_look {T:TypeId} {x y:Operand} {b:Bool} {dst:Option Nat} (k:pops P N all K fl (⟨dst,.lookup T x y b,ty,pos,af,none⟩::os) ρ L):pops P N all K fl (⟨dst,.lookup T x y b,ty,pos,af,none⟩::os) ρ L:=k
theorem g_mupd {T:TypeId} {x y z:Operand} {dst:Option Nat} (k:pops P N all K fl (⟨dst,.mapUpdate T x y z,ty,pos,af,none⟩::os) ρ L):pops P N all K fl (⟨dst,.mapUpdate T x y z,ty,pos,af,none⟩::os) ρ L:=k
theorem g_mins {T:TypeId} {x y z:Operand} {dst:Option Nat} (k:pops P N all K fl (⟨dst,.insert T x y z,ty,pos,af,none⟩::os) ρ L):pops P N all K fl (⟨dst,.insert T x y z,ty,pos,af,none⟩::os) ρ L:=k
theorem g_box {T:TypeId} {x:Operand} {dst:Option Nat} (k:pops P N all K fl (⟨dst,.box T x,ty,pos,af,none⟩::os) ρ L):pops P N all K fl (⟨dst,.box T x,ty,pos,af,none⟩::os) ρ L:=k
theorem w1 {A B:Prop} (k:B) (h:Wrap B→A:=by
  intro hB
  first
   |(refine g_guard ?_;first|refine pops_yes rfl (by rfl) ?_|refine pops_yesA rfl (by first|((conv=>lhs;whnf);done)|fail) (by assumption) ?_|refine pops_noT rfl (by first|((conv=>lhs;whnf);done)|fail) (by assumption) ?_|refine pops_noF rfl (by first|((conv=>lhs;whnf);done)|fail) (by assumption) ?_|refine pops_noU rfl (by rfl) ?_|refine pops_noT rfl (by rfl) rfl ?_|refine pops_noF rfl (by rfl) rfl ?_)
   |(refine g_move ?_;first|refine s_moveN (by(conv=>lhs;whnf);done) ?_)
   |(refine g_assign ?_;first|refine s_assignN (by(conv=>lhs;whnf);done) ?_)
   |(refine g_load ?_;first|refine s_loadAL (by rfl) (hl:=(by first|infer_instance|fail)) ?_|refine s_loadS (by rfl) rfl ?_|refine s_loadBL (by rfl) (by repeat(first|exact List.mem_cons_self|apply List.mem_cons_of_mem)) (hl:=(by first|infer_instance|fail)) ?_|refine s_loadBF (by rfl) (by repeat(first|exact List.mem_cons_self|apply List.mem_cons_of_mem)) (hs:=(by first|infer_instance|fail)) ?_|refine s_loadBG (by rfl) (by repeat(first|exact List.mem_cons_self|apply List.mem_cons_of_mem)) (hs:=(by first|infer_instance|fail)) ?_|refine s_loadD (by rfl) (by repeat(first|exact List.mem_cons_self|apply List.mem_cons_of_mem)) (by omega) ?_|refine s_loadW (by rfl) (by repeat(first|exact List.mem_cons_self|apply List.mem_cons_of_mem)) (by omega) ?_)
   |(refine g_fld ?_;first|refine s_fldF (by rfl) (hr:=(by first|infer_instance|fail)) ?_|refine s_fldBq (by rfl) (by(conv=>lhs;whnf);done) ?_)
   |(refine g_len ?_;first|refine s_lenM (by rfl) ?_|refine s_lenS (by(conv=>lhs;whnf);done) (jx:=(by first|infer_instance|fail)) ?_|refine s_len (by rfl) ?_)
   |(refine g_call ?_;first|refine j_call1 (by(conv=>lhs;whnf);done) (hN0:=(by first|infer_instance|fail)) (hc:=(by first|infer_instance|fail)) ?_|refine j_call2 (by(conv=>lhs;whnf);done) (by(conv=>lhs;whnf);done) (hN0:=(by first|infer_instance|fail)) (hN1:=(by first|infer_instance|fail)) (hc:=(by first|infer_instance|fail)) ?_|refine j_call3 (by(conv=>lhs;whnf);done) (by(conv=>lhs;whnf);done) (by(conv=>lhs;whnf);done) (hN0:=(by first|infer_instance|fail)) (hN1:=(by first|infer_instance|fail)) (hN2:=(by first|infer_instance|fail)) (hc:=(by first|infer_instance|fail)) ?_|refine j_call0 (hc:=(by first|infer_instance|fail)) ?_|refine j_call4 (by(conv=>lhs;whnf);done) (by(conv=>lhs;whnf);done) (by(conv=>lhs;whnf);done) (by(conv=>lhs;whnf);done) (hN0:=(by first|infer_instance|fail)) (hN1:=(by first|infer_instance|fail)) (hN2:=(by first|infer_instance|fail)) (hN3:=(by first|infer_instance|fail)) (hc:=(by first|infer_instance|fail)) ?_|refine j_call5 (by(conv=>lhs;whnf);done) (by(conv=>lhs;whnf);done) (by(conv=>lhs;whnf);done) (by(conv=>lhs;whnf);done) (by(conv=>lhs;whnf);done) (hN0:=(by first|infer_instance|fail)) (hN1:=(by first|infer_instance|fail)) (hN2:=(by first|infer_instance|fail)) (hN3:=(by first|infer_instance|fail)) (hN4:=(by first|infer_instance|fail)) (hc:=(by first|infer_instance|fail)) ?_|refine j_call6 (by(conv=>lhs;whnf);done) (by(conv=>lhs;whnf);done) (by(conv=>lhs;whnf);done) (by(conv=>lhs;whnf);done) (by(conv=>lhs;whnf);done) (by(conv=>lhs;whnf);done) (hN0:=(by first|infer_instance|fail)) (hN1:=(by first|infer_instance|fail)) (hN2:=(by first|infer_instance|fail)) (hN3:=(by first|infer_instance|fail)) (hN4:=(by first|infer_instance|fail)) (hN5:=(by first|infer_instance|fail)) (hc:=(by first|infer_instance|fail)) ?_|refine j_ext2 (by(conv=>lhs;whnf);done) (by(conv=>lhs;whnf);done) (hN0:=(by first|infer_instance|fail)) (hN1:=(by first|infer_instance|fail)) (hc:=(by first|infer_instance|fail)) ?_)
   |(refine g_bi ?_;first|refine s_min (by rfl) (by rfl) ?_|refine s_max (by rfl) (by rfl) ?_)
   |(refine g_bin ?_;first|refine s_lss (by rfl) (by rfl) ?_|refine s_leq (by rfl) (by rfl) ?_|refine s_gtr (by rfl) (by rfl) ?_|refine s_geq (by rfl) (by rfl) ?_|refine s_eqi (by rfl) (by rfl) ?_|refine s_nei (by rfl) (by rfl) ?_|refine s_add (by rfl) (by rfl) (by constructor<;>omega) ?_|refine s_sub (by rfl) (by rfl) (by constructor<;>omega) ?_|refine s_eqDig (by rfl) (by rfl) ?_|refine s_neDig (by rfl) (by rfl) ?_|refine s_eqId (by rfl) (by rfl) ?_|refine s_neId (by rfl) (by rfl) ?_|refine s_eqS (by(conv=>lhs;whnf);done) (by(conv=>lhs;whnf);done) (jx:=(by first|infer_instance|fail)) (jy:=(by first|infer_instance|fail)) ?_|refine s_neS (by(conv=>lhs;whnf);done) (by(conv=>lhs;whnf);done) (jx:=(by first|infer_instance|fail)) (jy:=(by first|infer_instance|fail)) ?_|refine s_eqB (by rfl) (by rfl) ?_|refine s_neB (by rfl) (by rfl) ?_|refine s_cat (by(conv=>lhs;whnf);done) (by(conv=>lhs;whnf);done) (jx:=(by first|infer_instance|fail)) (jy:=(by first|infer_instance|fail)) (by first|omega|(simp only[List.length_append,List.length_cons,List.length_nil,Nat.zero_add];omega)) ?_|refine s_mul (by rfl) (by rfl) (by constructor<;>omega) ?_|refine s_quo (by rfl) (by rfl) (by omega) (by omega) ?_|refine s_rem (by rfl) (by rfl) (by omega) ?_|refine s_addW (by rfl) (by rfl) ?_|refine s_xorW (by rfl) (by rfl) ?_|refine s_andW (by rfl) (by rfl) ?_|refine s_orW (by rfl) (by rfl) ?_|refine s_shrW (by rfl) (by rfl) ?_|refine s_shlW (by rfl) (by rfl) ?_|refine s_shrU (by rfl) (by rfl) ?_|refine s_subU (by rfl) (by rfl) (by omega) (by omega) ?_|refine s_mulU (by rfl) (by rfl) (by omega) ?_)
   |(refine g_ix ?_;first|refine s_indexN (by rfl) (by rfl) (by omega) ?_|refine s_indexB (by rfl) (by rfl) (by omega) ?_|refine s_indexZ (by rfl) (by rfl) (by omega) (by omega) ?_)
   |(refine g_ext ?_;first|refine s_extract (by rfl) rfl ?_)
   |(refine g_pick ?_;first|refine s_pickTA (by rfl) rfl (by(conv=>lhs;whnf);done) ?_|refine s_pickFA (by rfl) rfl (by(conv=>lhs;whnf);done) ?_|refine s_pickTA (by first|((conv=>lhs;whnf);done)|fail) (by assumption) (by(conv=>lhs;whnf);done) ?_|refine s_pickFA (by first|((conv=>lhs;whnf);done)|fail) (by assumption) (by(conv=>lhs;whnf);done) ?_)
   |(refine g_un ?_;first|refine s_not (by rfl) ?_|refine s_neg (by rfl) (by constructor<;>omega) ?_|refine s_notW (by rfl) ?_)
   |(refine g_store ?_;first|refine s_storeT (by rfl) (by(conv=>lhs;whnf);done) (hB:=(by first|infer_instance|fail)) (hu:=(by first|infer_instance|fail)) (hf:=(by first|infer_instance|fail)) ?_|refine s_storeC (by rfl) (by(conv=>lhs;whnf);done) (hC:=(by first|infer_instance|fail)) (hB:=(by first|infer_instance|fail)) (hp:=(by first|infer_instance|fail)) (hu:=(by first|infer_instance|fail)) (hf:=(by first|infer_instance|fail)) (hlen:=(by first|infer_instance|fail)) ?_|refine s_storeX (by rfl) (by rfl) (hB:=(by first|infer_instance|fail)) (hu:=(by first|infer_instance|fail)) (hf:=(by first|infer_instance|fail)) (hlen:=(by first|infer_instance|fail)) (hcs:=(by first|infer_instance|fail)) ?_|refine s_storeW32 (by rfl) (by rfl) (by repeat(first|exact List.mem_cons_self|apply List.mem_cons_of_mem)) (by omega) (hu:=(by first|infer_instance|fail)) ?_|refine s_storeD (by rfl) (by rfl) (by repeat(first|exact List.mem_cons_self|apply List.mem_cons_of_mem)) (by omega) (hu:=(by first|infer_instance|fail)) ?_)
   |(refine g_bs ?_;first|refine s_bs0 ?_|refine s_bs1 (by(conv=>lhs;whnf);done) (hC0:=(by first|infer_instance|fail)) (hf:=(by first|infer_instance|fail)) (by decide) ?_|refine s_bs2 (by(conv=>lhs;whnf);done) (by(conv=>lhs;whnf);done) (hC0:=(by first|infer_instance|fail)) (hC1:=(by first|infer_instance|fail)) (hf:=(by first|infer_instance|fail)) (by decide) ?_|refine s_bs3 (by(conv=>lhs;whnf);done) (by(conv=>lhs;whnf);done) (by(conv=>lhs;whnf);done) (hC0:=(by first|infer_instance|fail)) (hC1:=(by first|infer_instance|fail)) (hC2:=(by first|infer_instance|fail)) (hf:=(by first|infer_instance|fail)) (by decide) ?_|refine s_bs4 (by(conv=>lhs;whnf);done) (by(conv=>lhs;whnf);done) (by(conv=>lhs;whnf);done) (by(conv=>lhs;whnf);done) (hC0:=(by first|infer_instance|fail)) (hC1:=(by first|infer_instance|fail)) (hC2:=(by first|infer_instance|fail)) (hC3:=(by first|infer_instance|fail)) (hf:=(by first|infer_instance|fail)) (by decide) ?_|refine s_bs5 (by(conv=>lhs;whnf);done) (by(conv=>lhs;whnf);done) (by(conv=>lhs;whnf);done) (by(conv=>lhs;whnf);done) (by(conv=>lhs;whnf);done) (hC0:=(by first|infer_instance|fail)) (hC1:=(by first|infer_instance|fail)) (hC2:=(by first|infer_instance|fail)) (hC3:=(by first|infer_instance|fail)) (hC4:=(by first|infer_instance|fail)) (hf:=(by first|infer_instance|fail)) (by decide) ?_|refine s_bs6 (by(conv=>lhs;whnf);done) (by(conv=>lhs;whnf);done) (by(conv=>lhs;whnf);done) (by(conv=>lhs;whnf);done) (by(conv=>lhs;whnf);done) (by(conv=>lhs;whnf);done) (hC0:=(by first|infer_instance|fail)) (hC1:=(by first|infer_instance|fail)) (hC2:=(by first|infer_instance|fail)) (hC3:=(by first|infer_instance|fail)) (hC4:=(by first|infer_instance|fail)) (hC5:=(by first|infer_instance|fail)) (hf:=(by first|infer_instance|fail)) (by decide) ?_)
   |(refine g_build ?_;first|refine s_build0 ?_|refine s_buildA0 ?_|refine b_build1 (by(conv=>lhs;whnf);done) (hC0:=(by first|infer_instance|fail)) (hP0:=(by first|infer_instance|fail)) (hl0:=(by first|infer_instance|fail)) ?_|refine b_build2 (by(conv=>lhs;whnf);done) (by(conv=>lhs;whnf);done) (hC0:=(by first|infer_instance|fail)) (hC1:=(by first|infer_instance|fail)) (hP0:=(by first|infer_instance|fail)) (hP1:=(by first|infer_instance|fail)) (hl0:=(by first|infer_instance|fail)) (hl1:=(by first|infer_instance|fail)) ?_|refine b_build3 (by(conv=>lhs;whnf);done) (by(conv=>lhs;whnf);done) (by(conv=>lhs;whnf);done) (hC0:=(by first|infer_instance|fail)) (hC1:=(by first|infer_instance|fail)) (hC2:=(by first|infer_instance|fail)) (hP0:=(by first|infer_instance|fail)) (hP1:=(by first|infer_instance|fail)) (hP2:=(by first|infer_instance|fail)) (hl0:=(by first|infer_instance|fail)) (hl1:=(by first|infer_instance|fail)) (hl2:=(by first|infer_instance|fail)) ?_|refine b_build4 (by(conv=>lhs;whnf);done) (by(conv=>lhs;whnf);done) (by(conv=>lhs;whnf);done) (by(conv=>lhs;whnf);done) (hC0:=(by first|infer_instance|fail)) (hC1:=(by first|infer_instance|fail)) (hC2:=(by first|infer_instance|fail)) (hC3:=(by first|infer_instance|fail)) (hP0:=(by first|infer_instance|fail)) (hP1:=(by first|infer_instance|fail)) (hP2:=(by first|infer_instance|fail)) (hP3:=(by first|infer_instance|fail)) (hl0:=(by first|infer_instance|fail)) (hl1:=(by first|infer_instance|fail)) (hl2:=(by first|infer_instance|fail)) (hl3:=(by first|infer_instance|fail)) ?_|refine b_build5 (by(conv=>lhs;whnf);done) (by(conv=>lhs;whnf);done) (by(conv=>lhs;whnf);done) (by(conv=>lhs;whnf);done) (by(conv=>lhs;whnf);done) (hC0:=(by first|infer_instance|fail)) (hC1:=(by first|infer_instance|fail)) (hC2:=(by first|infer_instance|fail)) (hC3:=(by first|infer_instance|fail)) (hC4:=(by first|infer_instance|fail)) (hP0:=(by first|infer_instance|fail)) (hP1:=(by first|infer_instance|fail)) (hP2:=(by first|infer_instance|fail)) (hP3:=(by first|infer_instance|fail)) (hP4:=(by first|infer_instance|fail)) (hl0:=(by first|infer_instance|fail)) (hl1:=(by first|infer_instance|fail)) (hl2:=(by first|infer_instance|fail)) (hl3:=(by first|infer_instance|fail)) (hl4:=(by first|infer_instance|fail)) ?_|refine b_build6 (by(conv=>lhs;whnf);done) (by(conv=>lhs;whnf);done) (by(conv=>lhs;whnf);done) (by(conv=>lhs;whnf);done) (by(conv=>lhs;whnf);done) (by(conv=>lhs;whnf);done) (hC0:=(by first|infer_instance|fail)) (hC1:=(by first|infer_instance|fail)) (hC2:=(by first|infer_instance|fail)) (hC3:=(by first|infer_instance|fail)) (hC4:=(by first|infer_instance|fail)) (hC5:=(by first|infer_instance|fail)) (hP0:=(by first|infer_instance|fail)) (hP1:=(by first|infer_instance|fail)) (hP2:=(by first|infer_instance|fail)) (hP3:=(by first|infer_instance|fail)) (hP4:=(by first|infer_instance|fail)) (hP5:=(by first|infer_instance|fail)) (hl0:=(by first|infer_instance|fail)) (hl1:=(by first|infer_instance|fail)) (hl2:=(by first|infer_instance|fail)) (hl3:=(by first|infer_instance|fail)) (hl4:=(by first|infer_instance|fail)) (hl5:=(by first|infer_instance|fail)) ?_|refine b_build7 (by(conv=>lhs;whnf);done) (by(conv=>lhs;whnf);done) (by(conv=>lhs;whnf);done) (by(conv=>lhs;whnf);done) (by(conv=>lhs;whnf);done) (by(conv=>lhs;whnf);done) (by(conv=>lhs;whnf);done) (hC0:=(by first|infer_instance|fail)) (hC1:=(by first|infer_instance|fail)) (hC2:=(by first|infer_instance|fail)) (hC3:=(by first|infer_instance|fail)) (hC4:=(by first|infer_instance|fail)) (hC5:=(by first|infer_instance|fail)) (hC6:=(by first|infer_instance|fail)) (hP0:=(by first|infer_instance|fail)) (hP1:=(by first|infer_instance|fail)) (hP2:=(by first|infer_instance|fail)) (hP3:=(by first|infer_instance|fail)) (hP4:=(by first|infer_instance|fail)) (hP5:=(by first|infer_instance|fail)) (hP6:=(by first|infer_instance|fail)) (hl0:=(by first|infer_instance|fail)) (hl1:=(by first|infer_instance|fail)) (hl2:=(by first|infer_instance|fail)) (hl3:=(by first|infer_instance|fail)) (hl4:=(by first|infer_instance|fail)) (hl5:=(by first|infer_instance|fail)) (hl6:=(by first|infer_instance|fail)) ?_|refine b_build8 (by(conv=>lhs;whnf);done) (by(conv=>lhs;whnf);done) (by(conv=>lhs;whnf);done) (by(conv=>lhs;whnf);done) (by(conv=>lhs;whnf);done) (by(conv=>lhs;whnf);done) (by(conv=>lhs;whnf);done) (by(conv=>lhs;whnf);done) (hC0:=(by first|infer_instance|fail)) (hC1:=(by first|infer_instance|fail)) (hC2:=(by first|infer_instance|fail)) (hC3:=(by first|infer_instance|fail)) (hC4:=(by first|infer_instance|fail)) (hC5:=(by first|infer_instance|fail)) (hC6:=(by first|infer_instance|fail)) (hC7:=(by first|infer_instance|fail)) (hP0:=(by first|infer_instance|fail)) (hP1:=(by first|infer_instance|fail)) (hP2:=(by first|infer_instance|fail)) (hP3:=(by first|infer_instance|fail)) (hP4:=(by first|infer_instance|fail)) (hP5:=(by first|infer_instance|fail)) (hP6:=(by first|infer_instance|fail)) (hP7:=(by first|infer_instance|fail)) (hl0:=(by first|infer_instance|fail)) (hl1:=(by first|infer_instance|fail)) (hl2:=(by first|infer_instance|fail)) (hl3:=(by first|infer_instance|fail)) (hl4:=(by first|infer_instance|fail)) (hl5:=(by first|infer_instance|fail)) (hl6:=(by first|infer_instance|fail)) (hl7:=(by first|infer_instance|fail)) ?_)
   |(refine g_slice ?_;first|refine s_cutL (by rfl) (by rfl) (by omega) ?_|refine s_cutH (by rfl) (by rfl) (by omega) ?_|refine s_cutS (by(conv=>lhs;whnf);done) (by rfl) (by rfl) (jx:=(by first|infer_instance|fail)) (by omega) (by omega) (by omega) ?_|refine s_cutSL (by(conv=>lhs;whnf);done) (by rfl) (jx:=(by first|infer_instance|fail)) (by omega) (by omega) ?_|refine s_sliceD (by rfl) ?_|refine s_sliceF (by rfl) ?_)
   |(refine g_conv ?_;first|refine s_convB (by rfl) ?_|refine s_convW (by rfl) ?_|refine s_convU (by rfl) (by omega) ?_|refine s_strB (by rfl) ?_|refine s_strBox (by rfl) (by repeat(first|exact List.mem_cons_self|apply List.mem_cons_of_mem)) (hs:=(by first|infer_instance|fail)) ?_)
   |(refine g_index ?_;first|refine s_indexS (by(conv=>lhs;whnf);done) (by rfl) (jx:=(by first|infer_instance|fail)) (by omega) ?_)
   |(refine g_nck ?_;first|refine s_nilCheckP (by rfl) ?_)
   |(refine g_makef ?_;first|refine s_clo1 (by(conv=>lhs;whnf);done) ?_|refine s_clo2 (by(conv=>lhs;whnf);done) (by(conv=>lhs;whnf);done) ?_|refine s_clo3 (by(conv=>lhs;whnf);done) (by(conv=>lhs;whnf);done) (by(conv=>lhs;whnf);done) ?_|refine s_clo0 ?_|refine s_clo4 (by(conv=>lhs;whnf);done) (by(conv=>lhs;whnf);done) (by(conv=>lhs;whnf);done) (by(conv=>lhs;whnf);done) ?_)
   |(refine g_callv ?_;first|refine j_callv1 (by(conv=>lhs;whnf);done) (by(conv=>lhs;whnf);done) (hx:=(by first|infer_instance|fail)) (hN0:=(by first|infer_instance|fail)) (hc:=(by first|infer_instance|fail)) ?_|refine j_callv2 (by(conv=>lhs;whnf);done) (by(conv=>lhs;whnf);done) (by(conv=>lhs;whnf);done) (hx:=(by first|infer_instance|fail)) (hN0:=(by first|infer_instance|fail)) (hN1:=(by first|infer_instance|fail)) (hc:=(by first|infer_instance|fail)) ?_)
   |(refine g_look ?_;first|refine s_lookF (κ:=Dig) (by(conv=>lhs;whnf);done) (by(conv=>lhs;whnf);done) (hT:=(by first|infer_instance|fail)) (hK:=(by first|infer_instance|fail)) (hz:=(by first|infer_instance|fail)) (hk:=(by first|infer_instance|fail)) ?_|refine s_lookF (κ:=Int) (by(conv=>lhs;whnf);done) (by(conv=>lhs;whnf);done) (hT:=(by first|infer_instance|fail)) (hK:=(by first|infer_instance|fail)) (hz:=(by first|infer_instance|fail)) (hk:=(by first|infer_instance|fail)) ?_|refine s_lookFok (κ:=Dig) (by(conv=>lhs;whnf);done) (by(conv=>lhs;whnf);done) (hT:=(by first|infer_instance|fail)) (hK:=(by first|infer_instance|fail)) (hz:=(by first|infer_instance|fail)) (hk:=(by first|infer_instance|fail)) ?_|refine s_lookFok (κ:=Int) (by(conv=>lhs;whnf);done) (by(conv=>lhs;whnf);done) (hT:=(by first|infer_instance|fail)) (hK:=(by first|infer_instance|fail)) (hz:=(by first|infer_instance|fail)) (hk:=(by first|infer_instance|fail)) ?_|refine s_lookM (κ:=Dig) (by rfl) (by repeat(first|exact List.mem_cons_self|apply List.mem_cons_of_mem)) (by(conv=>lhs;whnf);done) (hT:=(by first|infer_instance|fail)) (hK:=(by first|infer_instance|fail)) (hz:=(by first|infer_instance|fail)) (hk:=(by first|infer_instance|fail)) ?_|refine s_lookM (κ:=Int) (by rfl) (by repeat(first|exact List.mem_cons_self|apply List.mem_cons_of_mem)) (by(conv=>lhs;whnf);done) (hT:=(by first|infer_instance|fail)) (hK:=(by first|infer_instance|fail)) (hz:=(by first|infer_instance|fail)) (hk:=(by first|infer_instance|fail)) ?_|refine s_lookMok (κ:=Dig) (by rfl) (by repeat(first|exact List.mem_cons_self|apply List.mem_cons_of_mem)) (by(conv=>lhs;whnf);done) (hT:=(by first|infer_instance|fail)) (hK:=(by first|infer_instance|fail)) (hz:=(by first|infer_instance|fail)) (hk:=(by first|infer_instance|fail)) ?_|refine s_lookMok (κ:=Int) (by rfl) (by repeat(first|exact List.mem_cons_self|apply List.mem_cons_of_mem)) (by(conv=>lhs;whnf);done) (hT:=(by first|infer_instance|fail)) (hK:=(by first|infer_instance|fail)) (hz:=(by first|infer_instance|fail)) (hk:=(by first|infer_instance|fail)) ?_)
   |(refine g_mupd ?_;first|refine j_mapUpd (κ:=Dig) (by rfl) (by(conv=>lhs;whnf);done) (by(conv=>lhs;whnf);done) (hF:=(by first|infer_instance|fail)) (hT:=(by first|infer_instance|fail)) (hK:=(by first|infer_instance|fail)) (hp:=(by first|infer_instance|fail)) (hk:=(by first|infer_instance|fail)) (hv:=(by first|infer_instance|fail)) ?_|refine j_mapUpd (κ:=Int) (by rfl) (by(conv=>lhs;whnf);done) (by(conv=>lhs;whnf);done) (hF:=(by first|infer_instance|fail)) (hT:=(by first|infer_instance|fail)) (hK:=(by first|infer_instance|fail)) (hp:=(by first|infer_instance|fail)) (hk:=(by first|infer_instance|fail)) (hv:=(by first|infer_instance|fail)) ?_)
   |(refine g_mins ?_;first|refine j_mapIns (κ:=Dig) (by rfl) (by(conv=>lhs;whnf);done) (by(conv=>lhs;whnf);done) (hF:=(by first|infer_instance|fail)) (hT:=(by first|infer_instance|fail)) (hK:=(by first|infer_instance|fail)) (hp:=(by first|infer_instance|fail)) (hk:=(by first|infer_instance|fail)) (hv:=(by first|infer_instance|fail)) ?_|refine j_mapIns (κ:=Int) (by rfl) (by(conv=>lhs;whnf);done) (by(conv=>lhs;whnf);done) (hF:=(by first|infer_instance|fail)) (hT:=(by first|infer_instance|fail)) (hK:=(by first|infer_instance|fail)) (hp:=(by first|infer_instance|fail)) (hk:=(by first|infer_instance|fail)) (hv:=(by first|infer_instance|fail)) ?_)
   |(refine g_box ?_;first|refine s_boxF (by(conv=>lhs;whnf);done) (hC:=(by first|infer_instance|fail)) ?_)
  exact hB.out):A:=h ⟨k⟩
theorem wk {A B:Prop} (k:B) (h:Wrap B→A:=by
  intro hB
  repeat(first
   |(fail_if_success (refine g_box ?_));refine w1 ?_
   |refine pops_nil ?_
   |refine pwp_seq ?_
   |refine pwp_region (by kernel_rfl) ?_
   |refine pwp_block ?_
   |refine pwp_skip ?_
   |refine pwp_ret ?_
   |refine pwp_exit ?_
   |refine pwp_drawQ (by decide+kernel) ?_
   |refine pwp_condT (by rfl) ?_
   |refine pwp_condF (by rfl) ?_)
  exact hB.out):A:=h ⟨k⟩
theorem wf {A B:Prop} (k:B) (h:Wrap B→A:=by
  intro hB
  repeat(first
   |refine w1 ?_
   |refine pops_nil ?_
   |refine pwp_seq ?_
   |refine pwp_region (by kernel_rfl) ?_
   |refine pwp_block ?_
   |refine pwp_skip ?_
   |refine pwp_ret ?_
   |refine pwp_exit ?_
   |refine pwp_drawQ (by decide+kernel) ?_
   |refine pwp_condT (by rfl) ?_
   |refine pwp_condF (by rfl) ?_)
  exact hB.out):A:=h ⟨k⟩
theorem wn {A B:Prop} (k:B) (h:Wrap B→A:=by
  intro hB
  repeat(first
   |refine w1 ?_
   |refine pops_nil ?_
   |refine pwp_seq ?_
   |refine pwp_region (by kernel_rfl) ?_
   |refine pwp_block ?_
   |refine pwp_skip ?_
   |refine pwp_ret ?_
   |refine pwp_exit ?_
   |refine pwp_condT (by rfl) ?_
   |refine pwp_condF (by rfl) ?_)
  exact hB.out):A:=h ⟨k⟩
theorem wo {A B:Prop} (k:B) (h:Wrap B→A:=by
  intro hB
  repeat(first
   |refine w1 ?_)
  exact hB.out):A:=h ⟨k⟩
theorem ws {A B:Prop} (k:B) (h:Wrap B→A:=by
  intro hB
  repeat(first
   |refine w1 ?_
   |refine pops_nil ?_
   |refine pwp_seq ?_
   |refine pwp_region (by kernel_rfl) ?_
   |refine pwp_skip ?_
   |refine pwp_ret ?_
   |refine pwp_exit ?_
   |refine pwp_drawQ (by decide+kernel) ?_)
  exact hB.out):A:=h ⟨k⟩
theorem wkb {A:Prop} {B:Nat→Prop} (k: ∀ b,B b) (h:WrapF B→A:=by
  intro hB
  refine wk ?_
  first|refine s_box (by rfl) fun b=>?_|refine s_alloc fun b=>?_|refine s_boxC (by(conv=>lhs;whnf);done) (hC:=(by first|infer_instance|fail)) fun b=>?_
  refine wk ?_
  exact hB.out b):A:=h ⟨k⟩
theorem wfb {A:Prop} {B:Nat→Prop} (k: ∀ b,B b) (h:WrapF B→A:=by
  intro hB
  refine wf ?_
  refine s_alloc fun b=>?_
  refine wf ?_
  exact hB.out b):A:=h ⟨k⟩
theorem wfm {A:Prop} {B:Nat→Prop} (k: ∀ b,B b) (h:WrapF B→A:=by
  intro hB
  refine wf ?_
  refine j_makeMap fun b=>?_
  refine wf ?_
  exact hB.out b):A:=h ⟨k⟩
theorem wfa {A:Prop} {B:Tag→Prop} (k: ∀ t,B t) (h:WrapF B→A:=by
  intro hB
  refine wf ?_
  first
   |refine s_append0 (by rfl) (by rfl) (by simp only[List.length_append,List.length_cons,List.length_nil,List.length_map,List.length_take,List.length_drop,Nat.zero_add];omega) (by simp only[List.length_append,List.length_cons,List.length_nil,List.length_map,List.length_take,List.length_drop,Nat.zero_add];omega) fun t=>?_
   |refine s_append (by rfl) (by rfl) (by simp only[List.length_append,List.length_cons,List.length_nil,List.length_map,List.length_take,List.length_drop,Nat.zero_add];omega) (by simp only[List.length_append,List.length_cons,List.length_nil,List.length_map,List.length_take,List.length_drop,Nat.zero_add];omega) (fun t=>by first|exact .here|exact(.there .here)|exact(.there (.there .here))|exact(.there (.there (.there .here)))|exact(.there (.there (.there (.there .here))))|exact(.there (.there (.there (.there (.there .here)))))|exact(.there (.there (.there (.there (.there (.there .here))))))|exact(.there (.there (.there (.there (.there (.there (.there .here)))))))|exact(.there (.there (.there (.there (.there (.there (.there (.there .here))))))))) fun t=>?_
  refine wf ?_
  exact hB.out t):A:=h ⟨k⟩
theorem wz {A:Prop} {B:Nat→Prop} (k: ∀ b,B b) (h:WrapF B→A:=by
  intro hB
  refine wf ?_
  refine s_alloc fun b=>?_
  refine wo ?_
  refine pops_nil ?_
  exact hB.out b):A:=h ⟨k⟩
end
end Go.Q
namespace Go.Q
open Go
section
variable {P:Program} {N:Nat} {all:Array Oper} {K:Env→List Res→Prop} {os:List Oper} {ρ:Env} {L:List Res} {Q:PPost} {c:Code}
def Weaker (ρ' ρ:Env):Prop:= ∀ i,ρ' i=ρ i∨ρ' i= .junk
theorem Weaker.ev {ρ' ρ:Env} (h:Weaker ρ' ρ) (x:Operand):ρ'.ev x=ρ.ev x∨ρ'.ev x= .junk:=by
 cases x with
 |tmp t=>exact h t
 |_=>exact .inl rfl
theorem Weaker.updo {ρ' ρ:Env} (h:Weaker ρ' ρ) (dst:Option Nat) (x:PV):Weaker (updo ρ' dst x) (updo ρ dst x):=by
 cases dst with
 |none=>exact h
 |some d=>intro i;by_cases e:i=d
          ·left;subst e;show upd _ _ _ _=upd _ _ _ _;rw[upd_self,upd_self]
          ·show upd _ _ _ _=upd _ _ _ _∨upd _ _ _ _=_
           rw[upd_ne _ _ e,upd_ne _ _ e];exact h i
theorem OpN.weak {o:Oper} {ρ':Env} {L':List Res} {Ψ:PV→List Res→Prop} (hw:Weaker ρ' ρ) (hL:L'.Sublist L) (h:OpN P o ρ' L' Ψ):OpN P o ρ L Ψ:=fun a w g ha hi=>by
 have hb: ∀ b,b∈blocks L'→b∈blocks L:=fun b hb=>(blocks_sublist hL).subset hb
 refine(h a w g (fun x hx=>?_) (hi.sub hL)).mono fun a' w' ⟨v,x,g'',L'',k1,k2,k3,k4,k5,k6⟩=>⟨v,x,g'',L'',k1,k2,k3,k4.grow hb,fun b hm hl=>hb b (k5 b hm hl),k6⟩
 rcases hw.ev x with e|e
 ·rw[e];exact ha x hx
 ·rw[e];exact .junk _
theorem pops_weak (hK: ∀ ρ ρ' L L',Weaker ρ' ρ→L'.Sublist L→K ρ' L'→K ρ L): ∀ {os:List Oper} {ρ ρ':Env} {L L':List Res},Weaker ρ' ρ→L'.Sublist L→pops P N all K [] os ρ' L'→pops P N all K [] os ρ L
 | [],_,_,_,_,hw,hL,h=>hK _ _ _ _ hw hL h
 |o::os,ρ,ρ',L,L',hw,hL,h=>by
  obtain⟨hd,h⟩:=h
  refine⟨hd,?_⟩
  rcases h with ⟨hno,h⟩|⟨hyes,h⟩
  ·refine .inl ⟨?_,pops_weak hK (hw.updo _ _) hL h⟩
   unfold GNo at*
   cases hg:o.guard with
   |none=>simp only[hg]at hno
   |some p=>
    simp only[hg]at hno ⊢
    obtain⟨s,v,h1,h2,h3⟩:=hno
    have h4:ρ s= .raw v:=by
     rcases hw s with e|e
     ·rw[e]at h2;exact h2
     ·rw[e]at h2;cases h2
    exact⟨s,v,h1,h4,h3⟩
  ·refine .inr ⟨?_,.inr ⟨rfl,?_⟩⟩
   ·unfold GYes at*
    cases hg:o.guard with
    |none=>trivial
    |some p=>
     simp only[hg]at hyes ⊢
     obtain⟨s,h1,h2⟩:=hyes
     exact⟨s,h1,by
      rcases hw s with e|e
      ·rw[e]at h2;exact h2
      ·rw[e]at h2;cases h2⟩
   ·rcases h with ⟨x,hq,h⟩|⟨_,h⟩
    ·exact(OpN.mono hq fun x' L'' ⟨e1,e2⟩=>by subst e1;subst e2;exact pops_weak hK (hw.updo _ _) (.refl _) h).weak hw hL
    ·exact(h.mono fun x L'' h=>pops_weak hK (hw.updo _ _) (.refl _) h).weak hw hL
theorem pops_app {K:Env→List Res→Prop} {os2:List Oper}: ∀ {os1:List Oper} {ρ:Env} {L:List Res},pops P N all (fun ρ L=>pops P N all K [] os2 ρ L) [] os1 ρ L→pops P N all K [] (os1++os2) ρ L
 | [],_,_,h=>h
 |o::os1,ρ,L,h=>by
  obtain⟨hd,h⟩:=h
  refine⟨hd,?_⟩
  rcases h with ⟨hno,h⟩|⟨hyes,h⟩
  ·exact .inl ⟨hno,pops_app h⟩
  ·refine .inr ⟨hyes,?_⟩
   rcases h with ⟨x,hq,h⟩|⟨hf,h⟩
   ·exact .inl ⟨x,hq,pops_app h⟩
   ·exact .inr ⟨hf,h.mono fun x L' h=>pops_app h⟩
theorem pops_cutM {y:Code} (n:Nat) (E:List (Nat × PV)) (LL:List Res) (h:pops P N all (fun ρ L=>Holds ρ E∧LL.Sublist L) [] (os.take n) ρ L) (k:pops P N all (fun ρ L=>pwp P N y Q ρ L) [] (os.drop n) (env E) LL)
  (hK: ∀ ρ L,pwp P N y Q ρ L→K ρ L:=by intro _ _ h;exact h):pops P N all K [] os ρ L:=by
 have:=pops_app (P:=P) (N:=N) (all:=all) (K:=K) (os1:=os.take n) (os2:=os.drop n) (ρ:=ρ) (L:=L) (pops_mono (fun ρ' L' ⟨h1,h2⟩=>pops_mono hK (pops_weak (fun _ _ _ _ hw hL h=>pwp_weaken hw hL h) (env_le h1) h2 k)) h)
 rwa [List.take_append_drop]at this
end
end Go.Q
