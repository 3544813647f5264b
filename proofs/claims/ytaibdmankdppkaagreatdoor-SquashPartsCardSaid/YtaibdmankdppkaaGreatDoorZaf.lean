/- The small logic: arrays that no longer turn, as slices; functions that the model itself answers. Library, no statement of its own. -/
import Derived.Test.YtaibdmankdppkaaGreatDoorZae
import Derived.Lib.Bytealg
import Derived.Lib.BytesEntry
import Derived.Laws.Externs
import Derived.Lib.UnsafeStr
import Derived.Lib.Builder
set_option linter.unusedSimpArgs false
set_option linter.unusedVariables false
namespace Go.Q
open Go
section
variable {P:Program} {N:Nat} {all:Array Oper} {K:Env→List Res→Prop} {fl:List Bool} {os:List Oper} {ρ:Env} {L:List Res} {Q:PPost} {c:Code} {d:Nat} {ty:TypeId} {pos:String} {af:Array Edge}
theorem aH (l:List UInt8):(l.map eBy).flatten=l.map eU8:=by
 induction l with
 |nil=>rfl
 |cons a l ih=>simp[ih,eBy,eU8,u8]
theorem ja {T:TypeId} [hT:VL P T] {x:Operand} {dg:Dig} (hx:ρ.ev x= .pt (eDig dg) 0) (k:AU P N all K fl.tail os (CU ρ d (.slice (dg.bs.map eBy) .ro)) L) (hd:Nat.blt d N=true:=by rfl):
  AU P N all K fl (⟨some d,.slice T x none none none,ty,pos,af,none⟩::os) ρ L:=
 Bk hd (B9 fun a' w g ha hi=>by
  obtain⟨E,i,e1,e2,e3,e4⟩:=hT.arr
  have h1:=ha x (by simp[Op.operands]);rw[hx]at h1
  generalize hv:a'.eval x=v at h1
  generalize hcs:eDig dg=cs at h1
  cases h1 with
  |pt f hH hv'=>
   rename_i b o
   subst hcs
   refine⟨.slice (some ⟨b,o,none⟩) 32 32,?_,?_⟩
   ·show(do pure (Next.value (←Instr.sliceAt T (a'.eval x) none none none)):Sem Next).run P w=_
    simp[Instr.sliceAt,IQ e1,hv,Instr.sureAddr,Instr.sliceBounds,sizeOf,typeInfo,e3,e4,Dr]
   ·have hl:(eDig dg).length=32:=by simp
    let us:List Value:=(List.range 32).map f
    have hus:ED g us (eDig dg):=⟨by simp[us],fun j j1 j2=>by simpa [us]using hv' j j2⟩
    have:=VR.of_cells (g:=g) (xs:=dg.bs.map eBy) (t:= .ro) (sz:=1) (b:=b) (off:=o) (cap:=32) (fun e he=>by obtain⟨a,_,rfl⟩:=AQ.1 he;rfl) (by simp[dg.len]) ⟨by rw[AR,dg.len];decide,by rw[AR,dg.len];decide⟩ (us:=us)
     (by rw[aH];exact hus) (fun j hj=>by
      have hj':j < 32:=by simpa [us]using hj
      rw[hH j (by omega)];simp[us]) (by simp) (by simp)
    simpa [dg.len]using this) k
class ah (P:Program) (f:Nat) (args:List PV) (X:outParam PV):Prop where
 out: ∀ (vs:List Value) (w:World) (g:Gh),ED g vs args→(∀ b o v,g.H b o=some v→w.cell? ⟨b,o,none⟩=some v)→ ∃ v,(callFunc f vs.toArray).run P w= .ok (.value v) w∧VR g v X
theorem rS {f:Nat} {X:PV} {ats:Array TypeId} {xs:List Operand} {xa:Array Operand} {args:List PV} (hxa:xa=xs.toArray) (hargs: ∀ i (h1:i < xs.length) (h2:i < args.length),Le (ρ.ev xs[i]) args[i]) (hl:xs.length=args.length) [hc:ah P f args X] (k:AU P N all K fl.tail os (CU ρ d X) L) (hd:Nat.blt d N=true:=by rfl):
  AU P N all K fl (⟨some d,.call { callee:= .value (.func f),args:=xa,argTypes:=ats },ty,pos,af,none⟩::os) ρ L:=by
 subst hxa
 refine Bk hd (B9 fun a w g ha hi=>?_) k
 have hvs:ED g (xs.map a.eval) args:=⟨by simpa using hl,fun i h1 h2=>by
  simp only[BK]
  exact hargs i (by simpa using h1) h2 g _ (ha _ (by simp[Op.operands,Call.operands]))⟩
 obtain⟨v,hr,hv⟩:=hc.out _ w g hvs hi.sat
 refine⟨v,?_,hv⟩
 have he:execOp a.eval ⟨some d,.call { callee:= .value (.func f),args:=xs.toArray,argTypes:=ats },ty,pos,af,none⟩=callFunc f (#[]++xs.toArray.map a.eval++ #[]):=rfl
 rw[he]
 simpa using hr
theorem uI {f:Nat} {X:PV} {ats:Array TypeId} {x0 x1:Operand} {a0 a1 b0 b1:PV} (q0:ρ.ev x0=a0) (q1:ρ.ev x1=a1) [hN0:Js a0 b0] [hN1:Js a1 b1] [hc:ah P f [b0,b1] X] (k:AU P N all K fl.tail os (CU ρ d X) L) (hd:Nat.blt d N=true:=by rfl):
  AU P N all K fl (⟨some d,.call { callee:= .value (.func f),args:= #[x0,x1],argTypes:=ats },ty,pos,af,none⟩::os) ρ L:=
 rS (xs:= [x0,x1]) (args:= [b0,b1]) rfl (fun i h1 h2=>by
  match i,h1,h2 with
  |0,_,_=>exact q0 ▸ hN0.out
  |1,_,_=>exact q1 ▸ hN1.out
  |m+2,h1,_=>exact absurd h1 (by simp only[AL,Af];omega)) rfl k hd
theorem Sh {w:World} {g:Gh} (hsat: ∀ b o v,g.H b o=some v→w.cell? ⟨b,o,none⟩=some v) {v:Value} {bs:List UInt8} {t:CC} (h:VR g v (.slice (bs.map eBy) t)):(Extern.Bytes.bytesOf v).run P w= .ok ⟨bs.toArray⟩ w:=by
 obtain⟨base,cap,e1,hcap,hmx,hnone,_,_,us,hus,hcell⟩:=h.slice_cells (sz:=1) (fun e he=>by obtain⟨a,_,rfl⟩:=AQ.1 he;rfl)
 subst e1
 rw[aH]at hus
 cases base with
 |none=>
  have:bs= []:=by simpa using (hnone rfl).1
  subst this
  simp[Extern.Bytes.bytesOf];rfl
 |some ad=>
  obtain⟨b,o,s⟩:=ad
  obtain⟨hs,hH⟩:=hcell _ rfl
  rcases hs with ⟨e3,e4⟩|hs
  ·have:bs= []:=by simpa using e3
   subst this
   simp[Extern.Bytes.bytesOf,Extern.Bytes.loadBytes];rfl
  simp only at hs
  subst hs
  have:=Lib.run_loadBytesX (P:=P) w (bs.map fun x=>(x.toNat:Int)) ⟨b,o,none⟩ .empty (fun j x hx=>by
   rw[EY]at hx
   obtain⟨y,hy,rfl⟩:=Bl.1 hx
   have hj:j < bs.length:=(Ba.1 hy).1
   have hj':j < us.length:=by rw[hus.len];simpa using hj
   rw[Dr,hsat _ _ _ (hH j hj')]
   have h2:=hus.at_ j hj' (by simpa using hj)
   have h3:bs[j]=y:=(Ba.1 hy).2
   simp only[BK,eU8,h3]at h2
   rw[h2.raw_inv];rfl)
  rw[AR]at this
  simp only[Extern.Bytes.bytesOf,AR,this]
  congr 1
  apply ByteArray.ext
  have e2:Lib.bytesOf (bs.map fun x=>(x.toNat:Int))=bs:=by
   unfold Lib.bytesOf
   rw[CR]
   conv=>rhs;rw[←List.map_id bs]
   apply Ca
   intro x _
   simp
  simp[e2]
end
theorem Nh: ∀ a b:List UInt8,Lib.compareBytes a b=OQ a b
 | [],[]=>rfl
 | [],_::_=>rfl
 |_::_,[]=>rfl
 |x::xs,y::ys=>by simp[Lib.compareBytes,OQ,Nh xs ys]
theorem Xq {P:Program} {f:Nat} {fn:Func} (hf:P.funcs[f]? =some fn) (hn:(fn.name== "runtime.NumGoroutine")=false) (hb:fn.body.isNone=true) (h1:Extern.findNext fn=none) (h2:Extern.find fn=some Extern.BytealgCompare.compare) (a b:List UInt8) (t u:CC):
  ah P f [.slice (a.map eBy) t,.slice (b.map eBy) u] (.raw (.int .i64 (OQ a b))):=⟨fun vs w g hv hs=>by
 match vs,hv with
 | [x,y],hv=>
   obtain⟨q1,q2⟩:=hv.uncons
   obtain⟨q2,_⟩:=q2.uncons
   refine⟨_,?_,.raw _⟩
   rw[run_callFunc_extern hf hn hb h1 h2]
   show((do pure (goInt (Extern.BytealgCompare.cmp (←Extern.Bytes.bytesOf x) (←Extern.Bytes.bytesOf y))):Sem Value).run P w).andThen _=_
   simp only[Sem.run_bind,Sh hs q1,Sh hs q2,Result.andThen_ok,Sem.run_pure,Lib.cmp_eq,Nh]
   rfl
 | [],hv=>have:=hv.len;simp at this
 | [_],hv=>have:=hv.len;simp at this
 |_::_::_::_,hv=>have:=hv.len;simp at this⟩
theorem Uc {P:Program} {f:Nat} {fn:Func} (hf:P.funcs[f]? =some fn) (hn:(fn.name== "runtime.NumGoroutine")=false) (hb:fn.body.isNone=true) (h1:Extern.findNext fn=none) (h2:Extern.find fn=some Extern.BytealgIndexByte.indexByte) (s:Str) (c:Int):
  ah P f [.str s,.raw (.int .u8 c)] (.raw (.int .i64 (Lib.indexByte s c.toNat.toUInt8))):=⟨fun vs w g hv hs=>by
 match vs,hv with
 | [x,y],hv=>
   obtain⟨q1,q2⟩:=hv.uncons
   obtain⟨q2,_⟩:=q2.uncons
   have e1:x= .string ⟨s.toArray⟩:=by cases q1;rfl
   have e2:=q2.raw_inv
   subst e1 e2
   refine⟨_,?_,.raw _⟩
   rw[run_callFunc_extern hf hn hb h1 h2,Lib.run_indexByteString]
   rfl
 | [],hv=>have:=hv.len;simp at this
 | [_],hv=>have:=hv.len;simp at this
 |_::_::_::_,hv=>have:=hv.len;simp at this⟩
class me (b:Nat) (L:List Res) (kvs:outParam (List (PV × PV))) (L':outParam (List Res)):Prop where
 out:L.Perm (.map b kvs::L')
instance {b:Nat} {kvs:List (PV × PV)} {L:List Res}:me b (.map b kvs::L) kvs L:=⟨.refl _⟩
class A0C (b:Nat) (L:List Res) (T:outParam Nat) (cs:outParam (List PV)) (L':outParam (List Res)):Prop where
 out:L.Perm (.box b T cs::L')
instance {x:PV}:At [x] 0 x:=⟨rfl⟩
class LH (P:Program) (T:Nat) {κ α:outParam Type} (ek:outParam (κ→PV)) (ev:outParam (α→PV)):Prop where
 out:True
class Wh {α:Type} (x:PV) (ev:α→PV) (a:outParam α):Prop where
 out:Le x (ev a)
instance (b:Bool):Wh (.raw (.bool b)) vBool b:=⟨.refl _⟩
instance (n:Int):Wh (.raw (.int .i64 n)) vInt n:=⟨.refl _⟩
instance {α:Type} (f:α→List PV) (l:List α) (t:CC):Wh (.slice (l.map f) t) (JJ f) l:=⟨.ro _ _⟩
instance (priority:=low) (x:PV):Wh x vId x:=⟨.refl _⟩
section
variable {P:Program} {N:Nat} {all:Array Oper} {K:Env→List Res→Prop} {fl:List Bool} {os:List Oper} {ρ:Env} {L:List Res} {Q:PPost} {c:Code} {d:Nat} {ty:TypeId} {pos:String} {af:Array Edge}
variable {κ α:Type} [DecidableEq κ] {ek:κ→PV} {ev:α→PV} {T KT ET:Nat}
omit [DecidableEq κ] in
theorem S6 [hF:LH P T ek ev] (k: ∀ b,AU P N all K fl.tail os (CU ρ d (.raw (.map (some b)))) (.map b (BO ek ev [])::L)) (hd:Nat.blt d N=true:=by rfl) (hf:fl.headD true=true:=by rfl):
  AU P N all K fl (⟨some d,.makeMap T none,ty,pos,af,none⟩::os) ρ L:=KN k hd hf
theorem Zd [hF:LH P T ek ev] [hT:NP P T KT ET] [hK:SL P KT ek] {x y z:Operand} {b:Nat} {l:List (κ × α)} {ay az:PV} {k0:κ} {x0:α} {L':List Res} (hx:ρ.ev x= .raw (.map (some b))) [hp:me b L (BO ek ev l) L'] (hy:ρ.ev y=ay) [hk:NT ay ek k0] (hz:ρ.ev z=az) [hv:Wh az ev x0]
  (k:AU P N all K fl.tail os ρ (.map b (BO ek ev (DD k0 x0 l))::L')) (hfl:fl.headD true=true:=by rfl):AU P N all K fl (⟨none,.mapUpdate T x y z,ty,pos,af,none⟩::os) ρ L:=
 QY hx hp.out (hy ▸ hk.out) (hz ▸ hv.out) k hfl
theorem Ze [hF:LH P T ek ev] [hT:NP P T KT ET] [hK:SL P KT ek] {x y z:Operand} {b:Nat} {l:List (κ × α)} {ay az:PV} {k0:κ} {x0:α} {L':List Res} (hx:ρ.ev x= .raw (.map (some b))) [hp:me b L (BO ek ev l) L'] (hy:ρ.ev y=ay) [hk:NT ay ek k0] (hz:ρ.ev z=az) [hv:Wh az ev x0]
  (k:AU P N all K fl.tail os ρ (.map b (BO ek ev (DD k0 x0 l))::L')) (hfl:fl.headD true=true:=by rfl):AU P N all K fl (⟨none,.insert T x y z,ty,pos,af,none⟩::os) ρ L:=
 jg hx hp.out (hy ▸ hk.out) (hz ▸ hv.out) k hfl
class Wi (x:PV) (f:outParam Nat) (cs:outParam (List PV)):Prop where
 out:Le x (.clo f cs)
instance (f:Nat) (cs:List PV):Wi (.clo f cs) f cs:=⟨.refl _⟩
instance (f:Nat):Wi (.raw (.func (.func f) #[] #[])) f []:=⟨Js.out⟩
theorem lK {f:Nat} {cs:List PV} {X ax:PV} {x x0:Operand} {ats:Array TypeId} {a0 b0:PV} (qx:ρ.ev x=ax) [hx:Wi ax f cs] [hf:B2 P f] (q0:ρ.ev x0=a0) [hN0:Js a0 b0] [hc:C8 P f (b0::cs) X] (k:AU P N all K fl.tail os (CU ρ d X) L) (hd:Nat.blt d N=true:=by rfl):
  AU P N all K fl (⟨some d,.call { callee:= .value x,args:= #[x0],argTypes:=ats },ty,pos,af,none⟩::os) ρ L:=
 X9 (xs:= [x0]) (qx ▸ hx.out) rfl rfl (BA.args (by simp) (fun i h1 h2=>by
  match i,h1,h2 with
  |0,_,_=>simp only[Ar,CY,B3,BB,BL,q0];exact hN0.out
  |m+1,h1,h2=>exact .of_eq (by simp)) hc.out) k hd
theorem lJ {f:Nat} {cs:List PV} {X ax:PV} {x x0 x1:Operand} {ats:Array TypeId} {a0 b0 a1 b1:PV} (qx:ρ.ev x=ax) [hx:Wi ax f cs] [hf:B2 P f] (q0:ρ.ev x0=a0) (q1:ρ.ev x1=a1) [hN0:Js a0 b0] [hN1:Js a1 b1] [hc:C8 P f (b0::b1::cs) X] (k:AU P N all K fl.tail os (CU ρ d X) L) (hd:Nat.blt d N=true:=by rfl):
  AU P N all K fl (⟨some d,.call { callee:= .value x,args:= #[x0,x1],argTypes:=ats },ty,pos,af,none⟩::os) ρ L:=
 X9 (xs:= [x0,x1]) (qx ▸ hx.out) rfl rfl (BA.args (by simp) (fun i h1 h2=>by
  match i,h1,h2 with
  |0,_,_=>simp only[Ar,CY,B3,BB,BL,q0];exact hN0.out
  |1,_,_=>simp only[Ar,CY,B3,BB,DM,BL,q1];exact hN1.out
  |m+2,h1,h2=>exact .of_eq (by simp)) hc.out) k hd
theorem jY {T:TypeId} {x y:Operand} {b by_:Nat} {c0 ay:PV} {L':List Res} [hT:Ea P T 1 by_]
  (hx:ρ.ev x= .raw (.pointer (some ⟨b,0,none⟩))) (hy:ρ.ev y=ay) [hB:Sj b L [c0]] [hu:VK b [c0] [ay] L L'] [hf:Dx [ay]]
  (k:AU P N all K fl.tail os ρ L') (hfl:fl.headD true=true:=by rfl):AU P N all K fl (⟨none,.store T x y,ty,pos,af,none⟩::os) ρ L:=
 Dd rfl (fun _ e=>by cases e) hfl (JR (new:= [ay]) (cs:= [c0]) (cs':= [ay]) hx (fun g v hv=>by
  rw[hy]at hv
  obtain⟨h1,h2,h3,h4⟩:=hf.out ay (by simp)
  have h1:=hv.one h1 h2 h3 h4
  refine⟨[v],?_,.cons hv (.nil g)⟩
  cases v<;>first|rfl|cases h1) rfl hf.out rfl (by simp) hu.out k)
theorem pj {f:Nat} {xs:Array Operand} {dst:Option Nat} (k:AU P N all K fl (⟨dst,.makeFunc (.func f) #[] xs,ty,pos,af,none⟩::os) ρ L):AU P N all K fl (⟨dst,.makeFunc (.func f) #[] xs,ty,pos,af,none⟩::os) ρ L:=k
theorem pn {t:Nat} {xs:Array Operand} {ats:Array TypeId} {dst:Option Nat} (k:AU P N all K fl (⟨dst,.call { callee:= .value (.tmp t),args:=xs,argTypes:=ats },ty,pos,af,none⟩::os) ρ L):AU P N all K fl (⟨dst,.call { callee:= .value (.tmp t),args:=xs,argTypes:=ats },ty,pos,af,none⟩::os) ρ L:=k
theorem uU {T:TypeId} {x y:Operand} {b:Bool} {dst:Option Nat} (k:AU P N all K fl (⟨dst,.lookup T x y b,ty,pos,af,none⟩::os) ρ L):AU P N all K fl (⟨dst,.lookup T x y b,ty,pos,af,none⟩::os) ρ L:=k
theorem uQ {T:TypeId} {x y z:Operand} {dst:Option Nat} (k:AU P N all K fl (⟨dst,.mapUpdate T x y z,ty,pos,af,none⟩::os) ρ L):AU P N all K fl (⟨dst,.mapUpdate T x y z,ty,pos,af,none⟩::os) ρ L:=k
theorem uR {T:TypeId} {x y z:Operand} {dst:Option Nat} (k:AU P N all K fl (⟨dst,.insert T x y z,ty,pos,af,none⟩::os) ρ L):AU P N all K fl (⟨dst,.insert T x y z,ty,pos,af,none⟩::os) ρ L:=k
theorem rz {T:TypeId} {x:Operand} {dst:Option Nat} (k:AU P N all K fl (⟨dst,.box T x,ty,pos,af,none⟩::os) ρ L):AU P N all K fl (⟨dst,.box T x,ty,pos,af,none⟩::os) ρ L:=k
theorem w1 {A B:Prop} (k:B) (h:OY B→A:=by
  intro hB
  first
   |(refine Xa ?_;first|refine jY (by rfl) (by(conv=>lhs;whnf);done) (hB:=(by first|infer_instance|fail)) (hu:=(by first|infer_instance|fail)) (hf:=(by first|infer_instance|fail)) ?_)
   |refine pE ?_
   |refine tz ?_
   |(refine cR ?_;first|refine uI (by(conv=>lhs;whnf);done) (by(conv=>lhs;whnf);done) (hN0:=(by first|infer_instance|fail)) (hN1:=(by first|infer_instance|fail)) (hc:=(by first|infer_instance|fail)) ?_)
   |(refine Xb ?_;first|refine ja (by rfl) ?_)
   |(refine pj ?_;first|refine tP (by(conv=>lhs;whnf);done) ?_|refine tN (by(conv=>lhs;whnf);done) (by(conv=>lhs;whnf);done) ?_|refine tM (by(conv=>lhs;whnf);done) (by(conv=>lhs;whnf);done) (by(conv=>lhs;whnf);done) ?_|refine s_clo0 ?_|refine s_clo4 (by(conv=>lhs;whnf);done) (by(conv=>lhs;whnf);done) (by(conv=>lhs;whnf);done) (by(conv=>lhs;whnf);done) ?_)
   |(refine pn ?_;first|refine lK (by(conv=>lhs;whnf);done) (by(conv=>lhs;whnf);done) (hx:=(by first|infer_instance|fail)) (hN0:=(by first|infer_instance|fail)) (hc:=(by first|infer_instance|fail)) ?_|refine lJ (by(conv=>lhs;whnf);done) (by(conv=>lhs;whnf);done) (by(conv=>lhs;whnf);done) (hx:=(by first|infer_instance|fail)) (hN0:=(by first|infer_instance|fail)) (hN1:=(by first|infer_instance|fail)) (hc:=(by first|infer_instance|fail)) ?_)
   |(refine uU ?_;first|refine X4 (κ:=Dig) (by(conv=>lhs;whnf);done) (by(conv=>lhs;whnf);done) (hT:=(by first|infer_instance|fail)) (hK:=(by first|infer_instance|fail)) (hz:=(by first|infer_instance|fail)) (hk:=(by first|infer_instance|fail)) ?_|refine X4 (κ:=Int) (by(conv=>lhs;whnf);done) (by(conv=>lhs;whnf);done) (hT:=(by first|infer_instance|fail)) (hK:=(by first|infer_instance|fail)) (hz:=(by first|infer_instance|fail)) (hk:=(by first|infer_instance|fail)) ?_|refine Ve (κ:=Dig) (by(conv=>lhs;whnf);done) (by(conv=>lhs;whnf);done) (hT:=(by first|infer_instance|fail)) (hK:=(by first|infer_instance|fail)) (hz:=(by first|infer_instance|fail)) (hk:=(by first|infer_instance|fail)) ?_|refine Ve (κ:=Int) (by(conv=>lhs;whnf);done) (by(conv=>lhs;whnf);done) (hT:=(by first|infer_instance|fail)) (hK:=(by first|infer_instance|fail)) (hz:=(by first|infer_instance|fail)) (hk:=(by first|infer_instance|fail)) ?_|refine X3 (κ:=Dig) (by rfl) (by repeat(first|exact AG|apply AJ)) (by(conv=>lhs;whnf);done) (hT:=(by first|infer_instance|fail)) (hK:=(by first|infer_instance|fail)) (hz:=(by first|infer_instance|fail)) (hk:=(by first|infer_instance|fail)) ?_|refine X3 (κ:=Int) (by rfl) (by repeat(first|exact AG|apply AJ)) (by(conv=>lhs;whnf);done) (hT:=(by first|infer_instance|fail)) (hK:=(by first|infer_instance|fail)) (hz:=(by first|infer_instance|fail)) (hk:=(by first|infer_instance|fail)) ?_|refine Vc (κ:=Dig) (by rfl) (by repeat(first|exact AG|apply AJ)) (by(conv=>lhs;whnf);done) (hT:=(by first|infer_instance|fail)) (hK:=(by first|infer_instance|fail)) (hz:=(by first|infer_instance|fail)) (hk:=(by first|infer_instance|fail)) ?_|refine Vc (κ:=Int) (by rfl) (by repeat(first|exact AG|apply AJ)) (by(conv=>lhs;whnf);done) (hT:=(by first|infer_instance|fail)) (hK:=(by first|infer_instance|fail)) (hz:=(by first|infer_instance|fail)) (hk:=(by first|infer_instance|fail)) ?_)
   |(refine uQ ?_;first|refine Zd (κ:=Dig) (by rfl) (by(conv=>lhs;whnf);done) (by(conv=>lhs;whnf);done) (hF:=(by first|infer_instance|fail)) (hT:=(by first|infer_instance|fail)) (hK:=(by first|infer_instance|fail)) (hp:=(by first|infer_instance|fail)) (hk:=(by first|infer_instance|fail)) (hv:=(by first|infer_instance|fail)) ?_|refine Zd (κ:=Int) (by rfl) (by(conv=>lhs;whnf);done) (by(conv=>lhs;whnf);done) (hF:=(by first|infer_instance|fail)) (hT:=(by first|infer_instance|fail)) (hK:=(by first|infer_instance|fail)) (hp:=(by first|infer_instance|fail)) (hk:=(by first|infer_instance|fail)) (hv:=(by first|infer_instance|fail)) ?_)
   |(refine uR ?_;first|refine Ze (κ:=Dig) (by rfl) (by(conv=>lhs;whnf);done) (by(conv=>lhs;whnf);done) (hF:=(by first|infer_instance|fail)) (hT:=(by first|infer_instance|fail)) (hK:=(by first|infer_instance|fail)) (hp:=(by first|infer_instance|fail)) (hk:=(by first|infer_instance|fail)) (hv:=(by first|infer_instance|fail)) ?_|refine Ze (κ:=Int) (by rfl) (by(conv=>lhs;whnf);done) (by(conv=>lhs;whnf);done) (hF:=(by first|infer_instance|fail)) (hT:=(by first|infer_instance|fail)) (hK:=(by first|infer_instance|fail)) (hp:=(by first|infer_instance|fail)) (hk:=(by first|infer_instance|fail)) (hv:=(by first|infer_instance|fail)) ?_)
   |(refine rz ?_;first|refine tS (by(conv=>lhs;whnf);done) (hC:=(by first|infer_instance|fail)) ?_)
  exact hB.out):A:=h ⟨k⟩
theorem wk {A B:Prop} (k:B) (h:OY B→A:=by
  intro hB
  repeat(first
   |(fail_if_success (refine rz ?_));refine w1 ?_
   |refine AE ?_
   |refine DZ ?_
   |refine CK (by kernel_rfl) ?_
   |refine Il ?_
   |refine HQ ?_
   |refine KI ?_
   |refine Gv ?_
   |refine GW (by decide+kernel) ?_
   |refine Ij (by rfl) ?_
   |refine Ik (by rfl) ?_)
  exact hB.out):A:=h ⟨k⟩
theorem wf {A B:Prop} (k:B) (h:OY B→A:=by
  intro hB
  repeat(first
   |refine w1 ?_
   |refine AE ?_
   |refine DZ ?_
   |refine CK (by kernel_rfl) ?_
   |refine Il ?_
   |refine HQ ?_
   |refine KI ?_
   |refine Gv ?_
   |refine GW (by decide+kernel) ?_
   |refine Ij (by rfl) ?_
   |refine Ik (by rfl) ?_)
  exact hB.out):A:=h ⟨k⟩
theorem wn {A B:Prop} (k:B) (h:OY B→A:=by
  intro hB
  repeat(first
   |refine w1 ?_
   |refine AE ?_
   |refine DZ ?_
   |refine CK (by kernel_rfl) ?_
   |refine Il ?_
   |refine HQ ?_
   |refine KI ?_
   |refine Gv ?_
   |refine Ij (by rfl) ?_
   |refine Ik (by rfl) ?_)
  exact hB.out):A:=h ⟨k⟩
theorem wo {A B:Prop} (k:B) (h:OY B→A:=by
  intro hB
  repeat(first
   |refine w1 ?_)
  exact hB.out):A:=h ⟨k⟩
theorem ws {A B:Prop} (k:B) (h:OY B→A:=by
  intro hB
  repeat(first
   |refine w1 ?_
   |refine AE ?_
   |refine DZ ?_
   |refine CK (by kernel_rfl) ?_
   |refine HQ ?_
   |refine KI ?_
   |refine Gv ?_
   |refine GW (by decide+kernel) ?_)
  exact hB.out):A:=h ⟨k⟩
theorem vV {A:Prop} {B:Nat→Prop} (k: ∀ b,B b) (h:Kl B→A:=by
  intro hB
  refine wk ?_
  first|refine Yk (by rfl) fun b=>?_|refine Bx fun b=>?_|refine s_boxC (by(conv=>lhs;whnf);done) (hC:=(by first|infer_instance|fail)) fun b=>?_
  refine wk ?_
  exact hB.out b):A:=h ⟨k⟩
theorem YD {A:Prop} {B:Nat→Prop} (k: ∀ b,B b) (h:Kl B→A:=by
  intro hB
  refine wf ?_
  refine Bx fun b=>?_
  refine wf ?_
  exact hB.out b):A:=h ⟨k⟩
theorem zd {A:Prop} {B:Nat→Prop} (k: ∀ b,B b) (h:Kl B→A:=by
  intro hB
  refine wf ?_
  refine S6 fun b=>?_
  refine wf ?_
  exact hB.out b):A:=h ⟨k⟩
theorem dR {A:Prop} {B:CC→Prop} (k: ∀ t,B t) (h:Kl B→A:=by
  intro hB
  refine wf ?_
  first
   |refine Vj (by rfl) (by rfl) (by simp only[AA,AL,Af,AR,Aa,B4,BC];omega) (by simp only[AA,AL,Af,AR,Aa,B4,BC];omega) fun t=>?_
   |refine Iw (by rfl) (by rfl) (by simp only[AA,AL,Af,AR,Aa,B4,BC];omega) (by simp only[AA,AL,Af,AR,Aa,B4,BC];omega) (fun t=>by first|exact .here|exact(.there .here)|exact(.there (.there .here))|exact(.there (.there (.there .here)))|exact(.there (.there (.there (.there .here))))|exact(.there (.there (.there (.there (.there .here)))))|exact(.there (.there (.there (.there (.there (.there .here))))))|exact(.there (.there (.there (.there (.there (.there (.there .here)))))))|exact(.there (.there (.there (.there (.there (.there (.there (.there .here))))))))) fun t=>?_
  refine wf ?_
  exact hB.out t):A:=h ⟨k⟩
theorem wz {A:Prop} {B:Nat→Prop} (k: ∀ b,B b) (h:Kl B→A:=by
  intro hB
  refine wf ?_
  refine Bx fun b=>?_
  refine wo ?_
  refine AE ?_
  exact hB.out b):A:=h ⟨k⟩
end
section
variable {P:Program} {N:Nat} {all:Array Oper} {K:Env→List Res→Prop} {os:List Oper} {ρ:Env} {L:List Res} {Q:PPost} {c:Code}
def OZ (ρ' ρ:Env):Prop:= ∀ i,ρ' i=ρ i∨ρ' i= .junk
theorem OZ.ev {ρ' ρ:Env} (h:OZ ρ' ρ) (x:Operand):ρ'.ev x=ρ.ev x∨ρ'.ev x= .junk:=by
 cases x with
 |tmp t=>exact h t
 |_=>exact .inl rfl
theorem OZ.updo {ρ' ρ:Env} (h:OZ ρ' ρ) (dst:Option Nat) (x:PV):OZ (updo ρ' dst x) (updo ρ dst x):=by
 cases dst with
 |none=>exact h
 |some d=>intro i;by_cases e:i=d
          ·left;subst e;show CU _ _ _ _=CU _ _ _ _;rw[DB,DB]
          ·show CU _ _ _ _=CU _ _ _ _∨CU _ _ _ _=_
           rw[H6 _ _ e,H6 _ _ e];exact h i
theorem Fk.weak {o:Oper} {ρ':Env} {L':List Res} {Ψ:PV→List Res→Prop} (hw:OZ ρ' ρ) (hL:L'.Sublist L) (h:Fk P o ρ' L' Ψ):Fk P o ρ L Ψ:=fun a w g ha hi=>by
 have hb: ∀ b,b∈An L'→b∈An L:=fun b hb=>(Ga hL).subset hb
 refine(h a w g (fun x hx=>?_) (hi.sub hL)).mono fun a' w' ⟨v,x,g'',L'',k1,k2,k3,k4,k5,k6⟩=>⟨v,x,g'',L'',k1,k2,k3,k4.grow hb,fun b hm hl=>hb b (k5 b hm hl),k6⟩
 rcases hw.ev x with e|e
 ·rw[e];exact ha x hx
 ·rw[e];exact .junk _
theorem Ow (hK: ∀ ρ ρ' L L',OZ ρ' ρ→L'.Sublist L→K ρ' L'→K ρ L): ∀ {os:List Oper} {ρ ρ':Env} {L L':List Res},OZ ρ' ρ→L'.Sublist L→AU P N all K [] os ρ' L'→AU P N all K [] os ρ L
 | [],_,_,_,_,hw,hL,h=>hK _ _ _ _ hw hL h
 |o::os,ρ,ρ',L,L',hw,hL,h=>by
  obtain⟨hd,h⟩:=h
  refine⟨hd,?_⟩
  rcases h with ⟨hno,h⟩|⟨hyes,h⟩
  ·refine .inl ⟨?_,Ow hK (hw.updo _ _) hL h⟩
   unfold mg at*
   cases hg:o.guard with
   |none=>simp only[hg]at hno
   |some p=>
    simp only[hg]at hno ⊢
    obtain⟨s,v,h1,h2,h3⟩:=hno
    have h4:ρ s= .raw v:=by
     rcases hw s with e|e
     ·rw[e]at h2;exact h2
     ·rw[e]at h2;cases h2
    exact⟨s,v,h1,h4,h3⟩
  ·refine .inr ⟨?_,.inr ⟨rfl,?_⟩⟩
   ·unfold RN at*
    cases hg:o.guard with
    |none=>trivial
    |some p=>
     simp only[hg]at hyes ⊢
     obtain⟨s,h1,h2⟩:=hyes
     exact⟨s,h1,by
      rcases hw s with e|e
      ·rw[e]at h2;exact h2
      ·rw[e]at h2;cases h2⟩
   ·rcases h with ⟨x,hq,h⟩|⟨_,h⟩
    ·exact(Fk.mono hq fun x' L'' ⟨e1,e2⟩=>by subst e1;subst e2;exact Ow hK (hw.updo _ _) (.refl _) h).weak hw hL
    ·exact(h.mono fun x L'' h=>Ow hK (hw.updo _ _) (.refl _) h).weak hw hL
theorem Ql {K:Env→List Res→Prop} {os2:List Oper}: ∀ {os1:List Oper} {ρ:Env} {L:List Res},AU P N all (fun ρ L=>AU P N all K [] os2 ρ L) [] os1 ρ L→AU P N all K [] (os1++os2) ρ L
 | [],_,_,h=>h
 |o::os1,ρ,L,h=>by
  obtain⟨hd,h⟩:=h
  refine⟨hd,?_⟩
  rcases h with ⟨hno,h⟩|⟨hyes,h⟩
  ·exact .inl ⟨hno,Ql h⟩
  ·refine .inr ⟨hyes,?_⟩
   rcases h with ⟨x,hq,h⟩|⟨hf,h⟩
   ·exact .inl ⟨x,hq,Ql h⟩
   ·exact .inr ⟨hf,h.mono fun x L' h=>Ql h⟩
theorem KS {y:Code} (n:Nat) (E:List (Nat × PV)) (LL:List Res) (h:AU P N all (fun ρ L=>Pj ρ E∧LL.Sublist L) [] (os.take n) ρ L) (k:AU P N all (fun ρ L=>ER P N y Q ρ L) [] (os.drop n) (j9 E) LL)
  (hK: ∀ ρ L,ER P N y Q ρ L→K ρ L:=by intro _ _ h;exact h):AU P N all K [] os ρ L:=by
 have:=Ql (P:=P) (N:=N) (all:=all) (K:=K) (os1:=os.take n) (os2:=os.drop n) (ρ:=ρ) (L:=L) (KR (fun ρ' L' ⟨h1,h2⟩=>KR hK (Ow (fun _ _ _ _ hw hL h=>N9 hw hL h) (cY h1) h2 k)) h)
 rwa [Bf]at this
end
section
variable {P:Program} {w w':World} {g:Gh} {L:List Res}
theorem Dv.later (hi:Dv w g L) (hk: ∀ k,k < w.heap.size→w'.heap[k]? =w.heap[k]?):Dv w' g L:=by
 refine⟨fun b i v h=>?_,fun b z h=>(hi.satM b z h).congr (hk b (hi.satM b z h).lt),fun r hr=>?_,hi.nodup,hi.glob⟩
 ·have h0:=hi.sat b i v h
  have hb:b < w.heap.size:=by
   rcases B8 b w.heap.size with h'|h'
   ·exact h'
   ·simp[World.cell?,Bm h']at h0
  simp only[World.cell?]at h0 ⊢
  rw[hk b hb];exact h0
 ·exact Res.holds_kept (.refl g) (hi.res r hr) fun b hb=>⟨hk b (hi.lt (Bz.2 ⟨r,hr,hb⟩)),fun _=>rfl,rfl⟩
theorem Dv.other {l:Nat} (hi:Dv w g L) (hH: ∀ o,g.H l o=none) (hM:g.M l=none) (hl:l∉An L) (hk: ∀ k,k≠l→w'.heap[k]? =w.heap[k]?):Dv w' g L:=by
 refine⟨fun b i v h=>?_,fun b z h=>?_,fun r hr=>?_,hi.nodup,hi.glob⟩
 ·have:b≠l:=fun e=>by subst e;rw[hH]at h;cases h
  have h0:=hi.sat b i v h
  simp only[World.cell?]at h0 ⊢
  rw[hk b this];exact h0
 ·have:b≠l:=fun e=>by subst e;rw[hM]at h;cases h
  exact(hi.satM b z h).congr (hk b this)
 ·exact Res.holds_kept (.refl g) (hi.res r hr) fun b hb=>⟨hk b (fun e=>hl (Bz.2 ⟨r,hr,by rw[hb,e]⟩)),fun _=>rfl,rfl⟩
theorem Dv.rawHead {l:Nat} {o:Obj} (hi:Dv w g (.raw l o::L)):w.heap[l]? =some o∧(∀ o,g.H l o=none)∧g.M l=none∧l∉An L∧Dv w g L:=by
 obtain⟨h1,h2,h3⟩:=hi.res _ (AG)
 have hnd:=hi.nodup
 simp only[An,Az,Res.block]at hnd
 exact⟨h1,h2,h3,(Bo.1 hnd).1,hi.sub (EP _ _)⟩
theorem Dv.turnRaw {l:Nat} {o o':Obj} (hi:Dv w g (.raw l o::L)) (h:w'.heap[l]? =some o') (hk: ∀ k,k≠l→w'.heap[k]? =w.heap[k]?):Dv w' g (.raw l o'::L):=by
 obtain⟨_,h2,h3,hn,hi'⟩:=hi.rawHead
 exact(hi'.other h2 h3 hn hk).addRaw h h2 h3 hn
theorem uV {f:FuncId} {args:List PV} {X:PV} (h: ∀ vs w g LF,ED g vs args→Dv w g LF→Calls P f vs.toArray w (fun e w'=> ∃ v,e= .returned v∧(∀ g,VR g v X)∧w'.os=w.os∧w'.tape=w.tape∧w'.output=w.output∧w.drawn≤w'.drawn∧w.heap.size≤w'.heap.size∧ ∀ k,k < w.heap.size→w'.heap[k]? =w.heap[k]?)):Fn P f args X:=fun vs w g LF hv hi=>by
 rw[BB]at hi
 refine(h vs w g LF hv hi).mono ?_
 rintro e w' ⟨v,rfl,h1,h2,h3,h4,h5,h6,h7⟩
 exact⟨v,X,g,[],rfl,h1 g,hi.later h7,⟨h2,h3,⟨h4,h5⟩,h6,fun k hk _=>h7 k hk,.refl g,fun _ _ _=>⟨fun _=>rfl,rfl⟩⟩,.refl _ _,rfl,rfl⟩
end
def Nr (l:List UInt8):List Value:=l.map fun b=>Value.int .u8 b.toNat
@[simp] theorem XR (l:List UInt8):(Nr l).length=l.length:=by simp[Nr]
theorem QG (l m:List UInt8):Nr (l++m)=Nr l++Nr m:=by simp[Nr]
class ic (P:Program) (T:Nat) (E:outParam Nat):Prop where
 out: ∃ i,P.underlying T=some (.slice E)∧P.info? E=some i∧i.size=1∧i.bytes=1∧i.zero=some (.int .u8 0)∧P.cellsOf E=1
inductive LG (E:Nat):Value→List UInt8→List Res→Prop
 |nil:LG E (.slice none 0 0) [] []
 |row {r cap:Nat} {cur:Array Value} {l:List UInt8} (hl:l.length≤cap) (hs:cur.size=cap) (hc:cur.toList.take l.length=Nr l):LG E (.slice (some ⟨r,0,none⟩) l.length cap) l [.raw r (.cells cur E (0,0))]
theorem S8 {w:World} {g:Gh} {R LF:List Res} (hi:Dv w g (R++LF)) (o:Obj):Dv (w.drew.alloc o) g (.raw w.heap.size o::LF)∧Ef (An (R++LF)) w g (w.drew.alloc o) g∧De w (R++LF) (.raw w.heap.size o::LF):=by
 have hk: ∀ k,k < w.heap.size→(w.drew.alloc o).heap[k]? =w.heap[k]?:=fun k hk=>by
  show(w.heap.push o)[k]? =_
  rw[Hq,if_neg (by omega)]
 have h1:(w.drew.alloc o).heap[w.heap.size]? =some o:=by show(w.heap.push o)[w.heap.size]? =_;simp
 have hiL:Dv w g LF:=hi.sub (DH _ _)
 obtain⟨h2,h3⟩:=hi.fresh (Ak w.heap.size)
 refine⟨(hiL.later hk).addRaw h1 h2 h3 (fun h=>Fo _ (hiL.lt h)),⟨rfl,rfl,⟨rfl,RR _⟩,by simp,fun k h _=>hk k h,.refl g,fun _ _ _=>⟨fun _=>rfl,rfl⟩⟩,fun b hb hlt=>?_⟩
 simp only[An,Az,Res.block]at hb
 rcases AH.1 hb with rfl|hb
 ·exact absurd hlt (Fo _)
 ·simp only[An,Dp];exact DW _ hb
theorem aY {P:Program} {T T₂ E ty:Nat} [hT:ic P T E] (hu:P.underlying T₂=some .string∨ ∃ e,P.underlying T₂=some (.slice e)) {w:World} {g:Gh} {LF R:List Res} {v:Value} {l:List UInt8} (u:Value) (s:List UInt8)
  (hi:Dv w g (R++LF)) (hv:LG E v l R) (hl: ∀ w',(Builtin.lenOf u).run P w'= .ok s.length w')
  (hf: ∀ w',(∀ b o x,g.H b o=some x→w'.cell? ⟨b,o,none⟩=some x)→(Builtin.firstCells 1 s.length u).run P w'= .ok (Nr s).toArray w') (hb:l.length+s.length≤140737488355328):
  ∃ v' w' R',(Builtin.append_ #[T,T₂] ty #[v,u]).run P w= .ok v' w'∧LG E v' (l++s) R'∧Dv w' g (R'++LF)∧Ef (An (R++LF)) w g w' g∧De w (R++LF) (R'++LF):=by
 obtain⟨i,t1,t2,t3,t4,t5,_⟩:=hT.out
 have hone: ∀ x∈Nr s,x.oneCell'=true:=fun x hx=>by
  obtain⟨b,_,rfl⟩:=AQ.1 hx;rfl
 have grown: ∀ cap nc (base:Option Addr),¬(l.length+s.length≤cap)→v= .slice base l.length cap→(∀ w',w'.heap=w.heap→(Builtin.firstCells 1 l.length (.slice base l.length cap)).run P w'= .ok (Nr l).toArray w')→nc=grownCap w (l.length+s.length) cap E→
   (Builtin.append_ #[T,T₂] ty #[v,u]).run P w= .ok (.slice (some ⟨w.heap.size,0,none⟩) (l.length+s.length) nc) (w.drew.alloc (.cells ((Nr l++Nr s).toArray++Builtin.zeroCells (Value.int .u8 0).cells (nc - (l.length+s.length))) E (0,0))):=by
  rintro cap nc base hn rfl hfl rfl
  have hcapb:Builtin.nextslicecap (l.length+s.length) cap≤2 ^ 48:=by
   have:=IU (show cap < l.length+s.length by omega)
   have:(2:Nat) ^ 48=2*140737488355328:=by decide
   omega
  have h63': ¬(9223372036854775807 < ((l.length:Int)+(s.length:Int))):=by omega
  have h48': ¬(281474976710656 < Builtin.nextslicecap (l.length+s.length) cap*i.bytes):=by
   rw[t4];have:(2:Nat) ^ 48=281474976710656:=by decide
   omega
  have f1:=hfl w.drew rfl
  have f2:=hf w.drew hi.sat
  rcases hu with hu|⟨e,hu⟩<;>
  ·simp[Builtin.append_,run_underlying t1,run_underlying hu,sizeOf,typeInfo,zeroValue,t2,t3,t5,hl,hn,h63',h48',Question.forced,f1,f2,newRow,grownCap]
   congr 2
   apply QL
   simp[AV]
 have res: ∀ nc,l.length+s.length≤nc→ ∃ R',LG E (.slice (some ⟨w.heap.size,0,none⟩) (l.length+s.length) nc) (l++s) R'∧Dv (w.drew.alloc (.cells ((Nr l++Nr s).toArray++Builtin.zeroCells (Value.int .u8 0).cells (nc - (l.length+s.length))) E (0,0))) g (R'++LF)∧
   Ef (An (R++LF)) w g (w.drew.alloc (.cells ((Nr l++Nr s).toArray++Builtin.zeroCells (Value.int .u8 0).cells (nc - (l.length+s.length))) E (0,0))) g∧De w (R++LF) (R'++LF):=fun nc hnc=>by
  obtain⟨k1,k2,k3⟩:=S8 hi (.cells ((Nr l++Nr s).toArray++Builtin.zeroCells (Value.int .u8 0).cells (nc - (l.length+s.length))) E (0,0))
  refine⟨[.raw w.heap.size (.cells ((Nr l++Nr s).toArray++Builtin.zeroCells (Value.int .u8 0).cells (nc - (l.length+s.length))) E (0,0))],?_,k1,k2,k3⟩
  have:=LG.row (E:=E) (r:=w.heap.size) (cap:=nc) (cur:=(Nr l++Nr s).toArray++Builtin.zeroCells (Value.int .u8 0).cells (nc - (l.length+s.length))) (l:=l++s) (by simpa using hnc) (by
   have hz1:(Value.int IntKind.u8 0).cells.size=1:=rfl
   simp[size_zeroCells,hz1];omega) (by
   simp only[Array.toList_append,QG]
   rw[←QG,GL (by simp)])
  simpa using this
 cases hv with
 |nil=>
  by_cases hs:s= []
  ·subst hs
   refine⟨.slice none 0 0,w,[],?_,.nil,hi,.refl _ _ _,.refl _ _⟩
   have f2:=hf w hi.sat
   simp only[Af]at f2 hl
   rcases hu with hu|⟨e,hu⟩<;>simp[Builtin.append_,run_underlying t1,run_underlying hu,sizeOf,typeInfo,t2,t3,hl,f2,Nr]
  ·have hpos:0 < s.length:=PC.2 hs
   have hr:=grown 0 _ none (by simp;omega) rfl (fun w' _=>rfl) rfl
   obtain⟨R',k1,k2,k3,k4⟩:=res _ (grownCap_ge w (([]:List UInt8).length+s.length) 0 E)
   exact⟨_,_,R',hr,k1,k2,k3,k4⟩
 |row hlc hs hc=>
  rename_i r cap cur
  obtain⟨h1,h2,h3,hn,hiL⟩:=hi.rawHead
  by_cases hroom:l.length+s.length≤cap
  ·have hbk':w.heap[r]? =some (.cells cur.toList.toArray E (0,0)):=by simpa using h1
   obtain⟨w',hrun,hb',hos,htp,hout,hsz',hkk⟩:=FZ (P:=P) (Nr s) w cur.toList l.length 0 hbk' (by simp[hs];omega) hone
   refine⟨.slice (some ⟨r,0,none⟩) (l.length+s.length) cap,w',[.raw r (.cells (cur.toList.take (l.length+0)++Nr s++cur.toList.drop (l.length+0+(Nr s).length)).toArray E (0,0))],?_,?_,hi.turnRaw hb' hkk,⟨hos,htp,hout,EF hsz'.symm,fun k _ hk=>hkk k (fun e=>hk (by simp[An,Res.block,e])),.refl g,fun _ _ _=>⟨fun _=>rfl,rfl⟩⟩,fun b hb _=>by simpa [An,Res.block]using hb⟩
   ·have f2:=hf w hi.sat
    rcases hu with hu|⟨e,hu⟩<;>simp[Builtin.append_,run_underlying t1,run_underlying hu,sizeOf,typeInfo,t2,t3,hl,hroom,f2,Dr,hrun]
   ·have:=LG.row (E:=E) (r:=r) (cap:=cap) (cur:=(cur.toList.take (l.length+0)++Nr s++cur.toList.drop (l.length+0+(Nr s).length)).toArray) (l:=l++s) (by simpa using hroom) (by
     simp only[Cg,AA,Aa,B4,Cb,hs,XR,Dt];omega) (by
     rw[Dt,hc,←QG,GL (by simp)])
    simpa using this
  ·have hr:=grown cap _ (some ⟨r,0,none⟩) hroom rfl (fun w' hw'=>by
    show(loadCells _ (l.length*1)).run P w'=_
    rw[IV,←XR l]
    refine FS fun j hj=>?_
    have hj2:j < cur.toList.length:=by rw[Cb,hs];rw[XR]at hj;omega
    simp only[World.cell?,hw',h1,CX,BQ,if_false,BC]
    have:(Nr l)[j]=cur.toList[j]:=by
     have:=Kp hc.symm hj
     rw[this,FI]
    rw[this]
    simp[CN (show j < cur.size by simpa using hj2)]) rfl
   obtain⟨R',k1,k2,k3,k4⟩:=res _ (grownCap_ge w (l.length+s.length) cap E)
   exact⟨_,_,R',hr,k1,k2,k3,k4⟩
section
variable {P:Program} {N:Nat} {all:Array Oper} {K:Env→List Res→Prop} {fl:List Bool} {os:List Oper} {ρ:Env} {L:List Res} {d:Nat} {ty:TypeId} {pos:String} {af:Array Edge}
theorem lb (s:List UInt8) (w:World):(Builtin.firstCells 1 s.length (.string ⟨s.toArray⟩)).run P w= .ok (Nr s).toArray w:=by
 have h:=Lib.run_firstCells_string (P:=P) w 1 ⟨s.toArray⟩
 have e:(⟨s.toArray⟩:ByteArray).size=s.length:=by simp[ByteArray.size]
 rw[e]at h
 rw[h];congr 1
theorem kB {T T₂ E:Nat} [hT:ic P T E] [h2:SK P T₂] {x y:Operand} {v:Value} {l s:List UInt8} {R LF:List Res} (F:List Res→List Res) {ay:PV} (hx:ρ.ev x= .raw v) (hy:ρ.ev y=ay) [jy:K7 ay s] (hv:LG E v l R) (hp:L.Perm (R++LF)) (hq: ∀ R',(R'++LF).Perm (F R')) (hb:l.length+s.length≤140737488355328)
  (k: ∀ v' R',LG E v' (l++s) R'→AU P N all K fl.tail os (CU ρ d (.raw v')) (F R')) (hd:Nat.blt d N=true:=by rfl) (hfl:fl.headD true=true:=by rfl):
  AU P N all K fl (⟨some d,.call { callee:= .builtin .append,args:= #[x,y],argTypes:= #[T,T₂] },ty,pos,af,none⟩::os) ρ L:=
 Dd rfl (Ph hd) hfl (Fk.perm hp fun a w g ha hi=>by
  have h1:=Cc ha (x:=x) (by simp[Op.operands,Call.operands]) hx
  have h3:=ha y (by simp[Op.operands,Call.operands])
  rw[hy]at h3
  have e:a.eval y= .string ⟨s.toArray⟩:=jy.out g _ h3
  obtain⟨v',w',R',q1,q2,q3,q4,q5⟩:=aY (P:=P) (T:=T) (T₂:=T₂) (ty:=ty) (.inl h2.out) (.string ⟨s.toArray⟩) s hi hv (fun _=>by simp[Builtin.lenOf,ByteArray.size]) (fun w' _=>lb s w') hb
  have he:execOp a.eval ⟨some d,.call { callee:= .builtin .append,args:= #[x,y],argTypes:= #[T,T₂] },ty,pos,af,none⟩=(do pure (.value (←Builtin.append_ #[T,T₂] ty (#[x,y].map a.eval)))):=rfl
  have hr:(execOp a.eval ⟨some d,.call { callee:= .builtin .append,args:= #[x,y],argTypes:= #[T,T₂] },ty,pos,af,none⟩).run P w= .ok (.value v') w':=by
   rw[he];simp[h1,e,q1]
  refine Oper.wq_of_run hr ?_
  exact⟨v',.raw v',g,F R',rfl,.raw _,q3.perm (hq R'),q4,fun b hb hlt=>q5 b ((DX (hq R')).symm.subset hb) hlt,k v' R' q2⟩)
theorem fa {T T₂ E E₂:Nat} [hT:ic P T E] [h2:Ma P T₂ E₂] {x y:Operand} {v:Value} {l:List UInt8} {c:UInt8} {t:CC} {R LF:List Res} (F:List Res→List Res) (hx:ρ.ev x= .raw v) (hy:ρ.ev y= .slice [[.raw (.int .u8 c.toNat)]] t) (hv:LG E v l R) (hp:L.Perm (R++LF)) (hq: ∀ R',(R'++LF).Perm (F R')) (hb:l.length+1≤140737488355328)
  (k: ∀ v' R',LG E v' (l++ [c]) R'→AU P N all K fl.tail os (CU ρ d (.raw v')) (F R')) (hd:Nat.blt d N=true:=by rfl) (hfl:fl.headD true=true:=by rfl):
  AU P N all K fl (⟨some d,.call { callee:= .builtin .append,args:= #[x,y],argTypes:= #[T,T₂] },ty,pos,af,none⟩::os) ρ L:=
 Dd rfl (Ph hd) hfl (Fk.perm hp fun a w g ha hi=>by
  have h1:=Cc ha (x:=x) (by simp[Op.operands,Call.operands]) hx
  have h3:=ha y (by simp[Op.operands,Call.operands])
  rw[hy]at h3
  obtain⟨base,cap,e,_,_,hnone,_,_,us,hus,hcell⟩:=h3.slice_cells (sz:=1) (by simp)
  simp only[Ch,mq,BW]at hus
  obtain⟨v1,rfl⟩: ∃ v1,us= [v1]:=by
   have:=hus.len
   match us,this with
   | [v1],_=>exact⟨v1,rfl⟩
  rw[hus.uncons.1.raw_inv]at hcell
  simp only[AL,Af,BC]at e
  obtain⟨v',w',R',q1,q2,q3,q4,q5⟩:=aY (P:=P) (T:=T) (T₂:=T₂) (ty:=ty) (.inr ⟨_,h2.out⟩) (.slice base 1 cap) [c] hi hv (fun _=>rfl) (fun w' hs'=>by
   cases base with
   |none=>exact absurd (hnone rfl).1 (by simp)
   |some ad=>
    obtain⟨b,o,sp⟩:=ad
    obtain⟨hs,hH⟩:=hcell _ rfl
    rcases hs with ⟨e3,_⟩|hs
    ·cases e3
    simp only at hs
    subst hs
    exact FS (vs:= [.int .u8 c.toNat]) fun j hj=>hs' _ _ _ (hH j hj)) (by simpa using hb)
  have he:execOp a.eval ⟨some d,.call { callee:= .builtin .append,args:= #[x,y],argTypes:= #[T,T₂] },ty,pos,af,none⟩=(do pure (.value (←Builtin.append_ #[T,T₂] ty (#[x,y].map a.eval)))):=rfl
  have hr:(execOp a.eval ⟨some d,.call { callee:= .builtin .append,args:= #[x,y],argTypes:= #[T,T₂] },ty,pos,af,none⟩).run P w= .ok (.value v') w':=by
   rw[he];simp[h1,e,q1]
  refine Oper.wq_of_run hr ?_
  exact⟨v',.raw v',g,F R',rfl,.raw _,q3.perm (hq R'),q4,fun b hb hlt=>q5 b ((DX (hq R')).symm.subset hb) hlt,k v' R' q2⟩)
theorem KY {T:TypeId} {E:Nat} [hT:Ma P T E] {x:Operand} {a:Option Addr} {n c:Nat} (hx:ρ.ev x= .raw (.slice a n c)) (k:AU P N all K fl.tail os (CU ρ d (.raw (.int .i64 n))) L) (hd:Nat.blt d N=true:=by rfl):
  AU P N all K fl (⟨some d,.call { callee:= .builtin .len,args:= #[x],argTypes:= #[T] },ty,pos,af,none⟩::os) ρ L:=
 Bk hd (B9 fun a' w g ha hi=>⟨.int .i64 n,by
  have h1:=Cc ha (x:=x) (by simp[Op.operands,Call.operands]) hx
  have he:execOp a'.eval ⟨some d,.call { callee:= .builtin .len,args:= #[x],argTypes:= #[T] },ty,pos,af,none⟩=(do pure (.value (←Builtin.len_ #[T] ty (#[x].map a'.eval)))):=rfl
  rw[he]
  simp[Builtin.len_,h1,IQ hT.out,goInt],.raw _⟩) k
theorem YV {T:TypeId} {x:Operand} {a:Addr} {n c:Nat} (hx:ρ.ev x= .raw (.slice (some a) n c)) (hc:c≠0) (k:AU P N all K fl.tail os (CU ρ d (.raw (.pointer (some a)))) L) (hd:Nat.blt d N=true:=by rfl):
  AU P N all K fl (⟨some d,.call { callee:= .builtin .unsafeSliceData,args:= #[x],argTypes:= #[T] },ty,pos,af,none⟩::os) ρ L:=
 Bk hd (B9 fun a' w g ha hi=>⟨.pointer (some a),by
  have h1:=Cc ha (x:=x) (by simp[Op.operands,Call.operands]) hx
  have he:execOp a'.eval ⟨some d,.call { callee:= .builtin .unsafeSliceData,args:= #[x],argTypes:= #[T] },ty,pos,af,none⟩=(do pure (.value (←Builtin.unsafeSliceData_ #[T] ty (#[x].map a'.eval)))):=rfl
  rw[he]
  have:=Lib.run_unsafeSliceData_row (P:=P) w #[T] ty a n c hc
  simp[h1,this],.raw _⟩) k
theorem TU {T T₂ E r:Nat} (hT:P.underlying T=some (.pointer E)) (hE:P.cellsOf E=1) {x y:Operand} {cur:Array Value} {l:List UInt8} {L':List Res} (hx:ρ.ev x= .raw (.pointer (some ⟨r,0,none⟩))) (hy:ρ.ev y= .raw (.int .i64 l.length)) (hp:L.Perm (.raw r (.cells cur E (0,0))::L'))
  (h0:l≠ []) (hl:l.length≤cur.size) (hc:cur.toList.take l.length=Nr l) (hb:l.length≤140737488355328) (k:AU P N all K fl.tail os (CU ρ d (.str l)) L') (hd:Nat.blt d N=true:=by rfl) (hfl:fl.headD true=true:=by rfl):
  AU P N all K fl (⟨some d,.call { callee:= .builtin .unsafeString,args:= #[x,y],argTypes:= #[T,T₂] },ty,pos,af,none⟩::os) ρ L:=
 Dd rfl (Ph hd) hfl (Fk.perm hp fun a w g ha hi=>by
  have h1:=Cc ha (x:=x) (by simp[Op.operands,Call.operands]) hx
  have h2:=Cc ha (x:=y) (by simp[Op.operands,Call.operands]) hy
  obtain⟨k1,k2,k3,k4,k5⟩:=hi.rawHead
  have he:execOp a.eval ⟨some d,.call { callee:= .builtin .unsafeString,args:= #[x,y],argTypes:= #[T,T₂] },ty,pos,af,none⟩=(do pure (.value (←Builtin.unsafeString_ #[T,T₂] ty (#[x,y].map a.eval)))):=rfl
  have hrun:=Lib.run_unsafeString_row (P:=P) w T T₂ ty E hT hE r cur.size (by simp[World.shape?,k1]) l h0 hl (by omega) (fun j x hj=>by
   have hjl:=(Ba.1 hj).1
   have e1:(Nr l)[j]? =some (.int .u8 x.toNat):=by simp[Nr,hj]
   rw[←hc,Fh,if_pos hjl]at e1
   rw[Dr]
   simp only[World.cell?,k1,CX,BQ,if_false,BC]
   simpa using e1)
  have hr:(execOp a.eval ⟨some d,.call { callee:= .builtin .unsafeString,args:= #[x,y],argTypes:= #[T,T₂] },ty,pos,af,none⟩).run P w= .ok (.value (.string ⟨l.toArray⟩)) (w.freeze ⟨r,0,none⟩ l.length):=by
   rw[he];simp[h1,h2,hrun]
  have hk: ∀ b,b≠r→(w.freeze ⟨r,0,none⟩ l.length).heap[b]? =w.heap[b]?:=fun b hb=>by
   unfold World.freeze
   split
   ·rfl
   ·simp[Mi,Ne.symm hb]
  have hsz:(w.freeze ⟨r,0,none⟩ l.length).heap.size=w.heap.size:=by
   unfold World.freeze
   split<;>simp
  have hws:(w.freeze ⟨r,0,none⟩ l.length).os=w.os∧(w.freeze ⟨r,0,none⟩ l.length).tape=w.tape∧(w.freeze ⟨r,0,none⟩ l.length).output=w.output∧(w.freeze ⟨r,0,none⟩ l.length).drawn=w.drawn:=by
   unfold World.freeze
   split<;>exact⟨rfl,rfl,rfl,rfl⟩
  refine Oper.wq_of_run hr ?_
  exact⟨_,.str l,g,L',rfl,.str (by show l.length≤maxN;exact hb),k5.other k2 k3 k4 hk,⟨hws.1,hws.2.1,⟨hws.2.2.1,EF hws.2.2.2.symm⟩,EF hsz.symm,fun b _ hb=>hk b (fun e=>hb (by simp[An,Res.block,e])),.refl g,fun _ _ _=>⟨fun _=>rfl,rfl⟩⟩,
   fun b hb _=>by simp only[An,Az,Res.block];exact AJ _ hb,k⟩)
instance {x y:PV}:At [x,y] 0 x:=⟨rfl⟩
instance {x y:PV}:At [x,y] 1 y:=⟨rfl⟩
theorem LG.one {E:Nat} {v:Value} {l:List UInt8} {R:List Res} (h:LG E v l R):v.oneCell'=true:=by cases h<;>rfl
theorem IA {T:TypeId} {x y:Operand} {b off by_:Nat} {cs:List PV} {v:Value} {L':List Res} [hT:Ea P T 1 by_] (cs':List PV)
  (hx:ρ.ev x= .raw (.pointer (some ⟨b,off,none⟩))) (hy:ρ.ev y= .raw v) (hv:v.oneCell'=true) [hB:Sj b L cs] (hp:cs.take off++ [.raw v]++cs.drop (off+1)=cs') (hle:off+1≤cs.length) [hu:VK b cs cs' L L']
  (k:AU P N all K fl.tail os ρ L') (hfl:fl.headD true=true:=by rfl):AU P N all K fl (⟨none,.store T x y,ty,pos,af,none⟩::os) ρ L:=
 Dd rfl (fun _ e=>by cases e) hfl (JR (new:= [.raw v]) (cs:=cs) (cs':=cs') hx (fun g v' hv'=>by
  rw[hy]at hv'
  rw[hv'.raw_inv]
  refine⟨[v],?_,.cons (.raw v) (.nil g)⟩
  cases v<;>first|rfl|cases hv) rfl (fun x hx=>by
   rcases AH.1 hx with rfl|h
   ·exact⟨by simp,by simp,fun u e=>by cases e;exact hv,by simp⟩
   ·cases h) hp hle hu.out k)
theorem C5 (f:Nat):Le (.raw (.func (.func f) #[] #[])) (.clo f []):=Js.out
theorem ic.of {P:Program} {T E:Nat} (h1:P.underlying T=some (.slice E)) (h2:(P.info? E).map (fun i=>(i.zero,i.size,i.bytes))=some (some (.int .u8 0),1,1)) (h3:P.cellsOf E=1):ic P T E:=⟨by
 obtain⟨i,hi,e⟩:=Bl.1 h2
 injection e with e1 e2
 injection e2 with e2 e3
 exact⟨i,h1,hi,e2,e3,e1,h3⟩⟩
class vF (P:Program) (T:Nat) (E sz:outParam Nat):Prop where
 out:P.underlying T=some (.pointer E)∧ ∃ j,P.info? E=some j∧j.size=sz
theorem vF.of {P:Program} {T E sz:Nat} (h1:P.underlying T=some (.pointer E)) (h2:(P.info? E).map (·.size)=some sz):vF P T E sz:=⟨h1,Bl.1 h2⟩
theorem tK {T T' E sz:Nat} [hT:vF P T E sz] {x y:Operand} {p:Option Addr} (hx:ρ.ev x= .raw (.pointer p)) (hy:ρ.ev y= .raw (.pointer none)) (k:AU P N all K fl.tail os (CU ρ d (.raw (.bool p.isNone))) L) (hd:Nat.blt d N=true:=by rfl):
  AU P N all K fl (⟨some d,.binOp .eql T x y T',ty,pos,af,none⟩::os) ρ L:=
 kA hx hy (fun w=>by unfold eqGuard;simp) (fun w=>by
  have h: ∀ d:Nat,(Op.equalIn (d+1) T (.pointer p) (.pointer none)).run P w= .ok p.isNone w:=fun d=>by
   cases p<;>simp[Op.equalIn,run_underlying hT.out.1]
  simp only[binOp]
  simp[Op.equal,Op.maxDepth,h 9999]) k hd
theorem tH {T T' E sz:Nat} [hT:vF P T E sz] {x y:Operand} {a:Addr} (hx:ρ.ev x= .raw (.pointer (some a))) (hy:ρ.ev y= .raw (.pointer (some a))) (k:AU P N all K fl.tail os (CU ρ d (.raw (.bool false))) L) (hd:Nat.blt d N=true:=by rfl):
  AU P N all K fl (⟨some d,.binOp .neq T x y T',ty,pos,af,none⟩::os) ρ L:=
 kA hx hy (fun w=>by unfold eqGuard;simp) (fun w=>by
  obtain⟨h1,j,h2,_⟩:=hT.out
  exact Lib.run_neq_ptr_same w a h1 h2) k hd
theorem bO {S D E sz T' b:Nat} [hS:vF P S E sz] (hD:P.underlying D=some .unsafePointer) (hz:sz≠0) {x:Operand} {cs:List PV} (hx:ρ.ev x= .raw (.pointer (some ⟨b,0,none⟩))) (hm:Res.box b T' cs∈L) (hc:cs≠ []) (k:AU P N all K fl.tail os (CU ρ d (.raw (.pointer (some ⟨b,0,none⟩)))) L) (hd:Nat.blt d N=true:=by rfl):
  AU P N all K fl (⟨some d,.convert S D x,ty,pos,af,none⟩::os) ρ L:=
 Bk hd (B9 fun a w g ha hi=>⟨.pointer (some ⟨b,0,none⟩),by
  have h1:=Cc ha (x:=x) (by simp[Op.operands]) hx
  obtain⟨vs,hb,hvs,_⟩:=hi.res _ hm
  obtain⟨q1,j,q2,q3⟩:=hS.out
  have hl:0 < vs.length:=by rw[hvs.len];exact PC.2 hc
  have hrun:=Lib.run_to_unsafe (P:=P) w ⟨b,0,none⟩ q1 hD q2 (by rw[q3];exact hz) (e:=T') (cells:=vs.length) (by simp[World.shape?,hb]) hl
  have he:execOp a.eval ⟨some d,.convert S D x,ty,pos,af,none⟩=(do pure (.value (←convert S D (a.eval x)))):=rfl
  rw[he];simp[h1,hrun],.raw _⟩) k
theorem X5 {S D E sz T' b:Nat} [hD:vF P D E sz] (hS:P.underlying S=some .unsafePointer) {x:Operand} {cs:List PV} (hx:ρ.ev x= .raw (.pointer (some ⟨b,0,none⟩))) (hm:Res.box b T' cs∈L) (hl:liesAt P P.depth T' (cs.length / P.cellsOf T') 0 E 1=true) (k:AU P N all K fl.tail os (CU ρ d (.raw (.pointer (some ⟨b,0,none⟩)))) L) (hd:Nat.blt d N=true:=by rfl):
  AU P N all K fl (⟨some d,.convert S D x,ty,pos,af,none⟩::os) ρ L:=
 Bk hd (B9 fun a w g ha hi=>⟨.pointer (some ⟨b,0,none⟩),by
  have h1:=Cc ha (x:=x) (by simp[Op.operands]) hx
  obtain⟨vs,hb,hvs,_⟩:=hi.res _ hm
  obtain⟨q1,j,q2,q3⟩:=hD.out
  have hrun:=Lib.run_from_unsafe (P:=P) w ⟨b,0,none⟩ hS q1 q2 (e:=T') (cells:=vs.length) (by simp[World.shape?,hb]) (by rw[hvs.len];exact hl)
  have he:execOp a.eval ⟨some d,.convert S D x,ty,pos,af,none⟩=(do pure (.value (←convert S D (a.eval x)))):=rfl
  rw[he];simp[h1,hrun],.raw _⟩) k
theorem iG {f:Nat} {fn:Func} (hf:P.funcs[f]? =some fn) (hn:(fn.name== "runtime.NumGoroutine")=false) (hb:fn.body.isNone=true) (h1:Extern.findNext fn=none) (h2:Extern.find fn=some Extern.AbiNoEscape.same) (v:Value):
  ah P f [.raw v] (.raw v):=⟨fun vs w g hv hs=>by
 match vs,hv with
 | [x],hv=>
   have e:=hv.uncons.1.raw_inv
   subst e
   refine⟨x,?_,.raw _⟩
   rw[run_callFunc_extern hf hn hb h1 h2]
   rw[show #[x]= [x].toArray from rfl]at*
   rfl
 | [],hv=>have:=hv.len;simp at this
 |_::_::_,hv=>have:=hv.len;simp at this⟩
theorem GU {T:TypeId} {x y:Operand} {b off by_:Nat} {cs:List PV} {ay:PV} {L':List Res} [hT:Ea P T 1 by_] (cs':List PV)
  (hx:ρ.ev x= .raw (.pointer (some ⟨b,off,none⟩))) (hy:ρ.ev y=ay) [hB:Sj b L cs] (hf:KJ [ay]) (hp:cs.take off++ [ay]++cs.drop (off+1)=cs') (hle:off+1≤cs.length) [hu:VK b cs cs' L L']
  (k:AU P N all K fl.tail os ρ L') (hfl:fl.headD true=true:=by rfl):AU P N all K fl (⟨none,.store T x y,ty,pos,af,none⟩::os) ρ L:=
 Dd rfl (fun _ e=>by cases e) hfl (JR (new:= [ay]) (cs:=cs) (cs':=cs') hx (fun g v hv=>by
  rw[hy]at hv
  obtain⟨h1,h2,h3,h4⟩:=hf ay (by simp)
  have h1:=hv.one h1 h2 h3 h4
  refine⟨[v],?_,.cons hv (.nil g)⟩
  cases v<;>first|rfl|cases h1) rfl hf hp hle hu.out k)
end
class al (P:Program) (T:Nat) (E sz:outParam Nat) (by_:outParam Nat):Prop where
 out: ∃ i z,P.underlying T=some (.slice E)∧P.info? E=some i∧i.size=sz∧i.bytes=by_∧i.zero=some z∧z.cells.size=sz∧sz≠0∧sz≤by_
inductive MY (E sz:Nat):Value→Nat→List Value→List Res→Prop
 |nil (o:Option Addr) (ho: ∀ a,o=some a→a.spot=none):MY E sz (.slice o 0 0) 0 [] []
 |row {r n cap:Nat} {cur:Array Value} {us:List Value} (hl:n≤cap) (hs:cur.size=cap*sz) (hu:us.length=n*sz) (hc:cur.toList.take (n*sz)=us):MY E sz (.slice (some ⟨r,0,none⟩) n cap) n us [.raw r (.cells cur E (0,0))]
theorem MY.len {E sz n:Nat} {v:Value} {us:List Value} {R:List Res} (h:MY E sz v n us R):us.length=n*sz:=by
 cases h with
 |nil o ho=>simp
 |row hl hs hu hc=>exact hu
theorem MY.one {E sz n:Nat} {v:Value} {us:List Value} {R:List Res} (h:MY E sz v n us R):v.oneCell'=true:=by cases h<;>rfl
theorem MY.slice {E sz n:Nat} {v:Value} {us:List Value} {R:List Res} (h:MY E sz v n us R): ∃ o c,v= .slice o n c:=by cases h<;>exact⟨_,_,rfl⟩
theorem WV {P:Program} {T T₂ E sz by_ ty:Nat} [hT:al P T E sz by_] (hu:P.underlying T₂=some .string∨ ∃ e,P.underlying T₂=some (.slice e)) {w:World} {g:Gh} {LF R:List Res} {v:Value} {n m:Nat} {us:List Value} (u:Value) (vs:List Value)
  (hi:Dv w g (R++LF)) (hv:MY E sz v n us R) (hl: ∀ w',(Builtin.lenOf u).run P w'= .ok m w') (hvl:vs.length=m*sz) (hone: ∀ x∈vs,x.oneCell'=true)
  (hf: ∀ w',w'.heap=w.heap→(Builtin.firstCells sz m u).run P w'= .ok vs.toArray w') (hb:(n+m)*by_≤140737488355328) (hm:n+m≤140737488355328):
  ∃ v' w' R',(Builtin.append_ #[T,T₂] ty #[v,u]).run P w= .ok v' w'∧MY E sz v' (n+m) (us++vs) R'∧Dv w' g (R'++LF)∧Ef (An (R++LF)) w g w' g∧De w (R++LF) (R'++LF):=by
 obtain⟨i,z,t1,t2,t3,t4,t5,t6,t7,t8⟩:=hT.out
 have hul:=hv.len
 have grown: ∀ cap nc (base:Option Addr),¬(n+m≤cap)→v= .slice base n cap→(∀ w',w'.heap=w.heap→(Builtin.firstCells sz n (.slice base n cap)).run P w'= .ok us.toArray w')→nc=grownCap w (n+m) cap E→
   (Builtin.append_ #[T,T₂] ty #[v,u]).run P w= .ok (.slice (some ⟨w.heap.size,0,none⟩) (n+m) nc) (w.drew.alloc (.cells ((us++vs).toArray++Builtin.zeroCells z.cells (nc - (n+m))) E (0,0))):=by
  rintro cap nc base hn rfl hfl rfl
  have hgrow:cap < n+m:=by omega
  have h63': ¬(9223372036854775807 < ((n:Int)+(m:Int))):=by omega
  have h48': ¬(281474976710656 < Builtin.nextslicecap (n+m) cap*i.bytes):=by
   rw[t4]
   have:Builtin.nextslicecap (n+m) cap*by_≤2*140737488355328:=by
    calc Builtin.nextslicecap (n+m) cap*by_≤(2*(n+m))*by_:=B6 _ (IU hgrow)
     _=2*((n+m)*by_):=by rw[yW]
     _≤2*140737488355328:=K3 _ hb
   omega
  have f1:=hfl w.drew rfl
  have f2:=hf w.drew rfl
  rcases hu with hu|⟨e,hu⟩<;>
  ·simp[Builtin.append_,run_underlying t1,run_underlying hu,sizeOf,typeInfo,zeroValue,t2,t3,t5,hl,hn,h63',h48',Question.forced,f1,f2,newRow,grownCap]
   congr 2
   apply QL
   simp[AV]
 have res: ∀ nc,n+m≤nc→ ∃ R',MY E sz (.slice (some ⟨w.heap.size,0,none⟩) (n+m) nc) (n+m) (us++vs) R'∧Dv (w.drew.alloc (.cells ((us++vs).toArray++Builtin.zeroCells z.cells (nc - (n+m))) E (0,0))) g (R'++LF)∧
   Ef (An (R++LF)) w g (w.drew.alloc (.cells ((us++vs).toArray++Builtin.zeroCells z.cells (nc - (n+m))) E (0,0))) g∧De w (R++LF) (R'++LF):=fun nc hnc=>by
  obtain⟨k1,k2,k3⟩:=S8 hi (.cells ((us++vs).toArray++Builtin.zeroCells z.cells (nc - (n+m))) E (0,0))
  have hlen:(us++vs).length=(n+m)*sz:=by rw[AA,hul,hvl,C7]
  refine⟨[.raw w.heap.size (.cells ((us++vs).toArray++Builtin.zeroCells z.cells (nc - (n+m))) E (0,0))],.row hnc ?_ hlen ?_,k1,k2,k3⟩
  ·rw[Array.size_append,size_zeroCells,t6,Cg,hlen,←C7]
   congr 1;omega
  ·simp only[Array.toList_append]
   exact GL hlen
 cases hv with
 |nil o ho=>
  by_cases hs:m=0
  ·subst hs
   have hv0:vs= []:=BN (by simpa using hvl)
   subst hv0
   refine⟨.slice o 0 0,w,[],?_,.nil o ho,hi,.refl _ _ _,.refl _ _⟩
   have f2:=hf w rfl
   rcases hu with hu|⟨e,hu⟩<;>(simp[Builtin.append_,run_underlying t1,run_underlying hu,sizeOf,typeInfo,t2,t3,hl,f2];cases o<;>simp[storeCells])
  ·have hr:=grown 0 _ o (by omega) rfl (fun w' _=>by
    cases o with
    |none=>rfl
    |some a=>show(loadCells a (0*sz)).run P w'=_;rw[A0D];rfl) rfl
   obtain⟨R',k1,k2,k3,k4⟩:=res _ (grownCap_ge w (0+m) 0 E)
   exact⟨_,_,R',hr,k1,k2,k3,k4⟩
 |row hlc hs hu' hc=>
  rename_i r cap cur
  obtain⟨h1,h2,h3,hn,hiL⟩:=hi.rawHead
  by_cases hroom:n+m≤cap
  ·have hbk':w.heap[r]? =some (.cells cur.toList.toArray E (0,0)):=by simpa using h1
   have hfit:n*sz+m*sz≤cap*sz:=by rw[←C7];exact B6 _ hroom
   obtain⟨w',hrun,hb',hos,htp,hout,hsz',hkk⟩:=FZ (P:=P) vs w cur.toList (n*sz) 0 hbk' (by simp only[Cb,hs,hvl,Dt];exact hfit) hone
   refine⟨.slice (some ⟨r,0,none⟩) (n+m) cap,w',[.raw r (.cells (cur.toList.take (n*sz+0)++vs++cur.toList.drop (n*sz+0+vs.length)).toArray E (0,0))],?_,.row hroom ?_ ?_ ?_,hi.turnRaw hb' hkk,⟨hos,htp,hout,EF hsz'.symm,fun k _ hk=>hkk k (fun e=>hk (by simp[An,Res.block,e])),.refl g,fun _ _ _=>⟨fun _=>rfl,rfl⟩⟩,fun b hb _=>by simpa [An,Res.block]using hb⟩
   ·have f2:=hf w rfl
    rcases hu with hu|⟨e,hu⟩<;>simp[Builtin.append_,run_underlying t1,run_underlying hu,sizeOf,typeInfo,t2,t3,hl,hroom,f2,Dr,hrun]
   ·have h9:n*sz≤cap*sz:=B6 _ hlc
    simp only[Cg,AA,Aa,B4,Cb,hs,hvl,Dt,DP h9];omega
   ·rw[AA,hul,hvl,C7]
   ·rw[Dt,hc]
    exact GL (by rw[AA,hul,hvl,C7])
  ·have hr:=grown cap _ (some ⟨r,0,none⟩) hroom rfl (fun w' hw'=>by
    show(loadCells _ (n*sz)).run P w'=_
    rw[←hul]
    refine FS fun j hj=>?_
    have hj3:j < n*sz:=by omega
    have hj2:j < cur.toList.length:=by
     rw[Cb,hs]
     exact Fg hj3 (B6 _ hlc)
    simp only[World.cell?,hw',h1,CX,BQ,if_false,BC]
    have:us[j]=cur.toList[j]:=by
     have:=Kp hc.symm hj
     rw[this,FI]
    rw[this]
    simp[CN (show j < cur.size by simpa using hj2)]) rfl
   obtain⟨R',k1,k2,k3,k4⟩:=res _ (grownCap_ge w (n+m) cap E)
   exact⟨_,_,R',hr,k1,k2,k3,k4⟩
theorem WX {P:Program} {T T₂ E sz by_ ty:Nat} [hT:al P T E sz by_] (hu:P.underlying T₂=some .string∨ ∃ e,P.underlying T₂=some (.slice e)) {w:World} {g:Gh} {LF R:List Res} {v:Value} {n m:Nat} {us:List Value} (u:Value) (vs:List Value)
  (hi:Dv w g (R++LF)) (hv:MY E sz v n us R) (hl: ∀ w',(Builtin.lenOf u).run P w'= .ok m w') (hvl:vs.length=m*sz) (hone: ∀ x∈vs,x.oneCell'=true)
  (hf: ∀ w',(∀ b o x,g.H b o=some x→w'.cell? ⟨b,o,none⟩=some x)→(Builtin.firstCells sz m u).run P w'= .ok vs.toArray w') (hb:(n+m)*by_≤140737488355328) (hm:n+m≤140737488355328):
  ∃ v' w' R',(Builtin.append_ #[T,T₂] ty #[v,u]).run P w= .ok v' w'∧MY E sz v' (n+m) (us++vs) R'∧Dv w' g (R'++LF)∧Ef (An (R++LF)) w g w' g∧De w (R++LF) (R'++LF):=
 WV hu u vs hi hv hl hvl hone (fun w' e=>hf w' fun b o x h=>by
  have:=hi.sat b o x h
  simp only[World.cell?,e]at this ⊢
  exact this) hb hm
theorem raws_inv {g:Gh}: ∀ {us vs:List Value},ED g us (vs.map PV.raw)→us=vs
 | [],[],_=>rfl
 | [],_::_,h=>by have:=h.len;simp at this
 |_::_,[],h=>by have:=h.len;simp at this
 |u::us,v::vs,h=>by
  have h':=ED.uncons (xs:=vs.map PV.raw) h
  rw[h'.1.raw_inv,raws_inv h'.2]
class PK {α:Type} (f:α→List PV) (vf:outParam (α→List Value)):Prop where
 out: ∀ a,f a=(vf a).map PV.raw
 one: ∀ a,∀ x∈vf a,x.oneCell'=true
theorem SB {α:Type} {f:α→List PV} {vf:α→List Value} [h:PK f vf] (l:List α):(l.map f).flatten=(l.flatMap vf).map PV.raw:=by
 induction l with
 |nil=>rfl
 |cons x l ih=>rw[Ar,Ch,ih,h.out,DR,Aq]
theorem OC {α:Type} {f:α→List PV} {vf:α→List Value} {sz:Nat} [h:PK f vf] [hf:NS f sz] (l:List α):(l.flatMap vf).length=l.length*sz:=by
 have:=Dh (xs:=l.map f) (sz:=sz) (fun e he=>by obtain⟨a,_,rfl⟩:=AQ.1 he;exact hf.out a)
 rw[SB l]at this
 simpa using this
def K2 {α:Type} (vf:α→List Value) (E sz:Nat) (v:Value) (l:List α) (R:List Res):Prop:=MY E sz v l.length (l.flatMap vf) R
section
variable {P:Program} {N:Nat} {all:Array Oper} {K:Env→List Res→Prop} {fl:List Bool} {os:List Oper} {ρ:Env} {L:List Res} {d:Nat} {ty:TypeId} {pos:String} {af:Array Edge}
theorem Iy {T T₂ E E₂ sz by_:Nat} {α:Type} {f:α→List PV} {vf:α→List Value} [hT:al P T E sz by_] [h2:Ma P T₂ E₂] [hf:NS f sz] [hr:PK f vf] {x y:Operand} {v:Value} {l m:List α} {t:CC} {R LF:List Res} (F:List Res→List Res)
  (hx:ρ.ev x= .raw v) (hy:ρ.ev y= .slice (m.map f) t) (hv:K2 vf E sz v l R) (hp:L.Perm (R++LF)) (hq: ∀ R',(R'++LF).Perm (F R')) (hb:(l.length+m.length)*by_≤140737488355328) (hm:l.length+m.length≤140737488355328)
  (k: ∀ v' R',K2 vf E sz v' (l++m) R'→AU P N all K fl.tail os (CU ρ d (.raw v')) (F R')) (hd:Nat.blt d N=true:=by rfl) (hfl:fl.headD true=true:=by rfl):
  AU P N all K fl (⟨some d,.call { callee:= .builtin .append,args:= #[x,y],argTypes:= #[T,T₂] },ty,pos,af,none⟩::os) ρ L:=
 Dd rfl (Ph hd) hfl (Fk.perm hp fun a w g ha hi=>by
  have h1:=Cc ha (x:=x) (by simp[Op.operands,Call.operands]) hx
  have h3:=ha y (by simp[Op.operands,Call.operands])
  rw[hy]at h3
  obtain⟨base,cap,e,_,_,hnone,_,_,us,hus,hcell⟩:=h3.slice_cells (sz:=sz) (fun e he=>by obtain⟨a,_,rfl⟩:=AQ.1 he;exact hf.out a)
  rw[SB m]at hus
  have hus':=raws_inv hus
  subst hus'
  rw[AR]at e
  have hvl:(m.flatMap vf).length=m.length*sz:=OC (f:=f) m
  obtain⟨v',w',R',q1,q2,q3,q4,q5⟩:=WX (P:=P) (T:=T) (T₂:=T₂) (ty:=ty) (.inr ⟨_,h2.out⟩) (.slice base m.length cap) (m.flatMap vf) hi hv (fun _=>rfl) hvl (fun x hx=>by obtain⟨a,_,ha⟩:=Sw.1 hx;exact hr.one a x ha) (fun w' hs'=>by
   cases base with
   |none=>
    have h0:=(hnone rfl).1
    have:m= []:=by simpa using h0
    subst this;rfl
   |some ad=>
    obtain⟨b,o,sp⟩:=ad
    obtain⟨hs,hH⟩:=hcell _ rfl
    show(loadCells _ (m.length*sz)).run P w'=_
    rw[←hvl]
    exact J2 (hs.imp_left fun h=>by
     have:m= []:=by simpa using h.1
     subst this;rfl) fun j hj=>hs' _ _ _ (hH j hj)) hb hm
  have he:execOp a.eval ⟨some d,.call { callee:= .builtin .append,args:= #[x,y],argTypes:= #[T,T₂] },ty,pos,af,none⟩=(do pure (.value (←Builtin.append_ #[T,T₂] ty (#[x,y].map a.eval)))):=rfl
  have hrun:(execOp a.eval ⟨some d,.call { callee:= .builtin .append,args:= #[x,y],argTypes:= #[T,T₂] },ty,pos,af,none⟩).run P w= .ok (.value v') w':=by
   rw[he];simp[h1,e,q1]
  refine Oper.wq_of_run hrun ?_
  exact⟨v',.raw v',g,F R',rfl,.raw _,q3.perm (hq R'),q4,fun b hb hlt=>q5 b ((DX (hq R')).symm.subset hb) hlt,k v' R' (by unfold K2;rw[AA,FK];exact q2)⟩)
theorem df {T T' E:Nat} [hT:Ma P T E] {x:Operand} {xs:List (List PV)} {t:CC} (hx:ρ.ev x= .slice xs t) (k: ∀ b:Bool,(b=true→xs= [])→AU P N all K fl.tail os (CU ρ d (.raw (.bool b))) L) (hd:Nat.blt d N=true:=by rfl) (hfl:fl.headD true=true:=by rfl):
  AU P N all K fl (⟨some d,.binOp .eql T x (.const (.slice none 0 0)) T',ty,pos,af,none⟩::os) ρ L:=
 Dd rfl (Ph hd) hfl (fun a w g ha hi=>by
  have h1:=ha x (by simp[Op.operands])
  rw[hx]at h1
  have hs: ∃ o n c,a.eval x= .slice o n c∧(o=none→xs= []):=by
   generalize a.eval x=v at h1
   cases h1 with
   |nilN o ho=>exact⟨_,_,_,rfl,fun _=>rfl⟩
   |nilR=>exact⟨_,_,_,rfl,fun _=>rfl⟩
   |slice sz f hl hc hm hs hH hv ht hn=>exact⟨_,_,_,rfl,fun e=>by cases e⟩
  obtain⟨o,n,c,e,ho⟩:=hs
  have hrun:(execOp a.eval ⟨some d,.binOp .eql T x (.const (.slice none 0 0)) T',ty,pos,af,none⟩).run P w= .ok (.value (.bool o.isNone)) w:=by
   have h: ∀ d:Nat,(Op.equalIn (d+1) T (.slice o n c) (.slice none 0 0)).run P w= .ok o.isNone w:=fun d=>by
    cases o<;>simp[Op.equalIn,run_underlying hT.out]
   have hc:a.eval (.const (.slice none 0 0))= .slice none 0 0:=rfl
   simp only[execOp,e,hc]
   simp[eqGuard,binOp,Op.equal,Op.maxDepth,h 9999]
  refine Oper.wq_of_run hrun ?_
  exact⟨_,.raw (.bool o.isNone),g,L,rfl,.raw _,hi,.refl _ _ _,.refl _ _,k _ (fun h=>ho (by simpa using h))⟩)
theorem dm {α:Type} {vf:α→List Value} {T E sz by_:Nat} [hE:al P T E sz by_] (k: ∀ v,K2 vf E sz v [] []→AU P N all K fl.tail os (CU ρ d (.raw v)) L) (hd:Nat.blt d N=true:=by rfl) (hfl:fl.headD true=true:=by rfl):AU P N all K fl (⟨some d,.buildSlice T 0 #[],ty,pos,af,none⟩::os) ρ L:=
 Dd rfl (Ph hd) hfl (by
  intro a w g ha hi
  obtain⟨i,z,t1,t2,t3,t4,t5,t6,t7,t8⟩:=hE.out
  obtain⟨j1,j2,j3⟩:=hi.lay [] E
  have hr:(execOp a.eval ⟨some d,.buildSlice T 0 #[],ty,pos,af,none⟩).run P w= .ok (.value (.slice (some ⟨w.heap.size,0,none⟩) 0 0)) { w with heap:=w.heap.push (.cells [].toArray E (0,0)) }:=by
   show(do pure (Next.value (←Instr.buildSlice T 0 ((#[]:Array (Nat × Operand)).map fun(p:Nat × Operand)=>(p.1,a.eval p.2)))):Sem Next).run P w=_
   have hzv:(zeroValue E).run P w= .ok z w:=by simp[zeroValue,typeInfo,t2,t5]
   simp only[Instr.buildSlice,Sem.run_bind,run_underlying t1,Result.andThen_ok,sizeOf,typeInfo,run_program,t2,Sem.run_pure,t3]
   rw[if_neg (by simp)]
   split
   ·simp[Instr.fill,newRow];congr 2;apply Hy;simp
   ·simp[hzv,Instr.fill,newRow];congr 2;apply Hy;simp
  refine Oper.wq_of_run hr ?_
  exact⟨_,.raw _,_,L,rfl,.raw _,j1,j2,.refl _ _,k _ (.nil _ (fun a e=>by cases e;rfl))⟩)
end
section
variable {α:Type} {vf:α→List Value} {sz:Nat} (hl: ∀ a,(vf a).length=sz)
include hl
theorem Pr: ∀ (l:List α) (k:Nat) (h:k < l.length) (rest:List Value),((l.flatMap vf++rest).drop (k*sz)).take sz=vf l[k]
 |x::l,0,h,rest=>by
  rw[A0D,Lb,DR,AV]
  exact GL (hl x)
 |x::l,k+1,h,rest=>by
  rw[DR,AV,show(k+1)*sz=(vf x).length+k*sz by rw[hl,C7];omega,List.drop_append]
  simp only[DM]
  rw[DN (by omega),BB,show(vf x).length+k*sz - (vf x).length=k*sz by omega]
  exact Pr l k (by simpa using h) rest
theorem Zu: ∀ (l:List α) (k:Nat) (_:k < l.length) (d:α) (rest:List Value),(l.flatMap vf++rest).take (k*sz)++vf d++(l.flatMap vf++rest).drop (k*sz+sz)=(l.set k d).flatMap vf++rest
 |x::l,0,h,d,rest=>by
  rw[A0D,List.take_zero,BB,BC,DR,AV,qs (hl x),dK,DR,AV]
 |x::l,k+1,h,d,rest=>by
  have ih:=Zu l k (by simpa using h) d rest
  have e:(k+1)*sz=(vf x).length+k*sz:=by rw[hl,C7];omega
  rw[e,E9,DR,AV (vf x),PO,PQ,List.set_cons_succ,DR,AV (vf x),AV (vf x),ih,AV]
end
theorem K2.inv {α:Type} {vf:α→List Value} {sz E n c:Nat} {o:Option Addr} {R:List Res} {l:List α} (hv:K2 vf E sz (.slice o n c) l R) (h:l≠ []):
  n=l.length∧ ∃ r cur rest,o=some ⟨r,0,none⟩∧R= [.raw r (.cells cur E (0,0))]∧cur.toList=l.flatMap vf++rest∧cur.size=c*sz∧l.length≤c:=by
 unfold K2 at hv
 generalize hn:l.length=m at hv
 generalize hus:l.flatMap vf=us at hv
 cases hv with
 |nil o ho=>exact absurd (BN hn) h
 |row hl hs hu hc=>
  rename_i r cur
  refine⟨rfl,r,cur,cur.toList.drop (n*sz),rfl,rfl,?_,hs,by omega⟩
  rw[←hc,Bf]
theorem K2.mk {α:Type} {vf:α→List Value} {sz E c r:Nat} {cur:Array Value} {l:List α} {rest:List Value} (hl: ∀ a,(vf a).length=sz) (h1:cur.toList=l.flatMap vf++rest) (h2:cur.size=c*sz) (h3:l.length≤c):K2 vf E sz (.slice (some ⟨r,0,none⟩) l.length c) l [.raw r (.cells cur E (0,0))]:=by
 have h4:(l.flatMap vf).length=l.length*sz:=by
  clear h1 h3
  induction l with
  |nil=>simp
  |cons x l ih=>rw[DR,AA,hl,ih,AL,C7];omega
 exact .row h3 h2 h4 (by rw[h1];exact GL h4)
theorem K2.freeze {α:Type} {f:α→List PV} {vf:α→List Value} {sz E:Nat} [hr:PK f vf] [hf:NS f sz] {w:World} {g:Gh} {R L':List Res} {v:Value} {l:List α} (hi:Dv w g (R++L')) (hv:K2 vf E sz v l R) (hm:l.length≤maxN∧l.length*sz≤maxN):
  ∃ g',Dv w g' L'∧Ef (An (R++L')) w g w g'∧De w (R++L') L'∧VR g' v (.slice (l.map f) .ro):=by
 have hlen:(l.flatMap vf).length=l.length*sz:=OC (f:=f) l
 unfold K2 at hv
 generalize hus:l.flatMap vf=us at hv
 generalize hn:l.length=n at hv
 cases hv with
 |nil o ho=>
  have h0:l= []:=BN hn
  subst h0
  exact⟨g,hi,.refl _ _ _,.refl _ _,(VR.nilN o ho).ro⟩
 |row hl hs hu hc=>
  rename_i r cap cur
  obtain⟨k1,k2,k3,k4,k5⟩:=hi.rawHead
  have hle:=Gh.le_lay (g:=g) (b:=r) (from_:=0) (us:=us) (fun o _=>k2 o)
  have hcs:us.length≤cur.size:=by rw[hu,hs];exact B6 _ hl
  have hcell: ∀ j (hj:j < us.length),w.cell? ⟨r,j,none⟩=some us[j]:=fun j hj=>by
   have hj2:j < cur.size:=by omega
   simp only[World.cell?,k1,CX,BQ,if_false]
   rw[CN hj2]
   have:=Kp hc (i:=j) (by rw[hc];exact hj)
   rw[←this,FI]
   simp
  refine⟨g.lay r 0 us,⟨fun b' o v hv=>?_,fun b' z hz=>hi.satM b' z hz,fun r' hr'=>?_,k5.nodup,hi.glob.mono hle⟩,⟨rfl,rfl,⟨rfl,Ak _⟩,Ak _,fun _ _ _=>rfl,hle,fun k _ hn=>⟨fun o=>Gh.lay_out (fun h=>hn (by rw[h.1];simp[An,Res.block])),rfl⟩⟩,fun b hb _=>by simp only[An,B3,BB,Az,Res.block];exact AJ _ hb,?_⟩
  ·by_cases hin:b'=r∧0≤o∧o < 0+us.length
   ·obtain⟨rfl,_,h6⟩:=hin
    have hj:o < us.length:=by omega
    have:=Gh.lay_in (g:=g) (b:=b') (from_:=0) hj
    rw[BC,hv]at this
    cases this
    exact hcell o hj
   ·rw[Gh.lay_out hin]at hv;exact hi.sat b' o v hv
  ·exact Res.holds_kept hle (k5.res r' hr') fun b' hb'=>⟨rfl,fun o=>Gh.lay_out (fun h=>k4 (Bz.2 ⟨r',hr',by rw[hb',h.1]⟩)),rfl⟩
  ·subst hn
   have huv:ED (g.lay r 0 us) us (l.map f).flatten:=by
    rw[SB l,hus]
    exact⟨by simp,fun i h1 h2=>by simp;exact .raw _⟩
   have:=VR.of_cells (g:=g.lay r 0 us) (xs:=l.map f) (t:= .ro) (sz:=sz) (b:=r) (off:=0) (cap:=cap) (fun e he=>by obtain⟨a,_,rfl⟩:=AQ.1 he;exact hf.out a) (by simpa using hl) (by simpa using hm) (us:=us) huv (fun j hj=>by
    have:=Gh.lay_in (g:=g) (b:=r) (from_:=0) hj
    rw[BC]at this ⊢
    exact this) (fun b' cap' e=>by cases e) (by simp)
   simpa using this
section
variable {P:Program} {N:Nat} {all:Array Oper} {K:Env→List Res→Prop} {fl:List Bool} {os:List Oper} {ρ:Env} {L:List Res} {d:Nat} {ty:TypeId} {pos:String} {af:Array Edge}
theorem Fi {T:TypeId} {E sz by_:Nat} [hT:Ma P T E] [hE:Ea P E sz by_] {x y:Operand} {r off n c k:Nat} {kk:IntKind} (hx:ρ.ev x= .raw (.slice (some ⟨r,off,none⟩) n c)) (hy:ρ.ev y= .raw (.int kk (k:Int))) (hk:k < n)
  (kk':AU P N all K fl.tail os (CU ρ d (.raw (.pointer (some ⟨r,off+k*sz,none⟩)))) L) (hd:Nat.blt d N=true:=by rfl):
  AU P N all K fl (⟨some d,.indexAddr T x y,ty,pos,af,none⟩::os) ρ L:=
 Bk hd (B9 fun a w g ha hi=>by
  have h1:=Cc ha (x:=x) (by simp[Op.operands]) hx
  have h2:=Cc ha (x:=y) (by simp[Op.operands]) hy
  refine⟨.pointer (some ⟨r,off+k*sz,none⟩),?_,.raw _⟩
  simp only[execOp,Instr.indexAt,h2,h1,asIntOf,Sem.run_bind,Sem.run_pure,Result.andThen_ok,IQ hT.out]
  simp only[Bool.and_false,BQ,if_false]
  rw[if_pos ⟨by omega,by omega⟩]
  simp[Ea.run hE,Dr]) kk'
theorem Oj {α:Type} {f:α→List PV} {vf:α→List Value} {T sz:Nat} [hT:FA P T sz] [hr:PK f vf] {x:Operand} {r off E:Nat} {p:Nat × Nat} {cur:Array Value} {a0:α} (hx:ρ.ev x= .raw (.pointer (some ⟨r,off,none⟩))) (hm:Res.raw r (.cells cur E p)∈L) (hv:(cur.toList.drop off).take sz=vf a0) (hle:off+sz≤cur.size)
  (k:AU P N all K fl.tail os (CU ρ d (.agg (f a0))) L) (hd:Nat.blt d N=true:=by rfl):AU P N all K fl (⟨some d,.load T x,ty,pos,af,none⟩::os) ρ L:=
 Bk hd (B9 fun a w g ha hi=>by
  have h1:=Cc ha (x:=x) (by simp[Op.operands]) hx
  obtain⟨hb,_,_⟩:=hi.res _ hm
  have hlen:(vf a0).length=sz:=by rw[←hv];simp;omega
  refine⟨.agg (vf a0).toArray,?_,?_⟩
  ·have:=LA hT.out (w:=w) (b:=r) (o:=off) (vs:=vf a0) hlen (fun j hj=>by
    have hj2:off+j < cur.size:=by omega
    simp only[World.cell?,hb,CX,BQ,if_false]
    rw[CN hj2]
    have:=Kp hv (i:=j) (by rw[hv];exact hj)
    rw[←this]
    simp)
   simp only[execOp,Instr.loadAt,h1,Instr.sureAddr,Sem.run_bind,Sem.run_pure,Result.andThen_ok,this]
  ·rw[hr.out]
   have:ED g (vf a0) ((vf a0).map PV.raw):=⟨by simp,fun i h1 h2=>by simp;exact .raw _⟩
   exact this.agg) k
theorem o6 {α:Type} {f:α→List PV} {vf:α→List Value} {T sz by_:Nat} [hT:Ea P T sz by_] [hr:PK f vf] {x y:Operand} {r off E:Nat} {cur:Array Value} {a0:α} {L':List Res} (F:Res→List Res) (hx:ρ.ev x= .raw (.pointer (some ⟨r,off,none⟩))) (hy:ρ.ev y= .agg (f a0)) (hlen:(vf a0).length=sz) (hle:off+sz≤cur.size)
  (hp:L.Perm (.raw r (.cells cur E (0,0))::L')) (hq: ∀ c,(c::L').Perm (F c))
  (k:AU P N all K fl.tail os ρ (F (.raw r (.cells (cur.toList.take off++vf a0++cur.toList.drop (off+sz)).toArray E (0,0))))) (hfl:fl.headD true=true:=by rfl):AU P N all K fl (⟨none,.store T x y,ty,pos,af,none⟩::os) ρ L:=
 Dd rfl (fun _ e=>by cases e) hfl (Fk.perm hp fun a w g ha hi=>by
  have h1:=Cc ha (x:=x) (by simp[Op.operands]) hx
  have h2:=ha y (by simp[Op.operands])
  rw[hy]at h2
  obtain⟨us,e,hus⟩:=h2.agg_inv
  rw[hr.out]at hus
  have hus':=raws_inv hus
  subst hus'
  obtain⟨k1,k2,k3,k4,k5⟩:=hi.rawHead
  obtain⟨w',hrun,hb',hos,htp,hout,hsz,hk⟩:=FZ (P:=P) (vf a0) w cur.toList off 0 (by simpa using k1) (by simpa [hlen]using hle) (hr.one a0)
  have hrn:(execOp a.eval ⟨none,.store T x y,ty,pos,af,none⟩).run P w= .ok .skip w':=by
   simp only[execOp,Instr.storeAt,h1,Instr.sureAddr,Sem.run_bind,Sem.run_pure,Result.andThen_ok,storeVar,Ea.run hT,e,Value.cells,Cg]
   rw[if_neg (by rw[hlen];simp)]
   simp[hrun]
  rw[Dt,hlen]at hb'
  refine Oper.wq_of_run hrn ?_
  exact⟨undef,.raw undef,g,_,rfl,.raw _,(hi.turnRaw hb' hk).perm (hq _),⟨hos,htp,hout,EF hsz.symm,fun b _ hn=>hk b (fun e=>hn (by simp[An,Res.block,e])),.refl g,fun _ _ _=>⟨fun _=>rfl,rfl⟩⟩,
   fun b hb _=>by
    have:=(DX (hq _)).symm.subset hb
    simpa [An,Res.block]using this,k⟩)
theorem H0 {α:Type} {f:α→List PV} {vf:α→List Value} {sz E:Nat} [hr:PK f vf] [hf:NS f sz] {R L':List Res} {v:Value} {l:List α} {c:Code} {Q:PPost} (i:Nat) (hv:K2 vf E sz v l R) (hm:l.length≤maxN∧l.length*sz≤maxN) (hp:L.Perm (R++L')) (hi:ρ i= .raw v) (k:ER P N c Q (CU ρ i (.slice (l.map f) .ro)) L'):ER P N c Q ρ L:=
 KQ (fun base a w g ha hI=>by
  obtain⟨g',h1,h2,h3,h4⟩:=K2.freeze (f:=f) (hI.perm hp) hv hm
  refine⟨g',⟨ha.size,ha.defers.mono h2.le,fun j=>?_⟩,h1,h2.grow (fun b hb=>(DX hp).symm.subset hb),fun b hb hlt=>(DX hp).symm.subset (h3 b hb hlt)⟩
  have hj:=(ha.slot j).mono h2.le
  by_cases e:j=i
  ·subst e
   rw[hi]at hj
   show VR g' _ (CU ρ j _ j)
   rw[DB,hj.raw_inv];exact h4
  ·show VR g' _ (CU ρ i _ j)
   rw[H6 _ _ e];exact hj) k
theorem Ny {T E sz by_:Nat} [hT:Ma P T E] [hE:Ea P E sz by_] {x:Operand} {lo hi:Option Operand} {r off n c:Nat} (i j:Nat) (hx:ρ.ev x= .raw (.slice (some ⟨r,off,none⟩) n c)) (hij:i≤j) (hj:j≤n) (hc:i < c) (hnc:n≤c)
  (hlo: ∀ o,lo=some o→ ∃ k,ρ.ev o= .raw (.int k i)) (hlo':lo=none→i=0) (hhi: ∀ o,hi=some o→ ∃ k,ρ.ev o= .raw (.int k j)) (hhi':hi=none→j=n)
  (k:AU P N all K fl.tail os (CU ρ d (.raw (.slice (some ⟨r,off+i*sz,none⟩) (j - i) (c - i)))) L) (hd:Nat.blt d N=true:=by rfl):
  AU P N all K fl (⟨some d,.slice T x lo hi none,ty,pos,af,none⟩::os) ρ L:=
 Bk hd (B9 fun a w g ha hI=>by
  have e1:=Cc ha (x:=x) (by simp[Op.operands]) hx
  have hbl: ∀ o,lo=some o→ ∃ k,a.eval o= .int k i:=fun o e=>by
   obtain⟨k,hk⟩:=hlo o e
   exact⟨k,Cc ha (by simp[Op.operands,e]) hk⟩
  have hbh: ∀ o,hi=some o→ ∃ k,a.eval o= .int k j:=fun o e=>by
   obtain⟨k,hk⟩:=hhi o e
   exact⟨k,Cc ha (by simp[Op.operands,e]) hk⟩
  have hbounds:(Instr.sliceBounds true n c (lo.map a.eval) (hi.map a.eval) none).run P w= .ok (i,j,c) w:=by
   unfold Instr.sliceBounds
   cases lo with
   |none=>
    have:=hlo' rfl;subst this
    cases hi with
    |none=>have:=hhi' rfl;subst this;simp
    |some o=>
     obtain⟨k,hk⟩:=hbh o rfl
     simp[hk,Instr.sliceBound,asIntOf]
     omega
   |some o=>
    obtain⟨k,hk⟩:=hbl o rfl
    cases hi with
    |none=>
     have:=hhi' rfl;subst this
     simp[hk,Instr.sliceBound,asIntOf]
     omega
    |some o'=>
     obtain⟨k',hk'⟩:=hbh o' rfl
     simp[hk,hk',Instr.sliceBound,asIntOf]
     rw[if_pos (by omega)]
     simp
     omega
  refine⟨.slice (some ⟨r,off+i*sz,none⟩) (j - i) (c - i),?_,.raw _⟩
  show(do pure (Next.value (←Instr.sliceAt T (a.eval x) (lo.map a.eval) (hi.map a.eval) none)):Sem Next).run P w=_
  simp only[Instr.sliceAt,Sem.run_bind,run_underlying hT.out,Result.andThen_ok,Instr.slice,e1,hbounds,Ea.run hE,Sem.run_pure]
  rw[if_neg (by omega)]
  simp[Dr]) k
theorem bT {T E sz by_:Nat} [hT:al P T E sz by_] (hz: ∀ i z,P.info? E=some i→i.zero=some z→ ∀ x∈z.cells,x.oneCell'=true) {x:Operand} {r off n c:Nat} {cur:Array Value} {L':List Res} (F:Res→List Res) (hx:ρ.ev x= .raw (.slice (some ⟨r,off,none⟩) n c)) (hn:0 < n) (hle:off+n*sz≤cur.size)
  (hp:L.Perm (.raw r (.cells cur E (0,0))::L')) (hq: ∀ c,(c::L').Perm (F c))
  (k: ∀ zs:List Value,zs.length=n*sz→AU P N all K fl.tail os ρ (F (.raw r (.cells (cur.toList.take off++zs++cur.toList.drop (off+n*sz)).toArray E (0,0))))) (hfl:fl.headD true=true:=by rfl):
  AU P N all K fl (⟨none,.call { callee:= .builtin .clear,args:= #[x],argTypes:= #[T] },ty,pos,af,none⟩::os) ρ L:=
 Dd rfl (fun _ e=>by cases e) hfl (Fk.perm hp fun a w g ha hi=>by
  have h1:=Cc ha (x:=x) (by simp[Op.operands,Call.operands]) hx
  obtain⟨i,z,t1,t2,t3,t4,t5,t6,t7,t8⟩:=hT.out
  obtain⟨k1,k2,k3,k4,k5⟩:=hi.rawHead
  have hzl:(Builtin.zeroCells z.cells n).toList.length=n*sz:=by rw[Cb,size_zeroCells,t6]
  have hz1: ∀ x∈(Builtin.zeroCells z.cells n).toList,x.oneCell'=true:=fun x hx=>by
   simp only[Builtin.zeroCells,Array.toList_map,AQ]at hx
   obtain⟨j,_,rfl⟩:=hx
   have hj:j % z.cells.size < z.cells.size:=dJ _ (by rw[t6];omega)
   rw[getElem!_pos z.cells _ hj]
   exact hz i z t2 t5 _ (Array.getElem_mem hj)
  obtain⟨w',hrun,hb',hos,htp,hout,hsz,hk⟩:=FZ (P:=P) (Builtin.zeroCells z.cells n).toList w cur.toList off 0 (by simpa using k1) (by rw[hzl];simpa using hle) hz1
  have he:execOp a.eval ⟨none,.call { callee:= .builtin .clear,args:= #[x],argTypes:= #[T] },ty,pos,af,none⟩=(do pure (.value (←Builtin.clear_ #[T] ty (#[x].map a.eval)))):=rfl
  have hr:(execOp a.eval ⟨none,.call { callee:= .builtin .clear,args:= #[x],argTypes:= #[T] },ty,pos,af,none⟩).run P w= .ok (.value (.tuple #[])) w':=by
   rw[he]
   obtain⟨m,rfl⟩: ∃ m,n=m+1:=⟨n - 1,by omega⟩
   simp[Builtin.clear_,h1,run_underlying t1,zeroValue,typeInfo,t2,t5,hrun]
  rw[Dt,hzl]at hb'
  refine Oper.wq_of_run hr ?_
  exact⟨_,.raw _,g,_,rfl,.raw _,(hi.turnRaw hb' hk).perm (hq _),⟨hos,htp,hout,EF hsz.symm,fun b _ hn=>hk b (fun e=>hn (by simp[An,Res.block,e])),.refl g,fun _ _ _=>⟨fun _=>rfl,rfl⟩⟩,
   fun b hb _=>by
    have:=(DX (hq _)).symm.subset hb
    simpa [An,Res.block]using this,k _ hzl⟩)
end
structure A0V (b:Nat) (kvs:List (PV × PV)) (r r':Res):Prop where
 block:r'.block=r.block
 holds: ∀ w g,VR g (.map (some b)) (.fmap kvs)→r.holds w g→r'.holds w g
section
variable {P:Program} {N:Nat} {ρ:Env} {L:List Res} {Q:PPost} {c:Code}
end
end Go.Q
