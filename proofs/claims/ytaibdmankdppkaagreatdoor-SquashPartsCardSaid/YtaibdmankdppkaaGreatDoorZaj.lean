/- The small logic: arrays of words; a walk for code on words (printed by a program). Library, no statement of its own. -/
import Derived.Test.YtaibdmankdppkaaGreatDoorZae
import Derived.Test.YtaibdmankdppkaaGreatDoorZai
import Derived.Test.YtaibdmankdppkaaGreatDoorZaf
import Derived.Test.YtaibdmankdppkaaGreatDoorZad
import Derived.Test.YtaibdmankdppkaaGreatDoorProg
import Derived.Shelf.LaysM
import Derived.Shelf.Strconv.Itoa3
import Derived.Shelf.SlSortCmp.NoneTotal
import Derived.Shelf.SlGeneric
import Derived.Ground.SlsfProg
set_option linter.unusedSimpArgs false
set_option linter.unusedVariables false
set_option maxHeartbeats 8000000
namespace Go.Q
open Go
section
variable {P:Program} {N:Nat} {all:Array Oper} {K:Env→List Res→Prop} {fl:List Bool} {os:List Oper} {ρ:Env} {L:List Res} {Q:PPost} {c:Code} {d:Nat} {ty:TypeId} {pos:String} {af:Array Edge}
theorem fW {T n E sz by_:Nat} [hT:VM P T n E] [hE:Ea P E sz by_] {x y:Operand} {b off:Nat} {kk:IntKind} {i:Nat} (hx:ρ.ev x= .raw (.pointer (some ⟨b,off,none⟩))) (hy:ρ.ev y= .raw (.int kk (@OfNat.ofNat Int i _))) (hi:i < n)
  (k:AU P N all K fl.tail os (CU ρ d (.raw (.pointer (some ⟨b,off+(@OfNat.ofNat Nat i _)*sz,none⟩)))) L) (hd:Nat.blt d N=true:=by rfl):AU P N all K fl (⟨some d,.indexAddr T x y,ty,pos,af,none⟩::os) ρ L:=
 QZ (i:=i) hx hy hi k hd
theorem fX {T n E sz by_:Nat} [hT:VM P T n E] [hE:Ea P E sz by_] {x y:Operand} {b off:Nat} {kk:IntKind} {i:Int} (hx:ρ.ev x= .raw (.pointer (some ⟨b,off,none⟩))) (hy:ρ.ev y= .raw (.int kk i)) (h0:0≤i) (hi:i.toNat < n)
  (k:AU P N all K fl.tail os (CU ρ d (.raw (.pointer (some ⟨b,off+i.toNat*sz,none⟩)))) L) (hd:Nat.blt d N=true:=by rfl):AU P N all K fl (⟨some d,.indexAddr T x y,ty,pos,af,none⟩::os) ρ L:=
 QZ (i:=i.toNat) hx (by rw[hy,Int.toNat_of_nonneg h0]) hi k hd
theorem fV {T:TypeId} [hT:SK P T] {x y:Operand} {s:Str} {ax:PV} {kk:IntKind} {n:Int} (hx:ρ.ev x=ax) [jx:K7 ax s] (hy:ρ.ev y= .raw (.int kk n)) (h0:0≤n) (hn:n.toNat < s.length) (k:AU P N all K fl.tail os (CU ρ d (.raw (.int .u8 ((s.getD n.toNat 0).toNat:Int)))) L) (hd:Nat.blt d N=true:=by rfl):
  AU P N all K fl (⟨some d,.index T x y,ty,pos,af,none⟩::os) ρ L:=
 Yg (n:=n.toNat) hx (by rw[hy,Int.toNat_of_nonneg h0]) hn (by have e:s[n.toNat]=s.getD n.toNat 0:=by simp[List.getD,hn]
                                                              rw[e];exact k) hd
theorem KO {T n E by_:Nat} {z:List PV} [hT:VM P T n E] [hE:Ea P E 1 by_] [hZ:Ck P T z] {parts:Array (Nat × Operand)} (xs:List Operand) (ws:List Nat) (hp:parts=(xs.zipIdx.map fun p=>(p.2,p.1)).toArray) (hx:xs.map ρ.ev=eW ws) (hz:z.length=ws.length) (hn:xs.length=ws.length)
  (k:AU P N all K fl.tail os (CU ρ d (.agg (eW ws))) L) (hd:Nat.blt d N=true:=by rfl):AU P N all K fl (⟨some d,.build T parts,ty,pos,af,none⟩::os) ρ L:=by
 subst hp;exact jt ws hx hz hn k hd
theorem je {T T':TypeId} {x y:Operand} {m n:Nat} (hx:ρ.ev x= .raw (.int .i64 (m:Int))) (hy:ρ.ev y= .raw (.int .i64 (@OfNat.ofNat Int n _))) (hn:n≠0) (hm:m≤9223372036854775807) (k:AU P N all K fl.tail os (CU ρ d (.raw (.int .i64 ((m / (@OfNat.ofNat Nat n _):Nat):Int)))) L) (hd:Nat.blt d N=true:=by rfl):
  AU P N all K fl (⟨some d,.binOp .quo T x y T',ty,pos,af,none⟩::os) ρ L:=YY (n:=n) hx hy hn hm k hd
theorem bP {T T':TypeId} {x y:Operand} {m n:Nat} (hx:ρ.ev x= .raw (.int .i64 (m:Int))) (hy:ρ.ev y= .raw (.int .i64 (@OfNat.ofNat Int n _))) (hn:n≠0) (k:AU P N all K fl.tail os (CU ρ d (.raw (.int .i64 ((m % (@OfNat.ofNat Nat n _):Nat):Int)))) L) (hd:Nat.blt d N=true:=by rfl):
  AU P N all K fl (⟨some d,.binOp .rem T x y T',ty,pos,af,none⟩::os) ρ L:=YX (n:=n) hx hy hn k hd
theorem xY {A B:Prop} (k:B) (h:OY B→A:=by
  intro hB
  first
   |(refine lS ?_;first|refine KD (by(conv=>lhs;whnf);done) ?_)
   |(refine Zo ?_;first|refine Vi (by(conv=>lhs;whnf);done) ?_)
   |(refine lU ?_;first|refine dY (by rfl) (by repeat(first|exact AG|apply AJ)) (by omega) ?_|refine Yc (by rfl) (by repeat(first|exact AG|apply AJ)) (hl:=(by first|infer_instance|fail)) ?_|refine da (by rfl) (by repeat(first|exact AG|apply AJ)) (by omega) ?_)
   |(refine ry ?_;first|refine bR (by rfl) (hr:=(by first|infer_instance|fail)) ?_|refine de (by rfl) (by(conv=>lhs;whnf);done) ?_)
   |(refine ru ?_;first|refine jk (by rfl) ?_|refine jj (by(conv=>lhs;whnf);done) (jx:=(by first|infer_instance|fail)) ?_|refine jl (by rfl) ?_)
   |(refine cR ?_;first|refine XT (by(conv=>lhs;whnf);done) (hN0:=(by first|infer_instance|fail)) (hc:=(by first|infer_instance|fail)) ?_|refine eL (by(conv=>lhs;whnf);done) (by(conv=>lhs;whnf);done) (hN0:=(by first|infer_instance|fail)) (hN1:=(by first|infer_instance|fail)) (hc:=(by first|infer_instance|fail)) ?_|refine eK (by(conv=>lhs;whnf);done) (by(conv=>lhs;whnf);done) (by(conv=>lhs;whnf);done) (hN0:=(by first|infer_instance|fail)) (hN1:=(by first|infer_instance|fail)) (hN2:=(by first|infer_instance|fail)) (hc:=(by first|infer_instance|fail)) ?_|refine eN (hc:=(by first|infer_instance|fail)) ?_|refine eJ (by(conv=>lhs;whnf);done) (by(conv=>lhs;whnf);done) (by(conv=>lhs;whnf);done) (by(conv=>lhs;whnf);done) (hN0:=(by first|infer_instance|fail)) (hN1:=(by first|infer_instance|fail)) (hN2:=(by first|infer_instance|fail)) (hN3:=(by first|infer_instance|fail)) (hc:=(by first|infer_instance|fail)) ?_|refine j_call5 (by(conv=>lhs;whnf);done) (by(conv=>lhs;whnf);done) (by(conv=>lhs;whnf);done) (by(conv=>lhs;whnf);done) (by(conv=>lhs;whnf);done) (hN0:=(by first|infer_instance|fail)) (hN1:=(by first|infer_instance|fail)) (hN2:=(by first|infer_instance|fail)) (hN3:=(by first|infer_instance|fail)) (hN4:=(by first|infer_instance|fail)) (hc:=(by first|infer_instance|fail)) ?_|refine j_call6 (by(conv=>lhs;whnf);done) (by(conv=>lhs;whnf);done) (by(conv=>lhs;whnf);done) (by(conv=>lhs;whnf);done) (by(conv=>lhs;whnf);done) (by(conv=>lhs;whnf);done) (hN0:=(by first|infer_instance|fail)) (hN1:=(by first|infer_instance|fail)) (hN2:=(by first|infer_instance|fail)) (hN3:=(by first|infer_instance|fail)) (hN4:=(by first|infer_instance|fail)) (hN5:=(by first|infer_instance|fail)) (hc:=(by first|infer_instance|fail)) ?_)
   |(refine g_bi ?_;first|refine s_min (by rfl) (by rfl) ?_|refine s_max (by rfl) (by rfl) ?_)
   |(refine eU ?_;first|refine rP (by rfl) (by rfl) ?_|refine rQ (by rfl) (by rfl) ?_|refine rR (by rfl) (by rfl) ?_|refine rZ (by rfl) (by rfl) (by constructor<;>omega) ?_|refine rF (by rfl) (by rfl) (by constructor<;>omega) ?_|refine rU (by(conv=>lhs;whnf);done) (by(conv=>lhs;whnf);done) (jx:=(by first|infer_instance|fail)) (jy:=(by first|infer_instance|fail)) (by first|omega|(simp only[AA,AL,Af,BC];omega)) ?_|refine rM (by rfl) (by rfl) (by constructor<;>omega) ?_|refine kE (by rfl) (by rfl) ?_|refine jW (by rfl) (by rfl) ?_|refine kD (by rfl) (by rfl) ?_|refine rI (by rfl) (by rfl) ?_|refine jb (by rfl) (by rfl) ?_|refine jd (by rfl) (by rfl) ?_|refine jc (by rfl) (by rfl) ?_|refine X1 (by rfl) (by rfl) (by omega) (by omega) ?_|refine X2 (by rfl) (by rfl) (by omega) ?_|refine je (by rfl) (by rfl) (by decide) (by omega) ?_|refine bP (by rfl) (by rfl) (by decide) ?_)
   |(refine xw ?_;first|refine fW (by rfl) (by rfl) (by decide) ?_|refine QZ (by rfl) (by rfl) (by omega) ?_|refine fX (by rfl) (by rfl) (by omega) (by omega) ?_)
   |(refine xu ?_;first|refine rJ (by rfl) ?_|refine rL (by rfl) (by constructor<;>omega) ?_|refine jf (by rfl) ?_)
   |(refine Xa ?_;first|refine YT (by rfl) (by rfl) (hB:=(by first|infer_instance|fail)) (hu:=(by first|infer_instance|fail)) (hf:=(by first|infer_instance|fail)) (hlen:=(by first|infer_instance|fail)) (hcs:=(by first|infer_instance|fail)) ?_|refine TV (by rfl) (by rfl) (by repeat(first|exact AG|apply AJ)) (by omega) (hu:=(by first|infer_instance|fail)) ?_|refine YU (by rfl) (by rfl) (by repeat(first|exact AG|apply AJ)) (by omega) (hu:=(by first|infer_instance|fail)) ?_)
   |(refine xy ?_;first|refine rY ?_|refine rV (by(conv=>lhs;whnf);done) (hC0:=(by first|infer_instance|fail)) (hf:=(by first|infer_instance|fail)) (by decide) ?_)
   |(refine eT ?_;first|refine Yj ?_|refine Vg ?_)
   |(refine Xb ?_;first|refine jo (by rfl) (by rfl) (by omega) ?_|refine jq (by rfl) (by rfl) (by omega) ?_|refine X6 (by(conv=>lhs;whnf);done) (by rfl) (by rfl) (jx:=(by first|infer_instance|fail)) (by omega) (by omega) (by omega) ?_|refine dh (by(conv=>lhs;whnf);done) (by rfl) (jx:=(by first|infer_instance|fail)) (by omega) (by omega) ?_|refine YW (by rfl) ?_)
   |(refine lV ?_;first|refine dj (by rfl) ?_|refine di (by rfl) ?_|refine TC (by rfl) (by omega) ?_|refine jX (by rfl) ?_|refine YS (by rfl) (by repeat(first|exact AG|apply AJ)) (hs:=(by first|infer_instance|fail)) ?_)
   |(refine eR ?_;first|refine fV (by(conv=>lhs;whnf);done) (by rfl) (jx:=(by first|infer_instance|fail)) (by omega) (by omega) ?_)
  exact hB.out):A:=h ⟨k⟩
theorem E5 {A B:Prop} (k:B) (h:OY B→A:=by
  intro hB
  repeat(first
   |refine AE ?_
   |refine xY ?_
   |refine DZ ?_
   |refine CK (by kernel_rfl) ?_
   |refine Il ?_
   |refine HQ ?_
   |refine KI ?_
   |refine Gv ?_
   |refine GW (by decide+kernel) ?_
   |refine Ij (by rfl) ?_
   |refine Ik (by rfl) ?_)
  exact hB.out):A:=h ⟨k⟩
theorem JI {A B:Prop} (k:B) (h:OY B→A:=by
  intro hB
  refine E5 ?_
  exact hB.out):A:=h ⟨k⟩
theorem Jw {A:Prop} {B:Nat→Prop} (k: ∀ b,B b) (h:Kl B→A:=by
  intro hB
  refine E5 ?_
  first|refine Yk (by rfl) fun b=>?_|refine Bx fun b=>?_
  refine E5 ?_
  exact hB.out b):A:=h ⟨k⟩
theorem Iv {A:Prop} {B:Nat→Prop} (k: ∀ b,B b) (h:Kl B→A:=by
  intro hB
  refine Jw fun b=>?_
  exact hB.out b):A:=h ⟨k⟩
theorem Nu {A B:Prop} (k:B) (h:OY B→A:=by
  intro hB
  repeat(first
   |refine AE ?_
   |refine xY ?_
   |refine DZ ?_
   |refine CK (by kernel_rfl) ?_
   |refine Il ?_
   |refine HQ ?_
   |refine KI ?_
   |refine Gv ?_
   |refine Ij (by rfl) ?_
   |refine Ik (by rfl) ?_)
  exact hB.out):A:=h ⟨k⟩
theorem Wj {A B:Prop} (k:B) (h:OY B→A:=by
  intro hB
  refine Nu ?_
  exact hB.out):A:=h ⟨k⟩
end
end Go.Q
namespace Go.Proofs
open Go Go.Q
attribute [local irreducible] ER AU BA Fk
def Gi (a n:Nat):Nat:=fy (Wy a n) (YR a (32 - n))
instance Gz (a n:Nat) [hs:B0 (n≤32)]:C8 Tryz.prog 259 [.raw (.int .u32 (a:Int)),.raw (.int .u64 (n:Int))] (.raw (.int .u32 (Gi a n:Nat))):=⟨by
 refine Av Tryz.func259 Tryz.ntmps259 rfl (rs:= [.tmp 4]) rfl rfl fun hb LF=>?_
 have hn:=hs.out
 refine E5 ?_
 refine X1 (a:=32) (by rfl) (by rfl) hn (by decide) ?_
 refine JI ?_
 refine B1 (.of_eq ?_)
 rfl⟩
instance yp (a:Nat):C8 Tryz.prog 259 [.raw (.int .u32 (a:Int)),.raw (.int .u64 2)] (.raw (.int .u32 (Gi a 2:Nat))):=by
 have:B0 ((2:Nat)≤32):=⟨by decide⟩
 exact Gz a 2
instance yo (a:Nat):C8 Tryz.prog 259 [.raw (.int .u32 (a:Int)),.raw (.int .u64 6)] (.raw (.int .u32 (Gi a 6:Nat))):=by
 have:B0 ((6:Nat)≤32):=⟨by decide⟩
 exact Gz a 6
instance yn (a:Nat):C8 Tryz.prog 259 [.raw (.int .u32 (a:Int)),.raw (.int .u64 7)] (.raw (.int .u32 (Gi a 7:Nat))):=by
 have:B0 ((7:Nat)≤32):=⟨by decide⟩
 exact Gz a 7
instance xM (a:Nat):C8 Tryz.prog 259 [.raw (.int .u32 (a:Int)),.raw (.int .u64 11)] (.raw (.int .u32 (Gi a 11:Nat))):=by
 have:B0 ((11:Nat)≤32):=⟨by decide⟩
 exact Gz a 11
instance xL (a:Nat):C8 Tryz.prog 259 [.raw (.int .u32 (a:Int)),.raw (.int .u64 13)] (.raw (.int .u32 (Gi a 13:Nat))):=by
 have:B0 ((13:Nat)≤32):=⟨by decide⟩
 exact Gz a 13
instance xK (a:Nat):C8 Tryz.prog 259 [.raw (.int .u32 (a:Int)),.raw (.int .u64 17)] (.raw (.int .u32 (Gi a 17:Nat))):=by
 have:B0 ((17:Nat)≤32):=⟨by decide⟩
 exact Gz a 17
instance xJ (a:Nat):C8 Tryz.prog 259 [.raw (.int .u32 (a:Int)),.raw (.int .u64 18)] (.raw (.int .u32 (Gi a 18:Nat))):=by
 have:B0 ((18:Nat)≤32):=⟨by decide⟩
 exact Gz a 18
instance xI (a:Nat):C8 Tryz.prog 259 [.raw (.int .u32 (a:Int)),.raw (.int .u64 19)] (.raw (.int .u32 (Gi a 19:Nat))):=by
 have:B0 ((19:Nat)≤32):=⟨by decide⟩
 exact Gz a 19
instance xH (a:Nat):C8 Tryz.prog 259 [.raw (.int .u32 (a:Int)),.raw (.int .u64 22)] (.raw (.int .u32 (Gi a 22:Nat))):=by
 have:B0 ((22:Nat)≤32):=⟨by decide⟩
 exact Gz a 22
instance xG (a:Nat):C8 Tryz.prog 259 [.raw (.int .u32 (a:Int)),.raw (.int .u64 25)] (.raw (.int .u32 (Gi a 25:Nat))):=by
 have:B0 ((25:Nat)≤32):=⟨by decide⟩
 exact Gz a 25
theorem Bt {α:Type} (f:α→Nat→α) (a:α) (k:Nat):(List.range (k+1)).foldl f a=f ((List.range k).foldl f a) k:=by
 rw[EJ,BX];rfl
instance wX (n:Int) [hs:B0 (0≤n∧n≤1000)]:C8 Tryz.prog 256 [.raw (.int .i64 n)] (.str (List.replicate n.toNat 0)):=⟨by
 refine Av Tryz.func256 Tryz.ntmps256 rfl (rs:= [.tmp 2]) rfl rfl fun hb LF=>?_
 obtain⟨h0,h1⟩:=hs.out
 refine AZ ?_
 refine Ab (σ:=Nat × Str) (fun k=>k.1≤n.toNat∧k.2=List.replicate k.1 0) (fun k=>n.toNat - k.1) (fun k=> [(0,.raw (.int .i64 n)),(3,.str k.2),(4,.raw (.int .i64 k.1))]) (fun _=>LF) (0,[]) ⟨by simp,by simp⟩ ⟨rfl,rfl,rfl⟩ (.refl _) ?_
 rintro⟨k,s⟩ ⟨hk,he⟩
 dsimp only at hk he
 have hl:s.length=k:=by rw[he];simp
 refine AZ ?_
 refine A6 (fun hc=>?_) (fun hc=>?_)
 ·refine AZ ?_
  refine⟨(k+1,s++ [0]),⟨by dsimp only;omega,by dsimp only;rw[he,Y4]⟩,by dsimp only;omega,⟨rfl,rfl,rfl⟩,.refl _⟩
 ·refine AZ ?_
  refine B1 (.of_eq ?_)
  rw[he,show k=n.toNat by omega]⟩
def FQ (bits:Nat) (j:Nat):Str:=(List.range j).map fun i=>UInt8.ofNat (bits / 2 ^ (min (8*(7 - i)) 64))
def JM (s:Str):Str:=(s++ [128])++List.replicate ((120 - (s.length+1) % 64) % 64) 0++FQ (s.length*8) 8
theorem Tk (s:Str):(JM s).length=s.length+1+(120 - (s.length+1) % 64) % 64+8:=by simp[JM,FQ];omega
instance vl (s:Str) [hs:B0 (s.length≤1000000)]:C8 Tryz.prog 204 [.str s] (.str (JM s)):=⟨by
 refine Av Tryz.func204 Tryz.ntmps204 rfl (rs:= [.tmp 2]) rfl rfl fun hb LF=>?_
 have hl:=hs.out
 have e1:(((120:Int) - (((s++ [128]).length % 64:Nat):Int)).tmod 64)=(((120 - (s.length+1) % 64) % 64:Nat):Int):=by
  rw[AA,Au]
  have:(120:Int) - (((s.length+1) % 64:Nat):Int)=((120 - (s.length+1) % 64:Nat):Int):=by omega
  rw[this];exact(Int.ofNat_tmod _ _).symm
 have i1:B0 (0≤(((120 - (s.length+1) % 64) % 64:Nat):Int)∧(((120 - (s.length+1) % 64) % 64:Nat):Int)≤1000):=⟨by omega,by omega⟩
 refine AZ ?_
 refine bP (by rfl) (by rfl) (by decide) ?_
 refine CH ?_
 refine Gu (v:= .int .i64 (((120 - (s.length+1) % 64) % 64:Nat):Int)) (by rfl) (by rfl) (fun w=>?_) ?_
 ·have h3:(64:Int)≠0:=by decide
  simp only[binOp,ne_eq,not_true_eq_false,if_false,Op.intDiv,h3,e1];rfl
 have hz:(List.replicate (((120 - (s.length+1) % 64) % 64:Nat):Int).toNat (0:UInt8)).length=(120 - (s.length+1) % 64) % 64:=by rw[List.length_replicate];omega
 refine CH ?_
 refine X2 (b:=8) (by rfl) (by rfl) (by omega) ?_
 refine CH ?_
 refine Ab (σ:=Nat × Str) (fun k=>k.1≤8∧k.2=(s++ [128])++List.replicate ((120 - (s.length+1) % 64) % 64) 0++FQ (s.length*8) k.1) (fun k=>8 - k.1) (fun k=> [(3,.str k.2),(4,.raw (.int .u64 ((s.length*8:Nat):Int))),(5,.raw (.int .i64 (7 - (k.1:Int))))]) (fun _=>LF) (0,(s++ [128])++List.replicate ((120 - (s.length+1) % 64) % 64) 0) ⟨by simp,by simp[FQ]⟩ ⟨rfl,rfl,rfl⟩ (.refl _) ?_
 rintro⟨k,o⟩ ⟨hk,he⟩
 dsimp only at hk he
 have hol:o.length≤1000100:=by rw[he];simp[FQ];omega
 refine AZ ?_
 refine A6 (fun hc=>?_) (fun hc=>?_)
 ·refine AZ ?_
  have e8:(8:Int)*(7 - (k:Int))=((8*(7 - k):Nat):Int):=by omega
  refine TC (a:=8*(7 - k)) (by show PV.raw (.int .i64 ((8:Int)*(7 - (k:Int))))=_;rw[e8]) (by omega) ?_
  refine CH ?_
  refine⟨(k+1,o++ [UInt8.ofNat (s.length*8 / 2 ^ (min (8*(7 - k)) 64))]),⟨by dsimp only;omega,?_⟩,by dsimp only;omega,⟨rfl,rfl,?_⟩,.refl _⟩
  ·dsimp only
   rw[he,FQ,FQ,EJ,Aq,←AV];rfl
  ·show PV.raw (Value.int .i64 _)=PV.raw (Value.int .i64 _)
   congr 2;dsimp only;omega
 ·refine AZ ?_
  refine B1 (.of_eq ?_)
  rw[he,show k=8 by omega,JM]⟩
def rK:List Nat:= [1116352408,1899447441,3049323471,3921009573,961987163,1508970993,2453635748,2870763221,3624381080,310598401,607225278,1426881987,1925078388,2162078206,2614888103,3248222580,3835390401,4022224774,264347078,604807628,770255983,1249150122,1555081692,1996064986,2554220882,2821834349,2952996808,3210313671,3336571891,3584528711,113926993,338241895,666307205,773529912,1294757372,1396182291,1695183700,1986661051,2177026350,2456956037,2730485921,2820302411,3259730800,3345764771,3516065817,3600352804,4094571909,275423344,430227734,506948616,659060556,883997877,958139571,1322822218,1537002063,1747873779,1955562222,2024104815,2227730452,2361852424,2428436474,2756734187,3204031479,3329325298]
instance qJ:C8 Tryz.prog 258 [] (.agg (eW rK)):=⟨by
 refine Av Tryz.func258 Tryz.ntmps258 rfl (rs:= [.cell 0 253]) rfl rfl fun hb LF=>?_
 refine Jw fun b=>?_
 refine KO [.const (.int .u32 1116352408),.const (.int .u32 1899447441),.const (.int .u32 3049323471),.const (.int .u32 3921009573),.const (.int .u32 961987163),.const (.int .u32 1508970993),.const (.int .u32 2453635748),.const (.int .u32 2870763221),.const (.int .u32 3624381080),.const (.int .u32 310598401),.const (.int .u32 607225278),.const (.int .u32 1426881987),.const (.int .u32 1925078388),.const (.int .u32 2162078206),.const (.int .u32 2614888103),.const (.int .u32 3248222580),.const (.int .u32 3835390401),.const (.int .u32 4022224774),.const (.int .u32 264347078),.const (.int .u32 604807628),.const (.int .u32 770255983),.const (.int .u32 1249150122),.const (.int .u32 1555081692),.const (.int .u32 1996064986),.const (.int .u32 2554220882),.const (.int .u32 2821834349),.const (.int .u32 2952996808),.const (.int .u32 3210313671),.const (.int .u32 3336571891),.const (.int .u32 3584528711),.const (.int .u32 113926993),.const (.int .u32 338241895),.const (.int .u32 666307205),.const (.int .u32 773529912),.const (.int .u32 1294757372),.const (.int .u32 1396182291),.const (.int .u32 1695183700),.const (.int .u32 1986661051),.const (.int .u32 2177026350),.const (.int .u32 2456956037),.const (.int .u32 2730485921),.const (.int .u32 2820302411),.const (.int .u32 3259730800),.const (.int .u32 3345764771),.const (.int .u32 3516065817),.const (.int .u32 3600352804),.const (.int .u32 4094571909),.const (.int .u32 275423344),.const (.int .u32 430227734),.const (.int .u32 506948616),.const (.int .u32 659060556),.const (.int .u32 883997877),.const (.int .u32 958139571),.const (.int .u32 1322822218),.const (.int .u32 1537002063),.const (.int .u32 1747873779),.const (.int .u32 1955562222),.const (.int .u32 2024104815),.const (.int .u32 2227730452),.const (.int .u32 2361852424),.const (.int .u32 2428436474),.const (.int .u32 2756734187),.const (.int .u32 3204031479),.const (.int .u32 3329325298)] rK rfl rfl rfl rfl ?_
 have i1:Cy (eW rK) 64:=⟨rfl⟩
 have i2:Cy (eW (List.replicate 64 0)) 64:=⟨rfl⟩
 refine JI ?_
 exact Fv rfl (.refl _) (hn:=(rfl:(eW rK).length=64))⟩
def Yo (b:Str) (t:Nat):Nat:=fy (fy (fy (YR ((b.getD (4*(t:Int)).toNat 0).toNat % 4294967296) 24) (YR ((b.getD (4*(t:Int)+1).toNat 0).toNat % 4294967296) 16)) (YR ((b.getD (4*(t:Int)+2).toNat 0).toNat % 4294967296) 8)) ((b.getD (4*(t:Int)+3).toNat 0).toNat % 4294967296)
def Kz (b:Str) (w:List Nat) (t:Nat):List Nat:=w.set t (Yo b t)
def Th (w:List Nat) (t:Nat):Nat:=
 let x:=w.getD (t+1) 0
 let y:=w.getD (t+14) 0
 Nn (Nn (Nn (Lj (Lj (Gi y 17) (Gi y 19)) (Wy y 10)) (w.getD (t+9) 0)) (Lj (Lj (Gi x 7) (Gi x 18)) (Wy x 3))) (w.getD t 0)
theorem Tf (v:List Nat) (k:Nat):Th v k=Nn (Nn (Nn (Lj (Lj (Gi (v.getD (((k+16:Nat):Int) - 2).toNat 0) 17) (Gi (v.getD (((k+16:Nat):Int) - 2).toNat 0) 19)) (Wy (v.getD (((k+16:Nat):Int) - 2).toNat 0) 10)) (v.getD (((k+16:Nat):Int) - 7).toNat 0)) (Lj (Lj (Gi (v.getD (((k+16:Nat):Int) - 15).toNat 0) 7) (Gi (v.getD (((k+16:Nat):Int) - 15).toNat 0) 18)) (Wy (v.getD (((k+16:Nat):Int) - 15).toNat 0) 3))) (v.getD (((k+16:Nat):Int) - 16).toNat 0):=by
 have e2:(((k+16:Nat):Int) - 2).toNat=k+14:=by omega
 have e7:(((k+16:Nat):Int) - 7).toNat=k+9:=by omega
 have e15:(((k+16:Nat):Int) - 15).toNat=k+1:=by omega
 have e16:(((k+16:Nat):Int) - 16).toNat=k:=by omega
 rw[e2,e7,e15,e16];rfl
def Qe (w:List Nat) (t:Nat):List Nat:=w.set (t+16) (Th w t)
def Gj (b:Str):List Nat:=(List.range 48).foldl Qe ((List.range 16).foldl (Kz b) (List.replicate 64 0))
theorem WC (b:Str) (k:Nat):((List.range k).foldl (Kz b) (List.replicate 64 0)).length=64:=by
 induction k with
 |zero=>rfl
 |succ k ih=>rw[Bt,Kz,DQ,ih]
theorem WB {w:List Nat} (h:w.length=64) (k:Nat):((List.range k).foldl Qe w).length=64:=by
 induction k with
 |zero=>exact h
 |succ k ih=>rw[Bt,Qe,DQ,ih]
theorem Ti (b:Str):(Gj b).length=64:=WB (WC b 16) 48
instance rB (s:Str) [hs:B0 (s.length=64)]:C8 Tryz.prog 257 [.str s] (.agg (eW (Gj s))):=⟨by
 refine Av Tryz.func257 Tryz.ntmps257 rfl (rs:= [.cell 2 253]) rfl rfl fun hb LF=>?_
 have hl:=hs.out
 have i2:Cy (eW (List.replicate 64 0)) 64:=⟨rfl⟩
 refine Jw fun b=>?_
 refine Iv fun b2=>?_
 refine Ab (σ:=Nat × List Nat) (fun k=>k.1≤16∧k.2.length=64∧k.2=(List.range k.1).foldl (Kz s) (List.replicate 64 0)) (fun k=>16 - k.1) (fun k=> [(0,.str s),(2,.raw (.pointer (some ⟨b,0,none⟩))),(3,.raw (.pointer (some ⟨b2,0,none⟩))),(4,.raw (.int .i64 k.1))]) (fun k=> .box b2 253 (eW k.2):: .box b 253 (eW (List.replicate 64 0))::LF) (0,List.replicate 64 0) ⟨by simp,by simp,by simp⟩ ⟨rfl,rfl,rfl,rfl⟩ (.refl _) ?_
 rintro⟨k,w⟩ ⟨hk,hw,he⟩
 dsimp only at hk hw he ⊢
 refine E5 ?_
 refine A6 (fun hc=>?_) (fun hc=>?_)
 ·refine Nu ?_
  refine BZ 31 ?_ ?_
  ·decide+kernel
  refine JI ?_
  refine⟨(k+1,w.set k (Yo s k)),⟨by dsimp only;omega,by dsimp only;rw[DQ,hw],by dsimp only;rw[Bt,←he];rfl⟩,by dsimp only;omega,⟨rfl,rfl,rfl,rfl⟩,.refl _⟩
 have hkk:k=16:=by omega
 subst hkk
 refine E5 ?_
 refine Ab (σ:=Nat × List Nat) (fun k=>k.1≤48∧k.2.length=64∧k.2=(List.range k.1).foldl Qe w) (fun k=>48 - k.1) (fun k=> [(2,.raw (.pointer (some ⟨b,0,none⟩))),(3,.raw (.pointer (some ⟨b2,0,none⟩))),(5,.raw (.int .i64 ((k.1+16:Nat):Int)))]) (fun k=> .box b2 253 (eW k.2):: .box b 253 (eW (List.replicate 64 0))::LF) (0,w) ⟨by simp,hw,by simp⟩ ⟨rfl,rfl,rfl⟩ (.refl _) ?_
 rintro⟨k,v⟩ ⟨hk,hv,hve⟩
 dsimp only at hk hv hve ⊢
 have i3:Cy (eW v) 64:=⟨by rw[H9,hv]⟩
 refine E5 ?_
 refine A6 (fun hc=>?_) (fun hc=>?_)
 ·refine Nu ?_
  refine GW (by decide+kernel) ?_
  refine Wj ?_
  refine BZ 29 ?_ ?_
  ·decide+kernel
  refine JI ?_
  refine⟨(k+1,v.set (k+16) (Th v k)),⟨by dsimp only;omega,by dsimp only;rw[DQ,hv],by dsimp only;rw[Bt,←hve];rfl⟩,by dsimp only;omega,⟨rfl,rfl,?_⟩,?_⟩
  ·show PV.raw (Value.int .i64 _)=PV.raw (Value.int .i64 _)
   congr 2
  ·dsimp only;rw[Tf];exact .refl _
 ·refine E5 ?_
  refine Fv rfl (.of_eq ?_) (hn:=(by rw[H9,hv]:(eW v).length=64))
  have hkk:k=48:=by omega
  subst hkk
  rw[Gj,hve,he]⟩
def yt (w v:List Nat) (t:Nat):Nat:=Nn (Nn (Nn (Nn (v.getD 7 0) (Lj (Lj (Gi (v.getD 4 0) 6) (Gi (v.getD 4 0) 11)) (Gi (v.getD 4 0) 25))) (Lj (Xz (v.getD 4 0) (v.getD 5 0)) (Xz (pJ (v.getD 4 0)) (v.getD 6 0)))) (rK.getD t 0)) (w.getD t 0)
def rT2 (v:List Nat):Nat:=Nn (Lj (Lj (Gi (v.getD 0 0) 2) (Gi (v.getD 0 0) 13)) (Gi (v.getD 0 0) 22)) (Lj (Lj (Xz (v.getD 0 0) (v.getD 1 0)) (Xz (v.getD 0 0) (v.getD 2 0))) (Xz (v.getD 1 0) (v.getD 2 0)))
def Mx (w v:List Nat) (t:Nat):List Nat:= [Nn (yt w v t) (rT2 v),v.getD 0 0,v.getD 1 0,v.getD 2 0,Nn (v.getD 3 0) (yt w v t),v.getD 4 0,v.getD 5 0,v.getD 6 0]
def L0 (h:List Nat) (b:Str):List Nat:=(List.range 64).foldl (Mx (Gj b)) h
def Yw (v x:List Nat) (i:Nat):List Nat:=x.set i (Nn (x.getD i 0) (v.getD i 0))
def Na (h:List Nat) (b:Str):List Nat:=(List.range 8).foldl (Yw (L0 h b)) h
theorem gn {v h:List Nat} (hh:h.length=8) (k:Nat):((List.range k).foldl (Yw v) h).length=8:=by
 induction k with
 |zero=>exact hh
 |succ k ih=>rw[Bt,Yw,DQ,ih]
theorem Oq {h:List Nat} {b:Str} (hh:h.length=8):(Na h b).length=8:=gn hh 8
theorem hx8 {ρ:Env} {x0 x1 x2 x3 x4 x5 x6 x7:Operand} {a0 a1 a2 a3 a4 a5 a6 a7:Nat} (h0:ρ.ev x0= .raw (.int .u32 (a0:Int))) (h1:ρ.ev x1= .raw (.int .u32 (a1:Int))) (h2:ρ.ev x2= .raw (.int .u32 (a2:Int))) (h3:ρ.ev x3= .raw (.int .u32 (a3:Int))) (h4:ρ.ev x4= .raw (.int .u32 (a4:Int))) (h5:ρ.ev x5= .raw (.int .u32 (a5:Int))) (h6:ρ.ev x6= .raw (.int .u32 (a6:Int))) (h7:ρ.ev x7= .raw (.int .u32 (a7:Int))):
  [x0,x1,x2,x3,x4,x5,x6,x7].map ρ.ev=eW [a0,a1,a2,a3,a4,a5,a6,a7]:=by simp[eW,h0,h1,h2,h3,h4,h5,h6,h7]
instance ym (h:List Nat) (s:Str) [hs:B0 (s.length=64)] [hh:B0 (h.length=8)]:C8 Tryz.prog 205 [.agg (eW h),.str s] (.agg (eW (Na h s))):=⟨by
 refine Av Tryz.func205 Tryz.ntmps205 rfl (rs:= [.cell 4 216]) rfl rfl fun hb LF=>?_
 have hl:=hh.out
 have hsl:=Ti s
 have j1:Cy (eW (List.replicate 64 0)) 64:=⟨rfl⟩
 have j2:Cy (eW (List.replicate 8 0)) 8:=⟨rfl⟩
 have j3:Cy (eW h) 8:=⟨by rw[H9,hl]⟩
 have j4:Cy (eW rK) 64:=⟨rfl⟩
 have j5:Cy (eW (Gj s)) 64:=⟨by rw[H9,hsl]⟩
 have hkl:rK.length=64:=rfl
 refine Jw fun b2=>?_
 refine Iv fun b4=>?_
 refine Iv fun b5=>?_
 refine Iv fun b6=>?_
 refine Iv fun b7=>?_
 refine Ab (σ:=Nat × List Nat) (fun k=>k.1≤64∧k.2.length=8∧k.2=(List.range k.1).foldl (Mx (Gj s)) h) (fun k=>64 - k.1) (fun k=> [(2,.raw (.pointer (some ⟨b2,0,none⟩))),(4,.raw (.pointer (some ⟨b4,0,none⟩))),(5,.raw (.pointer (some ⟨b5,0,none⟩))),(6,.raw (.pointer (some ⟨b6,0,none⟩))),(7,.raw (.pointer (some ⟨b7,0,none⟩))),(8,.raw (.int .i64 k.1))]) (fun k=> .box b7 216 (eW k.2):: .box b6 253 (eW rK):: .box b5 253 (eW (Gj s)):: .box b4 216 (eW (List.replicate 8 0)):: .box b2 216 (eW h)::LF) (0,h) ⟨by simp,hl,by simp⟩ ⟨rfl,rfl,rfl,rfl,rfl,rfl⟩ (.refl _) ?_
 rintro⟨k,v⟩ ⟨hk,hv,hve⟩
 dsimp only at hk hv hve ⊢
 have j6:Cy (eW v) 8:=⟨by rw[H9,hv]⟩
 have j7:Cy (eW (Mx (Gj s) v k)) 8:=⟨rfl⟩
 refine E5 ?_
 refine A6 (fun hc=>?_) (fun hc=>?_)
 ·refine Nu ?_
  refine GW (by decide+kernel) ?_
  refine Wj ?_
  refine GW (by decide+kernel) ?_
  refine BT [(2,.raw (.pointer (some ⟨b2,0,none⟩))),(4,.raw (.pointer (some ⟨b4,0,none⟩))),(5,.raw (.pointer (some ⟨b5,0,none⟩))),(6,.raw (.pointer (some ⟨b6,0,none⟩))),(7,.raw (.pointer (some ⟨b7,0,none⟩))),(8,.raw (.int .i64 k)),(9,.raw (.int .u32 ((v.getD 0 0:Nat):Int))),(11,.raw (.int .u32 ((yt (Gj s) v k:Nat):Int)))] (.box b7 216 (eW v):: .box b6 253 (eW rK):: .box b5 253 (eW (Gj s)):: .box b4 216 (eW (List.replicate 8 0)):: .box b2 216 (eW h)::LF) ?_ ?_
  ·refine JI ?_
   exact⟨⟨rfl,rfl,rfl,rfl,rfl,rfl,rfl,rfl⟩,.refl _⟩
  refine Nu ?_
  refine GW (by decide+kernel) ?_
  refine BT [(2,.raw (.pointer (some ⟨b2,0,none⟩))),(4,.raw (.pointer (some ⟨b4,0,none⟩))),(5,.raw (.pointer (some ⟨b5,0,none⟩))),(6,.raw (.pointer (some ⟨b6,0,none⟩))),(7,.raw (.pointer (some ⟨b7,0,none⟩))),(8,.raw (.int .i64 k)),(11,.raw (.int .u32 ((yt (Gj s) v k:Nat):Int))),(12,.raw (.int .u32 ((rT2 v:Nat):Int)))] (.box b7 216 (eW v):: .box b6 253 (eW rK):: .box b5 253 (eW (Gj s)):: .box b4 216 (eW (List.replicate 8 0)):: .box b2 216 (eW h)::LF) ?_ ?_
  ·refine JI ?_
   exact⟨⟨rfl,rfl,rfl,rfl,rfl,rfl,rfl,rfl⟩,.refl _⟩
  refine E5 ?_
  refine KO [.tmp 82,.tmp 84,.tmp 86,.tmp 88,.tmp 92,.tmp 94,.tmp 96,.tmp 98] (Mx (Gj s) v k) rfl (hx8 (by rfl) (by rfl) (by rfl) (by rfl) (by rfl) (by rfl) (by rfl) (by rfl)) (by simp[Mx]) (by simp[Mx]) ?_
  refine JI ?_
  refine⟨(k+1,Mx (Gj s) v k),⟨by dsimp only;omega,rfl,by dsimp only;rw[Bt,←hve]⟩,by dsimp only;omega,⟨rfl,rfl,rfl,rfl,rfl,rfl⟩,.refl _⟩
 have hkk:k=64:=by omega
 subst hkk
 replace hve:v=L0 h s:=hve
 subst hve
 refine E5 ?_
 refine Ab (σ:=Nat × List Nat) (fun k=>k.1≤8∧k.2.length=8∧k.2=(List.range k.1).foldl (Yw (L0 h s)) h) (fun k=>8 - k.1) (fun k=> [(2,.raw (.pointer (some ⟨b2,0,none⟩))),(4,.raw (.pointer (some ⟨b4,0,none⟩))),(7,.raw (.pointer (some ⟨b7,0,none⟩))),(13,.raw (.int .i64 k.1))]) (fun k=> .box b7 216 (eW (L0 h s)):: .box b4 216 (eW (List.replicate 8 0)):: .box b2 216 (eW k.2)::LF) (0,h) ⟨by simp,hl,by simp⟩ ⟨rfl,rfl,rfl,rfl⟩ (.cons_cons _ (.cons _ (.cons _ (.refl _)))) ?_
 rintro⟨k,x⟩ ⟨hk,hx,hxe⟩
 dsimp only at hk hx hxe ⊢
 have j8:Cy (eW x) 8:=⟨by rw[H9,hx]⟩
 refine E5 ?_
 refine A6 (fun hc=>?_) (fun hc=>?_)
 ·refine Nu ?_
  refine BZ 9 ?_ ?_
  ·decide+kernel
  refine JI ?_
  refine⟨(k+1,x.set k (Nn (x.getD k 0) ((L0 h s).getD k 0))),⟨by dsimp only;omega,by dsimp only;rw[DQ,hx],by dsimp only;rw[Bt,←hxe];rfl⟩,by dsimp only;omega,⟨rfl,rfl,rfl,rfl⟩,.refl _⟩
 ·refine E5 ?_
  refine Fv rfl (.of_eq ?_) (hn:=(by rw[H9,hx]:(eW x).length=8))
  have hkk:k=8:=by omega
  subst hkk
  rw[Na,hxe]⟩
def rH:List Nat:= [1779033703,3144134277,1013904242,2773480762,1359893119,2600822924,528734635,1541459225]
def IR (m:Str) (n:Nat):List Nat:=(List.range n).foldl (fun h k=>Na h ((m.drop (64*k)).take 64)) rH
theorem Yv (m:Str) (n:Nat):(IR m n).length=8:=by
 unfold IR
 induction n with
 |zero=>rfl
 |succ n ih=>rw[Bt];exact Oq ih
def Qj (h:List Nat) (d:Dig) (i:Nat):Dig:=d.put i (UInt8.ofNat (Wy (h.getD (i / 4) 0) (24 - 8*(i % 4))))
def fh (s:Str):Dig:=(List.range 32).foldl (Qj (IR (JM s) ((JM s).length / 64))) Dig.zero
instance A06 (s:Str) [hs:B0 (s.length≤1000000)]:C8 Tryz.prog 152 [.str s] (.agg (eDig (fh s))):=⟨by
 refine Av Tryz.func152 Tryz.ntmps152 rfl (rs:= [.cell 2 31]) rfl rfl fun hb LF=>?_
 have hl:=hs.out
 have hpl:=Tk s
 have j2:Cy (eW (List.replicate 8 0)) 8:=⟨rfl⟩
 have j3:Cy (eW rH) 8:=⟨rfl⟩
 refine Jw fun b2=>?_
 refine KO [.const (.int .u32 1779033703),.const (.int .u32 3144134277),.const (.int .u32 1013904242),.const (.int .u32 2773480762),.const (.int .u32 1359893119),.const (.int .u32 2600822924),.const (.int .u32 528734635),.const (.int .u32 1541459225)] rH rfl rfl (by simp[rH]) rfl ?_
 refine Iv fun b3=>?_
 unfold fh
 generalize JM s=m at hpl ⊢
 refine Ab (σ:=Nat) (fun k=>64*k≤m.length) (fun k=>m.length+64 - 64*k) (fun k=> [(2,.raw (.pointer (some ⟨b2,0,none⟩))),(3,.raw (.pointer (some ⟨b3,0,none⟩))),(4,.str m),(5,.raw (.int .i64 ((64*k:Nat):Int)))]) (fun k=> .box b3 216 (eW (IR m k)):: .box b2 31 (eDig Dig.zero)::LF) 0 (by simp) ⟨rfl,rfl,rfl,rfl⟩ (.refl _) ?_
 intro k hk
 have hbl:=Yv m k
 have j4:Cy (eW (IR m k)) 8:=⟨by rw[H9,hbl]⟩
 have j5:Cy (eW (Na (IR m k) ((m.drop (64*k)).take (64*k+64 - 64*k)))) 8:=⟨by rw[H9,Oq hbl]⟩
 refine E5 ?_
 refine A6 (fun hc=>?_) (fun hc=>?_)
 ·have hc':64*k+64≤m.length:=by omega
  have j6:B0 (((m.drop (64*k)).take (64*k+64 - 64*k)).length=64):=⟨by rw[Aa,B4];omega⟩
  have j7:B0 ((IR m k).length=8):=⟨hbl⟩
  refine Nu ?_
  refine BZ 7 ?_ ?_
  ·decide+kernel
  refine JI ?_
  refine⟨k+1,by omega,by dsimp only;omega,⟨rfl,rfl,rfl,?_⟩,?_⟩
  ·show PV.raw (Value.int .i64 _)=PV.raw (Value.int .i64 _)
   congr 2
  ·dsimp only
   have e:IR m (k+1)=Na (IR m k) ((m.drop (64*k)).take (64*k+64 - 64*k)):=by
    rw[show 64*k+64 - 64*k=64 by omega];unfold IR;rw[Bt]
   rw[e];exact .refl _
 have hkk:k=m.length / 64:=by omega
 subst hkk
 refine Jw fun b6=>?_
 generalize IR m (m.length / 64)=h at hbl ⊢
 refine Ab (σ:=Nat × Dig) (fun k=>k.1≤32∧k.2=(List.range k.1).foldl (Qj h) Dig.zero) (fun k=>32 - k.1) (fun k=> [(2,.raw (.pointer (some ⟨b2,0,none⟩))),(3,.raw (.pointer (some ⟨b3,0,none⟩))),(6,.raw (.pointer (some ⟨b6,0,none⟩))),(7,.raw (.int .i64 k.1))]) (fun k=> .box b6 31 (eDig k.2):: .box b3 216 (eW h):: .box b2 31 (eDig Dig.zero)::LF) (0,Dig.zero) ⟨by simp,by simp⟩ ⟨rfl,rfl,rfl,rfl⟩ (.refl _) ?_
 rintro⟨k,d⟩ ⟨hk,hd⟩
 dsimp only at hk hd ⊢
 refine E5 ?_
 refine A6 (fun hc=>?_) (fun hc=>?_)
 ·refine E5 ?_
  have e8:(24:Int) - 8*((k % 4:Nat):Int)=((24 - 8*(k % 4):Nat):Int):=by omega
  refine TC (a:=24 - 8*(k % 4)) (by show PV.raw (.int .i64 ((24:Int) - 8*((k % 4:Nat):Int)))=_;rw[e8]) (by omega) ?_
  refine JI ?_
  refine⟨(k+1,Qj h d k),⟨by dsimp only;omega,by dsimp only;rw[Bt,←hd]⟩,by dsimp only;omega,⟨rfl,rfl,rfl,rfl⟩,.refl _⟩
 ·refine E5 ?_
  refine Fv rfl (.of_eq ?_)
  have hkk:k=32:=by omega
  subst hkk
  rw[hd]⟩
section
variable {P:Program} {N:Nat} {all:Array Oper} {K:Env→List Res→Prop} {fl:List Bool} {os:List Oper} {ρ:Env} {L:List Res} {d:Nat} {ty:TypeId} {pos:String} {af:Array Edge}
theorem fZ {S T:TypeId} {k':IntKind} [hS:NQ P S k'] [hT:NQ P T .u64] {x:Operand} {k₀:IntKind} {n:Nat} (hx:ρ.ev x= .raw (.int k₀ (-(n:Int)))) (hn:0 < n∧n≤32) (k:AU P N all K fl.tail os (CU ρ d (.raw (.int .u64 ((18446744073709551616 - n:Nat):Int)))) L) (hd:Nat.blt d N=true:=by rfl):
  AU P N all K fl (⟨some d,.convert S T x,ty,pos,af,none⟩::os) ρ L:=X8 hx (by
 have e:IntKind.wrap .u64 (-(n:Int))=((18446744073709551616 - n:Nat):Int):=by
  simp only[IntKind.wrap,IntKind.signed,IntKind.bits]
  simp
  omega
 rw[e];exact k) hd
theorem oJ {T T':TypeId} {x y:Operand} {n:Nat} (hx:ρ.ev x= .raw (.int .u64 ((18446744073709551616 - n:Nat):Int))) (hy:ρ.ev y= .raw (.int .u64 31)) (hn:0 < n∧n < 32) (k:AU P N all K fl.tail os (CU ρ d (.raw (.int .u64 ((32 - n:Nat):Int)))) L) (hd:Nat.blt d N=true:=by rfl):
  AU P N all K fl (⟨some d,.binOp .and T x y T',ty,pos,af,none⟩::os) ρ L:=Gu hx hy (fun w=>by
 have key: ∀ m:Nat,m < 32→0 < m→IntKind.u64.wrap ((BitVec.ofInt 64 ((18446744073709551616 - m:Nat):Int)&&& BitVec.ofInt 64 31).toNat:Int)=((32 - m:Nat):Int):=by decide
 simp only[binOp,ne_eq,not_true_eq_false,if_false]
 show(pure (Value.int .u64 (IntKind.u64.wrap ((BitVec.ofInt 64 ((18446744073709551616 - n:Nat):Int)&&& BitVec.ofInt 64 31).toNat:Int))):Sem Value).run P w=_
 rw[key n hn.2 hn.1];rfl) k hd
end
theorem kl (a b:Nat):fy a b=fy b a:=Nat.or_comm _ _
theorem oM (a n:Nat) (hn:0 < n∧n < 32):C8 Tryz.prog 284 [.raw (.int .u32 (a:Int)),.raw (.int .i64 (-(n:Int)))] (.raw (.int .u32 (Gi a n:Nat))):=⟨by
 refine Av Tryz.func284 Tryz.ntmps284 rfl (rs:= [.tmp 4]) rfl rfl fun hb LF=>?_
 refine E5 ?_
 refine fZ (n:=n) rfl ⟨hn.1,by omega⟩ ?_
 refine oJ (n:=n) rfl rfl hn ?_
 refine E5 ?_
 refine X1 (a:=32) (b:=32 - n) (by rfl) (by rfl) (by omega) (by decide) ?_
 refine E5 ?_
 refine B1 (.of_eq ?_)
 rw[show 32 - (32 - n)=n by omega,Gi,kl]⟩
theorem IB (a n:Nat) (hn:0 < n∧n < 32):C8 Tryz.prog 234 [.raw (.int .u32 (a:Int)),.raw (.int .i64 (n:Int))] (.raw (.int .u32 (Gi a n:Nat))):=⟨by
 have i1:C8 Tryz.prog 284 [.raw (.int .u32 (a:Int)),.raw (.int .i64 (-(n:Int)))] (.raw (.int .u32 (Gi a n:Nat))):=oM a n hn
 refine Av Tryz.func234 Tryz.ntmps234 rfl (rs:= [.tmp 4]) rfl rfl fun hb LF=>?_
 refine E5 ?_
 exact B1 (.refl _)⟩
instance ve (a:Nat):C8 Tryz.prog 234 [.raw (.int .u32 (a:Int)),.raw (.int .i64 2)] (.raw (.int .u32 (Gi a 2:Nat))):=IB a 2 ⟨by decide,by decide⟩
instance vc (a:Nat):C8 Tryz.prog 234 [.raw (.int .u32 (a:Int)),.raw (.int .i64 6)] (.raw (.int .u32 (Gi a 6:Nat))):=IB a 6 ⟨by decide,by decide⟩
instance vb (a:Nat):C8 Tryz.prog 234 [.raw (.int .u32 (a:Int)),.raw (.int .i64 7)] (.raw (.int .u32 (Gi a 7:Nat))):=IB a 7 ⟨by decide,by decide⟩
instance te (a:Nat):C8 Tryz.prog 234 [.raw (.int .u32 (a:Int)),.raw (.int .i64 11)] (.raw (.int .u32 (Gi a 11:Nat))):=IB a 11 ⟨by decide,by decide⟩
instance tc (a:Nat):C8 Tryz.prog 234 [.raw (.int .u32 (a:Int)),.raw (.int .i64 13)] (.raw (.int .u32 (Gi a 13:Nat))):=IB a 13 ⟨by decide,by decide⟩
instance tb (a:Nat):C8 Tryz.prog 234 [.raw (.int .u32 (a:Int)),.raw (.int .i64 17)] (.raw (.int .u32 (Gi a 17:Nat))):=IB a 17 ⟨by decide,by decide⟩
instance ta (a:Nat):C8 Tryz.prog 234 [.raw (.int .u32 (a:Int)),.raw (.int .i64 18)] (.raw (.int .u32 (Gi a 18:Nat))):=IB a 18 ⟨by decide,by decide⟩
instance tZ (a:Nat):C8 Tryz.prog 234 [.raw (.int .u32 (a:Int)),.raw (.int .i64 19)] (.raw (.int .u32 (Gi a 19:Nat))):=IB a 19 ⟨by decide,by decide⟩
instance tX (a:Nat):C8 Tryz.prog 234 [.raw (.int .u32 (a:Int)),.raw (.int .i64 22)] (.raw (.int .u32 (Gi a 22:Nat))):=IB a 22 ⟨by decide,by decide⟩
instance tW (a:Nat):C8 Tryz.prog 234 [.raw (.int .u32 (a:Int)),.raw (.int .i64 25)] (.raw (.int .u32 (Gi a 25:Nat))):=IB a 25 ⟨by decide,by decide⟩
instance nQ:C8 Tryz.prog 233 [] (.agg (eW rK)):=⟨by
 refine Av Tryz.func233 Tryz.ntmps233 rfl (rs:= [.cell 0 253]) rfl rfl fun hb LF=>?_
 refine Jw fun b=>?_
 refine KO [.const (.int .u32 1116352408),.const (.int .u32 1899447441),.const (.int .u32 3049323471),.const (.int .u32 3921009573),.const (.int .u32 961987163),.const (.int .u32 1508970993),.const (.int .u32 2453635748),.const (.int .u32 2870763221),.const (.int .u32 3624381080),.const (.int .u32 310598401),.const (.int .u32 607225278),.const (.int .u32 1426881987),.const (.int .u32 1925078388),.const (.int .u32 2162078206),.const (.int .u32 2614888103),.const (.int .u32 3248222580),.const (.int .u32 3835390401),.const (.int .u32 4022224774),.const (.int .u32 264347078),.const (.int .u32 604807628),.const (.int .u32 770255983),.const (.int .u32 1249150122),.const (.int .u32 1555081692),.const (.int .u32 1996064986),.const (.int .u32 2554220882),.const (.int .u32 2821834349),.const (.int .u32 2952996808),.const (.int .u32 3210313671),.const (.int .u32 3336571891),.const (.int .u32 3584528711),.const (.int .u32 113926993),.const (.int .u32 338241895),.const (.int .u32 666307205),.const (.int .u32 773529912),.const (.int .u32 1294757372),.const (.int .u32 1396182291),.const (.int .u32 1695183700),.const (.int .u32 1986661051),.const (.int .u32 2177026350),.const (.int .u32 2456956037),.const (.int .u32 2730485921),.const (.int .u32 2820302411),.const (.int .u32 3259730800),.const (.int .u32 3345764771),.const (.int .u32 3516065817),.const (.int .u32 3600352804),.const (.int .u32 4094571909),.const (.int .u32 275423344),.const (.int .u32 430227734),.const (.int .u32 506948616),.const (.int .u32 659060556),.const (.int .u32 883997877),.const (.int .u32 958139571),.const (.int .u32 1322822218),.const (.int .u32 1537002063),.const (.int .u32 1747873779),.const (.int .u32 1955562222),.const (.int .u32 2024104815),.const (.int .u32 2227730452),.const (.int .u32 2361852424),.const (.int .u32 2428436474),.const (.int .u32 2756734187),.const (.int .u32 3204031479),.const (.int .u32 3329325298)] rK rfl rfl rfl rfl ?_
 have i1:Cy (eW rK) 64:=⟨rfl⟩
 have i2:Cy (eW (List.replicate 64 0)) 64:=⟨rfl⟩
 refine JI ?_
 exact Fv rfl (.refl _) (hn:=(rfl:(eW rK).length=64))⟩
instance rq:C8 Tryz.prog 183 [] (.agg (eW rH)):=⟨by
 refine Av Tryz.func183 Tryz.ntmps183 rfl (rs:= [.cell 0 216]) rfl rfl fun hb LF=>?_
 refine Jw fun b=>?_
 refine KO [.const (.int .u32 1779033703),.const (.int .u32 3144134277),.const (.int .u32 1013904242),.const (.int .u32 2773480762),.const (.int .u32 1359893119),.const (.int .u32 2600822924),.const (.int .u32 528734635),.const (.int .u32 1541459225)] rH rfl rfl (by simp[rH]) rfl ?_
 have i1:Cy (eW rH) 8:=⟨rfl⟩
 have i2:Cy (eW (List.replicate 8 0)) 8:=⟨rfl⟩
 refine JI ?_
 exact Fv rfl (.refl _) (hn:=(rfl:(eW rH).length=8))⟩
end Go.Proofs
namespace Go.Q
open Go
section
variable {P:Program} {N:Nat} {all:Array Oper} {K:Env→List Res→Prop} {fl:List Bool} {os:List Oper} {ρ:Env} {L:List Res} {d:Nat} {ty:TypeId} {pos:String} {af:Array Edge}
theorem ZM {S T:TypeId} [hS:SK P S] [hT:mX P T] {x:Operand} {s:Str} {ax:PV} {dst:Option Nat} {gd:Option (Nat × Bool)} (hx:ρ.ev x=ax) [jx:K7 ax s] (hs:s.length≤maxN) {Ψ:PV→List Res→Prop}
  (k: ∀ t',Ψ (.slice (s.map eBy) t') (.tok t' s.length 1::L)):Fk P ⟨dst,.convert S T x,ty,pos,af,gd⟩ ρ L Ψ:=by
 intro a w g ha hi
 obtain⟨E,e1,e2⟩:=hT.out
 have h1:=jx.out g _ (hx ▸ ha x (by simp[Op.operands]))
 let nc:=grownCap w s.length 0 E
 have hnc:s.length≤nc:=grownCap_ge w _ _ _
 let vs:List Value:=s.map fun b=>Value.int .u8 (b.toNat:Int)
 have hvl:vs.length=s.length:=by simp[vs]
 have hsz:(bytesRow (sB s) nc).size=nc:=by simp[bytesRow];omega
 have hrow: ∀ j (h:j < vs.length),(bytesRow (sB s) nc)[j]? =some vs[j]:=fun j h=>by
  have h':j < s.length:=by omega
  rw[bytesRow,FJ (by simp;exact h')]
  simp[vs,sB,h']
 have hr:(execOp a.eval ⟨dst,.convert S T x,ty,pos,af,gd⟩).run P w= .ok (.value (.slice (some ⟨w.heap.size,0,none⟩) s.length nc)) (w.drew.alloc (.cells (bytesRow (sB s) nc) E ((bytesRow (sB s) nc).size,(bytesRow (sB s) nc).size+1))):=by
  show(do pure (Next.value (←convert S T (a.eval x))):Sem Next).run P w=_
  rw[h1]
  have:=run_bytes_of_string (P:=P) w S T E (sB s) hS.out e1 e2
  rw[Qb]at this
  rw[Sem.run_bind,this]
  rfl
 have hvr:ED g vs (s.map eBy).flatten:=by
  have e: ∀ l:Str,(l.map eBy).flatten=(l.map fun b=>Value.int .u8 (b.toNat:Int)).map .raw:=fun l=>by
   induction l with
   |nil=>rfl
   |cons b l ih=>rw[Ar,Ch,ih];rfl
  rw[e];exact ED.raws g vs
 have hH0: ∀ o,g.H w.heap.size o=none:=fun o=>by
  cases h:g.H w.heap.size o with
  |none=>rfl
  |some v=>have:=hi.sat _ _ _ h;simp[World.cell?]at this
 have hM0:g.M w.heap.size=none:=by
  cases h:g.M w.heap.size with
  |none=>rfl
  |some v=>exact absurd (hi.satM _ _ h).lt (Fo _)
 have hle:=Gh.le_lay (g:=g) (b:=w.heap.size) (from_:=0) (us:=vs) (fun o _=>hH0 o)
 have hget: ∀ (o:Obj) b,b < w.heap.size→(w.drew.alloc o).heap[b]? =w.heap[b]?:=fun o b hb=>by
  show(w.heap.push o)[b]? =_
  rw[Hq,if_neg (by omega)]
 have hlast: ∀ (o:Obj),(w.drew.alloc o).heap[w.heap.size]? =some o:=fun o=>by show(w.heap.push o)[w.heap.size]? =_;simp
 have key:=(hi.tok 1).repl (w':=w.drew.alloc (.cells (bytesRow (sB s) nc) E ((bytesRow (sB s) nc).size,(bytesRow (sB s) nc).size+1))) (g':=g.lay w.heap.size 0 vs) (r':= .tok (.own w.heap.size nc) s.length 1) .here rfl rfl ⟨rfl,RR _⟩ (by simp) hle
  (fun k hk _=>hget _ k hk) (fun k hk _=>⟨fun o=>Gh.lay_out (fun h=>by have:=h.1;omega),rfl⟩)
  (fun b₂ o v hv=>by
   by_cases hin:b₂=w.heap.size∧0≤o∧o < 0+vs.length
   ·obtain⟨rfl,_,h4⟩:=hin
    have hj:o < vs.length:=by omega
    have:=Gh.lay_in (g:=g) (b:=w.heap.size) (from_:=0) hj
    rw[BC,hv]at this
    cases this
    simp only[World.cell?,hlast,CX,BQ,if_false]
    exact hrow o hj
   ·rw[Gh.lay_out hin]at hv
    have h3:=hi.sat b₂ o v hv
    have hb2:b₂ < w.heap.size:=by
     rcases B8 b₂ w.heap.size with h'|h'
     ·exact h'
     ·simp[World.cell?,Bm h']at h3
    simp only[World.cell?]at h3 ⊢
    rw[hget _ b₂ hb2];exact h3)
  (fun b₂ es hM=>(hi.satM b₂ es hM).congr (hget _ b₂ (hi.satM b₂ es hM).lt))
  ⟨_,E,_,hlast _,by rw[hsz,IV],hnc,fun o ho=>by
   rw[Gh.lay_out (fun h=>by have:=h.2.2;omega)]
   exact hH0 o,hM0,.inr (Ak _)⟩ (fun b₂ hb₂=> .inr (by simp[Res.block]at hb₂;omega))
 refine Oper.wq_of_run hr ?_
 refine⟨_,.slice (s.map eBy) (.own w.heap.size nc),_,_,rfl,?_,key.1,key.2.1,key.2.2,k _⟩
 have:=VR.of_cells (g:=g.lay w.heap.size 0 vs) (xs:=s.map eBy) (t:= .own w.heap.size nc) (sz:=1) (b:=w.heap.size) (off:=0) (cap:=nc) (fun e he=>by obtain⟨b,_,rfl⟩:=AQ.1 he;rfl) (by simpa using hnc) (by simpa using hs) (us:=vs) (hvr.mono hle) (fun j hj=>Gh.lay_in hj) (fun b' cap' e=>by cases e;exact⟨rfl,rfl,rfl⟩) (by simp)
 simpa using this
theorem Vb {S T:TypeId} [hS:SK P S] [hT:mX P T] {x:Operand} {s:Str} {ax:PV} (hx:ρ.ev x=ax) [jx:K7 ax s] (hs:s.length≤140737488355328)
  (k: ∀ t',AU P N all K fl.tail os (CU ρ d (.slice (s.map eBy) t')) (.tok t' s.length 1::L)) (hd:Nat.blt d N=true:=by rfl) (hfl:fl.headD true=true:=by rfl):AU P N all K fl (⟨some d,.convert S T x,ty,pos,af,none⟩::os) ρ L:=
 Dd rfl (Ph hd) hfl (ZM hx hs k)
end
end Go.Q
namespace Go.Proofs
open Go Go.Q
attribute [local irreducible] ER AU BA Fk
theorem XL {a b i:Nat} (hb:b < 2 ^ i):a*2 ^ i|||b=a*2 ^ i+b:=by
 rw[←Nat.shiftLeft_eq];exact(Nat.shiftLeft_add_eq_or_of_lt hb a).symm
def RI (v:Nat) (c:UInt8):Nat:=fy (YR v 8) (c.toNat % 4294967296)
theorem RH {v:Nat} {c:UInt8} (hv:v < 16777216):RI v c=v*256+c.toNat:=by
 have hc:c.toNat < 256:=c.toNat_lt
 unfold RI fy YR
 rw[show min 8 32=8 from rfl,Nat.mod_mod,Nat.mod_mod,E8 (show c.toNat < 4294967296 by omega),E8 (show v*2 ^ 8 < 4294967296 by omega)]
 exact XL (i:=8) (by omega)
theorem ar (b:Str) (t:Nat) (h:4*t+4≤b.length):(List.range 4).foldl (fun v i=>RI v (b.getD (4*t+i) 0)) 0=Yo b t:=by
 have h0: ∀ i,(b.getD i 0).toNat < 256:=fun i=>UInt8.toNat_lt _
 have a0:=h0 (4*t)
 have a1:=h0 (4*t+1)
 have a2:=h0 (4*t+2)
 have a3:=h0 (4*t+3)
 show RI (RI (RI (RI 0 (b.getD (4*t+0) 0)) (b.getD (4*t+1) 0)) (b.getD (4*t+2) 0)) (b.getD (4*t+3) 0)=_
 rw[Dt]
 rw[RH (v:=0) (by omega),RH (v:=0*256+(b.getD (4*t) 0).toNat) (by omega),RH (v:=(0*256+(b.getD (4*t) 0).toNat)*256+(b.getD (4*t+1) 0).toNat) (by omega),
  RH (v:=((0*256+(b.getD (4*t) 0).toNat)*256+(b.getD (4*t+1) 0).toNat)*256+(b.getD (4*t+2) 0).toNat) (by omega)]
 unfold Yo
 have e0:(4*(t:Int)).toNat=4*t:=by omega
 have e1:(4*(t:Int)+1).toNat=4*t+1:=by omega
 have e2:(4*(t:Int)+2).toNat=4*t+2:=by omega
 have e3:(4*(t:Int)+3).toNat=4*t+3:=by omega
 rw[e0,e1,e2,e3]
 generalize (b.getD (4*t) 0).toNat=x0 at*
 generalize (b.getD (4*t+1) 0).toNat=x1 at*
 generalize (b.getD (4*t+2) 0).toNat=x2 at*
 generalize (b.getD (4*t+3) 0).toNat=x3 at*
 unfold fy YR
 rw[show min 24 32=24 from rfl,show min 16 32=16 from rfl,show min 8 32=8 from rfl]
 simp only[E8 (show x0 < 4294967296 by omega),E8 (show x1 < 4294967296 by omega),E8 (show x2 < 4294967296 by omega),E8 (show x3 < 4294967296 by omega),E8 (show x0*2 ^ 24 < 4294967296 by omega),E8 (show x1*2 ^ 16 < 4294967296 by omega),E8 (show x2*2 ^ 8 < 4294967296 by omega)]
 have k1:x0*2 ^ 24|||x1*2 ^ 16=(x0*256+x1)*2 ^ 16:=by rw[XL (by omega)];omega
 rw[k1,E8 (show(x0*256+x1)*2 ^ 16 < 4294967296 by omega)]
 have k2:(x0*256+x1)*2 ^ 16|||x2*2 ^ 8=((x0*256+x1)*256+x2)*2 ^ 8:=by rw[XL (by omega)];omega
 rw[k2,E8 (show((x0*256+x1)*256+x2)*2 ^ 8 < 4294967296 by omega),XL (by omega)]
 omega
def Rf (b:Str) (k:Nat):List Nat:=(List.range (k - 16)).foldl Qe ((List.range (min k 16)).foldl (Kz b) (List.replicate 64 0))
theorem jV (b:Str) (k:Nat):(Rf b k).length=64:=WB (WC b _) _
theorem bN {b:Str} {k:Nat} (h:k < 16):Rf b (k+1)=(Rf b k).set k (Yo b k):=by
 unfold Rf
 rw[show k+1 - 16=0 by omega,show k - 16=0 by omega,show min (k+1) 16=k+1 by omega,show min k 16=k by omega,Bt];rfl
theorem bM (b:Str) (j:Nat):Rf b (j+16+1)=(Rf b (j+16)).set (j+16) (Th (Rf b (j+16)) j):=by
 unfold Rf
 rw[show j+16+1 - 16=j+1 by omega,show j+16 - 16=j by omega,show min (j+16+1) 16=16 by omega,show min (j+16) 16=16 by omega,Bt];rfl
theorem cT (b:Str) (k:Nat): ∀ j,k≤j→((List.range k).foldl (Kz b) (List.replicate 64 0)).getD j 0=0:=by
 induction k with
 |zero=>intro j _;rw[qo,La,BG,List.getElem?_replicate];split<;>rfl
 |succ k ih=>
  intro j hj
  have:=ih j (by omega)
  rw[Bt,Kz,List.getD,Y6 (by omega)]
  exact this
theorem fU {b:Str} {k:Nat} (h:k < 16):(Rf b k).set k 0=Rf b k:=by
 have h0:=cT b k k (Ak _)
 have hl:=jV b k
 have e:Rf b k=(List.range k).foldl (Kz b) (List.replicate 64 0):=by
  unfold Rf
  rw[show k - 16=0 by omega,show min k 16=k by omega];rfl
 rw[←e]at h0
 refine EC (by simp) fun i h1 h2=>?_
 rw[mo]
 split
 ·rename_i e
  subst e
  simpa [List.getD,h2]using h0.symm
 ·rfl
instance nx (s:Str) [hs:B0 (s.length=64)]:C8 Tryz.prog 232 [.str s] (.agg (eW (Gj s))):=⟨by
 refine Av Tryz.func232 Tryz.ntmps232 rfl (rs:= [.cell 2 253]) rfl rfl fun hb LF=>?_
 have hl:=hs.out
 have i2:Cy (eW (List.replicate 64 0)) 64:=⟨rfl⟩
 refine Jw fun b=>?_
 refine Iv fun b2=>?_
 refine Ab (σ:=Nat × List Nat) (fun k=>k.1≤64∧k.2.length=64∧k.2=Rf s k.1) (fun k=>64 - k.1) (fun k=> [(0,.str s),(2,.raw (.pointer (some ⟨b,0,none⟩))),(3,.raw (.pointer (some ⟨b2,0,none⟩))),(9,.raw (.int .i64 k.1))]) (fun k=> .box b2 253 (eW k.2):: .box b 253 (eW (List.replicate 64 0))::LF) (0,List.replicate 64 0) ⟨by simp,by simp,rfl⟩ ⟨rfl,rfl,rfl,rfl⟩ (.refl _) ?_
 rintro⟨k,w⟩ ⟨hk,hw,he⟩
 dsimp only at hk hw he ⊢
 have i3:Cy (eW w) 64:=⟨by rw[H9,hw]⟩
 refine E5 ?_
 refine A6 (fun hc=>?_) (fun hc=>?_)
 ·refine E5 ?_
  refine A6 (fun h16=>?_) (fun h16=>?_)
  ·have h16':k < 16:=by omega
   have hz:=fU (b:=s) h16'
   rw[←he]at hz
   refine E5 ?_
   refine X6 (ax:= .str s) (i:=4*k) (j:=4*k+4) rfl (by show PV.raw (.int .i64 (4*(k:Int)))=_;rw[show(4*(k:Int))=((4*k:Nat):Int) by omega]) (by show PV.raw (.int .i64 (4*(k:Int)+4))=_;rw[show(4*(k:Int)+4)=((4*k+4:Nat):Int) by omega]) (by omega) (by omega) (by omega) ?_
   refine Vb (ax:= .str ((s.drop (4*k)).take (4*k+4 - 4*k))) rfl (by rw[Aa,B4];omega) fun t=>?_
   have hcl:((s.drop (4*k)).take (4*k+4 - 4*k)).length=4:=by rw[Aa,B4];omega
   have hce: ∀ i (h:i < ((s.drop (4*k)).take (4*k+4 - 4*k)).length),((s.drop (4*k)).take (4*k+4 - 4*k))[i]=s.getD (4*k+i) 0:=fun i h=>by
    rw[FI,HJ,BG,AO (by omega)];rfl
   generalize (s.drop (4*k)).take (4*k+4 - 4*k)=cs at hcl hce ⊢
   refine E5 ?_
   refine Ab (σ:=Nat × Nat) (fun j=>j.1≤4∧j.2=(List.range j.1).foldl (fun v i=>RI v (s.getD (4*k+i) 0)) 0) (fun j=>4 - j.1) (fun j=> [(0,.str s),(2,.raw (.pointer (some ⟨b,0,none⟩))),(3,.raw (.pointer (some ⟨b2,0,none⟩))),(4,.raw (.int .i64 k)),(9,.raw (.int .i64 k)),(21,.slice (cs.map eBy) t),(22,.raw (.int .i64 cs.length)),(23,.raw (.int .i64 j.1))]) (fun j=> .box b2 253 (eW (w.set k j.2)):: .box b 253 (eW (List.replicate 64 0))::LF) (0,0) ⟨by simp,rfl⟩ ⟨rfl,rfl,rfl,rfl,rfl,rfl,rfl,rfl⟩ (by dsimp only;rw[hz];exact .cons _ (.refl _)) ?_
   rintro⟨j,v⟩ ⟨hj,hv⟩
   dsimp only at hj hv ⊢
   refine E5 ?_
   refine A6 (fun hc2=>?_) (fun hc2=>?_)
   ·have hj4:j < 4:=by omega
    have hsl:(w.set k v).length=64:=by rw[DQ,hw]
    have hkw:k < w.length:=by omega
    refine wf ?_
    refine E5 ?_
    refine⟨(j+1,RI v (s.getD (4*k+j) 0)),⟨by dsimp only;omega,?_⟩,by dsimp only;omega,⟨rfl,rfl,rfl,rfl,rfl,rfl,rfl,rfl⟩,?_⟩
    ·dsimp only
     rw[Bt,←hv]
    ·have e:(w.set k v).getD k 0=v:=by simp[List.getD,hkw]
     dsimp only
     rw[e,hce j (by omega),List.set_set]
     exact .refl _
   ·have hj4:j=4:=by omega
    subst hj4
    rw[ar s k (by omega)]at hv
    refine E5 ?_
    refine⟨(k+1,w.set k v),⟨by dsimp only;omega,by dsimp only;rw[DQ,hw],by dsimp only;rw[bN h16',←he,hv]⟩,by dsimp only;omega,⟨rfl,rfl,rfl,rfl⟩,.refl _⟩
  ·obtain⟨j,rfl⟩: ∃ j,k=j+16:=⟨k - 16,by omega⟩
   refine Nu ?_
   refine GW (by decide+kernel) ?_
   refine Wj ?_
   refine BZ 29 ?_ ?_
   ·decide+kernel
   refine JI ?_
   refine⟨(j+16+1,w.set (j+16) (Th w j)),⟨by dsimp only;omega,by dsimp only;rw[DQ,hw],by dsimp only;rw[bM,←he]⟩,by dsimp only;omega,⟨rfl,rfl,rfl,rfl⟩,?_⟩
   dsimp only;rw[Tf];exact .refl _
 ·refine E5 ?_
  refine Fv rfl (.of_eq ?_) (hn:=(by rw[H9,hw]:(eW w).length=64))
  have hkk:k=64:=by omega
  subst hkk
  rw[he];rfl⟩
end Go.Proofs
namespace Go.Q
open Go
section
variable {P:Program} {N:Nat} {all:Array Oper} {K:Env→List Res→Prop} {fl:List Bool} {os:List Oper} {ρ:Env} {L:List Res} {d:Nat} {ty:TypeId} {pos:String} {af:Array Edge}
theorem Yh {T n E by_:Nat} [hT:VM P T n E] [hE:Ea P E 1 by_] [hS:DJ P E] {x y:Operand} {l:List Nat} {i:Nat} {kk:IntKind} (hx:ρ.ev x= .agg (eW l)) (hy:ρ.ev y= .raw (.int kk (i:Int))) (hl:l.length=n) (hi:i < n)
  (k:AU P N all K fl.tail os (CU ρ d (.raw (.int .u32 ((l.getD i 0:Nat):Int)))) L) (hd:Nat.blt d N=true:=by rfl):AU P N all K fl (⟨some d,.index T x y,ty,pos,af,none⟩::os) ρ L:=
 Bk hd (B9 fun a w g ha hi'=>⟨.int .u32 ((l.getD i 0:Nat):Int),by
  have h1:=ha x (by simp[Op.operands])
  rw[hx]at h1
  have h2:=Cc ha (x:=y) (by simp[Op.operands]) hy
  obtain⟨z,z1,z2,_⟩:=hE.out
  show(do pure (Next.value (←Instr.index T (a.eval x) (a.eval y))):Sem Next).run P w=_
  rw[h2]
  generalize a.eval x=v at h1
  cases h1 with
  |agg hs hv=>
   rename_i vs
   have hil:i < l.length:=by omega
   have hiv:i < vs.size:=by rw[hs];simpa using hil
   have h3:vs[i]= .int .u32 ((l.getD i 0:Nat):Int):=by
    have:=hv i hiv (by simpa using hil)
    simp only[eW,BK]at this
    rw[this.raw_inv]
    simp[List.getD,hil]
   have hn:(0:Int)≤(i:Int)∧(i:Int) < (n:Int):=⟨by omega,by omega⟩
   have hp:(part E vs ((i:Int).toNat*1)).run P w= .ok (.int .u32 ((l.getD i 0:Nat):Int)) w:=by
    unfold part
    rw[Sem.run_bind,NI hS.out,Dz,IV]
    simp only[Result.andThen_ok,BQ,if_false,CN hiv,h3,Sem.run_pure]
   simp only[Instr.index,asIntOf,Sem.run_bind,Sem.run_pure,Result.andThen_ok,IQ hT.out,hn,and_self,if_true,sizeOf,typeInfo,run_program,z1,z2,hp],.raw _⟩) k
end
end Go.Q
namespace Go.Proofs
open Go Go.Q
attribute [local irreducible] ER AU BA Fk
def v8 (v:List Nat):List Nat:= [v.getD 0 0,v.getD 1 0,v.getD 2 0,v.getD 3 0,v.getD 4 0,v.getD 5 0,v.getD 6 0,v.getD 7 0]
theorem we {v:List Nat} (h:v.length=8):v8 v=v:=by
 match v,h with
 | [_,_,_,_,_,_,_,_],_=>rfl
instance qK (h:List Nat) (s:Str) [hs:B0 (s.length=64)] [hh:B0 (h.length=8)]:C8 Tryz.prog 185 [.agg (eW h),.str s] (.agg (eW (Na h s))):=⟨by
 refine Av Tryz.func185 Tryz.ntmps185 rfl (rs:= [.cell 4 216]) rfl rfl fun hb LF=>?_
 have hl:=hh.out
 have hsl:=Ti s
 have j1:Cy (eW (List.replicate 64 0)) 64:=⟨rfl⟩
 have j2:Cy (eW (List.replicate 8 0)) 8:=⟨rfl⟩
 have j3:Cy (eW h) 8:=⟨by rw[H9,hl]⟩
 have j4:Cy (eW rK) 64:=⟨rfl⟩
 have j5:Cy (eW (Gj s)) 64:=⟨by rw[H9,hsl]⟩
 have hkl:rK.length=64:=rfl
 refine Jw fun b2=>?_
 refine Iv fun b4=>?_
 refine Iv fun b5=>?_
 refine Iv fun b6=>?_
 refine Ab (σ:=Nat × List Nat) (fun k=>k.1≤64∧k.2.length=8∧k.2=(List.range k.1).foldl (Mx (Gj s)) h) (fun k=>64 - k.1) (fun k=> [(2,.raw (.pointer (some ⟨b2,0,none⟩))),(4,.raw (.pointer (some ⟨b4,0,none⟩))),(5,.raw (.pointer (some ⟨b5,0,none⟩))),(6,.raw (.pointer (some ⟨b6,0,none⟩))),(7,.raw (.int .u32 ((k.2.getD 0 0:Nat):Int))),(8,.raw (.int .u32 ((k.2.getD 1 0:Nat):Int))),(9,.raw (.int .u32 ((k.2.getD 2 0:Nat):Int))),(10,.raw (.int .u32 ((k.2.getD 3 0:Nat):Int))),(11,.raw (.int .u32 ((k.2.getD 4 0:Nat):Int))),(12,.raw (.int .u32 ((k.2.getD 5 0:Nat):Int))),(13,.raw (.int .u32 ((k.2.getD 6 0:Nat):Int))),(14,.raw (.int .u32 ((k.2.getD 7 0:Nat):Int))),(39,.raw (.int .i64 k.1))]) (fun k=> .box b6 253 (eW rK):: .box b5 253 (eW (Gj s)):: .box b4 216 (eW (List.replicate 8 0)):: .box b2 216 (eW h)::LF) (0,h) ⟨by simp,hl,rfl⟩ ⟨rfl,rfl,rfl,rfl,rfl,rfl,rfl,rfl,rfl,rfl,rfl,rfl,rfl⟩ (.refl _) ?_
 rintro⟨k,v⟩ ⟨hk,hv,hve⟩
 dsimp only at hk hv hve ⊢
 refine E5 ?_
 refine A6 (fun hc=>?_) (fun hc=>?_)
 ·refine E5 ?_
  refine⟨(k+1,Mx (Gj s) v k),⟨by dsimp only;omega,rfl,by dsimp only;rw[Bt,←hve]⟩,by dsimp only;omega,⟨rfl,rfl,rfl,rfl,rfl,rfl,rfl,rfl,rfl,rfl,rfl,rfl,rfl⟩,.refl _⟩
 have hkk:k=64:=by omega
 subst hkk
 replace hve:v=L0 h s:=hve
 have hv8:=we hv
 refine E5 ?_
 refine KO [.tmp 102,.tmp 103,.tmp 104,.tmp 105,.tmp 106,.tmp 107,.tmp 108,.tmp 109] (v8 v) rfl (hx8 (by rfl) (by rfl) (by rfl) (by rfl) (by rfl) (by rfl) (by rfl) (by rfl)) (by simp[v8]) (by simp[v8]) ?_
 rw[hv8]
 refine E5 ?_
 refine Ab (σ:=Nat × List Nat) (fun k=>k.1≤8∧k.2.length=8∧k.2=(List.range k.1).foldl (Yw (L0 h s)) h) (fun k=>8 - k.1) (fun k=> [(2,.raw (.pointer (some ⟨b2,0,none⟩))),(4,.raw (.pointer (some ⟨b4,0,none⟩))),(110,.agg (eW v)),(111,.raw (.int .i64 k.1))]) (fun k=> .box b4 216 (eW (List.replicate 8 0)):: .box b2 216 (eW k.2)::LF) (0,h) ⟨by simp,hl,rfl⟩ ⟨rfl,rfl,rfl,rfl⟩ (.cons _ (.cons _ (.refl _))) ?_
 rintro⟨k,x⟩ ⟨hk,hx,hxe⟩
 dsimp only at hk hx hxe ⊢
 have j8:Cy (eW x) 8:=⟨by rw[H9,hx]⟩
 refine E5 ?_
 refine A6 (fun hc=>?_) (fun hc=>?_)
 ·refine E5 ?_
  refine Yh rfl rfl hv (by omega) ?_
  refine E5 ?_
  refine⟨(k+1,x.set k (Nn (x.getD k 0) ((L0 h s).getD k 0))),⟨by dsimp only;omega,by dsimp only;rw[DQ,hx],by dsimp only;rw[Bt,←hxe];rfl⟩,by dsimp only;omega,⟨rfl,rfl,rfl,rfl⟩,?_⟩
  rw[←hve]
  exact .refl _
 ·refine E5 ?_
  refine Fv rfl (.of_eq ?_) (hn:=(by rw[H9,hx]:(eW x).length=8))
  have hkk:k=8:=by omega
  subst hkk
  rw[Na,hxe]⟩
end Go.Proofs
namespace Go.Q
open Go
section
variable {P:Program} {N:Nat} {all:Array Oper} {K:Env→List Res→Prop} {fl:List Bool} {os:List Oper} {ρ:Env} {L:List Res} {d:Nat} {ty:TypeId} {pos:String} {af:Array Edge}
theorem o8 {T T':TypeId} {x y:Operand} {a b:Nat} (hx:ρ.ev x= .raw (.int .u64 (a:Int))) (hy:ρ.ev y= .raw (.int .i64 (b:Int))) (k:AU P N all K fl.tail os (CU ρ d (.raw (.int .u64 ((a / 2 ^ (min b 64):Nat):Int)))) L) (hd:Nat.blt d N=true:=by rfl):
  AU P N all K fl (⟨some d,.binOp .shr T x y T',ty,pos,af,none⟩::os) ρ L:=Gu hx hy (fun w=>by
   have h0: ¬(b:Int) < 0:=by omega
   simp only[binOp,Op.shift,h0,if_false,IntKind.bits,Dz]
   rw[R7];rfl) k hd
theorem oH {T E sz by_:Nat} [hT:Ma P T E] [hE:Ea P E sz by_] {x y z:Operand} {α:Type} {f:α→List PV} [hf:NS f sz] {l:List α} {t:CC} {k1 k2:IntKind} {i j:Nat} (hx:ρ.ev x= .slice (l.map f) t) (hy:ρ.ev y= .raw (.int k1 (i:Int))) (hz:ρ.ev z= .raw (.int k2 (j:Int))) (hij:i≤j) (hj:j≤l.length)
  (k:AU P N all K fl.tail os (CU ρ d (.slice (((l.drop i).take (j - i)).map f) .ro)) L) (hd:Nat.blt d N=true:=by rfl):AU P N all K fl (⟨some d,.slice T x (some y) (some z) none,ty,pos,af,none⟩::os) ρ L:=
 Bk hd (XF i j hx hij (by simpa using hj) (fun e he=>by obtain⟨a,_,rfl⟩:=AQ.1 he;exact hf.out a) (fun o e=>by cases e;exact⟨_,hy⟩) (by simp) (fun o e=>by cases e;exact⟨_,hz⟩) (by simp)) (by
  rw[←List.map_drop,←ao];exact k)
end
end Go.Q
namespace Go.Proofs
open Go Go.Q
attribute [local irreducible] ER AU BA Fk
def qP (m:Str) (k:Nat):Str:=(m.drop (64*k)).take 64
def eS1 (s:Str):List PV:= [.str s]
def OU (s:Str):List Str:=(List.range ((JM s).length / 64)).map (qP (JM s))
theorem kN (s:Str):(JM s).length % 64=0:=by rw[Tk];omega
theorem Tj (s:Str) (n:Nat) (h:n≤s.length):(JM s).drop n=(s.drop n++ [128])++List.replicate ((120 - (s.length+1) % 64) % 64) 0++FQ (s.length*8) 8:=by
 unfold JM
 rw[AV,AV,List.drop_append_of_le_length h,AV,AV]
theorem iU {s:Str} {k:Nat} (h:64*k+64≤s.length):qP (JM s) k=(s.drop (64*k)).take 64:=by
 unfold qP
 rw[Tj s (64*k) (by omega),AV,AV,Fx (by rw[B4];omega)]
theorem WU (s:Str) {k:Nat} (h:k < (JM s).length / 64):(OU s).take (k+1)=(OU s).take k++ [qP (JM s) k]:=by
 have hl:k < (OU s).length:=by simpa [OU]using h
 rw[A7 hl]
 simp[OU]
theorem Qn (n j:Nat):FQ n (j+1)=FQ n j++ [UInt8.ofNat (n / 2 ^ (min (8*(7 - j)) 64))]:=by
 rw[FQ,FQ,EJ,Aq];rfl
theorem aU (s:Str) (hs:s.length≤1000000):Ur Tryz.prog 231 [.pt [.str s] 0] eS1 (OU s):=by
 have hpl:=Tk s
 have hpm:=kN s
 obtain⟨q,hq⟩: ∃ q,q=s.length / 64:=⟨_,rfl⟩
 have hq1:64*q≤s.length:=by omega
 have hq2:s.length < 64*q+64:=by omega
 have hn:q < (JM s).length / 64:=by omega
 intro l J Jx hY L hJ
 have e128:GP (.raw (.int .u8 128)) eBy (128:UInt8):=(inferInstance:GP (.raw (.int .u8 (((128:UInt8)).toNat:Int))) eBy 128)
 have e0:GP (.raw (.int .u8 0)) eBy (0:UInt8):=(inferInstance:GP (.raw (.int .u8 (((0:UInt8)).toNat:Int))) eBy 0)
 have hpre: ∀ k,(OU s).take k <+:OU s:=fun k=>Sv _ _
 refine C4 Tryz.func231 rfl Tryz.ntmps231 (rs:= []) rfl rfl fun hb LF=>?_
 refine wf ?_
 refine je (by rfl) (by rfl) (by decide) (by omega) ?_
 rw[show s.length / (@OfNat.ofNat Nat 64 _)=q from hq.symm]
 refine wf ?_
 refine Ab (σ:=Nat × List Res) (fun k=>k.1≤q∧J ((OU s).take k.1) k.2) (fun k=>q - k.1) (fun k=> [(0,.raw (.func (.yield l) #[] #[])),(1,.pt [.str s] 0),(3,.raw (.int .i64 ((64*q:Nat):Int))),(4,.raw (.int .i64 ((64*k.1:Nat):Int)))]) (fun k=>k.2++LF) (0,L) ⟨by simp,hJ⟩ ⟨rfl,rfl,?_,rfl⟩ (.refl _) ?_
 ·show PV.raw (.int .i64 ((q:Int)*64))=_
  rw[show((q:Int)*64)=((64*q:Nat):Int) by omega]
 rintro⟨k,L1⟩ ⟨hk,hJ1⟩
 dsimp only at hk hJ1 ⊢
 refine wf ?_
 refine A6 (fun hc=>?_) (fun hc=>?_)
 ·have hkq:k < q:=by omega
  have hb:=iU (s:=s) (k:=k) (by omega)
  have hbt:=WU s (k:=k) (by omega)
  refine wf ?_
  refine X6 (ax:= .str s) (i:=64*k) (j:=64*k+64) rfl rfl (by show PV.raw (.int .i64 (((64*k:Nat):Int)+64))=_;rw[show(((64*k:Nat):Int)+64)=((64*k+64:Nat):Int) by omega]) (by omega) (by omega) (by omega) ?_
  rw[show 64*k+64 - 64*k=64 by omega,←hb]
  refine Ha L1 LF rfl rfl rfl (.refl _) _ (hY ((OU s).take k) (qP (JM s) k) L1 (by rw[←hbt];exact hpre _) hJ1) fun bo L' hR=>?_
  refine wf ?_
  rw[←hbt]at hR
  rcases hR with ⟨rfl,hJ2⟩|⟨rfl,hJx⟩
  ·refine wf ?_
   refine⟨(k+1,L'),⟨by dsimp only;omega,hJ2⟩,by dsimp only;omega,⟨rfl,rfl,rfl,?_⟩,.refl _⟩
   show PV.raw (.int .i64 (((64*k:Nat):Int)+64))=_
   rw[show(((64*k:Nat):Int)+64)=((64*(k+1):Nat):Int) by omega]
  ·refine wf ?_
   exact⟨trivial,_,L',.nil,.refl _,.inr ⟨_,hJx⟩⟩
 ·have hkq:k=q:=by omega
  subst hkq
  refine wf ?_
  refine Vb (ax:= .str (s.drop (64*k))) rfl (by rw[B4];omega) fun t=>?_
  refine dR fun t1=>?_
  have hdl:(s.drop (64*k)).length=s.length - 64*k:=B4
  refine Ab (σ:=Nat × CC) (fun j=>j.1≤(120 - (s.length+1) % 64) % 64) (fun j=>(120 - (s.length+1) % 64) % 64 - j.1) (fun j=> [(0,.raw (.func (.yield l) #[] #[])),(1,.pt [.str s] 0),(5,.slice (((s.drop (64*k)++ [128])++List.replicate j.1 0).map eBy) j.2)]) (fun j=> .tok j.2 ((s.drop (64*k)++ [128])++List.replicate j.1 0).length 1::(L1++LF)) (0,t1) (by simp) ⟨rfl,rfl,?_⟩ ?_ ?_
  ·rw[List.replicate_zero,BW];rfl
  ·rw[List.replicate_zero,BW];exact .refl _
  rintro⟨j,t2⟩ hj
  dsimp only at hj ⊢
  have hjl:((s.drop (64*k)++ [128])++List.replicate j (0:UInt8)).length=s.length - 64*k+1+j:=by simp[hdl];omega
  refine wf ?_
  refine bP (by rfl) (by rfl) (by decide) ?_
  refine wf ?_
  refine AX (fun hc2=>?_) (fun hc2=>?_)
  ·have hlt:j < (120 - (s.length+1) % 64) % 64:=by
    rcases B8 j ((120 - (s.length+1) % 64) % 64)with h|h
    ·exact h
    ·exfalso
     apply hc2
     rw[hjl]
     omega
   generalize hmj:(s.drop (64*k)++ [128])++List.replicate j (0:UInt8)=mj at hjl ⊢
   refine dR fun t3=>?_
   refine⟨(j+1,t3),by dsimp only;omega,by dsimp only;omega,⟨rfl,rfl,?_⟩,?_⟩
   ·dsimp only
    rw[Y4,←AV,hmj];rfl
   ·dsimp only
    rw[Y4,←AV,hmj];exact .refl _
  have hjz:j=(120 - (s.length+1) % 64) % 64:=by
   rw[hjl]at hc2
   omega
  subst hjz
  generalize hm0:(s.drop (64*k)++ [128])++List.replicate ((120 - (s.length+1) % 64) % 64) (0:UInt8)=m0 at hjl ⊢
  refine wf ?_
  refine Ab (σ:=Nat × CC) (fun j=>j.1≤8) (fun j=>8 - j.1) (fun j=> [(0,.raw (.func (.yield l) #[] #[])),(1,.pt [.str s] 0),(5,.slice ((m0++FQ (s.length*8) j.1).map eBy) j.2),(6,.raw (.int .i64 (56 - 8*(j.1:Int))))]) (fun j=> .tok j.2 (m0++FQ (s.length*8) j.1).length 1::(L1++LF)) (0,t2) (by simp) ⟨rfl,rfl,?_,rfl⟩ ?_ ?_
  ·show _=PV.slice ((m0++ []).map eBy) _
   rw[BW];rfl
  ·show List.Sublist (_::_) (_::_)
   rw[show m0++FQ (s.length*8) 0=m0 from BW _];exact .refl _
  rintro⟨j,t3⟩ hj8
  dsimp only at hj8 ⊢
  have hpt:(m0++FQ (s.length*8) j).length=s.length - 64*k+1+(120 - (s.length+1) % 64) % 64+j:=by simp[FQ,hjl]
  refine wf ?_
  refine A6 (fun hc3=>?_) (fun hc3=>?_)
  ·generalize hmj:m0++FQ (s.length*8) j=mj at hpt ⊢
   refine wf ?_
   refine X2 (b:=8) (by rfl) (by rfl) (by omega) ?_
   refine wf ?_
   refine o8 (b:=8*(7 - j)) (by rfl) (by show PV.raw (.int .i64 (56 - 8*(j:Int)))=_;rw[show(56 - 8*(j:Int))=((8*(7 - j):Nat):Int) by omega]) ?_
   refine dR fun t4=>?_
   refine⟨(j+1,t4),by dsimp only;omega,by dsimp only;omega,⟨rfl,rfl,?_,?_⟩,?_⟩
   ·dsimp only
    rw[Qn,←AV,hmj];rfl
   ·show PV.raw (.int .i64 (56 - 8*(j:Int) - 8))=PV.raw (.int .i64 (56 - 8*((j+1:Nat):Int)))
    rw[show(56 - 8*(j:Int) - 8)=56 - 8*((j+1:Nat):Int) by omega]
   ·dsimp only
    rw[Qn,←AV,hmj];exact .refl _
  have hj:j=8:=by omega
  subst hj
  have hm1:m0++FQ (s.length*8) 8=(JM s).drop (64*k):=by rw[Tj s (64*k) hq1,←hm0]
  rw[hm1]at hpt ⊢
  refine wf ?_
  refine Ab (σ:=Nat × List Res) (fun i=>k+i.1≤(JM s).length / 64∧J ((OU s).take (k+i.1)) i.2) (fun i=>(JM s).length / 64 - (k+i.1)) (fun i=> [(0,.raw (.func (.yield l) #[] #[])),(5,.slice (((JM s).drop (64*k)).map eBy) t3),(7,.raw (.int .i64 ((64*i.1:Nat):Int)))]) (fun i=>i.2++LF) (0,L1) ⟨by dsimp only;omega,hJ1⟩ ⟨rfl,rfl,rfl⟩ (.cons _ (.refl _)) ?_
  rintro⟨i,L2⟩ ⟨hi,hJ2⟩
  dsimp only at hi hJ2 ⊢
  refine wf ?_
  refine A6 (fun hc4=>?_) (fun hc4=>?_)
  ·have hbt:=WU s (k:=k+i) (by omega)
   refine wf ?_
   refine oH (i:=64*i) (j:=64*i+64) rfl rfl (by show PV.raw (.int .i64 (((64*i:Nat):Int)+64))=_;rw[show(((64*i:Nat):Int)+64)=((64*i+64:Nat):Int) by omega]) (by omega) (by omega) ?_
   refine wf ?_
   have e:(((JM s).drop (64*k)).drop (64*i)).take (64*i+64 - 64*i)=qP (JM s) (k+i):=by
    rw[Lg,qP,show 64*i+64 - 64*i=64 by omega,show 64*k+64*i=64*(k+i) by omega]
   rw[e]
   refine Ha L2 LF rfl rfl rfl (.refl _) _ (hY ((OU s).take (k+i)) (qP (JM s) (k+i)) L2 (by rw[←hbt];exact hpre _) hJ2) fun bo L' hR=>?_
   refine wf ?_
   rw[←hbt]at hR
   rcases hR with ⟨rfl,hJ3⟩|⟨rfl,hJx⟩
   ·refine wf ?_
    refine⟨(i+1,L'),⟨by dsimp only;omega,hJ3⟩,by dsimp only;omega,⟨rfl,rfl,?_⟩,.refl _⟩
    show PV.raw (.int .i64 (((64*i:Nat):Int)+64))=_
    rw[show(((64*i:Nat):Int)+64)=((64*(i+1):Nat):Int) by omega]
   ·refine wf ?_
    exact⟨trivial,_,L',.nil,.refl _,.inr ⟨_,hJx⟩⟩
  ·have hie:k+i=(JM s).length / 64:=by omega
   rw[hie,AF (by simp[OU])]at hJ2
   refine wf ?_
   exact⟨trivial,_,L2,.nil,.refl _,.inl hJ2⟩
end Go.Proofs
namespace Go.Q
open Go
section
variable {P:Program} {N:Nat} {all:Array Oper} {K:Env→List Res→Prop} {fl:List Bool} {os:List Oper} {ρ:Env} {L:List Res} {d:Nat} {ty:TypeId} {pos:String} {af:Array Edge}
theorem o7 {T T':TypeId} {x y:Operand} {a b:Nat} (hx:ρ.ev x= .raw (.int .u32 (a:Int))) (hy:ρ.ev y= .raw (.int .i64 (b:Int))) (k:AU P N all K fl.tail os (CU ρ d (.raw (.int .u32 (Wy a b:Nat)))) L) (hd:Nat.blt d N=true:=by rfl):
  AU P N all K fl (⟨some d,.binOp .shr T x y T',ty,pos,af,none⟩::os) ρ L:=Gu hx hy (fun w=>by
   have h0: ¬(b:Int) < 0:=by omega
   simp only[binOp,Op.shift,h0,if_false,IntKind.bits,Dz]
   rw[R7];rfl) k hd
end
end Go.Q
namespace Go.Proofs
open Go Go.Q
attribute [local irreducible] ER AU BA Fk
instance w6 (s:Str):C8 Tryz.prog 184 [.str s] (.clo 231 [.pt [.str s] 0]):=⟨by
 refine Av Tryz.func184 Tryz.ntmps184 rfl (rs:= [.tmp 2]) rfl rfl fun hb LF=>?_
 refine wf ?_
 exact B1 (.refl _)⟩
theorem mE {s b:Str} (h:b∈OU s):b.length=64:=by
 obtain⟨k,hk,rfl⟩:=AQ.1 h
 have:=Bg.1 hk
 rw[qP,Aa,B4]
 omega
theorem iR (s:Str):(OU s).foldl Na rH=IR (JM s) ((JM s).length / 64):=by
 rw[OU,List.foldl_map];rfl
instance zN (s:Str) [hs:B0 (s.length≤1000000)]:C8 Tryz.prog 137 [.str s] (.agg (eDig (fh s))):=⟨by
 refine Av Tryz.func137 Tryz.ntmps137 rfl (rs:= [.cell 2 31]) rfl rfl fun hb LF=>?_
 have hl:=hs.out
 have j2:Cy (eW (List.replicate 8 0)) 8:=⟨rfl⟩
 have j3:Cy (eW rH) 8:=⟨rfl⟩
 refine Jw fun b2=>?_
 refine Iv fun b3=>?_
 refine GK (aU s hl) [12] (σ:=List Nat) (fun pre h=>h=pre.foldl Na rH∧h.length=8) (fun _ _=>False) (fun h LF'=> .box b3 216 (eW h):: .box b2 31 (eDig Dig.zero)::LF') rH LF ?_ rfl (fun _=>rfl) (by simp) (fun s' LF'=>rfl) (.refl _) ⟨rfl,rfl⟩ ?_ ?_ ?_
 ·exact .refl _
 ·rintro pre x h LF' hpx ⟨hh,h8⟩
  have hx:x∈OU s:=hpx.subset (by simp)
  have i1:B0 (x.length=64):=⟨mE hx⟩
  have i2:B0 (h.length=8):=⟨h8⟩
  have j4:Cy (eW h) 8:=⟨by rw[H9,h8]⟩
  have j5:Cy (eW (Na h x)) 8:=⟨by rw[H9,Oq h8]⟩
  refine E5 ?_
  refine⟨Na h x,⟨by rw[BX,←hh];rfl,Oq h8⟩,.refl _⟩
 ·rintro h ⟨hh,h8⟩
  rw[iR]at hh
  have hrs:fh s=(List.range 32).foldl (Qj h) Dig.zero:=by rw[fh,←hh]
  rw[hrs]
  have j4:Cy (eW h) 8:=⟨by rw[H9,h8]⟩
  refine Jw fun b5=>?_
  refine Ab (σ:=Nat × Dig) (fun k=>k.1≤8∧k.2=(List.range (4*k.1)).foldl (Qj h) Dig.zero) (fun k=>8 - k.1) (fun k=> [(2,.raw (.pointer (some ⟨b2,0,none⟩))),(5,.raw (.pointer (some ⟨b5,0,none⟩))),(16,.agg (eW h)),(17,.raw (.int .i64 k.1))]) (fun k=> .box b5 31 (eDig k.2):: .box b2 31 (eDig Dig.zero)::LF) (0,Dig.zero) ⟨by simp,rfl⟩ ⟨rfl,rfl,rfl,rfl⟩ (.cons_cons _ (.cons _ (.refl _))) ?_
  rintro⟨k,d⟩ ⟨hk,hd⟩
  dsimp only at hk hd ⊢
  refine E5 ?_
  refine A6 (fun hc=>?_) (fun hc=>?_)
  ·refine E5 ?_
   refine Yh rfl rfl h8 (by omega) ?_
   refine E5 ?_
   refine Ab (σ:=Nat × Dig) (fun j=>j.1≤4∧j.2=(List.range (4*k+j.1)).foldl (Qj h) Dig.zero) (fun j=>4 - j.1) (fun j=> [(2,.raw (.pointer (some ⟨b2,0,none⟩))),(5,.raw (.pointer (some ⟨b5,0,none⟩))),(6,.raw (.int .i64 k)),(7,.raw (.int .u32 ((h.getD k 0:Nat):Int))),(16,.agg (eW h)),(17,.raw (.int .i64 k)),(21,.raw (.int .i64 j.1))]) (fun j=> .box b5 31 (eDig j.2):: .box b2 31 (eDig Dig.zero)::LF) (0,d) ⟨by simp,hd⟩ ⟨rfl,rfl,rfl,rfl,rfl,rfl,rfl⟩ (.refl _) ?_
   rintro⟨j,e⟩ ⟨hj,he⟩
   dsimp only at hj he ⊢
   refine E5 ?_
   refine A6 (fun hc2=>?_) (fun hc2=>?_)
   ·refine E5 ?_
    refine o7 (a:=h.getD k 0) (b:=24 - 8*j) rfl (by show PV.raw (.int .i64 (24 - 8*(j:Int)))=_;rw[show(24 - 8*(j:Int))=((24 - 8*j:Nat):Int) by omega]) ?_
    refine E5 ?_
    have er:Qj h e (4*k+j)=e.put (4*k+j) (UInt8.ofNat (Wy (h.getD k 0) (24 - 8*j))):=by
     rw[Qj,show(4*k+j) / 4=k by omega,show(4*k+j) % 4=j by omega]
    refine⟨(j+1,Qj h e (4*k+j)),⟨by dsimp only;omega,by dsimp only;rw[show 4*k+(j+1)=4*k+j+1 by omega,Bt,←he]⟩,by dsimp only;omega,⟨rfl,rfl,rfl,rfl,rfl,rfl,rfl⟩,?_⟩
    dsimp only
    rw[er,show(4*(k:Int)+(j:Int)).toNat=4*k+j by omega]
    exact .refl _
   ·have hj4:j=4:=by omega
    subst hj4
    refine E5 ?_
    exact⟨(k+1,e),⟨by dsimp only;omega,by dsimp only;rw[he,show 4*(k+1)=4*k+4 by omega]⟩,by dsimp only;omega,⟨rfl,rfl,rfl,rfl⟩,.refl _⟩
  ·have hk8:k=8:=by omega
   subst hk8
   refine E5 ?_
   refine Fv rfl (.of_eq ?_)
   rw[hd]
 ·intro pre s' h
  exact h.elim⟩
end Go.Proofs
namespace Go.Proofs
open Go.Shelf
def Tryz.laysItoa_ren:Go.Shelf.Ren:=⟨fun|171=>287|243=>302|246=>306|283=>308|284=>309|285=>310|286=>311|129=>179|317=>312|318=>313|319=>314|320=>315|337=>316|338=>317|n=>n,fun|3=>3|9=>9|2=>2|4=>4|171=>310|0=>0|53=>214|37=>159|5=>5|173=>312|212=>315|51=>212|20=>20|213=>316|46=>157|232=>30|233=>317|n=>n,fun|17=>1|18=>2|19=>3|n=>n⟩
theorem Tryz.laysItoa:Go.Proofs.LaysM.n171 Tryz.prog Tryz.laysItoa_ren:={
 mixed:=by kernel_rfl
 f129:=Tryz.func179.trans (congrArg some (by kernel_rfl))
 f171:=Tryz.func287.trans (congrArg some (by kernel_rfl))
 f243:=Tryz.func302.trans (congrArg some (by kernel_rfl))
 f246:=Tryz.func306.trans (congrArg some (by kernel_rfl))
 f283:=Tryz.func308.trans (congrArg some (by kernel_rfl))
 f284:=Tryz.func309.trans (congrArg some (by kernel_rfl))
 f285:=Tryz.func310.trans (congrArg some (by kernel_rfl))
 f286:=Tryz.func311.trans (congrArg some (by kernel_rfl))
 f317:=Tryz.func312.trans (congrArg some (by kernel_rfl))
 f318:=Tryz.func313.trans (congrArg some (by kernel_rfl))
 f319:=Tryz.func314.trans (congrArg some (by kernel_rfl))
 f320:=Tryz.func315.trans (congrArg some (by kernel_rfl))
 f337:=Tryz.func316.trans (congrArg some (by kernel_rfl))
 f338:=Tryz.func317.trans (congrArg some (by kernel_rfl))
 t0:=Tryz.underlying0
 a0:=Tryz.isAgg0
 z0:=Tryz.sizeOf0
 v0:=Tryz.zeroValue0
 t2:=Tryz.underlying2
 a2:=Tryz.isAgg2
 z2:=Tryz.sizeOf2
 v2:=Tryz.zeroValue2
 t3:=Tryz.underlying3
 a3:=Tryz.isAgg3
 z3:=Tryz.sizeOf3
 v3:=Tryz.zeroValue3
 t4:=Tryz.underlying4
 a4:=Tryz.isAgg4
 z4:=Tryz.sizeOf4
 v4:=Tryz.zeroValue4
 t5:=Tryz.underlying5
 a5:=Tryz.isAgg5
 z5:=Tryz.sizeOf5
 v5:=Tryz.zeroValue5
 t9:=Tryz.underlying9
 a9:=Tryz.isAgg9
 z9:=Tryz.sizeOf9
 v9:=Tryz.zeroValue9
 t20:=Tryz.underlying20
 a20:=Tryz.isAgg20
 z20:=Tryz.sizeOf20
 v20:=Tryz.zeroValue20
 t37:=Tryz.underlying159
 a37:=Tryz.isAgg159
 z37:=Tryz.sizeOf159
 v37:=Tryz.zeroValue159
 t46:=Tryz.underlying157
 a46:=Tryz.isAgg157
 z46:=Tryz.sizeOf157
 v46:=Tryz.zeroValue157
 t51:=Tryz.underlying212
 a51:=Tryz.isAgg212
 z51:=Tryz.sizeOf212
 v51:=Tryz.zeroValue212
 t53:=Tryz.underlying214
 a53:=Tryz.isAgg214
 z53:=Tryz.sizeOf214
 v53:=Tryz.zeroValue214
 t171:=Tryz.underlying310
 a171:=Tryz.isAgg310
 z171:=Tryz.sizeOf310
 v171:=Tryz.zeroValue310
 t173:=Tryz.underlying312
 a173:=Tryz.isAgg312
 z173:=Tryz.sizeOf312
 v173:=Tryz.zeroValue312
 t212:=Tryz.underlying315
 a212:=Tryz.isAgg315
 z212:=Tryz.sizeOf315
 v212:=Tryz.zeroValue315
 t213:=Tryz.underlying316
 a213:=Tryz.isAgg316
 z213:=Tryz.sizeOf316
 t232:=Tryz.underlying30
 a232:=Tryz.isAgg30
 z232:=Tryz.sizeOf30
 v232:=Tryz.zeroValue30
 t233:=Tryz.underlying317
 a233:=Tryz.isAgg317
 z233:=Tryz.sizeOf317
 v233:=Tryz.zeroValue317
 g17:=by kernel_rfl
 g18:=by kernel_rfl
 g19:=by kernel_rfl
 i0:=by kernel_rfl
 i2:=by kernel_rfl
 i3:=by kernel_rfl
 i4:=by kernel_rfl
 i5:=by kernel_rfl
 i9:=by kernel_rfl
 i20:=by kernel_rfl
 i37:=by kernel_rfl
 i46:=by kernel_rfl
 i51:=by kernel_rfl
 i53:=by kernel_rfl
 i171:=by kernel_rfl
 i173:=by kernel_rfl
 i212:=by kernel_rfl
 i232:=by kernel_rfl
 i233:=by kernel_rfl
 m17:=by kernel_rfl
 m18:=by kernel_rfl
 m19:=by kernel_rfl }
def Tryz.sortD_ren:Go.Shelf.Ren:=⟨fun|6=>60|15=>125|14=>124|28=>178|29=>179|20=>170|21=>171|22=>172|23=>173|24=>174|25=>175|26=>176|27=>177|46=>224|47=>225|48=>226|49=>227|50=>228|57=>283|n=>n,fun|22=>24|24=>31|25=>97|3=>3|39=>157|0=>0|53=>212|55=>214|4=>4|46=>206|45=>205|50=>134|5=>5|9=>9|66=>245|70=>249|76=>287|77=>288|n=>n,fun|n=>n⟩
theorem Tryz.sortD:Go.Proofs.SlLaysF0.n6 Tryz.prog Tryz.sortD_ren:={
 mixed:=by kernel_rfl
 f6:=⟨Tryz.f60.name,by decide,Tryz.func60.trans (congrArg some (by kernel_rfl))⟩
 f14:=⟨Tryz.f124.name,by decide,Tryz.func124.trans (congrArg some (by kernel_rfl))⟩
 f15:=Tryz.func125.trans (congrArg some (by kernel_rfl))
 f20:=⟨Tryz.f170.name,by decide,Tryz.func170.trans (congrArg some (by kernel_rfl))⟩
 f21:=⟨Tryz.f171.name,by decide,Tryz.func171.trans (congrArg some (by kernel_rfl))⟩
 f22:=⟨Tryz.f172.name,by decide,Tryz.func172.trans (congrArg some (by kernel_rfl))⟩
 f23:=⟨Tryz.f173.name,by decide,Tryz.func173.trans (congrArg some (by kernel_rfl))⟩
 f24:=⟨Tryz.f174.name,by decide,Tryz.func174.trans (congrArg some (by kernel_rfl))⟩
 f25:=⟨Tryz.f175.name,by decide,Tryz.func175.trans (congrArg some (by kernel_rfl))⟩
 f26:=⟨Tryz.f176.name,by decide,Tryz.func176.trans (congrArg some (by kernel_rfl))⟩
 f27:=⟨Tryz.f177.name,by decide,Tryz.func177.trans (congrArg some (by kernel_rfl))⟩
 f28:=Tryz.func178.trans (congrArg some (by kernel_rfl))
 f29:=Tryz.func179.trans (congrArg some (by kernel_rfl))
 f46:=⟨Tryz.f224.name,by decide,Tryz.func224.trans (congrArg some (by kernel_rfl))⟩
 f47:=Tryz.func225.trans (congrArg some (by kernel_rfl))
 f48:=Tryz.func226.trans (congrArg some (by kernel_rfl))
 f49:=⟨Tryz.f227.name,by decide,Tryz.func227.trans (congrArg some (by kernel_rfl))⟩
 f50:=⟨Tryz.f228.name,by decide,Tryz.func228.trans (congrArg some (by kernel_rfl))⟩
 f57:=⟨Tryz.f283.name,by decide,Tryz.func283.trans (congrArg some (by kernel_rfl))⟩
 t0:=Tryz.underlying0
 a0:=Tryz.isAgg0
 z0:=Tryz.sizeOf0
 v0:=Tryz.zeroValue0
 t3:=Tryz.underlying3
 a3:=Tryz.isAgg3
 z3:=Tryz.sizeOf3
 v3:=Tryz.zeroValue3
 t4:=Tryz.underlying4
 a4:=Tryz.isAgg4
 z4:=Tryz.sizeOf4
 v4:=Tryz.zeroValue4
 t5:=Tryz.underlying5
 a5:=Tryz.isAgg5
 z5:=Tryz.sizeOf5
 v5:=Tryz.zeroValue5
 t9:=Tryz.underlying9
 a9:=Tryz.isAgg9
 z9:=Tryz.sizeOf9
 v9:=Tryz.zeroValue9
 t22:=Tryz.underlying24
 a22:=Tryz.isAgg24
 z22:=Tryz.sizeOf24
 v22:=Tryz.zeroValue24
 t25:=Tryz.underlying97
 a25:=Tryz.isAgg97
 z25:=Tryz.sizeOf97
 v25:=Tryz.zeroValue97
 t39:=Tryz.underlying157
 a39:=Tryz.isAgg157
 z39:=Tryz.sizeOf157
 v39:=Tryz.zeroValue157
 t45:=Tryz.underlying205
 a45:=Tryz.isAgg205
 z45:=Tryz.sizeOf205
 v45:=Tryz.zeroValue205
 t46:=Tryz.underlying206
 a46:=Tryz.isAgg206
 z46:=Tryz.sizeOf206
 v46:=Tryz.zeroValue206
 t50:=Tryz.underlying134
 a50:=Tryz.isAgg134
 z50:=Tryz.sizeOf134
 v50:=Tryz.zeroValue134
 t53:=Tryz.underlying212
 a53:=Tryz.isAgg212
 z53:=Tryz.sizeOf212
 v53:=Tryz.zeroValue212
 t55:=Tryz.underlying214
 a55:=Tryz.isAgg214
 z55:=Tryz.sizeOf214
 v55:=Tryz.zeroValue214
 t66:=Tryz.underlying245
 a66:=Tryz.isAgg245
 z66:=Tryz.sizeOf245
 v66:=Tryz.zeroValue245
 t70:=Tryz.underlying249
 a70:=Tryz.isAgg249
 z70:=Tryz.sizeOf249
 v70:=Tryz.zeroValue249
 t76:=Tryz.underlying287
 a76:=Tryz.isAgg287
 z76:=Tryz.sizeOf287
 v76:=Tryz.zeroValue287
 t77:=Tryz.underlying288
 a77:=Tryz.isAgg288
 z77:=Tryz.sizeOf288
 v77:=Tryz.zeroValue288 }
end Go.Proofs
namespace Go.Proofs
open Go Go.Q Go.Shelf
attribute [local irreducible] ER AU BA Fk
theorem RA (n:Nat):Lib.decDigits n=IH n:=by
 induction n using Nat.strongRecOn with
 |_ n ih=>
  unfold Lib.decDigits
  by_cases h:n < 10
  ·rw[dif_pos h,IZ h]
  ·rw[dif_neg h,MB h,ih (n / 10) (by omega)]
theorem pc (n:Int):Lib.itoa n=JH n:=by
 unfold Lib.itoa JH
 by_cases h:n < 0
 ·rw[if_pos h,if_pos h,RA,show n.natAbs=(-n).toNat by omega]
 ·rw[if_neg h,if_neg h,RA]
theorem sv {w:World} {g:Gh} {L:List Res} (hi:Dv w g L):Lib.TabIs Tryz.prog w "internal/strconv.uint64pow10" .u64 Lib.pow10Tab:=by
 obtain⟨T,p,h⟩:=hi.satM _ _ hi.glob.tab
 unfold Lib.TabIs World.var?
 rw[show Tryz.prog.globalNamed "internal/strconv.uint64pow10" =some globAt by kernel_rfl]
 simp only[Gg,h]
 rfl
instance zR (n:Int) [hs:B0 (-140737488355328≤n∧n≤140737488355328)]:C8 Tryz.prog 287 [.raw (.int .i64 n)] (.str (JH n)):=⟨uV fun vs w g LF hv hi=>by
 obtain⟨h0,h1⟩:=hs.out
 obtain⟨v,rfl⟩: ∃ v,vs= [v]:=by
  have:=hv.len
  match vs,this with
  | [v],_=>exact⟨v,rfl⟩
 rw[hv.uncons.1.raw_inv]
 refine(Any.strconv_Itoa Tryz.laysItoa n (by omega) (by omega) w (sv hi)).mono ?_
 rintro e w' ⟨rfl,k,os,rfl⟩
 refine⟨_,rfl,fun g=>by rw[pc];exact .str (by have:=Ou (n:=n) ⟨h0,h1⟩;show _≤2 ^ 47;omega),rfl,rfl,rfl,mm _ _,?_,fun j hj=>?_⟩
 ·show w.heap.size≤(w.heap++os).size
  simp
 ·show(w.heap++os)[j]? =_
  rw[FJ hj]⟩
def OV (b:Nat) (p v:Value):Res:= .box b 263 [.raw p,.raw v]
def HZ (b:Nat):Value:= .pointer (some ⟨b,0,none⟩)
instance :vF Tryz.prog 261 263 2:= .of (by kernel_rfl) (by kernel_rfl)
instance (v:Value):ah Tryz.prog 307 [.raw v] (.raw v):=iG Tryz.func307 (by kernel_rfl) (by kernel_rfl) (by kernel_rfl) (by kernel_rfl) v
theorem RB (b:Nat) (p v:Value) (hp:p= .pointer none∨p=HZ b):BA Tryz.prog 303 [.raw (HZ b)] [OV b p v] (fun _ L'=>L'= [OV b (HZ b) v]):=by
 refine C4 Tryz.func303 rfl Tryz.ntmps303 (rs:= []) rfl rfl fun hb LF=>?_
 rw[show [OV b p v]++LF= .box b 263 [.raw p,.raw v]::LF from rfl]
 obtain⟨q,rfl,hq⟩: ∃ q,p= .pointer q∧(q=none∨q=some ⟨b,0,none⟩):=by
  rcases hp with rfl|rfl
  ·exact⟨none,rfl,.inl rfl⟩
  ·exact⟨_,rfl,.inr rfl⟩
 refine wf ?_
 refine tK rfl rfl ?_
 refine wf ?_
 rcases hq with rfl|rfl
 ·refine AW (t:=true) (fun _=>?_) (fun h=>by cases h)
  refine wf ?_
  refine bO (by kernel_rfl) (by decide) rfl AG (by simp) ?_
  refine rS (xs:= [.tmp 9]) (args:= [.raw (HZ b)]) rfl (fun i h1 h2=>by
   match i,h1,h2 with
   |0,_,_=>exact .refl _
   |m+1,h1,_=>exact absurd h1 (by simp)) rfl ?_
  refine X5 (by kernel_rfl) rfl AG (by kernel_rfl) ?_
  refine wf ?_
  refine IA [.raw (HZ b),.raw v] rfl rfl rfl rfl (by simp) ?_
  refine wf ?_
  exact⟨trivial,[],[OV b (HZ b) v],.nil,.refl _,rfl⟩
 ·refine AW (t:=false) (fun h=>by cases h) (fun _=>?_)
  refine wf ?_
  refine tH rfl rfl ?_
  refine wf ?_
  exact⟨trivial,[],[OV b (HZ b) v],.nil,.refl _,rfl⟩
instance :ic Tryz.prog 159 5:= .of (by kernel_rfl) (by kernel_rfl) (by kernel_rfl)
def sg (b:Nat) (l:List UInt8) (L:List Res):Prop:= ∃ p v R,(p= .pointer none∨p=HZ b)∧LG 5 v l R∧L=OV b p v::R
theorem Ns (b:Nat) (l s:List UInt8) (L:List Res) (hL:sg b l L) (hl:l.length+s.length≤140737488355328):BA Tryz.prog 290 [.raw (HZ b),.str s] L (fun _ L'=>sg b (l++s) L'):=by
 obtain⟨p,v,R,hp,hv,rfl⟩:=hL
 refine C4 Tryz.func290 rfl Tryz.ntmps290 (rs:= [.tmp 4,.tmp 5]) rfl rfl fun hb LF=>?_
 rw[show(OV b p v::R)++LF= [OV b p v]++(R++LF) from rfl]
 refine ws ?_
 refine CQ (xs:= [.tmp 6]) [OV b p v] (R++LF) (f:=303) (cs:= []) (C5 _) rfl rfl (.refl _) _ (RB b p v hp) fun r L' e=>?_
 subst e
 refine wf ?_
 refine kB (R:=R) (LF:= .box b 263 [.raw (HZ b),.raw v]::LF) (fun R'=> .box b 263 [.raw (HZ b),.raw v]::(R'++LF)) (ay:= .str s) rfl rfl hv (Bb (l₁:=R)).symm (fun R'=>Bb) hl fun v' R' hv'=>?_
 refine wf ?_
 refine IA [.raw (HZ b),.raw v'] rfl rfl hv'.one rfl (by simp) ?_
 refine wf ?_
 refine wf ?_
 exact⟨trivial,_,OV b (HZ b) v'::R',.cons (.tmp 4) (.cons (.tmp 5) .nil),.refl _,_,v',R',.inr rfl,hv',rfl⟩
theorem Mj (b:Nat) (l:List UInt8) (c:UInt8) (L:List Res) (hL:sg b l L) (hl:l.length+1≤140737488355328):BA Tryz.prog 291 [.raw (HZ b),.raw (.int .u8 c.toNat)] L (fun _ L'=>sg b (l++ [c]) L'):=by
 obtain⟨p,v,R,hp,hv,rfl⟩:=hL
 refine C4 Tryz.func291 rfl Tryz.ntmps291 (rs:= [.tmp 4]) rfl rfl fun hb LF=>?_
 rw[show(OV b p v::R)++LF= [OV b p v]++(R++LF) from rfl]
 refine ws ?_
 refine CQ (xs:= [.tmp 5]) [OV b p v] (R++LF) (f:=303) (cs:= []) (C5 _) rfl rfl (.refl _) _ (RB b p v hp) fun r L' e=>?_
 subst e
 refine wf ?_
 refine fa (R:=R) (LF:= .box b 263 [.raw (HZ b),.raw v]::LF) (fun R'=> .box b 263 [.raw (HZ b),.raw v]::(R'++LF)) (t:= .ro) rfl rfl hv (Bb (l₁:=R)).symm (fun R'=>Bb) hl fun v' R' hv'=>?_
 refine wf ?_
 refine IA [.raw (HZ b),.raw v'] rfl rfl hv'.one rfl (by simp) ?_
 refine wf ?_
 refine wf ?_
 exact⟨trivial,_,OV b (HZ b) v'::R',.cons (.tmp 4) .nil,.refl _,_,v',R',.inr rfl,hv',rfl⟩
theorem fL (b:Nat) (l:List UInt8) (L:List Res) (hL:sg b l L) (h0:l≠ []) (hl:l.length≤140737488355328):BA Tryz.prog 251 [.raw (HZ b)] L (fun r L'=>r= .str l∧L'= []):=by
 obtain⟨p,v,R,hp,hv,rfl⟩:=hL
 cases hv with
 |nil=>exact absurd rfl h0
 |row h1 h2 h3=>
  rename_i r cap cur
  refine C4 Tryz.func251 rfl Tryz.ntmps251 (rs:= [.tmp 2]) rfl rfl fun hb LF=>?_
  have hcap:cap≠0:=by have:=PC.2 h0;omega
  rw[show(OV b p (.slice (some ⟨r,0,none⟩) l.length cap):: [.raw r (.cells cur 5 (0,0))])++LF= .box b 263 [.raw p,.raw (.slice (some ⟨r,0,none⟩) l.length cap)]:: .raw r (.cells cur 5 (0,0))::LF from rfl]
  refine wn ?_
  refine BZ 10 ?_ ?_
  ·decide+kernel
  refine wf ?_
  refine YV rfl hcap ?_
  refine wf ?_
  refine KY rfl ?_
  refine wf ?_
  refine TU (E:=5) (by kernel_rfl) (by kernel_rfl) rfl rfl (.swap _ _ _) h0 (by omega) h3 hl ?_
  refine wf ?_
  exact⟨trivial,_,[],.cons (.tmp 2) .nil,.cons _ (.refl _),rfl,rfl⟩
end Go.Proofs
