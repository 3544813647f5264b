/- The small logic: arrays of words; a walk for code on words (printed by a program). Library, no statement of its own. -/
import Derived.Test.YtaibdmankdppkaaGreatDoorYae
import Derived.Test.YtaibdmankdppkaaGreatDoorYai
import Derived.Test.YtaibdmankdppkaaGreatDoorYaf
import Derived.Test.YtaibdmankdppkaaGreatDoorYad
import Derived.Test.YtaibdmankdppkaaGreatDoorProg
import Derived.Shelf.LaysM
import Derived.Shelf.Strconv.Itoa3
import Derived.Shelf.SlSortCmp.NoneTotal
import Derived.Shelf.SlGeneric
import Derived.Ground.SlsfProg
set_option linter.unusedSimpArgs false
set_option linter.unusedVariables false
set_option maxHeartbeats 8000000
namespace Go.Q
open Go
section
variable {P:Program} {N:Nat} {all:Array Oper} {K:Env→List Res→Prop} {fl:List Bool} {os:List Oper} {ρ:Env} {L:List Res} {Q:PPost} {c:Code} {d:Nat} {ty:TypeId} {pos:String} {af:Array Edge}
theorem fF {T n E sz by_:Nat} [hT:VA P T n E] [hE:EZ P E sz by_] {x y:Operand} {b off:Nat} {kk:IntKind} {i:Nat} (hx:ρ.ev x= .raw (.pointer (some ⟨b,off,none⟩))) (hy:ρ.ev y= .raw (.int kk (@OfNat.ofNat Int i _))) (hi:i < n)
  (k:AV P N all K fl.tail os (CV ρ d (.raw (.pointer (some ⟨b,off+(@OfNat.ofNat Nat i _)*sz,none⟩)))) L) (hd:Nat.blt d N=true:=by rfl):AV P N all K fl (⟨some d,.indexAddr T x y,ty,pos,af,none⟩::os) ρ L:=
 QH (i:=i) hx hy hi k hd
theorem fG {T n E sz by_:Nat} [hT:VA P T n E] [hE:EZ P E sz by_] {x y:Operand} {b off:Nat} {kk:IntKind} {i:Int} (hx:ρ.ev x= .raw (.pointer (some ⟨b,off,none⟩))) (hy:ρ.ev y= .raw (.int kk i)) (h0:0≤i) (hi:i.toNat < n)
  (k:AV P N all K fl.tail os (CV ρ d (.raw (.pointer (some ⟨b,off+i.toNat*sz,none⟩)))) L) (hd:Nat.blt d N=true:=by rfl):AV P N all K fl (⟨some d,.indexAddr T x y,ty,pos,af,none⟩::os) ρ L:=
 QH (i:=i.toNat) hx (by rw[hy,Int.toNat_of_nonneg h0]) hi k hd
theorem fE {T:TypeId} [hT:SA P T] {x y:Operand} {s:Str} {ax:PV} {kk:IntKind} {n:Int} (hx:ρ.ev x=ax) [jx:K4 ax s] (hy:ρ.ev y= .raw (.int kk n)) (h0:0≤n) (hn:n.toNat < s.length) (k:AV P N all K fl.tail os (CV ρ d (.raw (.int .u8 ((s.getD n.toNat 0).toNat:Int)))) L) (hd:Nat.blt d N=true:=by rfl):
  AV P N all K fl (⟨some d,.index T x y,ty,pos,af,none⟩::os) ρ L:=
 Ya (n:=n.toNat) hx (by rw[hy,Int.toNat_of_nonneg h0]) hn (by have e:s[n.toNat]=s.getD n.toNat 0:=by simp[List.getD,hn]
                                                              rw[e];exact k) hd
theorem KL {T n E by_:Nat} {z:List PV} [hT:VA P T n E] [hE:EZ P E 1 by_] [hZ:Cp P T z] {parts:Array (Nat × Operand)} (xs:List Operand) (ws:List Nat) (hp:parts=(xs.zipIdx.map fun p=>(p.2,p.1)).toArray) (hx:xs.map ρ.ev=eW ws) (hz:z.length=ws.length) (hn:xs.length=ws.length)
  (k:AV P N all K fl.tail os (CV ρ d (.agg (eW ws))) L) (hd:Nat.blt d N=true:=by rfl):AV P N all K fl (⟨some d,.build T parts,ty,pos,af,none⟩::os) ρ L:=by
 subst hp;exact jc ws hx hz hn k hd
theorem jM {T T':TypeId} {x y:Operand} {m n:Nat} (hx:ρ.ev x= .raw (.int .i64 (m:Int))) (hy:ρ.ev y= .raw (.int .i64 (@OfNat.ofNat Int n _))) (hn:n≠0) (hm:m≤9223372036854775807) (k:AV P N all K fl.tail os (CV ρ d (.raw (.int .i64 ((m / (@OfNat.ofNat Nat n _):Nat):Int)))) L) (hd:Nat.blt d N=true:=by rfl):
  AV P N all K fl (⟨some d,.binOp .quo T x y T',ty,pos,af,none⟩::os) ρ L:=YS (n:=n) hx hy hn hm k hd
theorem bB {T T':TypeId} {x y:Operand} {m n:Nat} (hx:ρ.ev x= .raw (.int .i64 (m:Int))) (hy:ρ.ev y= .raw (.int .i64 (@OfNat.ofNat Int n _))) (hn:n≠0) (k:AV P N all K fl.tail os (CV ρ d (.raw (.int .i64 ((m % (@OfNat.ofNat Nat n _):Nat):Int)))) L) (hd:Nat.blt d N=true:=by rfl):
  AV P N all K fl (⟨some d,.binOp .rem T x y T',ty,pos,af,none⟩::os) ρ L:=YR (n:=n) hx hy hn k hd
theorem xP {A B:Prop} (k:B) (h:OI B→A:=by
  intro hB
  first
   |(refine l9 ?_;first|refine KB (by(conv=>lhs;whnf);done) ?_)
   |(refine Zf ?_;first|refine VX (by(conv=>lhs;whnf);done) ?_)
   |(refine lA ?_;first|refine dJ (by rfl) (by repeat(first|exact AG|apply AH)) (by omega) ?_|refine YW (by rfl) (by repeat(first|exact AG|apply AH)) (hl:=(by first|infer_instance|fail)) ?_|refine dM (by rfl) (by repeat(first|exact AG|apply AH)) (by omega) ?_)
   |(refine rl ?_;first|refine bF (by rfl) (hr:=(by first|infer_instance|fail)) ?_|refine dP (by rfl) (by(conv=>lhs;whnf);done) ?_)
   |(refine rk ?_;first|refine jU (by rfl) ?_|refine jT (by(conv=>lhs;whnf);done) (jx:=(by first|infer_instance|fail)) ?_|refine jV (by rfl) ?_)
   |(refine cB ?_;first|refine XL (by(conv=>lhs;whnf);done) (hN0:=(by first|infer_instance|fail)) (hc:=(by first|infer_instance|fail)) ?_|refine dx (by(conv=>lhs;whnf);done) (by(conv=>lhs;whnf);done) (hN0:=(by first|infer_instance|fail)) (hN1:=(by first|infer_instance|fail)) (hc:=(by first|infer_instance|fail)) ?_|refine dw (by(conv=>lhs;whnf);done) (by(conv=>lhs;whnf);done) (by(conv=>lhs;whnf);done) (hN0:=(by first|infer_instance|fail)) (hN1:=(by first|infer_instance|fail)) (hN2:=(by first|infer_instance|fail)) (hc:=(by first|infer_instance|fail)) ?_|refine dy (hc:=(by first|infer_instance|fail)) ?_|refine dv (by(conv=>lhs;whnf);done) (by(conv=>lhs;whnf);done) (by(conv=>lhs;whnf);done) (by(conv=>lhs;whnf);done) (hN0:=(by first|infer_instance|fail)) (hN1:=(by first|infer_instance|fail)) (hN2:=(by first|infer_instance|fail)) (hN3:=(by first|infer_instance|fail)) (hc:=(by first|infer_instance|fail)) ?_|refine j_call5 (by(conv=>lhs;whnf);done) (by(conv=>lhs;whnf);done) (by(conv=>lhs;whnf);done) (by(conv=>lhs;whnf);done) (by(conv=>lhs;whnf);done) (hN0:=(by first|infer_instance|fail)) (hN1:=(by first|infer_instance|fail)) (hN2:=(by first|infer_instance|fail)) (hN3:=(by first|infer_instance|fail)) (hN4:=(by first|infer_instance|fail)) (hc:=(by first|infer_instance|fail)) ?_|refine j_call6 (by(conv=>lhs;whnf);done) (by(conv=>lhs;whnf);done) (by(conv=>lhs;whnf);done) (by(conv=>lhs;whnf);done) (by(conv=>lhs;whnf);done) (by(conv=>lhs;whnf);done) (hN0:=(by first|infer_instance|fail)) (hN1:=(by first|infer_instance|fail)) (hN2:=(by first|infer_instance|fail)) (hN3:=(by first|infer_instance|fail)) (hN4:=(by first|infer_instance|fail)) (hN5:=(by first|infer_instance|fail)) (hc:=(by first|infer_instance|fail)) ?_)
   |(refine g_bi ?_;first|refine s_min (by rfl) (by rfl) ?_|refine s_max (by rfl) (by rfl) ?_)
   |(refine eF ?_;first|refine rB (by rfl) (by rfl) ?_|refine rE (by rfl) (by rfl) ?_|refine rF (by rfl) (by rfl) ?_|refine rN (by rfl) (by rfl) (by constructor<;>omega) ?_|refine qz (by rfl) (by rfl) (by constructor<;>omega) ?_|refine rJ (by(conv=>lhs;whnf);done) (by(conv=>lhs;whnf);done) (jx:=(by first|infer_instance|fail)) (jy:=(by first|infer_instance|fail)) (by first|omega|(simp only[AA,AN,Af,BG];omega)) ?_|refine r9 (by rfl) (by rfl) (by constructor<;>omega) ?_|refine jm (by rfl) (by rfl) ?_|refine jE (by rfl) (by rfl) ?_|refine jl (by rfl) (by rfl) ?_|refine r6 (by rfl) (by rfl) ?_|refine jJ (by rfl) (by rfl) ?_|refine jL (by rfl) (by rfl) ?_|refine jK (by rfl) (by rfl) ?_|refine Wt (by rfl) (by rfl) (by omega) (by omega) ?_|refine Wu (by rfl) (by rfl) (by omega) ?_|refine jM (by rfl) (by rfl) (by decide) (by omega) ?_|refine bB (by rfl) (by rfl) (by decide) ?_)
   |(refine xn ?_;first|refine fF (by rfl) (by rfl) (by decide) ?_|refine QH (by rfl) (by rfl) (by omega) ?_|refine fG (by rfl) (by rfl) (by omega) (by omega) ?_)
   |(refine xl ?_;first|refine r7 (by rfl) ?_|refine r8 (by rfl) (by constructor<;>omega) ?_|refine jN (by rfl) ?_)
   |(refine XU ?_;first|refine YM (by rfl) (by rfl) (hB:=(by first|infer_instance|fail)) (hu:=(by first|infer_instance|fail)) (hf:=(by first|infer_instance|fail)) (hlen:=(by first|infer_instance|fail)) (hcs:=(by first|infer_instance|fail)) ?_|refine TK (by rfl) (by rfl) (by repeat(first|exact AG|apply AH)) (by omega) (hu:=(by first|infer_instance|fail)) ?_|refine YN (by rfl) (by rfl) (by repeat(first|exact AG|apply AH)) (by omega) (hu:=(by first|infer_instance|fail)) ?_)
   |(refine xp ?_;first|refine rM ?_|refine rL (by(conv=>lhs;whnf);done) (hC0:=(by first|infer_instance|fail)) (hf:=(by first|infer_instance|fail)) (by decide) ?_)
   |(refine eE ?_;first|refine Yd ?_|refine VV ?_)
   |(refine XV ?_;first|refine jY (by rfl) (by rfl) (by omega) ?_|refine jZ (by rfl) (by rfl) (by omega) ?_|refine X0 (by(conv=>lhs;whnf);done) (by rfl) (by rfl) (jx:=(by first|infer_instance|fail)) (by omega) (by omega) (by omega) ?_|refine dR (by(conv=>lhs;whnf);done) (by rfl) (jx:=(by first|infer_instance|fail)) (by omega) (by omega) ?_|refine YP (by rfl) ?_)
   |(refine lB ?_;first|refine dU (by rfl) ?_|refine dT (by rfl) ?_|refine Sn (by rfl) (by omega) ?_|refine jF (by rfl) ?_|refine YL (by rfl) (by repeat(first|exact AG|apply AH)) (hs:=(by first|infer_instance|fail)) ?_)
   |(refine eD ?_;first|refine fE (by(conv=>lhs;whnf);done) (by rfl) (jx:=(by first|infer_instance|fail)) (by omega) (by omega) ?_)
  exact hB.out):A:=h ⟨k⟩
theorem E4 {A B:Prop} (k:B) (h:OI B→A:=by
  intro hB
  repeat(first
   |refine AD ?_
   |refine xP ?_
   |refine DX ?_
   |refine CQ (by kernel_rfl) ?_
   |refine Ia ?_
   |refine HA ?_
   |refine KE ?_
   |refine Gj ?_
   |refine GK (by decide+kernel) ?_
   |refine IY (by rfl) ?_
   |refine IZ (by rfl) ?_)
  exact hB.out):A:=h ⟨k⟩
theorem JC {A B:Prop} (k:B) (h:OI B→A:=by
  intro hB
  refine E4 ?_
  exact hB.out):A:=h ⟨k⟩
theorem Js {A:Prop} {B:Nat→Prop} (k: ∀ b,B b) (h:Kl B→A:=by
  intro hB
  refine E4 ?_
  first|refine Ye (by rfl) fun b=>?_|refine C6 fun b=>?_
  refine E4 ?_
  exact hB.out b):A:=h ⟨k⟩
theorem Ij {A:Prop} {B:Nat→Prop} (k: ∀ b,B b) (h:Kl B→A:=by
  intro hB
  refine Js fun b=>?_
  exact hB.out b):A:=h ⟨k⟩
theorem Nl {A B:Prop} (k:B) (h:OI B→A:=by
  intro hB
  repeat(first
   |refine AD ?_
   |refine xP ?_
   |refine DX ?_
   |refine CQ (by kernel_rfl) ?_
   |refine Ia ?_
   |refine HA ?_
   |refine KE ?_
   |refine Gj ?_
   |refine IY (by rfl) ?_
   |refine IZ (by rfl) ?_)
  exact hB.out):A:=h ⟨k⟩
theorem Wb {A B:Prop} (k:B) (h:OI B→A:=by
  intro hB
  refine Nl ?_
  exact hB.out):A:=h ⟨k⟩
end
end Go.Q
namespace Go.Proofs
open Go Go.Q
attribute [local irreducible] ER AV BA Fc
def GX (a n:Nat):Nat:=fh (Wj a n) (YK a (32 - n))
instance Gm (a n:Nat) [hs:B1 (n≤32)]:CB Tryz.prog 259 [.raw (.int .u32 (a:Int)),.raw (.int .u64 (n:Int))] (.raw (.int .u32 (GX a n:Nat))):=⟨by
 refine Au Tryz.func259 Tryz.ntmps259 rfl (rs:= [.tmp 4]) rfl rfl fun hb LF=>?_
 have hn:=hs.out
 refine E4 ?_
 refine Wt (a:=32) (by rfl) (by rfl) hn (by decide) ?_
 refine JC ?_
 refine B2 (.of_eq ?_)
 rfl⟩
instance yg (a:Nat):CB Tryz.prog 259 [.raw (.int .u32 (a:Int)),.raw (.int .u64 2)] (.raw (.int .u32 (GX a 2:Nat))):=by
 have:B1 ((2:Nat)≤32):=⟨by decide⟩
 exact Gm a 2
instance yf (a:Nat):CB Tryz.prog 259 [.raw (.int .u32 (a:Int)),.raw (.int .u64 6)] (.raw (.int .u32 (GX a 6:Nat))):=by
 have:B1 ((6:Nat)≤32):=⟨by decide⟩
 exact Gm a 6
instance ye (a:Nat):CB Tryz.prog 259 [.raw (.int .u32 (a:Int)),.raw (.int .u64 7)] (.raw (.int .u32 (GX a 7:Nat))):=by
 have:B1 ((7:Nat)≤32):=⟨by decide⟩
 exact Gm a 7
instance xE (a:Nat):CB Tryz.prog 259 [.raw (.int .u32 (a:Int)),.raw (.int .u64 11)] (.raw (.int .u32 (GX a 11:Nat))):=by
 have:B1 ((11:Nat)≤32):=⟨by decide⟩
 exact Gm a 11
instance xD (a:Nat):CB Tryz.prog 259 [.raw (.int .u32 (a:Int)),.raw (.int .u64 13)] (.raw (.int .u32 (GX a 13:Nat))):=by
 have:B1 ((13:Nat)≤32):=⟨by decide⟩
 exact Gm a 13
instance xC (a:Nat):CB Tryz.prog 259 [.raw (.int .u32 (a:Int)),.raw (.int .u64 17)] (.raw (.int .u32 (GX a 17:Nat))):=by
 have:B1 ((17:Nat)≤32):=⟨by decide⟩
 exact Gm a 17
instance xB (a:Nat):CB Tryz.prog 259 [.raw (.int .u32 (a:Int)),.raw (.int .u64 18)] (.raw (.int .u32 (GX a 18:Nat))):=by
 have:B1 ((18:Nat)≤32):=⟨by decide⟩
 exact Gm a 18
instance xA (a:Nat):CB Tryz.prog 259 [.raw (.int .u32 (a:Int)),.raw (.int .u64 19)] (.raw (.int .u32 (GX a 19:Nat))):=by
 have:B1 ((19:Nat)≤32):=⟨by decide⟩
 exact Gm a 19
instance x9 (a:Nat):CB Tryz.prog 259 [.raw (.int .u32 (a:Int)),.raw (.int .u64 22)] (.raw (.int .u32 (GX a 22:Nat))):=by
 have:B1 ((22:Nat)≤32):=⟨by decide⟩
 exact Gm a 22
instance x8 (a:Nat):CB Tryz.prog 259 [.raw (.int .u32 (a:Int)),.raw (.int .u64 25)] (.raw (.int .u32 (GX a 25:Nat))):=by
 have:B1 ((25:Nat)≤32):=⟨by decide⟩
 exact Gm a 25
theorem Bt {α:Type} (f:α→Nat→α) (a:α) (k:Nat):(List.range (k+1)).foldl f a=f ((List.range k).foldl f a) k:=by
 rw[EJ,BO];rfl
instance wH (n:Int) [hs:B1 (0≤n∧n≤1000)]:CB Tryz.prog 256 [.raw (.int .i64 n)] (.str (List.replicate n.toNat 0)):=⟨by
 refine Au Tryz.func256 Tryz.ntmps256 rfl (rs:= [.tmp 2]) rfl rfl fun hb LF=>?_
 obtain⟨h0,h1⟩:=hs.out
 refine AX ?_
 refine Ad (σ:=Nat × Str) (fun k=>k.1≤n.toNat∧k.2=List.replicate k.1 0) (fun k=>n.toNat - k.1) (fun k=> [(0,.raw (.int .i64 n)),(3,.str k.2),(4,.raw (.int .i64 k.1))]) (fun _=>LF) (0,[]) ⟨by simp,by simp⟩ ⟨rfl,rfl,rfl⟩ (.refl _) ?_
 rintro⟨k,s⟩ ⟨hk,he⟩
 dsimp only at hk he
 have hl:s.length=k:=by rw[he];simp
 refine AX ?_
 refine A6 (fun hc=>?_) (fun hc=>?_)
 ·refine AX ?_
  refine⟨(k+1,s++ [0]),⟨by dsimp only;omega,by dsimp only;rw[he,Y0]⟩,by dsimp only;omega,⟨rfl,rfl,rfl⟩,.refl _⟩
 ·refine AX ?_
  refine B2 (.of_eq ?_)
  rw[he,show k=n.toNat by omega]⟩
def FO (bits:Nat) (j:Nat):Str:=(List.range j).map fun i=>UInt8.ofNat (bits / 2 ^ (min (8*(7 - i)) 64))
def JF (s:Str):Str:=(s++ [128])++List.replicate ((120 - (s.length+1) % 64) % 64) 0++FO (s.length*8) 8
theorem TZ (s:Str):(JF s).length=s.length+1+(120 - (s.length+1) % 64) % 64+8:=by simp[JF,FO];omega
instance vc (s:Str) [hs:B1 (s.length≤1000000)]:CB Tryz.prog 204 [.str s] (.str (JF s)):=⟨by
 refine Au Tryz.func204 Tryz.ntmps204 rfl (rs:= [.tmp 2]) rfl rfl fun hb LF=>?_
 have hl:=hs.out
 have e1:(((120:Int) - (((s++ [128]).length % 64:Nat):Int)).tmod 64)=(((120 - (s.length+1) % 64) % 64:Nat):Int):=by
  rw[AA,B6]
  have:(120:Int) - (((s.length+1) % 64:Nat):Int)=((120 - (s.length+1) % 64:Nat):Int):=by omega
  rw[this];exact(Int.ofNat_tmod _ _).symm
 have i1:B1 (0≤(((120 - (s.length+1) % 64) % 64:Nat):Int)∧(((120 - (s.length+1) % 64) % 64:Nat):Int)≤1000):=⟨by omega,by omega⟩
 refine AX ?_
 refine bB (by rfl) (by rfl) (by decide) ?_
 refine CK ?_
 refine Gi (v:= .int .i64 (((120 - (s.length+1) % 64) % 64:Nat):Int)) (by rfl) (by rfl) (fun w=>?_) ?_
 ·have h3:(64:Int)≠0:=by decide
  simp only[binOp,ne_eq,not_true_eq_false,if_false,Op.intDiv,h3,e1];rfl
 have hz:(List.replicate (((120 - (s.length+1) % 64) % 64:Nat):Int).toNat (0:UInt8)).length=(120 - (s.length+1) % 64) % 64:=by rw[List.length_replicate];omega
 refine CK ?_
 refine Wu (b:=8) (by rfl) (by rfl) (by omega) ?_
 refine CK ?_
 refine Ad (σ:=Nat × Str) (fun k=>k.1≤8∧k.2=(s++ [128])++List.replicate ((120 - (s.length+1) % 64) % 64) 0++FO (s.length*8) k.1) (fun k=>8 - k.1) (fun k=> [(3,.str k.2),(4,.raw (.int .u64 ((s.length*8:Nat):Int))),(5,.raw (.int .i64 (7 - (k.1:Int))))]) (fun _=>LF) (0,(s++ [128])++List.replicate ((120 - (s.length+1) % 64) % 64) 0) ⟨by simp,by simp[FO]⟩ ⟨rfl,rfl,rfl⟩ (.refl _) ?_
 rintro⟨k,o⟩ ⟨hk,he⟩
 dsimp only at hk he
 have hol:o.length≤1000100:=by rw[he];simp[FO];omega
 refine AX ?_
 refine A6 (fun hc=>?_) (fun hc=>?_)
 ·refine AX ?_
  have e8:(8:Int)*(7 - (k:Int))=((8*(7 - k):Nat):Int):=by omega
  refine Sn (a:=8*(7 - k)) (by show PV.raw (.int .i64 ((8:Int)*(7 - (k:Int))))=_;rw[e8]) (by omega) ?_
  refine CK ?_
  refine⟨(k+1,o++ [UInt8.ofNat (s.length*8 / 2 ^ (min (8*(7 - k)) 64))]),⟨by dsimp only;omega,?_⟩,by dsimp only;omega,⟨rfl,rfl,?_⟩,.refl _⟩
  ·dsimp only
   rw[he,FO,FO,EJ,Ak,←AU];rfl
  ·show PV.raw (Value.int .i64 _)=PV.raw (Value.int .i64 _)
   congr 2;dsimp only;omega
 ·refine AX ?_
  refine B2 (.of_eq ?_)
  rw[he,show k=8 by omega,JF]⟩
def rK:List Nat:= [1116352408,1899447441,3049323471,3921009573,961987163,1508970993,2453635748,2870763221,3624381080,310598401,607225278,1426881987,1925078388,2162078206,2614888103,3248222580,3835390401,4022224774,264347078,604807628,770255983,1249150122,1555081692,1996064986,2554220882,2821834349,2952996808,3210313671,3336571891,3584528711,113926993,338241895,666307205,773529912,1294757372,1396182291,1695183700,1986661051,2177026350,2456956037,2730485921,2820302411,3259730800,3345764771,3516065817,3600352804,4094571909,275423344,430227734,506948616,659060556,883997877,958139571,1322822218,1537002063,1747873779,1955562222,2024104815,2227730452,2361852424,2428436474,2756734187,3204031479,3329325298]
instance qA:CB Tryz.prog 258 [] (.agg (eW rK)):=⟨by
 refine Au Tryz.func258 Tryz.ntmps258 rfl (rs:= [.cell 0 253]) rfl rfl fun hb LF=>?_
 refine Js fun b=>?_
 refine KL [.const (.int .u32 1116352408),.const (.int .u32 1899447441),.const (.int .u32 3049323471),.const (.int .u32 3921009573),.const (.int .u32 961987163),.const (.int .u32 1508970993),.const (.int .u32 2453635748),.const (.int .u32 2870763221),.const (.int .u32 3624381080),.const (.int .u32 310598401),.const (.int .u32 607225278),.const (.int .u32 1426881987),.const (.int .u32 1925078388),.const (.int .u32 2162078206),.const (.int .u32 2614888103),.const (.int .u32 3248222580),.const (.int .u32 3835390401),.const (.int .u32 4022224774),.const (.int .u32 264347078),.const (.int .u32 604807628),.const (.int .u32 770255983),.const (.int .u32 1249150122),.const (.int .u32 1555081692),.const (.int .u32 1996064986),.const (.int .u32 2554220882),.const (.int .u32 2821834349),.const (.int .u32 2952996808),.const (.int .u32 3210313671),.const (.int .u32 3336571891),.const (.int .u32 3584528711),.const (.int .u32 113926993),.const (.int .u32 338241895),.const (.int .u32 666307205),.const (.int .u32 773529912),.const (.int .u32 1294757372),.const (.int .u32 1396182291),.const (.int .u32 1695183700),.const (.int .u32 1986661051),.const (.int .u32 2177026350),.const (.int .u32 2456956037),.const (.int .u32 2730485921),.const (.int .u32 2820302411),.const (.int .u32 3259730800),.const (.int .u32 3345764771),.const (.int .u32 3516065817),.const (.int .u32 3600352804),.const (.int .u32 4094571909),.const (.int .u32 275423344),.const (.int .u32 430227734),.const (.int .u32 506948616),.const (.int .u32 659060556),.const (.int .u32 883997877),.const (.int .u32 958139571),.const (.int .u32 1322822218),.const (.int .u32 1537002063),.const (.int .u32 1747873779),.const (.int .u32 1955562222),.const (.int .u32 2024104815),.const (.int .u32 2227730452),.const (.int .u32 2361852424),.const (.int .u32 2428436474),.const (.int .u32 2756734187),.const (.int .u32 3204031479),.const (.int .u32 3329325298)] rK rfl rfl rfl rfl ?_
 have i1:Cx (eW rK) 64:=⟨rfl⟩
 have i2:Cx (eW (List.replicate 64 0)) 64:=⟨rfl⟩
 refine JC ?_
 exact Fo rfl (.refl _) (hn:=(rfl:(eW rK).length=64))⟩
def Yi (b:Str) (t:Nat):Nat:=fh (fh (fh (YK ((b.getD (4*(t:Int)).toNat 0).toNat % 4294967296) 24) (YK ((b.getD (4*(t:Int)+1).toNat 0).toNat % 4294967296) 16)) (YK ((b.getD (4*(t:Int)+2).toNat 0).toNat % 4294967296) 8)) ((b.getD (4*(t:Int)+3).toNat 0).toNat % 4294967296)
def Kz (b:Str) (w:List Nat) (t:Nat):List Nat:=w.set t (Yi b t)
def TV (w:List Nat) (t:Nat):Nat:=
 let x:=w.getD (t+1) 0
 let y:=w.getD (t+14) 0
 Nf (Nf (Nf (La (La (GX y 17) (GX y 19)) (Wj y 10)) (w.getD (t+9) 0)) (La (La (GX x 7) (GX x 18)) (Wj x 3))) (w.getD t 0)
theorem TU (v:List Nat) (k:Nat):TV v k=Nf (Nf (Nf (La (La (GX (v.getD (((k+16:Nat):Int) - 2).toNat 0) 17) (GX (v.getD (((k+16:Nat):Int) - 2).toNat 0) 19)) (Wj (v.getD (((k+16:Nat):Int) - 2).toNat 0) 10)) (v.getD (((k+16:Nat):Int) - 7).toNat 0)) (La (La (GX (v.getD (((k+16:Nat):Int) - 15).toNat 0) 7) (GX (v.getD (((k+16:Nat):Int) - 15).toNat 0) 18)) (Wj (v.getD (((k+16:Nat):Int) - 15).toNat 0) 3))) (v.getD (((k+16:Nat):Int) - 16).toNat 0):=by
 have e2:(((k+16:Nat):Int) - 2).toNat=k+14:=by omega
 have e7:(((k+16:Nat):Int) - 7).toNat=k+9:=by omega
 have e15:(((k+16:Nat):Int) - 15).toNat=k+1:=by omega
 have e16:(((k+16:Nat):Int) - 16).toNat=k:=by omega
 rw[e2,e7,e15,e16];rfl
def QL (w:List Nat) (t:Nat):List Nat:=w.set (t+16) (TV w t)
def GY (b:Str):List Nat:=(List.range 48).foldl QL ((List.range 16).foldl (Kz b) (List.replicate 64 0))
theorem W0 (b:Str) (k:Nat):((List.range k).foldl (Kz b) (List.replicate 64 0)).length=64:=by
 induction k with
 |zero=>rfl
 |succ k ih=>rw[Bt,Kz,DN,ih]
theorem Vz {w:List Nat} (h:w.length=64) (k:Nat):((List.range k).foldl QL w).length=64:=by
 induction k with
 |zero=>exact h
 |succ k ih=>rw[Bt,QL,DN,ih]
theorem TW (b:Str):(GY b).length=64:=Vz (W0 b 16) 48
instance qw (s:Str) [hs:B1 (s.length=64)]:CB Tryz.prog 257 [.str s] (.agg (eW (GY s))):=⟨by
 refine Au Tryz.func257 Tryz.ntmps257 rfl (rs:= [.cell 2 253]) rfl rfl fun hb LF=>?_
 have hl:=hs.out
 have i2:Cx (eW (List.replicate 64 0)) 64:=⟨rfl⟩
 refine Js fun b=>?_
 refine Ij fun b2=>?_
 refine Ad (σ:=Nat × List Nat) (fun k=>k.1≤16∧k.2.length=64∧k.2=(List.range k.1).foldl (Kz s) (List.replicate 64 0)) (fun k=>16 - k.1) (fun k=> [(0,.str s),(2,.raw (.pointer (some ⟨b,0,none⟩))),(3,.raw (.pointer (some ⟨b2,0,none⟩))),(4,.raw (.int .i64 k.1))]) (fun k=> .box b2 253 (eW k.2):: .box b 253 (eW (List.replicate 64 0))::LF) (0,List.replicate 64 0) ⟨by simp,by simp,by simp⟩ ⟨rfl,rfl,rfl,rfl⟩ (.refl _) ?_
 rintro⟨k,w⟩ ⟨hk,hw,he⟩
 dsimp only at hk hw he ⊢
 refine E4 ?_
 refine A6 (fun hc=>?_) (fun hc=>?_)
 ·refine Nl ?_
  refine Bj 31 ?_ ?_
  ·decide+kernel
  refine JC ?_
  refine⟨(k+1,w.set k (Yi s k)),⟨by dsimp only;omega,by dsimp only;rw[DN,hw],by dsimp only;rw[Bt,←he];rfl⟩,by dsimp only;omega,⟨rfl,rfl,rfl,rfl⟩,.refl _⟩
 have hkk:k=16:=by omega
 subst hkk
 refine E4 ?_
 refine Ad (σ:=Nat × List Nat) (fun k=>k.1≤48∧k.2.length=64∧k.2=(List.range k.1).foldl QL w) (fun k=>48 - k.1) (fun k=> [(2,.raw (.pointer (some ⟨b,0,none⟩))),(3,.raw (.pointer (some ⟨b2,0,none⟩))),(5,.raw (.int .i64 ((k.1+16:Nat):Int)))]) (fun k=> .box b2 253 (eW k.2):: .box b 253 (eW (List.replicate 64 0))::LF) (0,w) ⟨by simp,hw,by simp⟩ ⟨rfl,rfl,rfl⟩ (.refl _) ?_
 rintro⟨k,v⟩ ⟨hk,hv,hve⟩
 dsimp only at hk hv hve ⊢
 have i3:Cx (eW v) 64:=⟨by rw[Gx,hv]⟩
 refine E4 ?_
 refine A6 (fun hc=>?_) (fun hc=>?_)
 ·refine Nl ?_
  refine GK (by decide+kernel) ?_
  refine Wb ?_
  refine Bj 29 ?_ ?_
  ·decide+kernel
  refine JC ?_
  refine⟨(k+1,v.set (k+16) (TV v k)),⟨by dsimp only;omega,by dsimp only;rw[DN,hv],by dsimp only;rw[Bt,←hve];rfl⟩,by dsimp only;omega,⟨rfl,rfl,?_⟩,?_⟩
  ·show PV.raw (Value.int .i64 _)=PV.raw (Value.int .i64 _)
   congr 2
  ·dsimp only;rw[TU];exact .refl _
 ·refine E4 ?_
  refine Fo rfl (.of_eq ?_) (hn:=(by rw[Gx,hv]:(eW v).length=64))
  have hkk:k=48:=by omega
  subst hkk
  rw[GY,hve,he]⟩
def yj (w v:List Nat) (t:Nat):Nat:=Nf (Nf (Nf (Nf (v.getD 7 0) (La (La (GX (v.getD 4 0) 6) (GX (v.getD 4 0) 11)) (GX (v.getD 4 0) 25))) (La (Xu (v.getD 4 0) (v.getD 5 0)) (Xu (ot (v.getD 4 0)) (v.getD 6 0)))) (rK.getD t 0)) (w.getD t 0)
def rT2 (v:List Nat):Nat:=Nf (La (La (GX (v.getD 0 0) 2) (GX (v.getD 0 0) 13)) (GX (v.getD 0 0) 22)) (La (La (Xu (v.getD 0 0) (v.getD 1 0)) (Xu (v.getD 0 0) (v.getD 2 0))) (Xu (v.getD 1 0) (v.getD 2 0)))
def Mm (w v:List Nat) (t:Nat):List Nat:= [Nf (yj w v t) (rT2 v),v.getD 0 0,v.getD 1 0,v.getD 2 0,Nf (v.getD 3 0) (yj w v t),v.getD 4 0,v.getD 5 0,v.getD 6 0]
def L0 (h:List Nat) (b:Str):List Nat:=(List.range 64).foldl (Mm (GY b)) h
def Yp (v x:List Nat) (i:Nat):List Nat:=x.set i (Nf (x.getD i 0) (v.getD i 0))
def NQ (h:List Nat) (b:Str):List Nat:=(List.range 8).foldl (Yp (L0 h b)) h
theorem gU {v h:List Nat} (hh:h.length=8) (k:Nat):((List.range k).foldl (Yp v) h).length=8:=by
 induction k with
 |zero=>exact hh
 |succ k ih=>rw[Bt,Yp,DN,ih]
theorem OZ {h:List Nat} {b:Str} (hh:h.length=8):(NQ h b).length=8:=gU hh 8
theorem hx8 {ρ:Env} {x0 x1 x2 x3 x4 x5 x6 x7:Operand} {a0 a1 a2 a3 a4 a5 a6 a7:Nat} (h0:ρ.ev x0= .raw (.int .u32 (a0:Int))) (h1:ρ.ev x1= .raw (.int .u32 (a1:Int))) (h2:ρ.ev x2= .raw (.int .u32 (a2:Int))) (h3:ρ.ev x3= .raw (.int .u32 (a3:Int))) (h4:ρ.ev x4= .raw (.int .u32 (a4:Int))) (h5:ρ.ev x5= .raw (.int .u32 (a5:Int))) (h6:ρ.ev x6= .raw (.int .u32 (a6:Int))) (h7:ρ.ev x7= .raw (.int .u32 (a7:Int))):
  [x0,x1,x2,x3,x4,x5,x6,x7].map ρ.ev=eW [a0,a1,a2,a3,a4,a5,a6,a7]:=by simp[eW,h0,h1,h2,h3,h4,h5,h6,h7]
instance yd (h:List Nat) (s:Str) [hs:B1 (s.length=64)] [hh:B1 (h.length=8)]:CB Tryz.prog 205 [.agg (eW h),.str s] (.agg (eW (NQ h s))):=⟨by
 refine Au Tryz.func205 Tryz.ntmps205 rfl (rs:= [.cell 4 216]) rfl rfl fun hb LF=>?_
 have hl:=hh.out
 have hsl:=TW s
 have j1:Cx (eW (List.replicate 64 0)) 64:=⟨rfl⟩
 have j2:Cx (eW (List.replicate 8 0)) 8:=⟨rfl⟩
 have j3:Cx (eW h) 8:=⟨by rw[Gx,hl]⟩
 have j4:Cx (eW rK) 64:=⟨rfl⟩
 have j5:Cx (eW (GY s)) 64:=⟨by rw[Gx,hsl]⟩
 have hkl:rK.length=64:=rfl
 refine Js fun b2=>?_
 refine Ij fun b4=>?_
 refine Ij fun b5=>?_
 refine Ij fun b6=>?_
 refine Ij fun b7=>?_
 refine Ad (σ:=Nat × List Nat) (fun k=>k.1≤64∧k.2.length=8∧k.2=(List.range k.1).foldl (Mm (GY s)) h) (fun k=>64 - k.1) (fun k=> [(2,.raw (.pointer (some ⟨b2,0,none⟩))),(4,.raw (.pointer (some ⟨b4,0,none⟩))),(5,.raw (.pointer (some ⟨b5,0,none⟩))),(6,.raw (.pointer (some ⟨b6,0,none⟩))),(7,.raw (.pointer (some ⟨b7,0,none⟩))),(8,.raw (.int .i64 k.1))]) (fun k=> .box b7 216 (eW k.2):: .box b6 253 (eW rK):: .box b5 253 (eW (GY s)):: .box b4 216 (eW (List.replicate 8 0)):: .box b2 216 (eW h)::LF) (0,h) ⟨by simp,hl,by simp⟩ ⟨rfl,rfl,rfl,rfl,rfl,rfl⟩ (.refl _) ?_
 rintro⟨k,v⟩ ⟨hk,hv,hve⟩
 dsimp only at hk hv hve ⊢
 have j6:Cx (eW v) 8:=⟨by rw[Gx,hv]⟩
 have j7:Cx (eW (Mm (GY s) v k)) 8:=⟨rfl⟩
 refine E4 ?_
 refine A6 (fun hc=>?_) (fun hc=>?_)
 ·refine Nl ?_
  refine GK (by decide+kernel) ?_
  refine Wb ?_
  refine GK (by decide+kernel) ?_
  refine BZ [(2,.raw (.pointer (some ⟨b2,0,none⟩))),(4,.raw (.pointer (some ⟨b4,0,none⟩))),(5,.raw (.pointer (some ⟨b5,0,none⟩))),(6,.raw (.pointer (some ⟨b6,0,none⟩))),(7,.raw (.pointer (some ⟨b7,0,none⟩))),(8,.raw (.int .i64 k)),(9,.raw (.int .u32 ((v.getD 0 0:Nat):Int))),(11,.raw (.int .u32 ((yj (GY s) v k:Nat):Int)))] (.box b7 216 (eW v):: .box b6 253 (eW rK):: .box b5 253 (eW (GY s)):: .box b4 216 (eW (List.replicate 8 0)):: .box b2 216 (eW h)::LF) ?_ ?_
  ·refine JC ?_
   exact⟨⟨rfl,rfl,rfl,rfl,rfl,rfl,rfl,rfl⟩,.refl _⟩
  refine Nl ?_
  refine GK (by decide+kernel) ?_
  refine BZ [(2,.raw (.pointer (some ⟨b2,0,none⟩))),(4,.raw (.pointer (some ⟨b4,0,none⟩))),(5,.raw (.pointer (some ⟨b5,0,none⟩))),(6,.raw (.pointer (some ⟨b6,0,none⟩))),(7,.raw (.pointer (some ⟨b7,0,none⟩))),(8,.raw (.int .i64 k)),(11,.raw (.int .u32 ((yj (GY s) v k:Nat):Int))),(12,.raw (.int .u32 ((rT2 v:Nat):Int)))] (.box b7 216 (eW v):: .box b6 253 (eW rK):: .box b5 253 (eW (GY s)):: .box b4 216 (eW (List.replicate 8 0)):: .box b2 216 (eW h)::LF) ?_ ?_
  ·refine JC ?_
   exact⟨⟨rfl,rfl,rfl,rfl,rfl,rfl,rfl,rfl⟩,.refl _⟩
  refine E4 ?_
  refine KL [.tmp 82,.tmp 84,.tmp 86,.tmp 88,.tmp 92,.tmp 94,.tmp 96,.tmp 98] (Mm (GY s) v k) rfl (hx8 (by rfl) (by rfl) (by rfl) (by rfl) (by rfl) (by rfl) (by rfl) (by rfl)) (by simp[Mm]) (by simp[Mm]) ?_
  refine JC ?_
  refine⟨(k+1,Mm (GY s) v k),⟨by dsimp only;omega,rfl,by dsimp only;rw[Bt,←hve]⟩,by dsimp only;omega,⟨rfl,rfl,rfl,rfl,rfl,rfl⟩,.refl _⟩
 have hkk:k=64:=by omega
 subst hkk
 replace hve:v=L0 h s:=hve
 subst hve
 refine E4 ?_
 refine Ad (σ:=Nat × List Nat) (fun k=>k.1≤8∧k.2.length=8∧k.2=(List.range k.1).foldl (Yp (L0 h s)) h) (fun k=>8 - k.1) (fun k=> [(2,.raw (.pointer (some ⟨b2,0,none⟩))),(4,.raw (.pointer (some ⟨b4,0,none⟩))),(7,.raw (.pointer (some ⟨b7,0,none⟩))),(13,.raw (.int .i64 k.1))]) (fun k=> .box b7 216 (eW (L0 h s)):: .box b4 216 (eW (List.replicate 8 0)):: .box b2 216 (eW k.2)::LF) (0,h) ⟨by simp,hl,by simp⟩ ⟨rfl,rfl,rfl,rfl⟩ (.cons_cons _ (.cons _ (.cons _ (.refl _)))) ?_
 rintro⟨k,x⟩ ⟨hk,hx,hxe⟩
 dsimp only at hk hx hxe ⊢
 have j8:Cx (eW x) 8:=⟨by rw[Gx,hx]⟩
 refine E4 ?_
 refine A6 (fun hc=>?_) (fun hc=>?_)
 ·refine Nl ?_
  refine Bj 9 ?_ ?_
  ·decide+kernel
  refine JC ?_
  refine⟨(k+1,x.set k (Nf (x.getD k 0) ((L0 h s).getD k 0))),⟨by dsimp only;omega,by dsimp only;rw[DN,hx],by dsimp only;rw[Bt,←hxe];rfl⟩,by dsimp only;omega,⟨rfl,rfl,rfl,rfl⟩,.refl _⟩
 ·refine E4 ?_
  refine Fo rfl (.of_eq ?_) (hn:=(by rw[Gx,hx]:(eW x).length=8))
  have hkk:k=8:=by omega
  subst hkk
  rw[NQ,hxe]⟩
def rH:List Nat:= [1779033703,3144134277,1013904242,2773480762,1359893119,2600822924,528734635,1541459225]
def IE (m:Str) (n:Nat):List Nat:=(List.range n).foldl (fun h k=>NQ h ((m.drop (64*k)).take 64)) rH
theorem Yo (m:Str) (n:Nat):(IE m n).length=8:=by
 unfold IE
 induction n with
 |zero=>rfl
 |succ n ih=>rw[Bt];exact OZ ih
def QT (h:List Nat) (d:Dig) (i:Nat):Dig:=d.put i (UInt8.ofNat (Wj (h.getD (i / 4) 0) (24 - 8*(i % 4))))
def fT (s:Str):Dig:=(List.range 32).foldl (QT (IE (JF s) ((JF s).length / 64))) Dig.zero
instance zx (s:Str) [hs:B1 (s.length≤1000000)]:CB Tryz.prog 152 [.str s] (.agg (eDig (fT s))):=⟨by
 refine Au Tryz.func152 Tryz.ntmps152 rfl (rs:= [.cell 2 31]) rfl rfl fun hb LF=>?_
 have hl:=hs.out
 have hpl:=TZ s
 have j2:Cx (eW (List.replicate 8 0)) 8:=⟨rfl⟩
 have j3:Cx (eW rH) 8:=⟨rfl⟩
 refine Js fun b2=>?_
 refine KL [.const (.int .u32 1779033703),.const (.int .u32 3144134277),.const (.int .u32 1013904242),.const (.int .u32 2773480762),.const (.int .u32 1359893119),.const (.int .u32 2600822924),.const (.int .u32 528734635),.const (.int .u32 1541459225)] rH rfl rfl (by simp[rH]) rfl ?_
 refine Ij fun b3=>?_
 unfold fT
 generalize JF s=m at hpl ⊢
 refine Ad (σ:=Nat) (fun k=>64*k≤m.length) (fun k=>m.length+64 - 64*k) (fun k=> [(2,.raw (.pointer (some ⟨b2,0,none⟩))),(3,.raw (.pointer (some ⟨b3,0,none⟩))),(4,.str m),(5,.raw (.int .i64 ((64*k:Nat):Int)))]) (fun k=> .box b3 216 (eW (IE m k)):: .box b2 31 (eDig Dig.zero)::LF) 0 (by simp) ⟨rfl,rfl,rfl,rfl⟩ (.refl _) ?_
 intro k hk
 have hbl:=Yo m k
 have j4:Cx (eW (IE m k)) 8:=⟨by rw[Gx,hbl]⟩
 have j5:Cx (eW (NQ (IE m k) ((m.drop (64*k)).take (64*k+64 - 64*k)))) 8:=⟨by rw[Gx,OZ hbl]⟩
 refine E4 ?_
 refine A6 (fun hc=>?_) (fun hc=>?_)
 ·have hc':64*k+64≤m.length:=by omega
  have j6:B1 (((m.drop (64*k)).take (64*k+64 - 64*k)).length=64):=⟨by rw[Aa,B5];omega⟩
  have j7:B1 ((IE m k).length=8):=⟨hbl⟩
  refine Nl ?_
  refine Bj 7 ?_ ?_
  ·decide+kernel
  refine JC ?_
  refine⟨k+1,by omega,by dsimp only;omega,⟨rfl,rfl,rfl,?_⟩,?_⟩
  ·show PV.raw (Value.int .i64 _)=PV.raw (Value.int .i64 _)
   congr 2
  ·dsimp only
   have e:IE m (k+1)=NQ (IE m k) ((m.drop (64*k)).take (64*k+64 - 64*k)):=by
    rw[show 64*k+64 - 64*k=64 by omega];unfold IE;rw[Bt]
   rw[e];exact .refl _
 have hkk:k=m.length / 64:=by omega
 subst hkk
 refine Js fun b6=>?_
 generalize IE m (m.length / 64)=h at hbl ⊢
 refine Ad (σ:=Nat × Dig) (fun k=>k.1≤32∧k.2=(List.range k.1).foldl (QT h) Dig.zero) (fun k=>32 - k.1) (fun k=> [(2,.raw (.pointer (some ⟨b2,0,none⟩))),(3,.raw (.pointer (some ⟨b3,0,none⟩))),(6,.raw (.pointer (some ⟨b6,0,none⟩))),(7,.raw (.int .i64 k.1))]) (fun k=> .box b6 31 (eDig k.2):: .box b3 216 (eW h):: .box b2 31 (eDig Dig.zero)::LF) (0,Dig.zero) ⟨by simp,by simp⟩ ⟨rfl,rfl,rfl,rfl⟩ (.refl _) ?_
 rintro⟨k,d⟩ ⟨hk,hd⟩
 dsimp only at hk hd ⊢
 refine E4 ?_
 refine A6 (fun hc=>?_) (fun hc=>?_)
 ·refine E4 ?_
  have e8:(24:Int) - 8*((k % 4:Nat):Int)=((24 - 8*(k % 4):Nat):Int):=by omega
  refine Sn (a:=24 - 8*(k % 4)) (by show PV.raw (.int .i64 ((24:Int) - 8*((k % 4:Nat):Int)))=_;rw[e8]) (by omega) ?_
  refine JC ?_
  refine⟨(k+1,QT h d k),⟨by dsimp only;omega,by dsimp only;rw[Bt,←hd]⟩,by dsimp only;omega,⟨rfl,rfl,rfl,rfl⟩,.refl _⟩
 ·refine E4 ?_
  refine Fo rfl (.of_eq ?_)
  have hkk:k=32:=by omega
  subst hkk
  rw[hd]⟩
section
variable {P:Program} {N:Nat} {all:Array Oper} {K:Env→List Res→Prop} {fl:List Bool} {os:List Oper} {ρ:Env} {L:List Res} {d:Nat} {ty:TypeId} {pos:String} {af:Array Edge}
theorem fI {S T:TypeId} {k':IntKind} [hS:NH P S k'] [hT:NH P T .u64] {x:Operand} {k₀:IntKind} {n:Nat} (hx:ρ.ev x= .raw (.int k₀ (-(n:Int)))) (hn:0 < n∧n≤32) (k:AV P N all K fl.tail os (CV ρ d (.raw (.int .u64 ((18446744073709551616 - n:Nat):Int)))) L) (hd:Nat.blt d N=true:=by rfl):
  AV P N all K fl (⟨some d,.convert S T x,ty,pos,af,none⟩::os) ρ L:=X2 hx (by
 have e:IntKind.wrap .u64 (-(n:Int))=((18446744073709551616 - n:Nat):Int):=by
  simp only[IntKind.wrap,IntKind.signed,IntKind.bits]
  simp
  omega
 rw[e];exact k) hd
theorem o7 {T T':TypeId} {x y:Operand} {n:Nat} (hx:ρ.ev x= .raw (.int .u64 ((18446744073709551616 - n:Nat):Int))) (hy:ρ.ev y= .raw (.int .u64 31)) (hn:0 < n∧n < 32) (k:AV P N all K fl.tail os (CV ρ d (.raw (.int .u64 ((32 - n:Nat):Int)))) L) (hd:Nat.blt d N=true:=by rfl):
  AV P N all K fl (⟨some d,.binOp .and T x y T',ty,pos,af,none⟩::os) ρ L:=Gi hx hy (fun w=>by
 have key: ∀ m:Nat,m < 32→0 < m→IntKind.u64.wrap ((BitVec.ofInt 64 ((18446744073709551616 - m:Nat):Int)&&& BitVec.ofInt 64 31).toNat:Int)=((32 - m:Nat):Int):=by decide
 simp only[binOp,ne_eq,not_true_eq_false,if_false]
 show(pure (Value.int .u64 (IntKind.u64.wrap ((BitVec.ofInt 64 ((18446744073709551616 - n:Nat):Int)&&& BitVec.ofInt 64 31).toNat:Int))):Sem Value).run P w=_
 rw[key n hn.2 hn.1];rfl) k hd
end
theorem kS (a b:Nat):fh a b=fh b a:=Nat.or_comm _ _
theorem o8 (a n:Nat) (hn:0 < n∧n < 32):CB Tryz.prog 284 [.raw (.int .u32 (a:Int)),.raw (.int .i64 (-(n:Int)))] (.raw (.int .u32 (GX a n:Nat))):=⟨by
 refine Au Tryz.func284 Tryz.ntmps284 rfl (rs:= [.tmp 4]) rfl rfl fun hb LF=>?_
 refine E4 ?_
 refine fI (n:=n) rfl ⟨hn.1,by omega⟩ ?_
 refine o7 (n:=n) rfl rfl hn ?_
 refine E4 ?_
 refine Wt (a:=32) (b:=32 - n) (by rfl) (by rfl) (by omega) (by decide) ?_
 refine E4 ?_
 refine B2 (.of_eq ?_)
 rw[show 32 - (32 - n)=n by omega,GX,kS]⟩
theorem Hs (a n:Nat) (hn:0 < n∧n < 32):CB Tryz.prog 234 [.raw (.int .u32 (a:Int)),.raw (.int .i64 (n:Int))] (.raw (.int .u32 (GX a n:Nat))):=⟨by
 have i1:CB Tryz.prog 284 [.raw (.int .u32 (a:Int)),.raw (.int .i64 (-(n:Int)))] (.raw (.int .u32 (GX a n:Nat))):=o8 a n hn
 refine Au Tryz.func234 Tryz.ntmps234 rfl (rs:= [.tmp 4]) rfl rfl fun hb LF=>?_
 refine E4 ?_
 exact B2 (.refl _)⟩
instance vV (a:Nat):CB Tryz.prog 234 [.raw (.int .u32 (a:Int)),.raw (.int .i64 2)] (.raw (.int .u32 (GX a 2:Nat))):=Hs a 2 ⟨by decide,by decide⟩
instance vS (a:Nat):CB Tryz.prog 234 [.raw (.int .u32 (a:Int)),.raw (.int .i64 6)] (.raw (.int .u32 (GX a 6:Nat))):=Hs a 6 ⟨by decide,by decide⟩
instance vQ (a:Nat):CB Tryz.prog 234 [.raw (.int .u32 (a:Int)),.raw (.int .i64 7)] (.raw (.int .u32 (GX a 7:Nat))):=Hs a 7 ⟨by decide,by decide⟩
instance tX (a:Nat):CB Tryz.prog 234 [.raw (.int .u32 (a:Int)),.raw (.int .i64 11)] (.raw (.int .u32 (GX a 11:Nat))):=Hs a 11 ⟨by decide,by decide⟩
instance tW (a:Nat):CB Tryz.prog 234 [.raw (.int .u32 (a:Int)),.raw (.int .i64 13)] (.raw (.int .u32 (GX a 13:Nat))):=Hs a 13 ⟨by decide,by decide⟩
instance tV (a:Nat):CB Tryz.prog 234 [.raw (.int .u32 (a:Int)),.raw (.int .i64 17)] (.raw (.int .u32 (GX a 17:Nat))):=Hs a 17 ⟨by decide,by decide⟩
instance tU (a:Nat):CB Tryz.prog 234 [.raw (.int .u32 (a:Int)),.raw (.int .i64 18)] (.raw (.int .u32 (GX a 18:Nat))):=Hs a 18 ⟨by decide,by decide⟩
instance tT (a:Nat):CB Tryz.prog 234 [.raw (.int .u32 (a:Int)),.raw (.int .i64 19)] (.raw (.int .u32 (GX a 19:Nat))):=Hs a 19 ⟨by decide,by decide⟩
instance tS (a:Nat):CB Tryz.prog 234 [.raw (.int .u32 (a:Int)),.raw (.int .i64 22)] (.raw (.int .u32 (GX a 22:Nat))):=Hs a 22 ⟨by decide,by decide⟩
instance tR (a:Nat):CB Tryz.prog 234 [.raw (.int .u32 (a:Int)),.raw (.int .i64 25)] (.raw (.int .u32 (GX a 25:Nat))):=Hs a 25 ⟨by decide,by decide⟩
instance n5:CB Tryz.prog 233 [] (.agg (eW rK)):=⟨by
 refine Au Tryz.func233 Tryz.ntmps233 rfl (rs:= [.cell 0 253]) rfl rfl fun hb LF=>?_
 refine Js fun b=>?_
 refine KL [.const (.int .u32 1116352408),.const (.int .u32 1899447441),.const (.int .u32 3049323471),.const (.int .u32 3921009573),.const (.int .u32 961987163),.const (.int .u32 1508970993),.const (.int .u32 2453635748),.const (.int .u32 2870763221),.const (.int .u32 3624381080),.const (.int .u32 310598401),.const (.int .u32 607225278),.const (.int .u32 1426881987),.const (.int .u32 1925078388),.const (.int .u32 2162078206),.const (.int .u32 2614888103),.const (.int .u32 3248222580),.const (.int .u32 3835390401),.const (.int .u32 4022224774),.const (.int .u32 264347078),.const (.int .u32 604807628),.const (.int .u32 770255983),.const (.int .u32 1249150122),.const (.int .u32 1555081692),.const (.int .u32 1996064986),.const (.int .u32 2554220882),.const (.int .u32 2821834349),.const (.int .u32 2952996808),.const (.int .u32 3210313671),.const (.int .u32 3336571891),.const (.int .u32 3584528711),.const (.int .u32 113926993),.const (.int .u32 338241895),.const (.int .u32 666307205),.const (.int .u32 773529912),.const (.int .u32 1294757372),.const (.int .u32 1396182291),.const (.int .u32 1695183700),.const (.int .u32 1986661051),.const (.int .u32 2177026350),.const (.int .u32 2456956037),.const (.int .u32 2730485921),.const (.int .u32 2820302411),.const (.int .u32 3259730800),.const (.int .u32 3345764771),.const (.int .u32 3516065817),.const (.int .u32 3600352804),.const (.int .u32 4094571909),.const (.int .u32 275423344),.const (.int .u32 430227734),.const (.int .u32 506948616),.const (.int .u32 659060556),.const (.int .u32 883997877),.const (.int .u32 958139571),.const (.int .u32 1322822218),.const (.int .u32 1537002063),.const (.int .u32 1747873779),.const (.int .u32 1955562222),.const (.int .u32 2024104815),.const (.int .u32 2227730452),.const (.int .u32 2361852424),.const (.int .u32 2428436474),.const (.int .u32 2756734187),.const (.int .u32 3204031479),.const (.int .u32 3329325298)] rK rfl rfl rfl rfl ?_
 have i1:Cx (eW rK) 64:=⟨rfl⟩
 have i2:Cx (eW (List.replicate 64 0)) 64:=⟨rfl⟩
 refine JC ?_
 exact Fo rfl (.refl _) (hn:=(rfl:(eW rK).length=64))⟩
instance ri:CB Tryz.prog 183 [] (.agg (eW rH)):=⟨by
 refine Au Tryz.func183 Tryz.ntmps183 rfl (rs:= [.cell 0 216]) rfl rfl fun hb LF=>?_
 refine Js fun b=>?_
 refine KL [.const (.int .u32 1779033703),.const (.int .u32 3144134277),.const (.int .u32 1013904242),.const (.int .u32 2773480762),.const (.int .u32 1359893119),.const (.int .u32 2600822924),.const (.int .u32 528734635),.const (.int .u32 1541459225)] rH rfl rfl (by simp[rH]) rfl ?_
 have i1:Cx (eW rH) 8:=⟨rfl⟩
 have i2:Cx (eW (List.replicate 8 0)) 8:=⟨rfl⟩
 refine JC ?_
 exact Fo rfl (.refl _) (hn:=(rfl:(eW rH).length=8))⟩
end Go.Proofs
namespace Go.Q
open Go
section
variable {P:Program} {N:Nat} {all:Array Oper} {K:Env→List Res→Prop} {fl:List Bool} {os:List Oper} {ρ:Env} {L:List Res} {d:Nat} {ty:TypeId} {pos:String} {af:Array Edge}
theorem ZD {S T:TypeId} [hS:SA P S] [hT:mI P T] {x:Operand} {s:Str} {ax:PV} {dst:Option Nat} {gd:Option (Nat × Bool)} (hx:ρ.ev x=ax) [jx:K4 ax s] (hs:s.length≤maxN) {Ψ:PV→List Res→Prop}
  (k: ∀ t',Ψ (.slice (s.map eBy) t') (.tok t' s.length 1::L)):Fc P ⟨dst,.convert S T x,ty,pos,af,gd⟩ ρ L Ψ:=by
 intro a w g ha hi
 obtain⟨E,e1,e2⟩:=hT.out
 have h1:=jx.out g _ (hx ▸ ha x (by simp[Op.operands]))
 let nc:=grownCap w s.length 0 E
 have hnc:s.length≤nc:=grownCap_ge w _ _ _
 let vs:List Value:=s.map fun b=>Value.int .u8 (b.toNat:Int)
 have hvl:vs.length=s.length:=by simp[vs]
 have hsz:(bytesRow (sB s) nc).size=nc:=by simp[bytesRow];omega
 have hrow: ∀ j (h:j < vs.length),(bytesRow (sB s) nc)[j]? =some vs[j]:=fun j h=>by
  have h':j < s.length:=by omega
  rw[bytesRow,FH (by simp;exact h')]
  simp[vs,sB,h']
 have hr:(execOp a.eval ⟨dst,.convert S T x,ty,pos,af,gd⟩).run P w= .ok (.value (.slice (some ⟨w.heap.size,0,none⟩) s.length nc)) (w.drew.alloc (.cells (bytesRow (sB s) nc) E ((bytesRow (sB s) nc).size,(bytesRow (sB s) nc).size+1))):=by
  show(do pure (Next.value (←convert S T (a.eval x))):Sem Next).run P w=_
  rw[h1]
  have:=run_bytes_of_string (P:=P) w S T E (sB s) hS.out e1 e2
  rw[QJ]at this
  rw[Sem.run_bind,this]
  rfl
 have hvr:EB g vs (s.map eBy).flatten:=by
  have e: ∀ l:Str,(l.map eBy).flatten=(l.map fun b=>Value.int .u8 (b.toNat:Int)).map .raw:=fun l=>by
   induction l with
   |nil=>rfl
   |cons b l ih=>rw[Ar,Ck,ih];rfl
  rw[e];exact EB.raws g vs
 have hH0: ∀ o,g.H w.heap.size o=none:=fun o=>by
  cases h:g.H w.heap.size o with
  |none=>rfl
  |some v=>have:=hi.sat _ _ _ h;simp[World.cell?]at this
 have hM0:g.M w.heap.size=none:=by
  cases h:g.M w.heap.size with
  |none=>rfl
  |some v=>exact absurd (hi.satM _ _ h).lt (Ff _)
 have hle:=Gh.le_lay (g:=g) (b:=w.heap.size) (from_:=0) (us:=vs) (fun o _=>hH0 o)
 have hget: ∀ (o:Obj) b,b < w.heap.size→(w.drew.alloc o).heap[b]? =w.heap[b]?:=fun o b hb=>by
  show(w.heap.push o)[b]? =_
  rw[Hd,if_neg (by omega)]
 have hlast: ∀ (o:Obj),(w.drew.alloc o).heap[w.heap.size]? =some o:=fun o=>by show(w.heap.push o)[w.heap.size]? =_;simp
 have key:=(hi.tok 1).repl (w':=w.drew.alloc (.cells (bytesRow (sB s) nc) E ((bytesRow (sB s) nc).size,(bytesRow (sB s) nc).size+1))) (g':=g.lay w.heap.size 0 vs) (r':= .tok (.own w.heap.size nc) s.length 1) .here rfl rfl ⟨rfl,RE _⟩ (by simp) hle
  (fun k hk _=>hget _ k hk) (fun k hk _=>⟨fun o=>Gh.lay_out (fun h=>by have:=h.1;omega),rfl⟩)
  (fun b₂ o v hv=>by
   by_cases hin:b₂=w.heap.size∧0≤o∧o < 0+vs.length
   ·obtain⟨rfl,_,h4⟩:=hin
    have hj:o < vs.length:=by omega
    have:=Gh.lay_in (g:=g) (b:=w.heap.size) (from_:=0) hj
    rw[BG,hv]at this
    cases this
    simp only[World.cell?,hlast,CY,BT,if_false]
    exact hrow o hj
   ·rw[Gh.lay_out hin]at hv
    have h3:=hi.sat b₂ o v hv
    have hb2:b₂ < w.heap.size:=by
     rcases B9 b₂ w.heap.size with h'|h'
     ·exact h'
     ·simp[World.cell?,Bo h']at h3
    simp only[World.cell?]at h3 ⊢
    rw[hget _ b₂ hb2];exact h3)
  (fun b₂ es hM=>(hi.satM b₂ es hM).congr (hget _ b₂ (hi.satM b₂ es hM).lt))
  ⟨_,E,_,hlast _,by rw[hsz,IH],hnc,fun o ho=>by
   rw[Gh.lay_out (fun h=>by have:=h.2.2;omega)]
   exact hH0 o,hM0,.inr (Ah _)⟩ (fun b₂ hb₂=> .inr (by simp[Res.block]at hb₂;omega))
 refine Oper.wq_of_run hr ?_
 refine⟨_,.slice (s.map eBy) (.own w.heap.size nc),_,_,rfl,?_,key.1,key.2.1,key.2.2,k _⟩
 have:=VR.of_cells (g:=g.lay w.heap.size 0 vs) (xs:=s.map eBy) (t:= .own w.heap.size nc) (sz:=1) (b:=w.heap.size) (off:=0) (cap:=nc) (fun e he=>by obtain⟨b,_,rfl⟩:=AQ.1 he;rfl) (by simpa using hnc) (by simpa using hs) (us:=vs) (hvr.mono hle) (fun j hj=>Gh.lay_in hj) (fun b' cap' e=>by cases e;exact⟨rfl,rfl,rfl⟩) (by simp)
 simpa using this
theorem VQ {S T:TypeId} [hS:SA P S] [hT:mI P T] {x:Operand} {s:Str} {ax:PV} (hx:ρ.ev x=ax) [jx:K4 ax s] (hs:s.length≤140737488355328)
  (k: ∀ t',AV P N all K fl.tail os (CV ρ d (.slice (s.map eBy) t')) (.tok t' s.length 1::L)) (hd:Nat.blt d N=true:=by rfl) (hfl:fl.headD true=true:=by rfl):AV P N all K fl (⟨some d,.convert S T x,ty,pos,af,none⟩::os) ρ L:=
 Da rfl (PO hd) hfl (ZD hx hs k)
end
end Go.Q
namespace Go.Proofs
open Go Go.Q
attribute [local irreducible] ER AV BA Fc
theorem XE {a b i:Nat} (hb:b < 2 ^ i):a*2 ^ i|||b=a*2 ^ i+b:=by
 rw[←Nat.shiftLeft_eq];exact(Nat.shiftLeft_add_eq_or_of_lt hb a).symm
def Qz (v:Nat) (c:UInt8):Nat:=fh (YK v 8) (c.toNat % 4294967296)
theorem Qy {v:Nat} {c:UInt8} (hv:v < 16777216):Qz v c=v*256+c.toNat:=by
 have hc:c.toNat < 256:=c.toNat_lt
 unfold Qz fh YK
 rw[show min 8 32=8 from rfl,Nat.mod_mod,Nat.mod_mod,E6 (show c.toNat < 4294967296 by omega),E6 (show v*2 ^ 8 < 4294967296 by omega)]
 exact XE (i:=8) (by omega)
theorem ag (b:Str) (t:Nat) (h:4*t+4≤b.length):(List.range 4).foldl (fun v i=>Qz v (b.getD (4*t+i) 0)) 0=Yi b t:=by
 have h0: ∀ i,(b.getD i 0).toNat < 256:=fun i=>UInt8.toNat_lt _
 have a0:=h0 (4*t)
 have a1:=h0 (4*t+1)
 have a2:=h0 (4*t+2)
 have a3:=h0 (4*t+3)
 show Qz (Qz (Qz (Qz 0 (b.getD (4*t+0) 0)) (b.getD (4*t+1) 0)) (b.getD (4*t+2) 0)) (b.getD (4*t+3) 0)=_
 rw[Dq]
 rw[Qy (v:=0) (by omega),Qy (v:=0*256+(b.getD (4*t) 0).toNat) (by omega),Qy (v:=(0*256+(b.getD (4*t) 0).toNat)*256+(b.getD (4*t+1) 0).toNat) (by omega),
  Qy (v:=((0*256+(b.getD (4*t) 0).toNat)*256+(b.getD (4*t+1) 0).toNat)*256+(b.getD (4*t+2) 0).toNat) (by omega)]
 unfold Yi
 have e0:(4*(t:Int)).toNat=4*t:=by omega
 have e1:(4*(t:Int)+1).toNat=4*t+1:=by omega
 have e2:(4*(t:Int)+2).toNat=4*t+2:=by omega
 have e3:(4*(t:Int)+3).toNat=4*t+3:=by omega
 rw[e0,e1,e2,e3]
 generalize (b.getD (4*t) 0).toNat=x0 at*
 generalize (b.getD (4*t+1) 0).toNat=x1 at*
 generalize (b.getD (4*t+2) 0).toNat=x2 at*
 generalize (b.getD (4*t+3) 0).toNat=x3 at*
 unfold fh YK
 rw[show min 24 32=24 from rfl,show min 16 32=16 from rfl,show min 8 32=8 from rfl]
 simp only[E6 (show x0 < 4294967296 by omega),E6 (show x1 < 4294967296 by omega),E6 (show x2 < 4294967296 by omega),E6 (show x3 < 4294967296 by omega),E6 (show x0*2 ^ 24 < 4294967296 by omega),E6 (show x1*2 ^ 16 < 4294967296 by omega),E6 (show x2*2 ^ 8 < 4294967296 by omega)]
 have k1:x0*2 ^ 24|||x1*2 ^ 16=(x0*256+x1)*2 ^ 16:=by rw[XE (by omega)];omega
 rw[k1,E6 (show(x0*256+x1)*2 ^ 16 < 4294967296 by omega)]
 have k2:(x0*256+x1)*2 ^ 16|||x2*2 ^ 8=((x0*256+x1)*256+x2)*2 ^ 8:=by rw[XE (by omega)];omega
 rw[k2,E6 (show((x0*256+x1)*256+x2)*2 ^ 8 < 4294967296 by omega),XE (by omega)]
 omega
def RN (b:Str) (k:Nat):List Nat:=(List.range (k - 16)).foldl QL ((List.range (min k 16)).foldl (Kz b) (List.replicate 64 0))
theorem jD (b:Str) (k:Nat):(RN b k).length=64:=Vz (W0 b _) _
theorem aw {b:Str} {k:Nat} (h:k < 16):RN b (k+1)=(RN b k).set k (Yi b k):=by
 unfold RN
 rw[show k+1 - 16=0 by omega,show k - 16=0 by omega,show min (k+1) 16=k+1 by omega,show min k 16=k by omega,Bt];rfl
theorem av (b:Str) (j:Nat):RN b (j+16+1)=(RN b (j+16)).set (j+16) (TV (RN b (j+16)) j):=by
 unfold RN
 rw[show j+16+1 - 16=j+1 by omega,show j+16 - 16=j by omega,show min (j+16+1) 16=16 by omega,show min (j+16) 16=16 by omega,Bt];rfl
theorem cD (b:Str) (k:Nat): ∀ j,k≤j→((List.range k).foldl (Kz b) (List.replicate 64 0)).getD j 0=0:=by
 induction k with
 |zero=>intro j _;rw[qf,Ho,C0,List.getElem?_replicate];split<;>rfl
 |succ k ih=>
  intro j hj
  have:=ih j (by omega)
  rw[Bt,Kz,List.getD,Y2 (by omega)]
  exact this
theorem fC {b:Str} {k:Nat} (h:k < 16):(RN b k).set k 0=RN b k:=by
 have h0:=cD b k k (Ah _)
 have hl:=jD b k
 have e:RN b k=(List.range k).foldl (Kz b) (List.replicate 64 0):=by
  unfold RN
  rw[show k - 16=0 by omega,show min k 16=k by omega];rfl
 rw[←e]at h0
 refine EA (by simp) fun i h1 h2=>?_
 rw[mZ]
 split
 ·rename_i e
  subst e
  simpa [List.getD,h2]using h0.symm
 ·rfl
instance nj (s:Str) [hs:B1 (s.length=64)]:CB Tryz.prog 232 [.str s] (.agg (eW (GY s))):=⟨by
 refine Au Tryz.func232 Tryz.ntmps232 rfl (rs:= [.cell 2 253]) rfl rfl fun hb LF=>?_
 have hl:=hs.out
 have i2:Cx (eW (List.replicate 64 0)) 64:=⟨rfl⟩
 refine Js fun b=>?_
 refine Ij fun b2=>?_
 refine Ad (σ:=Nat × List Nat) (fun k=>k.1≤64∧k.2.length=64∧k.2=RN s k.1) (fun k=>64 - k.1) (fun k=> [(0,.str s),(2,.raw (.pointer (some ⟨b,0,none⟩))),(3,.raw (.pointer (some ⟨b2,0,none⟩))),(9,.raw (.int .i64 k.1))]) (fun k=> .box b2 253 (eW k.2):: .box b 253 (eW (List.replicate 64 0))::LF) (0,List.replicate 64 0) ⟨by simp,by simp,rfl⟩ ⟨rfl,rfl,rfl,rfl⟩ (.refl _) ?_
 rintro⟨k,w⟩ ⟨hk,hw,he⟩
 dsimp only at hk hw he ⊢
 have i3:Cx (eW w) 64:=⟨by rw[Gx,hw]⟩
 refine E4 ?_
 refine A6 (fun hc=>?_) (fun hc=>?_)
 ·refine E4 ?_
  refine A6 (fun h16=>?_) (fun h16=>?_)
  ·have h16':k < 16:=by omega
   have hz:=fC (b:=s) h16'
   rw[←he]at hz
   refine E4 ?_
   refine X0 (ax:= .str s) (i:=4*k) (j:=4*k+4) rfl (by show PV.raw (.int .i64 (4*(k:Int)))=_;rw[show(4*(k:Int))=((4*k:Nat):Int) by omega]) (by show PV.raw (.int .i64 (4*(k:Int)+4))=_;rw[show(4*(k:Int)+4)=((4*k+4:Nat):Int) by omega]) (by omega) (by omega) (by omega) ?_
   refine VQ (ax:= .str ((s.drop (4*k)).take (4*k+4 - 4*k))) rfl (by rw[Aa,B5];omega) fun t=>?_
   have hcl:((s.drop (4*k)).take (4*k+4 - 4*k)).length=4:=by rw[Aa,B5];omega
   have hce: ∀ i (h:i < ((s.drop (4*k)).take (4*k+4 - 4*k)).length),((s.drop (4*k)).take (4*k+4 - 4*k))[i]=s.getD (4*k+i) 0:=fun i h=>by
    rw[FG,H5,C0,AO (by omega)];rfl
   generalize (s.drop (4*k)).take (4*k+4 - 4*k)=cs at hcl hce ⊢
   refine E4 ?_
   refine Ad (σ:=Nat × Nat) (fun j=>j.1≤4∧j.2=(List.range j.1).foldl (fun v i=>Qz v (s.getD (4*k+i) 0)) 0) (fun j=>4 - j.1) (fun j=> [(0,.str s),(2,.raw (.pointer (some ⟨b,0,none⟩))),(3,.raw (.pointer (some ⟨b2,0,none⟩))),(4,.raw (.int .i64 k)),(9,.raw (.int .i64 k)),(21,.slice (cs.map eBy) t),(22,.raw (.int .i64 cs.length)),(23,.raw (.int .i64 j.1))]) (fun j=> .box b2 253 (eW (w.set k j.2)):: .box b 253 (eW (List.replicate 64 0))::LF) (0,0) ⟨by simp,rfl⟩ ⟨rfl,rfl,rfl,rfl,rfl,rfl,rfl,rfl⟩ (by dsimp only;rw[hz];exact .cons _ (.refl _)) ?_
   rintro⟨j,v⟩ ⟨hj,hv⟩
   dsimp only at hj hv ⊢
   refine E4 ?_
   refine A6 (fun hc2=>?_) (fun hc2=>?_)
   ·have hj4:j < 4:=by omega
    have hsl:(w.set k v).length=64:=by rw[DN,hw]
    have hkw:k < w.length:=by omega
    refine wf ?_
    refine E4 ?_
    refine⟨(j+1,Qz v (s.getD (4*k+j) 0)),⟨by dsimp only;omega,?_⟩,by dsimp only;omega,⟨rfl,rfl,rfl,rfl,rfl,rfl,rfl,rfl⟩,?_⟩
    ·dsimp only
     rw[Bt,←hv]
    ·have e:(w.set k v).getD k 0=v:=by simp[List.getD,hkw]
     dsimp only
     rw[e,hce j (by omega),List.set_set]
     exact .refl _
   ·have hj4:j=4:=by omega
    subst hj4
    rw[ag s k (by omega)]at hv
    refine E4 ?_
    refine⟨(k+1,w.set k v),⟨by dsimp only;omega,by dsimp only;rw[DN,hw],by dsimp only;rw[aw h16',←he,hv]⟩,by dsimp only;omega,⟨rfl,rfl,rfl,rfl⟩,.refl _⟩
  ·obtain⟨j,rfl⟩: ∃ j,k=j+16:=⟨k - 16,by omega⟩
   refine Nl ?_
   refine GK (by decide+kernel) ?_
   refine Wb ?_
   refine Bj 29 ?_ ?_
   ·decide+kernel
   refine JC ?_
   refine⟨(j+16+1,w.set (j+16) (TV w j)),⟨by dsimp only;omega,by dsimp only;rw[DN,hw],by dsimp only;rw[av,←he]⟩,by dsimp only;omega,⟨rfl,rfl,rfl,rfl⟩,?_⟩
   dsimp only;rw[TU];exact .refl _
 ·refine E4 ?_
  refine Fo rfl (.of_eq ?_) (hn:=(by rw[Gx,hw]:(eW w).length=64))
  have hkk:k=64:=by omega
  subst hkk
  rw[he];rfl⟩
end Go.Proofs
namespace Go.Q
open Go
section
variable {P:Program} {N:Nat} {all:Array Oper} {K:Env→List Res→Prop} {fl:List Bool} {os:List Oper} {ρ:Env} {L:List Res} {d:Nat} {ty:TypeId} {pos:String} {af:Array Edge}
theorem Yb {T n E by_:Nat} [hT:VA P T n E] [hE:EZ P E 1 by_] [hS:DR P E] {x y:Operand} {l:List Nat} {i:Nat} {kk:IntKind} (hx:ρ.ev x= .agg (eW l)) (hy:ρ.ev y= .raw (.int kk (i:Int))) (hl:l.length=n) (hi:i < n)
  (k:AV P N all K fl.tail os (CV ρ d (.raw (.int .u32 ((l.getD i 0:Nat):Int)))) L) (hd:Nat.blt d N=true:=by rfl):AV P N all K fl (⟨some d,.index T x y,ty,pos,af,none⟩::os) ρ L:=
 Bh hd (B7 fun a w g ha hi'=>⟨.int .u32 ((l.getD i 0:Nat):Int),by
  have h1:=ha x (by simp[Op.operands])
  rw[hx]at h1
  have h2:=Cd ha (x:=y) (by simp[Op.operands]) hy
  obtain⟨z,z1,z2,_⟩:=hE.out
  show(do pure (Next.value (←Instr.index T (a.eval x) (a.eval y))):Sem Next).run P w=_
  rw[h2]
  generalize a.eval x=v at h1
  cases h1 with
  |agg hs hv=>
   rename_i vs
   have hil:i < l.length:=by omega
   have hiv:i < vs.size:=by rw[hs];simpa using hil
   have h3:vs[i]= .int .u32 ((l.getD i 0:Nat):Int):=by
    have:=hv i hiv (by simpa using hil)
    simp only[eW,BN]at this
    rw[this.raw_inv]
    simp[List.getD,hil]
   have hn:(0:Int)≤(i:Int)∧(i:Int) < (n:Int):=⟨by omega,by omega⟩
   have hp:(part E vs ((i:Int).toNat*1)).run P w= .ok (.int .u32 ((l.getD i 0:Nat):Int)) w:=by
    unfold part
    rw[Sem.run_bind,N9 hS.out,Dx,IH]
    simp only[Result.andThen_ok,BT,if_false,CR hiv,h3,Sem.run_pure]
   simp only[Instr.index,asIntOf,Sem.run_bind,Sem.run_pure,Result.andThen_ok,IC hT.out,hn,and_self,if_true,sizeOf,typeInfo,run_program,z1,z2,hp],.raw _⟩) k
end
end Go.Q
namespace Go.Proofs
open Go Go.Q
attribute [local irreducible] ER AV BA Fc
def v8 (v:List Nat):List Nat:= [v.getD 0 0,v.getD 1 0,v.getD 2 0,v.getD 3 0,v.getD 4 0,v.getD 5 0,v.getD 6 0,v.getD 7 0]
theorem wU {v:List Nat} (h:v.length=8):v8 v=v:=by
 match v,h with
 | [_,_,_,_,_,_,_,_],_=>rfl
instance qB (h:List Nat) (s:Str) [hs:B1 (s.length=64)] [hh:B1 (h.length=8)]:CB Tryz.prog 185 [.agg (eW h),.str s] (.agg (eW (NQ h s))):=⟨by
 refine Au Tryz.func185 Tryz.ntmps185 rfl (rs:= [.cell 4 216]) rfl rfl fun hb LF=>?_
 have hl:=hh.out
 have hsl:=TW s
 have j1:Cx (eW (List.replicate 64 0)) 64:=⟨rfl⟩
 have j2:Cx (eW (List.replicate 8 0)) 8:=⟨rfl⟩
 have j3:Cx (eW h) 8:=⟨by rw[Gx,hl]⟩
 have j4:Cx (eW rK) 64:=⟨rfl⟩
 have j5:Cx (eW (GY s)) 64:=⟨by rw[Gx,hsl]⟩
 have hkl:rK.length=64:=rfl
 refine Js fun b2=>?_
 refine Ij fun b4=>?_
 refine Ij fun b5=>?_
 refine Ij fun b6=>?_
 refine Ad (σ:=Nat × List Nat) (fun k=>k.1≤64∧k.2.length=8∧k.2=(List.range k.1).foldl (Mm (GY s)) h) (fun k=>64 - k.1) (fun k=> [(2,.raw (.pointer (some ⟨b2,0,none⟩))),(4,.raw (.pointer (some ⟨b4,0,none⟩))),(5,.raw (.pointer (some ⟨b5,0,none⟩))),(6,.raw (.pointer (some ⟨b6,0,none⟩))),(7,.raw (.int .u32 ((k.2.getD 0 0:Nat):Int))),(8,.raw (.int .u32 ((k.2.getD 1 0:Nat):Int))),(9,.raw (.int .u32 ((k.2.getD 2 0:Nat):Int))),(10,.raw (.int .u32 ((k.2.getD 3 0:Nat):Int))),(11,.raw (.int .u32 ((k.2.getD 4 0:Nat):Int))),(12,.raw (.int .u32 ((k.2.getD 5 0:Nat):Int))),(13,.raw (.int .u32 ((k.2.getD 6 0:Nat):Int))),(14,.raw (.int .u32 ((k.2.getD 7 0:Nat):Int))),(39,.raw (.int .i64 k.1))]) (fun k=> .box b6 253 (eW rK):: .box b5 253 (eW (GY s)):: .box b4 216 (eW (List.replicate 8 0)):: .box b2 216 (eW h)::LF) (0,h) ⟨by simp,hl,rfl⟩ ⟨rfl,rfl,rfl,rfl,rfl,rfl,rfl,rfl,rfl,rfl,rfl,rfl,rfl⟩ (.refl _) ?_
 rintro⟨k,v⟩ ⟨hk,hv,hve⟩
 dsimp only at hk hv hve ⊢
 refine E4 ?_
 refine A6 (fun hc=>?_) (fun hc=>?_)
 ·refine E4 ?_
  refine⟨(k+1,Mm (GY s) v k),⟨by dsimp only;omega,rfl,by dsimp only;rw[Bt,←hve]⟩,by dsimp only;omega,⟨rfl,rfl,rfl,rfl,rfl,rfl,rfl,rfl,rfl,rfl,rfl,rfl,rfl⟩,.refl _⟩
 have hkk:k=64:=by omega
 subst hkk
 replace hve:v=L0 h s:=hve
 have hv8:=wU hv
 refine E4 ?_
 refine KL [.tmp 102,.tmp 103,.tmp 104,.tmp 105,.tmp 106,.tmp 107,.tmp 108,.tmp 109] (v8 v) rfl (hx8 (by rfl) (by rfl) (by rfl) (by rfl) (by rfl) (by rfl) (by rfl) (by rfl)) (by simp[v8]) (by simp[v8]) ?_
 rw[hv8]
 refine E4 ?_
 refine Ad (σ:=Nat × List Nat) (fun k=>k.1≤8∧k.2.length=8∧k.2=(List.range k.1).foldl (Yp (L0 h s)) h) (fun k=>8 - k.1) (fun k=> [(2,.raw (.pointer (some ⟨b2,0,none⟩))),(4,.raw (.pointer (some ⟨b4,0,none⟩))),(110,.agg (eW v)),(111,.raw (.int .i64 k.1))]) (fun k=> .box b4 216 (eW (List.replicate 8 0)):: .box b2 216 (eW k.2)::LF) (0,h) ⟨by simp,hl,rfl⟩ ⟨rfl,rfl,rfl,rfl⟩ (.cons _ (.cons _ (.refl _))) ?_
 rintro⟨k,x⟩ ⟨hk,hx,hxe⟩
 dsimp only at hk hx hxe ⊢
 have j8:Cx (eW x) 8:=⟨by rw[Gx,hx]⟩
 refine E4 ?_
 refine A6 (fun hc=>?_) (fun hc=>?_)
 ·refine E4 ?_
  refine Yb rfl rfl hv (by omega) ?_
  refine E4 ?_
  refine⟨(k+1,x.set k (Nf (x.getD k 0) ((L0 h s).getD k 0))),⟨by dsimp only;omega,by dsimp only;rw[DN,hx],by dsimp only;rw[Bt,←hxe];rfl⟩,by dsimp only;omega,⟨rfl,rfl,rfl,rfl⟩,?_⟩
  rw[←hve]
  exact .refl _
 ·refine E4 ?_
  refine Fo rfl (.of_eq ?_) (hn:=(by rw[Gx,hx]:(eW x).length=8))
  have hkk:k=8:=by omega
  subst hkk
  rw[NQ,hxe]⟩
end Go.Proofs
namespace Go.Q
open Go
section
variable {P:Program} {N:Nat} {all:Array Oper} {K:Env→List Res→Prop} {fl:List Bool} {os:List Oper} {ρ:Env} {L:List Res} {d:Nat} {ty:TypeId} {pos:String} {af:Array Edge}
theorem nm {T T':TypeId} {x y:Operand} {a b:Nat} (hx:ρ.ev x= .raw (.int .u64 (a:Int))) (hy:ρ.ev y= .raw (.int .i64 (b:Int))) (k:AV P N all K fl.tail os (CV ρ d (.raw (.int .u64 ((a / 2 ^ (min b 64):Nat):Int)))) L) (hd:Nat.blt d N=true:=by rfl):
  AV P N all K fl (⟨some d,.binOp .shr T x y T',ty,pos,af,none⟩::os) ρ L:=Gi hx hy (fun w=>by
   have h0: ¬(b:Int) < 0:=by omega
   simp only[binOp,Op.shift,h0,if_false,IntKind.bits,Dx]
   rw[Qq];rfl) k hd
theorem nx {T E sz by_:Nat} [hT:MO P T E] [hE:EZ P E sz by_] {x y z:Operand} {α:Type} {f:α→List PV} [hf:NX f sz] {l:List α} {t:CF} {k1 k2:IntKind} {i j:Nat} (hx:ρ.ev x= .slice (l.map f) t) (hy:ρ.ev y= .raw (.int k1 (i:Int))) (hz:ρ.ev z= .raw (.int k2 (j:Int))) (hij:i≤j) (hj:j≤l.length)
  (k:AV P N all K fl.tail os (CV ρ d (.slice (((l.drop i).take (j - i)).map f) .ro)) L) (hd:Nat.blt d N=true:=by rfl):AV P N all K fl (⟨some d,.slice T x (some y) (some z) none,ty,pos,af,none⟩::os) ρ L:=
 Bh hd (X8 i j hx hij (by simpa using hj) (fun e he=>by obtain⟨a,_,rfl⟩:=AQ.1 he;exact hf.out a) (fun o e=>by cases e;exact⟨_,hy⟩) (by simp) (fun o e=>by cases e;exact⟨_,hz⟩) (by simp)) (by
  rw[←List.map_drop,←aa];exact k)
end
end Go.Q
namespace Go.Proofs
open Go Go.Q
attribute [local irreducible] ER AV BA Fc
def qG (m:Str) (k:Nat):Str:=(m.drop (64*k)).take 64
def eS1 (s:Str):List PV:= [.str s]
def OD (s:Str):List Str:=(List.range ((JF s).length / 64)).map (qG (JF s))
theorem jv (s:Str):(JF s).length % 64=0:=by rw[TZ];omega
theorem TX (s:Str) (n:Nat) (h:n≤s.length):(JF s).drop n=(s.drop n++ [128])++List.replicate ((120 - (s.length+1) % 64) % 64) 0++FO (s.length*8) 8:=by
 unfold JF
 rw[AU,AU,List.drop_append_of_le_length h,AU,AU]
theorem gu {s:Str} {k:Nat} (h:64*k+64≤s.length):qG (JF s) k=(s.drop (64*k)).take 64:=by
 unfold qG
 rw[TX s (64*k) (by omega),AU,AU,Fq (by rw[B5];omega)]
theorem WB (s:Str) {k:Nat} (h:k < (JF s).length / 64):(OD s).take (k+1)=(OD s).take k++ [qG (JF s) k]:=by
 have hl:k < (OD s).length:=by simpa [OD]using h
 rw[A7 hl]
 simp[OD]
theorem QY (n j:Nat):FO n (j+1)=FO n j++ [UInt8.ofNat (n / 2 ^ (min (8*(7 - j)) 64))]:=by
 rw[FO,FO,EJ,Ak];rfl
theorem aG (s:Str) (hs:s.length≤1000000):Uc Tryz.prog 231 [.pt [.str s] 0] eS1 (OD s):=by
 have hpl:=TZ s
 have hpm:=jv s
 obtain⟨q,hq⟩: ∃ q,q=s.length / 64:=⟨_,rfl⟩
 have hq1:64*q≤s.length:=by omega
 have hq2:s.length < 64*q+64:=by omega
 have hn:q < (JF s).length / 64:=by omega
 intro l J Jx hY L hJ
 have e128:GI (.raw (.int .u8 128)) eBy (128:UInt8):=(inferInstance:GI (.raw (.int .u8 (((128:UInt8)).toNat:Int))) eBy 128)
 have e0:GI (.raw (.int .u8 0)) eBy (0:UInt8):=(inferInstance:GI (.raw (.int .u8 (((0:UInt8)).toNat:Int))) eBy 0)
 have hpre: ∀ k,(OD s).take k <+:OD s:=fun k=>Si _ _
 refine C5 Tryz.func231 rfl Tryz.ntmps231 (rs:= []) rfl rfl fun hb LF=>?_
 refine wf ?_
 refine jM (by rfl) (by rfl) (by decide) (by omega) ?_
 rw[show s.length / (@OfNat.ofNat Nat 64 _)=q from hq.symm]
 refine wf ?_
 refine Ad (σ:=Nat × List Res) (fun k=>k.1≤q∧J ((OD s).take k.1) k.2) (fun k=>q - k.1) (fun k=> [(0,.raw (.func (.yield l) #[] #[])),(1,.pt [.str s] 0),(3,.raw (.int .i64 ((64*q:Nat):Int))),(4,.raw (.int .i64 ((64*k.1:Nat):Int)))]) (fun k=>k.2++LF) (0,L) ⟨by simp,hJ⟩ ⟨rfl,rfl,?_,rfl⟩ (.refl _) ?_
 ·show PV.raw (.int .i64 ((q:Int)*64))=_
  rw[show((q:Int)*64)=((64*q:Nat):Int) by omega]
 rintro⟨k,L1⟩ ⟨hk,hJ1⟩
 dsimp only at hk hJ1 ⊢
 refine wf ?_
 refine A6 (fun hc=>?_) (fun hc=>?_)
 ·have hkq:k < q:=by omega
  have hb:=gu (s:=s) (k:=k) (by omega)
  have hbt:=WB s (k:=k) (by omega)
  refine wf ?_
  refine X0 (ax:= .str s) (i:=64*k) (j:=64*k+64) rfl rfl (by show PV.raw (.int .i64 (((64*k:Nat):Int)+64))=_;rw[show(((64*k:Nat):Int)+64)=((64*k+64:Nat):Int) by omega]) (by omega) (by omega) (by omega) ?_
  rw[show 64*k+64 - 64*k=64 by omega,←hb]
  refine HL L1 LF rfl rfl rfl (.refl _) _ (hY ((OD s).take k) (qG (JF s) k) L1 (by rw[←hbt];exact hpre _) hJ1) fun bo L' hR=>?_
  refine wf ?_
  rw[←hbt]at hR
  rcases hR with ⟨rfl,hJ2⟩|⟨rfl,hJx⟩
  ·refine wf ?_
   refine⟨(k+1,L'),⟨by dsimp only;omega,hJ2⟩,by dsimp only;omega,⟨rfl,rfl,rfl,?_⟩,.refl _⟩
   show PV.raw (.int .i64 (((64*k:Nat):Int)+64))=_
   rw[show(((64*k:Nat):Int)+64)=((64*(k+1):Nat):Int) by omega]
  ·refine wf ?_
   exact⟨trivial,_,L',.nil,.refl _,.inr ⟨_,hJx⟩⟩
 ·have hkq:k=q:=by omega
  subst hkq
  refine wf ?_
  refine VQ (ax:= .str (s.drop (64*k))) rfl (by rw[B5];omega) fun t=>?_
  refine dB fun t1=>?_
  have hdl:(s.drop (64*k)).length=s.length - 64*k:=B5
  refine Ad (σ:=Nat × CF) (fun j=>j.1≤(120 - (s.length+1) % 64) % 64) (fun j=>(120 - (s.length+1) % 64) % 64 - j.1) (fun j=> [(0,.raw (.func (.yield l) #[] #[])),(1,.pt [.str s] 0),(5,.slice (((s.drop (64*k)++ [128])++List.replicate j.1 0).map eBy) j.2)]) (fun j=> .tok j.2 ((s.drop (64*k)++ [128])++List.replicate j.1 0).length 1::(L1++LF)) (0,t1) (by simp) ⟨rfl,rfl,?_⟩ ?_ ?_
  ·rw[List.replicate_zero,BX];rfl
  ·rw[List.replicate_zero,BX];exact .refl _
  rintro⟨j,t2⟩ hj
  dsimp only at hj ⊢
  have hjl:((s.drop (64*k)++ [128])++List.replicate j (0:UInt8)).length=s.length - 64*k+1+j:=by simp[hdl];omega
  refine wf ?_
  refine bB (by rfl) (by rfl) (by decide) ?_
  refine wf ?_
  refine AY (fun hc2=>?_) (fun hc2=>?_)
  ·have hlt:j < (120 - (s.length+1) % 64) % 64:=by
    rcases B9 j ((120 - (s.length+1) % 64) % 64)with h|h
    ·exact h
    ·exfalso
     apply hc2
     rw[hjl]
     omega
   generalize hmj:(s.drop (64*k)++ [128])++List.replicate j (0:UInt8)=mj at hjl ⊢
   refine dB fun t3=>?_
   refine⟨(j+1,t3),by dsimp only;omega,by dsimp only;omega,⟨rfl,rfl,?_⟩,?_⟩
   ·dsimp only
    rw[Y0,←AU,hmj];rfl
   ·dsimp only
    rw[Y0,←AU,hmj];exact .refl _
  have hjz:j=(120 - (s.length+1) % 64) % 64:=by
   rw[hjl]at hc2
   omega
  subst hjz
  generalize hm0:(s.drop (64*k)++ [128])++List.replicate ((120 - (s.length+1) % 64) % 64) (0:UInt8)=m0 at hjl ⊢
  refine wf ?_
  refine Ad (σ:=Nat × CF) (fun j=>j.1≤8) (fun j=>8 - j.1) (fun j=> [(0,.raw (.func (.yield l) #[] #[])),(1,.pt [.str s] 0),(5,.slice ((m0++FO (s.length*8) j.1).map eBy) j.2),(6,.raw (.int .i64 (56 - 8*(j.1:Int))))]) (fun j=> .tok j.2 (m0++FO (s.length*8) j.1).length 1::(L1++LF)) (0,t2) (by simp) ⟨rfl,rfl,?_,rfl⟩ ?_ ?_
  ·show _=PV.slice ((m0++ []).map eBy) _
   rw[BX];rfl
  ·show List.Sublist (_::_) (_::_)
   rw[show m0++FO (s.length*8) 0=m0 from BX _];exact .refl _
  rintro⟨j,t3⟩ hj8
  dsimp only at hj8 ⊢
  have hpt:(m0++FO (s.length*8) j).length=s.length - 64*k+1+(120 - (s.length+1) % 64) % 64+j:=by simp[FO,hjl]
  refine wf ?_
  refine A6 (fun hc3=>?_) (fun hc3=>?_)
  ·generalize hmj:m0++FO (s.length*8) j=mj at hpt ⊢
   refine wf ?_
   refine Wu (b:=8) (by rfl) (by rfl) (by omega) ?_
   refine wf ?_
   refine nm (b:=8*(7 - j)) (by rfl) (by show PV.raw (.int .i64 (56 - 8*(j:Int)))=_;rw[show(56 - 8*(j:Int))=((8*(7 - j):Nat):Int) by omega]) ?_
   refine dB fun t4=>?_
   refine⟨(j+1,t4),by dsimp only;omega,by dsimp only;omega,⟨rfl,rfl,?_,?_⟩,?_⟩
   ·dsimp only
    rw[QY,←AU,hmj];rfl
   ·show PV.raw (.int .i64 (56 - 8*(j:Int) - 8))=PV.raw (.int .i64 (56 - 8*((j+1:Nat):Int)))
    rw[show(56 - 8*(j:Int) - 8)=56 - 8*((j+1:Nat):Int) by omega]
   ·dsimp only
    rw[QY,←AU,hmj];exact .refl _
  have hj:j=8:=by omega
  subst hj
  have hm1:m0++FO (s.length*8) 8=(JF s).drop (64*k):=by rw[TX s (64*k) hq1,←hm0]
  rw[hm1]at hpt ⊢
  refine wf ?_
  refine Ad (σ:=Nat × List Res) (fun i=>k+i.1≤(JF s).length / 64∧J ((OD s).take (k+i.1)) i.2) (fun i=>(JF s).length / 64 - (k+i.1)) (fun i=> [(0,.raw (.func (.yield l) #[] #[])),(5,.slice (((JF s).drop (64*k)).map eBy) t3),(7,.raw (.int .i64 ((64*i.1:Nat):Int)))]) (fun i=>i.2++LF) (0,L1) ⟨by dsimp only;omega,hJ1⟩ ⟨rfl,rfl,rfl⟩ (.cons _ (.refl _)) ?_
  rintro⟨i,L2⟩ ⟨hi,hJ2⟩
  dsimp only at hi hJ2 ⊢
  refine wf ?_
  refine A6 (fun hc4=>?_) (fun hc4=>?_)
  ·have hbt:=WB s (k:=k+i) (by omega)
   refine wf ?_
   refine nx (i:=64*i) (j:=64*i+64) rfl rfl (by show PV.raw (.int .i64 (((64*i:Nat):Int)+64))=_;rw[show(((64*i:Nat):Int)+64)=((64*i+64:Nat):Int) by omega]) (by omega) (by omega) ?_
   refine wf ?_
   have e:(((JF s).drop (64*k)).drop (64*i)).take (64*i+64 - 64*i)=qG (JF s) (k+i):=by
    rw[LY,qG,show 64*i+64 - 64*i=64 by omega,show 64*k+64*i=64*(k+i) by omega]
   rw[e]
   refine HL L2 LF rfl rfl rfl (.refl _) _ (hY ((OD s).take (k+i)) (qG (JF s) (k+i)) L2 (by rw[←hbt];exact hpre _) hJ2) fun bo L' hR=>?_
   refine wf ?_
   rw[←hbt]at hR
   rcases hR with ⟨rfl,hJ3⟩|⟨rfl,hJx⟩
   ·refine wf ?_
    refine⟨(i+1,L'),⟨by dsimp only;omega,hJ3⟩,by dsimp only;omega,⟨rfl,rfl,?_⟩,.refl _⟩
    show PV.raw (.int .i64 (((64*i:Nat):Int)+64))=_
    rw[show(((64*i:Nat):Int)+64)=((64*(i+1):Nat):Int) by omega]
   ·refine wf ?_
    exact⟨trivial,_,L',.nil,.refl _,.inr ⟨_,hJx⟩⟩
  ·have hie:k+i=(JF s).length / 64:=by omega
   rw[hie,AE (by simp[OD])]at hJ2
   refine wf ?_
   exact⟨trivial,_,L2,.nil,.refl _,.inl hJ2⟩
end Go.Proofs
namespace Go.Q
open Go
section
variable {P:Program} {N:Nat} {all:Array Oper} {K:Env→List Res→Prop} {fl:List Bool} {os:List Oper} {ρ:Env} {L:List Res} {d:Nat} {ty:TypeId} {pos:String} {af:Array Edge}
theorem nl {T T':TypeId} {x y:Operand} {a b:Nat} (hx:ρ.ev x= .raw (.int .u32 (a:Int))) (hy:ρ.ev y= .raw (.int .i64 (b:Int))) (k:AV P N all K fl.tail os (CV ρ d (.raw (.int .u32 (Wj a b:Nat)))) L) (hd:Nat.blt d N=true:=by rfl):
  AV P N all K fl (⟨some d,.binOp .shr T x y T',ty,pos,af,none⟩::os) ρ L:=Gi hx hy (fun w=>by
   have h0: ¬(b:Int) < 0:=by omega
   simp only[binOp,Op.shift,h0,if_false,IntKind.bits,Dx]
   rw[Qq];rfl) k hd
end
end Go.Q
namespace Go.Proofs
open Go Go.Q
attribute [local irreducible] ER AV BA Fc
instance vu (s:Str):CB Tryz.prog 184 [.str s] (.clo 231 [.pt [.str s] 0]):=⟨by
 refine Au Tryz.func184 Tryz.ntmps184 rfl (rs:= [.tmp 2]) rfl rfl fun hb LF=>?_
 refine wf ?_
 exact B2 (.refl _)⟩
theorem lp {s b:Str} (h:b∈OD s):b.length=64:=by
 obtain⟨k,hk,rfl⟩:=AQ.1 h
 have:=Br.1 hk
 rw[qG,Aa,B5]
 omega
theorem gn (s:Str):(OD s).foldl NQ rH=IE (JF s) ((JF s).length / 64):=by
 rw[OD,List.foldl_map];rfl
instance zE (s:Str) [hs:B1 (s.length≤1000000)]:CB Tryz.prog 137 [.str s] (.agg (eDig (fT s))):=⟨by
 refine Au Tryz.func137 Tryz.ntmps137 rfl (rs:= [.cell 2 31]) rfl rfl fun hb LF=>?_
 have hl:=hs.out
 have j2:Cx (eW (List.replicate 8 0)) 8:=⟨rfl⟩
 have j3:Cx (eW rH) 8:=⟨rfl⟩
 refine Js fun b2=>?_
 refine Ij fun b3=>?_
 refine GD (aG s hl) [12] (σ:=List Nat) (fun pre h=>h=pre.foldl NQ rH∧h.length=8) (fun _ _=>False) (fun h LF'=> .box b3 216 (eW h):: .box b2 31 (eDig Dig.zero)::LF') rH LF ?_ rfl (fun _=>rfl) (by simp) (fun s' LF'=>rfl) (.refl _) ⟨rfl,rfl⟩ ?_ ?_ ?_
 ·exact .refl _
 ·rintro pre x h LF' hpx ⟨hh,h8⟩
  have hx:x∈OD s:=hpx.subset (by simp)
  have i1:B1 (x.length=64):=⟨lp hx⟩
  have i2:B1 (h.length=8):=⟨h8⟩
  have j4:Cx (eW h) 8:=⟨by rw[Gx,h8]⟩
  have j5:Cx (eW (NQ h x)) 8:=⟨by rw[Gx,OZ h8]⟩
  refine E4 ?_
  refine⟨NQ h x,⟨by rw[BO,←hh];rfl,OZ h8⟩,.refl _⟩
 ·rintro h ⟨hh,h8⟩
  rw[gn]at hh
  have hrs:fT s=(List.range 32).foldl (QT h) Dig.zero:=by rw[fT,←hh]
  rw[hrs]
  have j4:Cx (eW h) 8:=⟨by rw[Gx,h8]⟩
  refine Js fun b5=>?_
  refine Ad (σ:=Nat × Dig) (fun k=>k.1≤8∧k.2=(List.range (4*k.1)).foldl (QT h) Dig.zero) (fun k=>8 - k.1) (fun k=> [(2,.raw (.pointer (some ⟨b2,0,none⟩))),(5,.raw (.pointer (some ⟨b5,0,none⟩))),(16,.agg (eW h)),(17,.raw (.int .i64 k.1))]) (fun k=> .box b5 31 (eDig k.2):: .box b2 31 (eDig Dig.zero)::LF) (0,Dig.zero) ⟨by simp,rfl⟩ ⟨rfl,rfl,rfl,rfl⟩ (.cons_cons _ (.cons _ (.refl _))) ?_
  rintro⟨k,d⟩ ⟨hk,hd⟩
  dsimp only at hk hd ⊢
  refine E4 ?_
  refine A6 (fun hc=>?_) (fun hc=>?_)
  ·refine E4 ?_
   refine Yb rfl rfl h8 (by omega) ?_
   refine E4 ?_
   refine Ad (σ:=Nat × Dig) (fun j=>j.1≤4∧j.2=(List.range (4*k+j.1)).foldl (QT h) Dig.zero) (fun j=>4 - j.1) (fun j=> [(2,.raw (.pointer (some ⟨b2,0,none⟩))),(5,.raw (.pointer (some ⟨b5,0,none⟩))),(6,.raw (.int .i64 k)),(7,.raw (.int .u32 ((h.getD k 0:Nat):Int))),(16,.agg (eW h)),(17,.raw (.int .i64 k)),(21,.raw (.int .i64 j.1))]) (fun j=> .box b5 31 (eDig j.2):: .box b2 31 (eDig Dig.zero)::LF) (0,d) ⟨by simp,hd⟩ ⟨rfl,rfl,rfl,rfl,rfl,rfl,rfl⟩ (.refl _) ?_
   rintro⟨j,e⟩ ⟨hj,he⟩
   dsimp only at hj he ⊢
   refine E4 ?_
   refine A6 (fun hc2=>?_) (fun hc2=>?_)
   ·refine E4 ?_
    refine nl (a:=h.getD k 0) (b:=24 - 8*j) rfl (by show PV.raw (.int .i64 (24 - 8*(j:Int)))=_;rw[show(24 - 8*(j:Int))=((24 - 8*j:Nat):Int) by omega]) ?_
    refine E4 ?_
    have er:QT h e (4*k+j)=e.put (4*k+j) (UInt8.ofNat (Wj (h.getD k 0) (24 - 8*j))):=by
     rw[QT,show(4*k+j) / 4=k by omega,show(4*k+j) % 4=j by omega]
    refine⟨(j+1,QT h e (4*k+j)),⟨by dsimp only;omega,by dsimp only;rw[show 4*k+(j+1)=4*k+j+1 by omega,Bt,←he]⟩,by dsimp only;omega,⟨rfl,rfl,rfl,rfl,rfl,rfl,rfl⟩,?_⟩
    dsimp only
    rw[er,show(4*(k:Int)+(j:Int)).toNat=4*k+j by omega]
    exact .refl _
   ·have hj4:j=4:=by omega
    subst hj4
    refine E4 ?_
    exact⟨(k+1,e),⟨by dsimp only;omega,by dsimp only;rw[he,show 4*(k+1)=4*k+4 by omega]⟩,by dsimp only;omega,⟨rfl,rfl,rfl,rfl⟩,.refl _⟩
  ·have hk8:k=8:=by omega
   subst hk8
   refine E4 ?_
   refine Fo rfl (.of_eq ?_)
   rw[hd]
 ·intro pre s' h
  exact h.elim⟩
end Go.Proofs
namespace Go.Proofs
open Go.Shelf
def Tryz.laysItoa_ren:Go.Shelf.Ren:=⟨fun|171=>287|243=>302|246=>306|283=>308|284=>309|285=>310|286=>311|129=>179|317=>312|318=>313|319=>314|320=>315|337=>316|338=>317|n=>n,fun|3=>3|9=>9|2=>2|4=>4|171=>310|0=>0|53=>214|37=>159|5=>5|173=>312|212=>315|51=>212|20=>20|213=>316|46=>157|232=>30|233=>317|n=>n,fun|17=>1|18=>2|19=>3|n=>n⟩
theorem Tryz.laysItoa:Go.Proofs.LaysM.n171 Tryz.prog Tryz.laysItoa_ren:={
 mixed:=by kernel_rfl
 f129:=Tryz.func179.trans (congrArg some (by kernel_rfl))
 f171:=Tryz.func287.trans (congrArg some (by kernel_rfl))
 f243:=Tryz.func302.trans (congrArg some (by kernel_rfl))
 f246:=Tryz.func306.trans (congrArg some (by kernel_rfl))
 f283:=Tryz.func308.trans (congrArg some (by kernel_rfl))
 f284:=Tryz.func309.trans (congrArg some (by kernel_rfl))
 f285:=Tryz.func310.trans (congrArg some (by kernel_rfl))
 f286:=Tryz.func311.trans (congrArg some (by kernel_rfl))
 f317:=Tryz.func312.trans (congrArg some (by kernel_rfl))
 f318:=Tryz.func313.trans (congrArg some (by kernel_rfl))
 f319:=Tryz.func314.trans (congrArg some (by kernel_rfl))
 f320:=Tryz.func315.trans (congrArg some (by kernel_rfl))
 f337:=Tryz.func316.trans (congrArg some (by kernel_rfl))
 f338:=Tryz.func317.trans (congrArg some (by kernel_rfl))
 t0:=Tryz.underlying0
 a0:=Tryz.isAgg0
 z0:=Tryz.sizeOf0
 v0:=Tryz.zeroValue0
 t2:=Tryz.underlying2
 a2:=Tryz.isAgg2
 z2:=Tryz.sizeOf2
 v2:=Tryz.zeroValue2
 t3:=Tryz.underlying3
 a3:=Tryz.isAgg3
 z3:=Tryz.sizeOf3
 v3:=Tryz.zeroValue3
 t4:=Tryz.underlying4
 a4:=Tryz.isAgg4
 z4:=Tryz.sizeOf4
 v4:=Tryz.zeroValue4
 t5:=Tryz.underlying5
 a5:=Tryz.isAgg5
 z5:=Tryz.sizeOf5
 v5:=Tryz.zeroValue5
 t9:=Tryz.underlying9
 a9:=Tryz.isAgg9
 z9:=Tryz.sizeOf9
 v9:=Tryz.zeroValue9
 t20:=Tryz.underlying20
 a20:=Tryz.isAgg20
 z20:=Tryz.sizeOf20
 v20:=Tryz.zeroValue20
 t37:=Tryz.underlying159
 a37:=Tryz.isAgg159
 z37:=Tryz.sizeOf159
 v37:=Tryz.zeroValue159
 t46:=Tryz.underlying157
 a46:=Tryz.isAgg157
 z46:=Tryz.sizeOf157
 v46:=Tryz.zeroValue157
 t51:=Tryz.underlying212
 a51:=Tryz.isAgg212
 z51:=Tryz.sizeOf212
 v51:=Tryz.zeroValue212
 t53:=Tryz.underlying214
 a53:=Tryz.isAgg214
 z53:=Tryz.sizeOf214
 v53:=Tryz.zeroValue214
 t171:=Tryz.underlying310
 a171:=Tryz.isAgg310
 z171:=Tryz.sizeOf310
 v171:=Tryz.zeroValue310
 t173:=Tryz.underlying312
 a173:=Tryz.isAgg312
 z173:=Tryz.sizeOf312
 v173:=Tryz.zeroValue312
 t212:=Tryz.underlying315
 a212:=Tryz.isAgg315
 z212:=Tryz.sizeOf315
 v212:=Tryz.zeroValue315
 t213:=Tryz.underlying316
 a213:=Tryz.isAgg316
 z213:=Tryz.sizeOf316
 t232:=Tryz.underlying30
 a232:=Tryz.isAgg30
 z232:=Tryz.sizeOf30
 v232:=Tryz.zeroValue30
 t233:=Tryz.underlying317
 a233:=Tryz.isAgg317
 z233:=Tryz.sizeOf317
 v233:=Tryz.zeroValue317
 g17:=by kernel_rfl
 g18:=by kernel_rfl
 g19:=by kernel_rfl
 i0:=by kernel_rfl
 i2:=by kernel_rfl
 i3:=by kernel_rfl
 i4:=by kernel_rfl
 i5:=by kernel_rfl
 i9:=by kernel_rfl
 i20:=by kernel_rfl
 i37:=by kernel_rfl
 i46:=by kernel_rfl
 i51:=by kernel_rfl
 i53:=by kernel_rfl
 i171:=by kernel_rfl
 i173:=by kernel_rfl
 i212:=by kernel_rfl
 i232:=by kernel_rfl
 i233:=by kernel_rfl
 m17:=by kernel_rfl
 m18:=by kernel_rfl
 m19:=by kernel_rfl }
def Tryz.sortD_ren:Go.Shelf.Ren:=⟨fun|6=>60|15=>125|14=>124|28=>178|29=>179|20=>170|21=>171|22=>172|23=>173|24=>174|25=>175|26=>176|27=>177|46=>224|47=>225|48=>226|49=>227|50=>228|57=>283|n=>n,fun|22=>24|24=>31|25=>97|3=>3|39=>157|0=>0|53=>212|55=>214|4=>4|46=>206|45=>205|50=>134|5=>5|9=>9|66=>245|70=>249|76=>287|77=>288|n=>n,fun|n=>n⟩
theorem Tryz.sortD:Go.Proofs.SlLaysF0.n6 Tryz.prog Tryz.sortD_ren:={
 mixed:=by kernel_rfl
 f6:=⟨Tryz.f60.name,by decide,Tryz.func60.trans (congrArg some (by kernel_rfl))⟩
 f14:=⟨Tryz.f124.name,by decide,Tryz.func124.trans (congrArg some (by kernel_rfl))⟩
 f15:=Tryz.func125.trans (congrArg some (by kernel_rfl))
 f20:=⟨Tryz.f170.name,by decide,Tryz.func170.trans (congrArg some (by kernel_rfl))⟩
 f21:=⟨Tryz.f171.name,by decide,Tryz.func171.trans (congrArg some (by kernel_rfl))⟩
 f22:=⟨Tryz.f172.name,by decide,Tryz.func172.trans (congrArg some (by kernel_rfl))⟩
 f23:=⟨Tryz.f173.name,by decide,Tryz.func173.trans (congrArg some (by kernel_rfl))⟩
 f24:=⟨Tryz.f174.name,by decide,Tryz.func174.trans (congrArg some (by kernel_rfl))⟩
 f25:=⟨Tryz.f175.name,by decide,Tryz.func175.trans (congrArg some (by kernel_rfl))⟩
 f26:=⟨Tryz.f176.name,by decide,Tryz.func176.trans (congrArg some (by kernel_rfl))⟩
 f27:=⟨Tryz.f177.name,by decide,Tryz.func177.trans (congrArg some (by kernel_rfl))⟩
 f28:=Tryz.func178.trans (congrArg some (by kernel_rfl))
 f29:=Tryz.func179.trans (congrArg some (by kernel_rfl))
 f46:=⟨Tryz.f224.name,by decide,Tryz.func224.trans (congrArg some (by kernel_rfl))⟩
 f47:=Tryz.func225.trans (congrArg some (by kernel_rfl))
 f48:=Tryz.func226.trans (congrArg some (by kernel_rfl))
 f49:=⟨Tryz.f227.name,by decide,Tryz.func227.trans (congrArg some (by kernel_rfl))⟩
 f50:=⟨Tryz.f228.name,by decide,Tryz.func228.trans (congrArg some (by kernel_rfl))⟩
 f57:=⟨Tryz.f283.name,by decide,Tryz.func283.trans (congrArg some (by kernel_rfl))⟩
 t0:=Tryz.underlying0
 a0:=Tryz.isAgg0
 z0:=Tryz.sizeOf0
 v0:=Tryz.zeroValue0
 t3:=Tryz.underlying3
 a3:=Tryz.isAgg3
 z3:=Tryz.sizeOf3
 v3:=Tryz.zeroValue3
 t4:=Tryz.underlying4
 a4:=Tryz.isAgg4
 z4:=Tryz.sizeOf4
 v4:=Tryz.zeroValue4
 t5:=Tryz.underlying5
 a5:=Tryz.isAgg5
 z5:=Tryz.sizeOf5
 v5:=Tryz.zeroValue5
 t9:=Tryz.underlying9
 a9:=Tryz.isAgg9
 z9:=Tryz.sizeOf9
 v9:=Tryz.zeroValue9
 t22:=Tryz.underlying24
 a22:=Tryz.isAgg24
 z22:=Tryz.sizeOf24
 v22:=Tryz.zeroValue24
 t25:=Tryz.underlying97
 a25:=Tryz.isAgg97
 z25:=Tryz.sizeOf97
 v25:=Tryz.zeroValue97
 t39:=Tryz.underlying157
 a39:=Tryz.isAgg157
 z39:=Tryz.sizeOf157
 v39:=Tryz.zeroValue157
 t45:=Tryz.underlying205
 a45:=Tryz.isAgg205
 z45:=Tryz.sizeOf205
 v45:=Tryz.zeroValue205
 t46:=Tryz.underlying206
 a46:=Tryz.isAgg206
 z46:=Tryz.sizeOf206
 v46:=Tryz.zeroValue206
 t50:=Tryz.underlying134
 a50:=Tryz.isAgg134
 z50:=Tryz.sizeOf134
 v50:=Tryz.zeroValue134
 t53:=Tryz.underlying212
 a53:=Tryz.isAgg212
 z53:=Tryz.sizeOf212
 v53:=Tryz.zeroValue212
 t55:=Tryz.underlying214
 a55:=Tryz.isAgg214
 z55:=Tryz.sizeOf214
 v55:=Tryz.zeroValue214
 t66:=Tryz.underlying245
 a66:=Tryz.isAgg245
 z66:=Tryz.sizeOf245
 v66:=Tryz.zeroValue245
 t70:=Tryz.underlying249
 a70:=Tryz.isAgg249
 z70:=Tryz.sizeOf249
 v70:=Tryz.zeroValue249
 t76:=Tryz.underlying287
 a76:=Tryz.isAgg287
 z76:=Tryz.sizeOf287
 v76:=Tryz.zeroValue287
 t77:=Tryz.underlying288
 a77:=Tryz.isAgg288
 z77:=Tryz.sizeOf288
 v77:=Tryz.zeroValue288 }
end Go.Proofs
namespace Go.Proofs
open Go Go.Q Go.Shelf
attribute [local irreducible] ER AV BA Fc
theorem Qu (n:Nat):Lib.decDigits n=Hy n:=by
 induction n using Nat.strongRecOn with
 |_ n ih=>
  unfold Lib.decDigits
  by_cases h:n < 10
  ·rw[dif_pos h,IL h]
  ·rw[dif_neg h,Ly h,ih (n / 10) (by omega)]
theorem pN (n:Int):Lib.itoa n=JA n:=by
 unfold Lib.itoa JA
 by_cases h:n < 0
 ·rw[if_pos h,if_pos h,Qu,show n.natAbs=(-n).toNat by omega]
 ·rw[if_neg h,if_neg h,Qu]
theorem sk {w:World} {g:Gh} {L:List Res} (hi:Dt w g L):Lib.TabIs Tryz.prog w "internal/strconv.uint64pow10" .u64 Lib.pow10Tab:=by
 obtain⟨T,p,h⟩:=hi.satM _ _ hi.glob.tab
 unfold Lib.TabIs World.var?
 rw[show Tryz.prog.globalNamed "internal/strconv.uint64pow10" =some globAt by kernel_rfl]
 simp only[GW,h]
 rfl
instance zI (n:Int) [hs:B1 (-140737488355328≤n∧n≤140737488355328)]:CB Tryz.prog 287 [.raw (.int .i64 n)] (.str (JA n)):=⟨uK fun vs w g LF hv hi=>by
 obtain⟨h0,h1⟩:=hs.out
 obtain⟨v,rfl⟩: ∃ v,vs= [v]:=by
  have:=hv.len
  match vs,this with
  | [v],_=>exact⟨v,rfl⟩
 rw[hv.uncons.1.raw_inv]
 refine(Any.strconv_Itoa Tryz.laysItoa n (by omega) (by omega) w (sk hi)).mono ?_
 rintro e w' ⟨rfl,k,os,rfl⟩
 refine⟨_,rfl,fun g=>by rw[pN];exact .str (by have:=Ob (n:=n) ⟨h0,h1⟩;show _≤2 ^ 47;omega),rfl,rfl,rfl,mY _ _,?_,fun j hj=>?_⟩
 ·show w.heap.size≤(w.heap++os).size
  simp
 ·show(w.heap++os)[j]? =_
  rw[FH hj]⟩
def OE (b:Nat) (p v:Value):Res:= .box b 263 [.raw p,.raw v]
def Ik (b:Nat):Value:= .pointer (some ⟨b,0,none⟩)
instance :uy Tryz.prog 261 263 2:= .of (by kernel_rfl) (by kernel_rfl)
instance (v:Value):aR Tryz.prog 307 [.raw v] (.raw v):=gh Tryz.func307 (by kernel_rfl) (by kernel_rfl) (by kernel_rfl) (by kernel_rfl) v
theorem Qv (b:Nat) (p v:Value) (hp:p= .pointer none∨p=Ik b):BA Tryz.prog 303 [.raw (Ik b)] [OE b p v] (fun _ L'=>L'= [OE b (Ik b) v]):=by
 refine C5 Tryz.func303 rfl Tryz.ntmps303 (rs:= []) rfl rfl fun hb LF=>?_
 rw[show [OE b p v]++LF= .box b 263 [.raw p,.raw v]::LF from rfl]
 obtain⟨q,rfl,hq⟩: ∃ q,p= .pointer q∧(q=none∨q=some ⟨b,0,none⟩):=by
  rcases hp with rfl|rfl
  ·exact⟨none,rfl,.inl rfl⟩
  ·exact⟨_,rfl,.inr rfl⟩
 refine wf ?_
 refine tE rfl rfl ?_
 refine wf ?_
 rcases hq with rfl|rfl
 ·refine AW (t:=true) (fun _=>?_) (fun h=>by cases h)
  refine wf ?_
  refine bA (by kernel_rfl) (by decide) rfl AG (by simp) ?_
  refine rI (xs:= [.tmp 9]) (args:= [.raw (Ik b)]) rfl (fun i h1 h2=>by
   match i,h1,h2 with
   |0,_,_=>exact .refl _
   |m+1,h1,_=>exact absurd h1 (by simp)) rfl ?_
  refine Wy (by kernel_rfl) rfl AG (by kernel_rfl) ?_
  refine wf ?_
  refine Hr [.raw (Ik b),.raw v] rfl rfl rfl rfl (by simp) ?_
  refine wf ?_
  exact⟨trivial,[],[OE b (Ik b) v],.nil,.refl _,rfl⟩
 ·refine AW (t:=false) (fun h=>by cases h) (fun _=>?_)
  refine wf ?_
  refine tB rfl rfl ?_
  refine wf ?_
  exact⟨trivial,[],[OE b (Ik b) v],.nil,.refl _,rfl⟩
instance :iC Tryz.prog 159 5:= .of (by kernel_rfl) (by kernel_rfl) (by kernel_rfl)
def sZ (b:Nat) (l:List UInt8) (L:List Res):Prop:= ∃ p v R,(p= .pointer none∨p=Ik b)∧LB 5 v l R∧L=OE b p v::R
theorem Nj (b:Nat) (l s:List UInt8) (L:List Res) (hL:sZ b l L) (hl:l.length+s.length≤140737488355328):BA Tryz.prog 290 [.raw (Ik b),.str s] L (fun _ L'=>sZ b (l++s) L'):=by
 obtain⟨p,v,R,hp,hv,rfl⟩:=hL
 refine C5 Tryz.func290 rfl Tryz.ntmps290 (rs:= [.tmp 4,.tmp 5]) rfl rfl fun hb LF=>?_
 rw[show(OE b p v::R)++LF= [OE b p v]++(R++LF) from rfl]
 refine ws ?_
 refine CW (xs:= [.tmp 6]) [OE b p v] (R++LF) (f:=303) (cs:= []) (CA _) rfl rfl (.refl _) _ (Qv b p v hp) fun r L' e=>?_
 subst e
 refine wf ?_
 refine jj (R:=R) (LF:= .box b 263 [.raw (Ik b),.raw v]::LF) (fun R'=> .box b 263 [.raw (Ik b),.raw v]::(R'++LF)) (ay:= .str s) rfl rfl hv (Bc (l₁:=R)).symm (fun R'=>Bc) hl fun v' R' hv'=>?_
 refine wf ?_
 refine Hr [.raw (Ik b),.raw v'] rfl rfl hv'.one rfl (by simp) ?_
 refine wf ?_
 refine wf ?_
 exact⟨trivial,_,OE b (Ik b) v'::R',.cons (.tmp 4) (.cons (.tmp 5) .nil),.refl _,_,v',R',.inr rfl,hv',rfl⟩
theorem Ma (b:Nat) (l:List UInt8) (c:UInt8) (L:List Res) (hL:sZ b l L) (hl:l.length+1≤140737488355328):BA Tryz.prog 291 [.raw (Ik b),.raw (.int .u8 c.toNat)] L (fun _ L'=>sZ b (l++ [c]) L'):=by
 obtain⟨p,v,R,hp,hv,rfl⟩:=hL
 refine C5 Tryz.func291 rfl Tryz.ntmps291 (rs:= [.tmp 4]) rfl rfl fun hb LF=>?_
 rw[show(OE b p v::R)++LF= [OE b p v]++(R++LF) from rfl]
 refine ws ?_
 refine CW (xs:= [.tmp 5]) [OE b p v] (R++LF) (f:=303) (cs:= []) (CA _) rfl rfl (.refl _) _ (Qv b p v hp) fun r L' e=>?_
 subst e
 refine wf ?_
 refine fK (R:=R) (LF:= .box b 263 [.raw (Ik b),.raw v]::LF) (fun R'=> .box b 263 [.raw (Ik b),.raw v]::(R'++LF)) (t:= .ro) rfl rfl hv (Bc (l₁:=R)).symm (fun R'=>Bc) hl fun v' R' hv'=>?_
 refine wf ?_
 refine Hr [.raw (Ik b),.raw v'] rfl rfl hv'.one rfl (by simp) ?_
 refine wf ?_
 refine wf ?_
 exact⟨trivial,_,OE b (Ik b) v'::R',.cons (.tmp 4) .nil,.refl _,_,v',R',.inr rfl,hv',rfl⟩
theorem ey (b:Nat) (l:List UInt8) (L:List Res) (hL:sZ b l L) (h0:l≠ []) (hl:l.length≤140737488355328):BA Tryz.prog 251 [.raw (Ik b)] L (fun r L'=>r= .str l∧L'= []):=by
 obtain⟨p,v,R,hp,hv,rfl⟩:=hL
 cases hv with
 |nil=>exact absurd rfl h0
 |row h1 h2 h3=>
  rename_i r cap cur
  refine C5 Tryz.func251 rfl Tryz.ntmps251 (rs:= [.tmp 2]) rfl rfl fun hb LF=>?_
  have hcap:cap≠0:=by have:=P0.2 h0;omega
  rw[show(OE b p (.slice (some ⟨r,0,none⟩) l.length cap):: [.raw r (.cells cur 5 (0,0))])++LF= .box b 263 [.raw p,.raw (.slice (some ⟨r,0,none⟩) l.length cap)]:: .raw r (.cells cur 5 (0,0))::LF from rfl]
  refine wn ?_
  refine Bj 10 ?_ ?_
  ·decide+kernel
  refine wf ?_
  refine YO rfl hcap ?_
  refine wf ?_
  refine KU rfl ?_
  refine wf ?_
  refine TJ (E:=5) (by kernel_rfl) (by kernel_rfl) rfl rfl (.swap _ _ _) h0 (by omega) h3 hl ?_
  refine wf ?_
  exact⟨trivial,_,[],.cons (.tmp 2) .nil,.cons _ (.refl _),rfl,rfl⟩
end Go.Proofs
