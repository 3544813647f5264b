/- Contracts of the program: digests of strings (sha256), continued: the blocks of a padded message. -/
import Derived.Test.YtaibdmankdppkaaGreatDoorVaj
import Derived.Test.YtaibdmankdppkaaGreatDoorVae
import Derived.Test.YtaibdmankdppkaaGreatDoorVaf
import Derived.Test.YtaibdmankdppkaaGreatDoorVah
import Derived.Test.YtaibdmankdppkaaGreatDoorVai
set_option linter.unusedSimpArgs false
set_option linter.unusedVariables false
set_option maxHeartbeats 8000000
namespace Go.Q
open Go
section
variable {P:Program} {N:Nat} {all:Array Oper} {K:Env→List Res→Prop} {fl:List Bool} {os:List Oper} {ρ:Env} {L:List Res} {d:Nat} {ty:TypeId} {pos:String} {af:Array Edge}
theorem nJ {T T':TypeId} {x y:Operand} {a b:Nat} (hx:ρ.ev x= .raw (.int .u64 (a:Int))) (hy:ρ.ev y= .raw (.int .i64 (b:Int))) (k:AU P N all K fl.tail os (CR ρ d (.raw (.int .u64 ((a / 2 ^ (min b 64):Nat):Int)))) L) (hd:Nat.blt d N=true:=by rfl):
  AU P N all K fl (⟨some d,.binOp .shr T x y T',ty,pos,af,none⟩::os) ρ L:=Ga hx hy (fun w=>by
   have h0: ¬(b:Int) < 0:=by omega
   simp only[binOp,Op.shift,h0,if_false,IntKind.bits,Dy]
   rw[Qk];rfl) k hd
theorem nT {T E sz by_:Nat} [hT:Lp P T E] [hE:EZ P E sz by_] {x y z:Operand} {α:Type} {f:α→List PV} [hf:MZ f sz] {l:List α} {t:CD} {k1 k2:IntKind} {i j:Nat} (hx:ρ.ev x= .slice (l.map f) t) (hy:ρ.ev y= .raw (.int k1 (i:Int))) (hz:ρ.ev z= .raw (.int k2 (j:Int))) (hij:i≤j) (hj:j≤l.length)
  (k:AU P N all K fl.tail os (CR ρ d (.slice (((l.drop i).take (j - i)).map f) .ro)) L) (hd:Nat.blt d N=true:=by rfl):AU P N all K fl (⟨some d,.slice T x (some y) (some z) none,ty,pos,af,none⟩::os) ρ L:=
 Bg hd (X4 i j hx hij (by simpa using hj) (fun e he=>by obtain⟨a,_,rfl⟩:=AY.1 he;exact hf.out a) (fun o e=>by cases e;exact⟨_,hy⟩) (by simp) (fun o e=>by cases e;exact⟨_,hz⟩) (by simp)) (by
  rw[←List.map_drop,←yB];exact k)
end
end Go.Q
namespace Go.Proofs
open Go Go.Q
attribute [local irreducible] EY AU BH Fk
def pV (m:Str) (k:Nat):Str:=(m.drop (64*k)).take 64
def eS1 (s:Str):List PV:= [.str s]
def OO (s:Str):List Str:=(List.range ((JE s).length / 64)).map (pV (JE s))
theorem je (s:Str):(JE s).length % 64=0:=by rw[TQ];omega
theorem TP (s:Str) (n:Nat) (h:n≤s.length):(JE s).drop n=(s.drop n++ [128])++List.replicate ((120 - (s.length+1) % 64) % 64) 0++FI (s.length*8) 8:=by
 unfold JE
 rw[AV,AV,mX h,AV,AV]
theorem gU {s:Str} {k:Nat} (h:64*k+64≤s.length):pV (JE s) k=(s.drop (64*k)).take 64:=by
 unfold pV
 rw[TP s (64*k) (by omega),AV,AV,IG (by rw[B4];omega)]
theorem W6 (s:Str) {k:Nat} (h:k < (JE s).length / 64):(OO s).take (k+1)=(OO s).take k++ [pV (JE s) k]:=by
 have hl:k < (OO s).length:=by simpa [OO]using h
 rw[A7 hl]
 simp[OO]
theorem QT (n j:Nat):FI n (j+1)=FI n j++ [UInt8.ofNat (n / 2 ^ (min (8*(7 - j)) 64))]:=by
 rw[FI,FI,EI,Au];rfl
theorem aF (s:Str) (hs:s.length≤1000000):eF Tryz.prog 231 [.pt [.str s] 0] eS1 (OO s):=by
 have hpl:=TQ s
 have hpm:=je s
 obtain⟨q,hq⟩: ∃ q,q=s.length / 64:=⟨_,rfl⟩
 have hq1:64*q≤s.length:=by omega
 have hq2:s.length < 64*q+64:=by omega
 have hn:q < (JE s).length / 64:=by omega
 intro l J Jx hY L hJ
 have e128:Fw (.raw (.int .u8 128)) eBy (128:UInt8):=(inferInstance:Fw (.raw (.int .u8 (((128:UInt8)).toNat:Int))) eBy 128)
 have e0:Fw (.raw (.int .u8 0)) eBy (0:UInt8):=(inferInstance:Fw (.raw (.int .u8 (((0:UInt8)).toNat:Int))) eBy 0)
 have hpre: ∀ k,(OO s).take k <+:OO s:=fun k=>List.take_prefix _ _
 refine C8 Tryz.func231 rfl Tryz.ntmps231 (rs:= []) rfl rfl fun hb LF=>?_
 refine wf ?_
 refine iz (by rfl) (by rfl) (by decide) (by omega) ?_
 rw[show s.length / (@OfNat.ofNat Nat 64 _)=q from hq.symm]
 refine wf ?_
 refine AZ (σ:=Nat × List Res) (fun k=>k.1≤q∧J ((OO s).take k.1) k.2) (fun k=>q - k.1) (fun k=> [(0,.raw (.func (.yield l) #[] #[])),(1,.pt [.str s] 0),(3,.raw (.int .i64 ((64*q:Nat):Int))),(4,.raw (.int .i64 ((64*k.1:Nat):Int)))]) (fun k=>k.2++LF) (0,L) ⟨by simp,hJ⟩ ⟨rfl,rfl,?_,rfl⟩ (.refl _) ?_
 ·show PV.raw (.int .i64 ((q:Int)*64))=_
  rw[show((q:Int)*64)=((64*q:Nat):Int) by omega]
 rintro⟨k,L1⟩ ⟨hk,hJ1⟩
 dsimp only at hk hJ1 ⊢
 refine wf ?_
 refine A6 (fun hc=>?_) (fun hc=>?_)
 ·have hkq:k < q:=by omega
  have hb:=gU (s:=s) (k:=k) (by omega)
  have hbt:=W6 s (k:=k) (by omega)
  refine wf ?_
  refine Wj (ax:= .str s) (i:=64*k) (j:=64*k+64) rfl rfl (by show PV.raw (.int .i64 (((64*k:Nat):Int)+64))=_;rw[show(((64*k:Nat):Int)+64)=((64*k+64:Nat):Int) by omega]) (by omega) (by omega) (by omega) ?_
  rw[show 64*k+64 - 64*k=64 by omega,←hb]
  refine JT L1 LF rfl rfl rfl (.refl _) _ (hY ((OO s).take k) (pV (JE s) k) L1 (by rw[←hbt];exact hpre _) hJ1) fun bo L' hR=>?_
  refine wf ?_
  rw[←hbt]at hR
  rcases hR with ⟨rfl,hJ2⟩|⟨rfl,hJx⟩
  ·refine wf ?_
   refine⟨(k+1,L'),⟨by dsimp only;omega,hJ2⟩,by dsimp only;omega,⟨rfl,rfl,rfl,?_⟩,.refl _⟩
   show PV.raw (.int .i64 (((64*k:Nat):Int)+64))=_
   rw[show(((64*k:Nat):Int)+64)=((64*(k+1):Nat):Int) by omega]
  ·refine wf ?_
   exact⟨trivial,_,L',.nil,.refl _,.inr ⟨_,hJx⟩⟩
 ·have hkq:k=q:=by omega
  subst hkq
  refine wf ?_
  refine VK (ax:= .str (s.drop (64*k))) rfl (by rw[B4];omega) fun t=>?_
  refine aO fun t1=>?_
  have hdl:(s.drop (64*k)).length=s.length - 64*k:=B4
  refine AZ (σ:=Nat × CD) (fun j=>j.1≤(120 - (s.length+1) % 64) % 64) (fun j=>(120 - (s.length+1) % 64) % 64 - j.1) (fun j=> [(0,.raw (.func (.yield l) #[] #[])),(1,.pt [.str s] 0),(5,.slice (((s.drop (64*k)++ [128])++List.replicate j.1 0).map eBy) j.2)]) (fun j=> .tok j.2 ((s.drop (64*k)++ [128])++List.replicate j.1 0).length 1::(L1++LF)) (0,t1) (by simp) ⟨rfl,rfl,?_⟩ ?_ ?_
  ·rw[List.replicate_zero,BJ];rfl
  ·rw[List.replicate_zero,BJ];exact .refl _
  rintro⟨j,t2⟩ hj
  dsimp only at hj ⊢
  have hjl:((s.drop (64*k)++ [128])++List.replicate j (0:UInt8)).length=s.length - 64*k+1+j:=by simp[hdl];omega
  refine wf ?_
  refine al (by rfl) (by rfl) (by decide) ?_
  refine wf ?_
  refine AR (fun hc2=>?_) (fun hc2=>?_)
  ·have hlt:j < (120 - (s.length+1) % 64) % 64:=by
    rcases BN j ((120 - (s.length+1) % 64) % 64)with h|h
    ·exact h
    ·exfalso
     apply hc2
     rw[hjl]
     omega
   generalize hmj:(s.drop (64*k)++ [128])++List.replicate j (0:UInt8)=mj at hjl ⊢
   refine aO fun t3=>?_
   refine⟨(j+1,t3),by dsimp only;omega,by dsimp only;omega,⟨rfl,rfl,?_⟩,?_⟩
   ·dsimp only
    rw[Xw,←AV,hmj];rfl
   ·dsimp only
    rw[Xw,←AV,hmj];exact .refl _
  have hjz:j=(120 - (s.length+1) % 64) % 64:=by
   rw[hjl]at hc2
   omega
  subst hjz
  generalize hm0:(s.drop (64*k)++ [128])++List.replicate ((120 - (s.length+1) % 64) % 64) (0:UInt8)=m0 at hjl ⊢
  refine wf ?_
  refine AZ (σ:=Nat × CD) (fun j=>j.1≤8) (fun j=>8 - j.1) (fun j=> [(0,.raw (.func (.yield l) #[] #[])),(1,.pt [.str s] 0),(5,.slice ((m0++FI (s.length*8) j.1).map eBy) j.2),(6,.raw (.int .i64 (56 - 8*(j.1:Int))))]) (fun j=> .tok j.2 (m0++FI (s.length*8) j.1).length 1::(L1++LF)) (0,t2) (by simp) ⟨rfl,rfl,?_,rfl⟩ ?_ ?_
  ·show _=PV.slice ((m0++ []).map eBy) _
   rw[BJ];rfl
  ·show List.Sublist (_::_) (_::_)
   rw[show m0++FI (s.length*8) 0=m0 from BJ _];exact .refl _
  rintro⟨j,t3⟩ hj8
  dsimp only at hj8 ⊢
  have hpt:(m0++FI (s.length*8) j).length=s.length - 64*k+1+(120 - (s.length+1) % 64) % 64+j:=by simp[FI,hjl]
  refine wf ?_
  refine A6 (fun hc3=>?_) (fun hc3=>?_)
  ·generalize hmj:m0++FI (s.length*8) j=mj at hpt ⊢
   refine wf ?_
   refine Wh (b:=8) (by rfl) (by rfl) (by omega) ?_
   refine wf ?_
   refine nJ (b:=8*(7 - j)) (by rfl) (by show PV.raw (.int .i64 (56 - 8*(j:Int)))=_;rw[show(56 - 8*(j:Int))=((8*(7 - j):Nat):Int) by omega]) ?_
   refine aO fun t4=>?_
   refine⟨(j+1,t4),by dsimp only;omega,by dsimp only;omega,⟨rfl,rfl,?_,?_⟩,?_⟩
   ·dsimp only
    rw[QT,←AV,hmj];rfl
   ·show PV.raw (.int .i64 (56 - 8*(j:Int) - 8))=PV.raw (.int .i64 (56 - 8*((j+1:Nat):Int)))
    rw[show(56 - 8*(j:Int) - 8)=56 - 8*((j+1:Nat):Int) by omega]
   ·dsimp only
    rw[QT,←AV,hmj];exact .refl _
  have hj:j=8:=by omega
  subst hj
  have hm1:m0++FI (s.length*8) 8=(JE s).drop (64*k):=by rw[TP s (64*k) hq1,←hm0]
  rw[hm1]at hpt ⊢
  refine wf ?_
  refine AZ (σ:=Nat × List Res) (fun i=>k+i.1≤(JE s).length / 64∧J ((OO s).take (k+i.1)) i.2) (fun i=>(JE s).length / 64 - (k+i.1)) (fun i=> [(0,.raw (.func (.yield l) #[] #[])),(5,.slice (((JE s).drop (64*k)).map eBy) t3),(7,.raw (.int .i64 ((64*i.1:Nat):Int)))]) (fun i=>i.2++LF) (0,L1) ⟨by dsimp only;omega,hJ1⟩ ⟨rfl,rfl,rfl⟩ (.cons _ (.refl _)) ?_
  rintro⟨i,L2⟩ ⟨hi,hJ2⟩
  dsimp only at hi hJ2 ⊢
  refine wf ?_
  refine A6 (fun hc4=>?_) (fun hc4=>?_)
  ·have hbt:=W6 s (k:=k+i) (by omega)
   refine wf ?_
   refine nT (i:=64*i) (j:=64*i+64) rfl rfl (by show PV.raw (.int .i64 (((64*i:Nat):Int)+64))=_;rw[show(((64*i:Nat):Int)+64)=((64*i+64:Nat):Int) by omega]) (by omega) (by omega) ?_
   refine wf ?_
   have e:(((JE s).drop (64*k)).drop (64*i)).take (64*i+64 - 64*i)=pV (JE s) (k+i):=by
    rw[GY,pV,show 64*i+64 - 64*i=64 by omega,show 64*k+64*i=64*(k+i) by omega]
   rw[e]
   refine JT L2 LF rfl rfl rfl (.refl _) _ (hY ((OO s).take (k+i)) (pV (JE s) (k+i)) L2 (by rw[←hbt];exact hpre _) hJ2) fun bo L' hR=>?_
   refine wf ?_
   rw[←hbt]at hR
   rcases hR with ⟨rfl,hJ3⟩|⟨rfl,hJx⟩
   ·refine wf ?_
    refine⟨(i+1,L'),⟨by dsimp only;omega,hJ3⟩,by dsimp only;omega,⟨rfl,rfl,?_⟩,.refl _⟩
    show PV.raw (.int .i64 (((64*i:Nat):Int)+64))=_
    rw[show(((64*i:Nat):Int)+64)=((64*(i+1):Nat):Int) by omega]
   ·refine wf ?_
    exact⟨trivial,_,L',.nil,.refl _,.inr ⟨_,hJx⟩⟩
  ·have hie:k+i=(JE s).length / 64:=by omega
   rw[hie,AB (by simp[OO])]at hJ2
   refine wf ?_
   exact⟨trivial,_,L2,.nil,.refl _,.inl hJ2⟩
end Go.Proofs
namespace Go.Q
open Go
section
variable {P:Program} {N:Nat} {all:Array Oper} {K:Env→List Res→Prop} {fl:List Bool} {os:List Oper} {ρ:Env} {L:List Res} {d:Nat} {ty:TypeId} {pos:String} {af:Array Edge}
theorem nI {T T':TypeId} {x y:Operand} {a b:Nat} (hx:ρ.ev x= .raw (.int .u32 (a:Int))) (hy:ρ.ev y= .raw (.int .i64 (b:Int))) (k:AU P N all K fl.tail os (CR ρ d (.raw (.int .u32 (Wc a b:Nat)))) L) (hd:Nat.blt d N=true:=by rfl):
  AU P N all K fl (⟨some d,.binOp .shr T x y T',ty,pos,af,none⟩::os) ρ L:=Ga hx hy (fun w=>by
   have h0: ¬(b:Int) < 0:=by omega
   simp only[binOp,Op.shift,h0,if_false,IntKind.bits,Dy]
   rw[Qk];rfl) k hd
end
end Go.Q
namespace Go.Proofs
open Go Go.Q
attribute [local irreducible] EY AU BH Fk
instance va (s:Str):C9 Tryz.prog 184 [.str s] (.clo 231 [.pt [.str s] 0]):=⟨by
 refine Av Tryz.func184 Tryz.ntmps184 rfl (rs:= [.tmp 2]) rfl rfl fun hb LF=>?_
 refine wf ?_
 exact Aw (.refl _)⟩
theorem lG {s b:Str} (h:b∈OO s):b.length=64:=by
 obtain⟨k,hk,rfl⟩:=AY.1 h
 have:=BZ.1 hk
 rw[pV,Ab,B4]
 omega
theorem gQ (s:Str):(OO s).foldl NY rH=IA (JE s) ((JE s).length / 64):=by
 rw[OO,List.foldl_map];rfl
instance yu (s:Str) [hs:Ay (s.length≤1000000)]:C9 Tryz.prog 137 [.str s] (.agg (eDig (fA s))):=⟨by
 refine Av Tryz.func137 Tryz.ntmps137 rfl (rs:= [.cell 2 31]) rfl rfl fun hb LF=>?_
 have hl:=hs.out
 have j2:Cx (eW (List.replicate 8 0)) 8:=⟨rfl⟩
 have j3:Cx (eW rH) 8:=⟨rfl⟩
 refine Ju fun b2=>?_
 refine Ij fun b3=>?_
 refine JX (aF s hl) [12] (σ:=List Nat) (fun pre h=>h=pre.foldl NY rH∧h.length=8) (fun _ _=>False) (fun h LF'=> .box b3 216 (eW h):: .box b2 31 (eDig Dig.zero)::LF') rH LF ?_ rfl (fun _=>rfl) (by simp) (fun s' LF'=>rfl) (.refl _) ⟨rfl,rfl⟩ ?_ ?_ ?_
 ·exact .refl _
 ·rintro pre x h LF' hpx ⟨hh,h8⟩
  have hx:x∈OO s:=hpx.subset (by simp)
  have i1:Ay (x.length=64):=⟨lG hx⟩
  have i2:Ay (h.length=8):=⟨h8⟩
  have j4:Cx (eW h) 8:=⟨by rw[Gq,h8]⟩
  have j5:Cx (eW (NY h x)) 8:=⟨by rw[Gq,Oh h8]⟩
  refine E5 ?_
  refine⟨NY h x,⟨by rw[CB,←hh];rfl,Oh h8⟩,.refl _⟩
 ·rintro h ⟨hh,h8⟩
  rw[gQ]at hh
  have hrs:fA s=(List.range 32).foldl (QQ h) Dig.zero:=by rw[fA,←hh]
  rw[hrs]
  have j4:Cx (eW h) 8:=⟨by rw[Gq,h8]⟩
  refine Ju fun b5=>?_
  refine AZ (σ:=Nat × Dig) (fun k=>k.1≤8∧k.2=(List.range (4*k.1)).foldl (QQ h) Dig.zero) (fun k=>8 - k.1) (fun k=> [(2,.raw (.pointer (some ⟨b2,0,none⟩))),(5,.raw (.pointer (some ⟨b5,0,none⟩))),(16,.agg (eW h)),(17,.raw (.int .i64 k.1))]) (fun k=> .box b5 31 (eDig k.2):: .box b2 31 (eDig Dig.zero)::LF) (0,Dig.zero) ⟨by simp,rfl⟩ ⟨rfl,rfl,rfl,rfl⟩ (.cons_cons _ (.cons _ (.refl _))) ?_
  rintro⟨k,d⟩ ⟨hk,hd⟩
  dsimp only at hk hd ⊢
  refine E5 ?_
  refine A6 (fun hc=>?_) (fun hc=>?_)
  ·refine E5 ?_
   refine YY rfl rfl h8 (by omega) ?_
   refine E5 ?_
   refine AZ (σ:=Nat × Dig) (fun j=>j.1≤4∧j.2=(List.range (4*k+j.1)).foldl (QQ h) Dig.zero) (fun j=>4 - j.1) (fun j=> [(2,.raw (.pointer (some ⟨b2,0,none⟩))),(5,.raw (.pointer (some ⟨b5,0,none⟩))),(6,.raw (.int .i64 k)),(7,.raw (.int .u32 ((h.getD k 0:Nat):Int))),(16,.agg (eW h)),(17,.raw (.int .i64 k)),(21,.raw (.int .i64 j.1))]) (fun j=> .box b5 31 (eDig j.2):: .box b2 31 (eDig Dig.zero)::LF) (0,d) ⟨by simp,hd⟩ ⟨rfl,rfl,rfl,rfl,rfl,rfl,rfl⟩ (.refl _) ?_
   rintro⟨j,e⟩ ⟨hj,he⟩
   dsimp only at hj he ⊢
   refine E5 ?_
   refine A6 (fun hc2=>?_) (fun hc2=>?_)
   ·refine E5 ?_
    refine nI (a:=h.getD k 0) (b:=24 - 8*j) rfl (by show PV.raw (.int .i64 (24 - 8*(j:Int)))=_;rw[show(24 - 8*(j:Int))=((24 - 8*j:Nat):Int) by omega]) ?_
    refine E5 ?_
    have er:QQ h e (4*k+j)=e.put (4*k+j) (UInt8.ofNat (Wc (h.getD k 0) (24 - 8*j))):=by
     rw[QQ,show(4*k+j) / 4=k by omega,show(4*k+j) % 4=j by omega]
    refine⟨(j+1,QQ h e (4*k+j)),⟨by dsimp only;omega,by dsimp only;rw[show 4*k+(j+1)=4*k+j+1 by omega,Bp,←he]⟩,by dsimp only;omega,⟨rfl,rfl,rfl,rfl,rfl,rfl,rfl⟩,?_⟩
    dsimp only
    rw[er,show(4*(k:Int)+(j:Int)).toNat=4*k+j by omega]
    exact .refl _
   ·have hj4:j=4:=by omega
    subst hj4
    refine E5 ?_
    exact⟨(k+1,e),⟨by dsimp only;omega,by dsimp only;rw[he,show 4*(k+1)=4*k+4 by omega]⟩,by dsimp only;omega,⟨rfl,rfl,rfl,rfl⟩,.refl _⟩
  ·have hk8:k=8:=by omega
   subst hk8
   refine E5 ?_
   refine Fi rfl (.of_eq ?_)
   rw[hd]
 ·intro pre s' h
  exact h.elim⟩
theorem eH {P:Program} {E:Nat} {α:Type} {ev:α→PV} {a0:α} {v:Value} (h:(P.info? E).bind (·.zero)=some v) (hv: ∀ g,VR g v (ev a0)):ZV P E ev a0:=⟨by
 obtain⟨i,h1,h2⟩:=DV.1 h
 exact⟨i,v,h1,h2,hv⟩⟩
instance :OW Tryz.prog 121 31 4:=⟨by kernel_rfl⟩
instance :OW Tryz.prog 119 31 24:=⟨by kernel_rfl⟩
instance :OW Tryz.prog 168 31 68:=⟨by kernel_rfl⟩
instance :OW Tryz.prog 203 3 3:=⟨by kernel_rfl⟩
instance :OW Tryz.prog 226 3 228:=⟨by kernel_rfl⟩
instance :ZV Tryz.prog 4 vBool false:=eH (v:= .bool false) (by kernel_rfl) fun _=> .raw _
instance :ZV Tryz.prog 3 vInt 0:=eH (v:= .int .i64 0) (by kernel_rfl) fun _=> .raw _
instance :ZV Tryz.prog 24 (KV eDig) []:=eH (v:= .slice none 0 0) (by kernel_rfl) fun _=> .nilR
instance :ZV Tryz.prog 68 (KV eAtm) []:=eH (v:= .slice none 0 0) (by kernel_rfl) fun _=> .nilR
instance :ZV Tryz.prog 228 vId (.raw .nilFunc):=eH (v:= .nilFunc) (by kernel_rfl) fun _=> .raw _
instance :LP Tryz.prog 121 kDig vBool:=⟨trivial⟩
instance :LP Tryz.prog 119 kDig (KV eDig):=⟨trivial⟩
instance :LP Tryz.prog 168 kDig (KV eAtm):=⟨trivial⟩
instance :LP Tryz.prog 203 kInt vInt:=⟨trivial⟩
instance :LP Tryz.prog 226 kInt vId:=⟨trivial⟩
theorem Nq {P:Program} {T:Nat} {v:Value} {x:PV} (h:(P.info? T).bind (·.zero)=some v) (hc:v.cells= #[v]) (hv: ∀ g,VR g v x):Ck P T [x]:=⟨by
 obtain⟨i,h1,h2⟩:=DV.1 h
 exact⟨i,v,[v],h1,h2,hc,fun g=> .cons (hv g) (.nil g)⟩⟩
instance :Ck Tryz.prog 3 [.raw (.int .i64 0)]:=Nq (v:= .int .i64 0) (by kernel_rfl) rfl fun _=> .raw _
instance :Ck Tryz.prog 4 [.raw (.bool false)]:=Nq (v:= .bool false) (by kernel_rfl) rfl fun _=> .raw _
instance :Ck Tryz.prog 24 [.slice [] .nil]:=Nq (v:= .slice none 0 0) (by kernel_rfl) rfl fun _=> .nilN none (by simp)
instance :Ck Tryz.prog 68 [.slice [] .nil]:=Nq (v:= .slice none 0 0) (by kernel_rfl) rfl fun _=> .nilN none (by simp)
instance :Ck Tryz.prog 90 [.slice [] .nil]:=Nq (v:= .slice none 0 0) (by kernel_rfl) rfl fun _=> .nilN none (by simp)
instance :Ck Tryz.prog 121 [.raw (.map none)]:=Nq (v:= .map none) (by kernel_rfl) rfl fun _=> .raw _
instance :Ck Tryz.prog 119 [.raw (.map none)]:=Nq (v:= .map none) (by kernel_rfl) rfl fun _=> .raw _
instance (a b:List UInt8) (t u:CD):aJ Tryz.prog 180 [.slice (a.map eBy) t,.slice (b.map eBy) u] (.raw (.int .i64 (OJ a b))):=Xg Tryz.func180 (by kernel_rfl) (by kernel_rfl) (by kernel_rfl) (by kernel_rfl) a b t u
instance (s:Str) (c:Int):aJ Tryz.prog 301 [.str s,.raw (.int .u8 c)] (.raw (.int .i64 (Lib.indexByte s c.toNat.toUInt8))):=UH Tryz.func301 (by kernel_rfl) (by kernel_rfl) (by kernel_rfl) (by kernel_rfl) s c
instance rP (a b:List UInt8) (t u:CD):C9 Tryz.prog 126 [.slice (a.map eBy) t,.slice (b.map eBy) u] (.raw (.int .i64 (OJ a b))):=⟨by
 refine Av Tryz.func126 Tryz.ntmps126 rfl (rs:= [.tmp 4]) rfl rfl fun hb LF=>?_
 refine wf ?_
 exact Aw (.refl _)⟩
instance Z7 (a b:Dig):C9 Tryz.prog 61 [.agg (eDig a),.agg (eDig b)] (.raw (.int .i64 (ER a b))):=⟨by
 refine Av Tryz.func61 Tryz.ntmps61 rfl (rs:= [.tmp 4]) rfl rfl fun hb LF=>?_
 refine wf ?_
 refine Aw (.of_eq ?_)
 rfl⟩
instance xW (a:Int):C9 Tryz.prog 273 [.raw (.int .i64 a)] (.raw (.bool false)):=⟨by
 refine Av Tryz.func273 Tryz.ntmps273 rfl (rs:= [.tmp 2]) rfl rfl fun hb LF=>?_
 refine wf ?_
 refine Aw (.of_eq ?_)
 simp⟩
def Xk (a b:Int):Int:=if a < b then -1 else if b < a then 1 else 0
instance vY (a b:Int):C9 Tryz.prog 215 [.raw (.int .i64 a),.raw (.int .i64 b)] (.raw (.int .i64 (Xk a b))):=⟨by
 refine Av Tryz.func215 Tryz.ntmps215 rfl (rs:= [.tmp 4]) rfl rfl fun hb LF=>?_
 refine wf ?_
 refine A6 (fun h=>?_) (fun h=>?_)
 ·refine wf ?_
  refine Aw (.of_eq ?_)
  rw[Xk,if_pos h]
 refine wf ?_
 refine A6 (fun h2=>?_) (fun h2=>?_)
 ·refine wf ?_
  refine Aw (.of_eq ?_)
  rw[Xk,if_neg h,if_pos h2]
 ·refine wf ?_
  refine Aw (.of_eq ?_)
  rw[Xk,if_neg h,if_neg h2]⟩
instance X8 (a b:Ident):C9 Tryz.prog 159 [.agg (eIdent a),.agg (eIdent b)] (.raw (.int .i64 (Hf a b))):=⟨by
 refine Av Tryz.func159 Tryz.ntmps159 rfl (rs:= [.tmp 4]) rfl rfl fun hb LF=>?_
 refine wf ?_
 have e:OJ a.patch.bs b.patch.bs=ER a.patch b.patch:=rfl
 rw[e]
 refine AR (fun h=>?_) (fun h=>?_)
 ·refine wf ?_
  refine Aw (.of_eq ?_)
  rw[Hf,if_pos h]
 ·refine wf ?_
  refine Aw (.of_eq ?_)
  rw[Hf,if_neg (by simp[h])];rfl⟩
instance zM (x:Ident):C9 Tryz.prog 59 [.agg (eIdent x)] (.raw (.bool (decide (x.patch=Dig.zero)))):=⟨by
 refine Av Tryz.func59 Tryz.ntmps59 rfl (rs:= [.tmp 2]) rfl rfl fun hb LF=>?_
 refine wf ?_
 exact Aw (.refl _)⟩
instance wy:C9 Tryz.prog 119 [] (.agg (eIdent ⟨Dig.zero,-1⟩)):=⟨by
 refine Av Tryz.func119 Tryz.ntmps119 rfl (rs:= [.cell 0 65]) rfl rfl fun hb LF=>?_
 refine Y0 fun b=>?_
 exact Fi rfl (.refl _)⟩
instance ic (s:Str) (c:Int):C9 Tryz.prog 286 [.str s,.raw (.int .u8 c)] (.raw (.int .i64 (Lib.indexByte s c.toNat.toUInt8))):=⟨by
 refine Av Tryz.func286 Tryz.ntmps286 rfl (rs:= [.tmp 4]) rfl rfl fun hb LF=>?_
 refine wf ?_
 exact Aw (.refl _)⟩
instance mB (s:Str) (c:Int):C9 Tryz.prog 237 [.str s,.raw (.int .u8 c)] (.raw (.int .i64 (Lib.indexByte s c.toNat.toUInt8))):=⟨by
 refine Av Tryz.func237 Tryz.ntmps237 rfl (rs:= [.tmp 4]) rfl rfl fun hb LF=>?_
 refine wf ?_
 exact Aw (.refl _)⟩
theorem Lb (c:UInt8): ∀ l:List UInt8,Lib.indexByte l c < 0↔c∉l
 | []=>by simp[Lib.indexByte]
 |b::l=>by
  have h:=Lib.indexByte_ge l c
  have ih:=Lb c l
  unfold Lib.indexByte
  by_cases e:b=c
  ·subst e;simp
  ·have e2: ¬c=b:=fun h=>e h.symm
   have d:(b==c)=false:=by simp[e]
   simp only[d,BW,if_false,AG,e2,false_or]
   rw[←ih]
   split
   ·rename_i h2
    have h2:Lib.indexByte l c= -1:=by simpa using h2
    omega
   ·rename_i h2
    have h2:Lib.indexByte l c≠ -1:=by simpa using h2
    omega
theorem bH (s:Str) (m n:UInt8):Pg s m.toNat n.toNat=(decide (m∉s)&&decide (n∉s)):=by
 unfold Pg
 induction s with
 |nil=>simp
 |cons a s ih=>
  simp only[yD,ih,Oo,AG,not_or]
  have e1:((a.toNat:Int)=m.toNat)↔a=m:=⟨fun h=>UInt8.toNat.inj (by omega),fun h=>by rw[h]⟩
  have e2:((a.toNat:Int)=n.toNat)↔a=n:=⟨fun h=>UInt8.toNat.inj (by omega),fun h=>by rw[h]⟩
  simp only[e1,e2]
  grind
theorem ez (s:Str):JD s=(decide ((s.length:Int)≤1000)&&decide (Lib.indexByte s 10 < 0)&&decide (Lib.indexByte s 0 < 0)):=by
 have h:Pg s 10 0=(decide (10∉s)&&decide (0∉s)):=bH s 10 0
 have a1:decide (Lib.indexByte s 10 < 0)=decide (10∉s):=by rw[decide_eq_decide];exact Lb 10 s
 have a2:decide (Lib.indexByte s 0 < 0)=decide (0∉s):=by rw[decide_eq_decide];exact Lb 0 s
 rw[JD,h,a1,a2,Bool.and_assoc]
instance vK (s:Str):C9 Tryz.prog 195 [.str s] (.raw (.bool (JD s))):=⟨by
 refine Av Tryz.func195 Tryz.ntmps195 rfl (rs:= [.tmp 2]) rfl rfl fun hb LF=>?_
 have e:=ez s
 have c1:((10:Int).toNat).toUInt8=10:=rfl
 have c2:((0:Int).toNat).toUInt8=0:=rfl
 refine wf ?_
 repeat' (first|(refine A6 (fun h=>?_) (fun h=>?_)<;>refine wf ?_)|(refine AR (fun h=>?_) (fun h=>?_)<;>refine wf ?_)|(refine AO (fun h=>?_) (fun h=>?_)<;>refine wf ?_)|(refine Ao (fun h=>?_) (fun h=>?_)<;>(have h2:=h;(try simp only[AA,A8,AF,AJ]at h2);refine wf ?_)))
 all_goals (refine Aw (.of_eq ?_);rw[e];simp only[c1,c2]at*;first|(simp_all;done)|grind)⟩
instance vN (s:Str):C9 Tryz.prog 193 [.str s] (.raw (.bool (Je s))):=⟨by
 refine Av Tryz.func193 Tryz.ntmps193 rfl (rs:= [.tmp 2]) rfl rfl fun hb LF=>?_
 have hlen:s.length≤140737488355328:=(hb (.str s) (by simp)).str_len
 refine wf ?_
 refine AZ (σ:=Nat) (fun k=>k≤s.length∧ ∀ i (h:i < s.length),i < k→Ka s[i]=true) (fun k=>s.length - k) (fun k=> [(0,.str s),(6,.raw (.int .i64 s.length)),(7,.raw (.int .i64 k))]) (fun _=>LF) 0 ⟨by simp,by simp⟩ ⟨rfl,rfl,rfl⟩ (.refl _) ?_
 rintro k ⟨hk,he⟩
 refine wf ?_
 refine A6 (fun hc=>?_) (fun hc=>?_)
 ·have hlt:k < s.length:=by omega
  refine wf ?_
  refine BG [(46,.raw (.bool (!Ka s[k]))),(0,.str s),(6,.raw (.int .i64 s.length)),(7,.raw (.int .i64 k))] (LF) ?_ ?_
  ·repeat' (first|(refine A6 (fun h=>?_) (fun h=>?_)<;>refine wf ?_)|(refine AR (fun h=>?_) (fun h=>?_)<;>refine wf ?_)|(refine AO (fun h=>?_) (fun h=>?_)<;>refine wf ?_)|(refine Ao (fun h=>?_) (fun h=>?_)<;>(have h2:=h;(try simp only[AA,A8,AF,AJ]at h2);refine wf ?_)))
   all_goals (refine⟨⟨Bh (by rfl) ?_,rfl,rfl,rfl⟩,.refl _⟩;(clear he hc;grind [Ka]))
  refine wf ?_
  refine AO (fun h=>?_) (fun h=>?_)
  ·refine wf ?_
   refine Aw (.of_eq ?_)
   have:Ka s[k]=false:=by simpa using h
   rw[Je,HT hlt this];rfl
  ·refine wf ?_
   exact⟨k+1,⟨by omega,KM he hlt (by simpa using h)⟩,by dsimp only;omega,⟨rfl,rfl,rfl⟩,.refl _⟩
 ·have hall:s.all Ka=true:=Ih fun i h=>he i h (by omega)
  have e1:decide (1≤(s.length:Int))=!decide (s= []):=by cases s<;>simp;omega
  refine wf ?_
  repeat' (first|(refine A6 (fun h=>?_) (fun h=>?_)<;>refine wf ?_)|(refine AR (fun h=>?_) (fun h=>?_)<;>refine wf ?_)|(refine AO (fun h=>?_) (fun h=>?_)<;>refine wf ?_)|(refine Ao (fun h=>?_) (fun h=>?_)<;>(have h2:=h;(try simp only[AA,A8,AF,AJ]at h2);refine wf ?_)))
  all_goals (refine Aw (.of_eq ?_);rw[Je,hall,e1];clear he hall hb;first|(simp_all;done)|grind)⟩
def Qf {α:Type} [DecidableEq α] (v:α):List α→Int
 | []=> -1
 |a::l=>if v=a then 0 else if Qf v l= -1 then -1 else Qf v l+1
theorem XL {α:Type} [DecidableEq α] (v:α): ∀ l:List α,-1≤Qf v l
 | []=>by simp[Qf]
 |a::l=>by
  have:=XL v l
  unfold Qf;split
  ·omega
  ·split<;>omega
theorem U4 {α:Type} [DecidableEq α] (v:α): ∀ l:List α,0≤Qf v l↔v∈l
 | []=>by simp[Qf]
 |a::l=>by
  have h:=XL v l
  have ih:=U4 v l
  unfold Qf
  by_cases e:v=a
  ·simp[e]
  ·simp only[e,if_false,AG,false_or]
   rw[←ih]
   split<;>omega
theorem dZ {α:Type} [DecidableEq α] (v:α): ∀ {l:List α} {k:Nat} (h:k < l.length),l[k]=v→(∀ i (hi:i < l.length),i < k→l[i]≠v)→Qf v l=k
 |a::l,0,_,e,_=>by simp only[BK]at e;simp[Qf,e]
 |a::l,k+1,h,e,hb=>by
  have h0:a≠v:=hb 0 (by simp) (by omega)
  have ih:=dZ v (l:=l) (k:=k) (by simpa using h) (by simpa using e) (fun i hi hk=>by have:=hb (i+1) (by simpa using hi) (by omega);simpa using this)
  unfold Qf
  rw[if_neg (Ne.symm h0),ih,if_neg (by omega)];omega
theorem fq {α:Type} [DecidableEq α] (v:α) {l:List α} (h: ∀ i (hi:i < l.length),l[i]≠v):Qf v l= -1:=by
 have h1:=XL v l
 have h2: ¬0≤Qf v l:=fun h'=>by
  obtain⟨i,hi,e⟩:=Ag.1 ((U4 v l).1 h')
  exact h i hi e
 omega
instance vl (l:List Int) (v:Int) (t:CD):C9 Tryz.prog 285 [.slice (l.map eI) t,.raw (.int .i64 v)] (.raw (.int .i64 (Qf v l))):=⟨by
 refine Av Tryz.func285 Tryz.ntmps285 rfl (rs:= [.tmp 4]) rfl rfl fun hb LF=>?_
 have hlen:l.length≤140737488355328:=(hb (.slice (l.map eI) t) (by simp)).slice_map
 refine wf ?_
 refine AZ (σ:=Nat) (fun k=>k≤l.length∧ ∀ i (h:i < l.length),i < k→l[i]≠v) (fun k=>l.length - k) (fun k=> [(0,.slice (l.map eI) t),(1,.raw (.int .i64 v)),(7,.raw (.int .i64 l.length)),(8,.raw (.int .i64 k))]) (fun _=>LF) 0 ⟨by simp,by simp⟩ ⟨rfl,rfl,rfl,rfl⟩ (.refl _) ?_
 rintro k ⟨hk,he⟩
 refine wf ?_
 refine A6 (fun hc=>?_) (fun hc=>?_)
 ·have hlt:k < l.length:=by omega
  refine wf ?_
  refine A6 (fun h=>?_) (fun h=>?_)
  ·refine wf ?_
   refine Aw (.of_eq ?_)
   rw[dZ v hlt h.symm he]
  ·refine wf ?_
   refine⟨k+1,⟨by omega,fun i hi hik=>?_⟩,by dsimp only;omega,⟨rfl,rfl,rfl,rfl⟩,.refl _⟩
   rcases BN i k with h'|h'
   ·exact he i hi h'
   ·have:i=k:=by omega
    subst this;exact fun e=>h e.symm
 ·refine wf ?_
  refine Aw (.of_eq ?_)
  rw[fq v fun i hi=>he i hi (by omega)]⟩
instance px (l:List Int) (v:Int) (t:CD):C9 Tryz.prog 236 [.slice (l.map eI) t,.raw (.int .i64 v)] (.raw (.bool (decide (v∈l)))):=⟨by
 refine Av Tryz.func236 Tryz.ntmps236 rfl (rs:= [.tmp 4]) rfl rfl fun hb LF=>?_
 refine wf ?_
 refine Aw (.of_eq ?_)
 have:=U4 v l
 simp only[this]⟩
instance zR (l:List Int) (k:Int) (t:CD):C9 Tryz.prog 235 [.slice (l.map eI) t,.pt [.raw (.int .i64 k)] 0] (.raw (.bool (decide (k∈l)))):=⟨by
 refine Av Tryz.func235 Tryz.ntmps235 rfl (rs:= [.tmp 3]) rfl rfl fun hb LF=>?_
 refine wf ?_
 exact Aw (.refl _)⟩
def Mq (c:Chg):Bool:=decide (c.kind∈ [1])||decide (c.type=0)
def Mo (c:Chg):Bool:=decide (c.kind∈ [2,3,4,5,6])||decide (c.file=Ident.zero)
def O1 (c:Chg):Bool:=decide (c.kind∈ [2])||(decide (c.parent=Ident.zero)&&decide (c.name= []))
def Pd (c:Chg):Bool:=decide (c.kind∈ [3])||decide (c.mode=0)
def RM (c:Chg):Bool:=decide (c.kind∈ [4])||decide (c.data= [])
def TJ (c:Chg):Bool:=decide (c.kind∈ [5,6])||(decide (c.after=Ident.zero)&&decide (c.before=Ident.zero))
def Wy (c:Chg):Bool:=decide (c.kind∈ [5])||decide ((c.lines.length:Int)=0)
def bB (c:Chg):Bool:=decide (c.kind∈ [2,3,4,6,7])||decide ((c.over.length:Int)=0)
def Yi (c:Chg):Bool:=Mq c&&Mo c&&O1 c&&Pd c&&RM c&&TJ c&&Wy c&&bB c
instance yN (c:Chg):C9 Tryz.prog 194 [.agg (eChg c)] (.raw (.bool (Yi c))):=⟨by
 refine Av Tryz.func194 Tryz.ntmps194 rfl (rs:= [.tmp 2]) rfl rfl fun hb LF=>?_
 refine wz fun b3=>?_
 refine B2 3 ?_
 refine wz fun b=>?_
 refine DT ?_
 refine CK (by kernel_rfl) ?_
 refine KR 19 [(28,.raw (.bool (Mq c&&Mo c))),(1,.pt (eChg c) 0),(4,.clo 235 [.pt [.raw (.int .i64 c.kind)] 0]),(5,.raw (.pointer (some ⟨b,0,none⟩)))] (.box b 65 (eIdent Ident.zero)::LF) ?_ ?_
 ·refine wf ?_
  repeat' (first|(refine A6 (fun h=>?_) (fun h=>?_)<;>refine wf ?_)|(refine AR (fun h=>?_) (fun h=>?_)<;>refine wf ?_)|(refine AO (fun h=>?_) (fun h=>?_)<;>refine wf ?_)|(refine Ao (fun h=>?_) (fun h=>?_)<;>(have h2:=h;(try simp only[AA,A8,AF,AJ]at h2);refine wf ?_)))
  all_goals (refine⟨⟨Bh (by rfl) ?_,rfl,rfl,rfl⟩,.refl _⟩;(simp only[Mq,Mo];first|(simp_all;done)|grind))
 refine KR 16 [(44,.raw (.bool (Mq c&&Mo c&&O1 c))),(1,.pt (eChg c) 0),(4,.clo 235 [.pt [.raw (.int .i64 c.kind)] 0]),(5,.raw (.pointer (some ⟨b,0,none⟩)))] (.box b 65 (eIdent Ident.zero)::LF) ?_ ?_
 ·refine wf ?_
  repeat' (first|(refine A6 (fun h=>?_) (fun h=>?_)<;>refine wf ?_)|(refine AR (fun h=>?_) (fun h=>?_)<;>refine wf ?_)|(refine AO (fun h=>?_) (fun h=>?_)<;>refine wf ?_)|(refine Ao (fun h=>?_) (fun h=>?_)<;>(have h2:=h;(try simp only[AA,A8,AF,AJ]at h2);refine wf ?_)))
  all_goals (refine⟨⟨Bh (by rfl) ?_,rfl,rfl,rfl⟩,.refl _⟩;(simp only[O1];first|(simp_all;done)|grind))
 refine KR 10 [(54,.raw (.bool (Mq c&&Mo c&&O1 c&&Pd c))),(1,.pt (eChg c) 0),(4,.clo 235 [.pt [.raw (.int .i64 c.kind)] 0]),(5,.raw (.pointer (some ⟨b,0,none⟩)))] (.box b 65 (eIdent Ident.zero)::LF) ?_ ?_
 ·refine wf ?_
  repeat' (first|(refine A6 (fun h=>?_) (fun h=>?_)<;>refine wf ?_)|(refine AR (fun h=>?_) (fun h=>?_)<;>refine wf ?_)|(refine AO (fun h=>?_) (fun h=>?_)<;>refine wf ?_)|(refine Ao (fun h=>?_) (fun h=>?_)<;>(have h2:=h;(try simp only[AA,A8,AF,AJ]at h2);refine wf ?_)))
  all_goals (refine⟨⟨Bh (by rfl) ?_,rfl,rfl,rfl⟩,.refl _⟩;(simp only[Pd];first|(simp_all;done)|grind))
 refine KR 10 [(64,.raw (.bool (Mq c&&Mo c&&O1 c&&Pd c&&RM c))),(1,.pt (eChg c) 0),(4,.clo 235 [.pt [.raw (.int .i64 c.kind)] 0]),(5,.raw (.pointer (some ⟨b,0,none⟩)))] (.box b 65 (eIdent Ident.zero)::LF) ?_ ?_
 ·refine wf ?_
  repeat' (first|(refine A6 (fun h=>?_) (fun h=>?_)<;>refine wf ?_)|(refine AR (fun h=>?_) (fun h=>?_)<;>refine wf ?_)|(refine AO (fun h=>?_) (fun h=>?_)<;>refine wf ?_)|(refine Ao (fun h=>?_) (fun h=>?_)<;>(have h2:=h;(try simp only[AA,A8,AF,AJ]at h2);refine wf ?_)))
  all_goals (refine⟨⟨Bh (by rfl) ?_,rfl,rfl,rfl⟩,.refl _⟩;(simp only[RM];first|(simp_all;done)|grind))
 refine KR 17 [(81,.raw (.bool (Mq c&&Mo c&&O1 c&&Pd c&&RM c&&TJ c))),(1,.pt (eChg c) 0),(4,.clo 235 [.pt [.raw (.int .i64 c.kind)] 0]),(5,.raw (.pointer (some ⟨b,0,none⟩)))] (.box b 65 (eIdent Ident.zero)::LF) ?_ ?_
 ·refine wf ?_
  repeat' (first|(refine A6 (fun h=>?_) (fun h=>?_)<;>refine wf ?_)|(refine AR (fun h=>?_) (fun h=>?_)<;>refine wf ?_)|(refine AO (fun h=>?_) (fun h=>?_)<;>refine wf ?_)|(refine Ao (fun h=>?_) (fun h=>?_)<;>(have h2:=h;(try simp only[AA,A8,AF,AJ]at h2);refine wf ?_)))
  all_goals (refine⟨⟨Bh (by rfl) ?_,rfl,rfl,rfl⟩,.refl _⟩;(simp only[TJ];first|(simp_all;done)|grind))
 refine KR 11 [(92,.raw (.bool (Mq c&&Mo c&&O1 c&&Pd c&&RM c&&TJ c&&Wy c))),(1,.pt (eChg c) 0),(4,.clo 235 [.pt [.raw (.int .i64 c.kind)] 0]),(5,.raw (.pointer (some ⟨b,0,none⟩)))] (.box b 65 (eIdent Ident.zero)::LF) ?_ ?_
 ·refine wf ?_
  repeat' (first|(refine A6 (fun h=>?_) (fun h=>?_)<;>refine wf ?_)|(refine AR (fun h=>?_) (fun h=>?_)<;>refine wf ?_)|(refine AO (fun h=>?_) (fun h=>?_)<;>refine wf ?_)|(refine Ao (fun h=>?_) (fun h=>?_)<;>(have h2:=h;(try simp only[AA,A8,AF,AJ]at h2);refine wf ?_)))
  all_goals (refine⟨⟨Bh (by rfl) ?_,rfl,rfl,rfl⟩,.refl _⟩;(simp only[Wy];first|(simp_all;done)|grind))
 refine wf ?_
 repeat' (first|(refine A6 (fun h=>?_) (fun h=>?_)<;>refine wf ?_)|(refine AR (fun h=>?_) (fun h=>?_)<;>refine wf ?_)|(refine AO (fun h=>?_) (fun h=>?_)<;>refine wf ?_)|(refine Ao (fun h=>?_) (fun h=>?_)<;>(have h2:=h;(try simp only[AA,A8,AF,AJ]at h2);refine wf ?_)))
 all_goals (refine Aw (.of_eq ?_);simp only[Yi,bB];first|(simp_all;done)|grind)⟩
def O6 (c:Chg):Int:=
 if c.kind < 1∨7 < c.kind then 8 else
 if Yi c=false then 1 else
 if c.kind=1∧(c.type < 1∨4 < c.type)then 8 else
 if c.kind=2∧Je c.name=false then 5 else
 if c.mode < 0∨511 < c.mode then 2 else
 if 65536 < (c.data.length:Int)then 4 else
 if c.kind=5∧(c.lines.length:Int)=0 then 1 else
 if 2000 < (c.lines.length:Int)then 4 else
 if c.lines.all JD=false then 3 else
 if c.kind=7∧(c.over.length:Int)=0 then 1 else
 if 400 < (c.over.length:Int)then 4 else
 if Ph c.over=false then 9 else 0
theorem mh (c:Chg) (h1:1≤c.kind) (h2:c.kind≤7):Yi c=Fg (Hp c):=by
 have hk:c.kind=1∨c.kind=2∨c.kind=3∨c.kind=4∨c.kind=5∨c.kind=6∨c.kind=7:=by omega
 unfold Yi Mq Mo O1 Pd RM TJ Wy bB Fg Hp
 rcases hk with h|h|h|h|h|h|h<;>simp[h]<;>grind
theorem bq (c:Chg):O6 c=C0 c:=by
 unfold O6 C0
 by_cases h1:c.kind < 1∨7 < c.kind
 ·rw[if_pos h1,if_pos h1]
 rw[if_neg h1,if_neg h1,mh c (by omega) (by omega)]
 by_cases h2:Fg (Hp c)=false
 ·rw[if_pos h2,if_pos h2]
 rw[if_neg h2,if_neg h2]
 have h2:Fg (Hp c)=true:=by simpa using h2
 by_cases h3:c.kind=1∧(c.type < 1∨4 < c.type)
 ·rw[if_pos h3,if_pos h3]
 rw[if_neg h3,if_neg h3]
 by_cases h4:c.kind=2∧Je c.name=false
 ·rw[if_pos h4,if_pos h4]
 rw[if_neg h4,if_neg h4]
 have hmode:c.kind≠3→c.mode=0:=fun h=>by
  unfold Fg Hp at h2
  simp only[BQ,AA,h,if_false]at h2
  exact h2.1.1.1.1.1.2
 by_cases h5:c.kind=3∧(c.mode < 0∨511 < c.mode)
 ·rw[if_pos h5.2,if_pos h5]
 rw[if_neg (fun h=>h5 ⟨by
  by_cases e:c.kind=3
  ·exact e
  ·have:=hmode e;omega,h⟩),if_neg h5]
 by_cases h6:65536 < (c.data.length:Int)
 ·rw[if_pos h6,if_pos h6]
 rw[if_neg h6,if_neg h6]
 by_cases h7:c.kind=5
 ·have hov:c.over.length=0:=by
   unfold Fg Hp at h2
   simp only[BQ,AA,h7]at h2
   have:=h2.2
   simp at this
   simp[this]
  have ho:c.over= []:=BA hov
  rw[if_pos h7,Mw]
  by_cases h8:(c.lines.length:Int)=0
  ·rw[if_pos ⟨h7,h8⟩,if_pos h8]
  rw[if_neg (fun h=>h8 h.2),if_neg h8]
  by_cases h9:2000 < (c.lines.length:Int)
  ·rw[if_pos h9,if_pos h9]
  rw[if_neg h9,if_neg h9]
  by_cases h10:c.lines.all JD=true
  ·rw[if_neg (by simp[h10]),if_pos h10,if_neg (fun h=>by omega),if_neg (by omega),ho];rfl
  ·rw[if_pos (by simpa using h10),if_neg h10]
 ·have hl:c.lines= []:=by
   unfold Fg Hp at h2
   simp only[BQ,AA,h7,if_false]at h2
   exact BA (by have:=h2.1.2;omega)
  rw[if_neg h7,if_neg (fun h=>h7 h.1),hl,if_neg (by simp),if_neg (by simp)]
theorem UU (c:Chg):Q.Fn Tryz.prog 142 [.agg (eChg c)] (.raw (.int .i64 (O6 c))):=by
 refine Av Tryz.func142 Tryz.ntmps142 rfl (rs:= [.tmp 2]) rfl rfl fun hb LF=>?_
 have hagg:Bd (.agg (eChg c)):=hb _ (by simp)
 have hlines:c.lines.length≤140737488355328:=(hagg.agg_at (c:= .slice (c.lines.map eS) .ro) (by simp[eChg])).slice_map
 have hover:c.over.length≤140737488355328:=(hagg.agg_at (c:= .slice (c.over.map eIdent) .ro) (by simp[eChg])).slice_map
 refine wf ?_
 refine BG [(6,.raw (.bool (decide (c.kind < 1∨7 < c.kind)))),(1,.pt (eChg c) 0)] (LF) ?_ ?_
 ·repeat' (first|(refine A6 (fun h=>?_) (fun h=>?_)<;>refine wf ?_)|(refine AR (fun h=>?_) (fun h=>?_)<;>refine wf ?_)|(refine AO (fun h=>?_) (fun h=>?_)<;>refine wf ?_)|(refine Ao (fun h=>?_) (fun h=>?_)<;>(have h2:=h;(try simp only[AA,A8,AF,AJ]at h2);refine wf ?_)))
  all_goals (refine⟨⟨Bh (by rfl) ?_,rfl⟩,.refl _⟩;first|(simp_all;done)|grind)
 refine wf ?_
 refine A6 (fun h=>?_) (fun h=>?_)
 ·refine wf ?_
  refine Aw (.of_eq ?_)
  rw[O6,if_pos h]
 rw[O6,if_neg h]
 refine wf ?_
 refine AO (fun h=>?_) (fun h=>?_)
 ·refine wf ?_
  refine Aw (.of_eq ?_)
  rw[if_pos (by simpa using h)]
 rw[if_neg (by simpa using h)]
 refine wf ?_
 refine BG [(19,.raw (.bool (decide (c.kind=1∧(c.type < 1∨4 < c.type))))),(1,.pt (eChg c) 0)] (LF) ?_ ?_
 ·repeat' (first|(refine A6 (fun h=>?_) (fun h=>?_)<;>refine wf ?_)|(refine AR (fun h=>?_) (fun h=>?_)<;>refine wf ?_)|(refine AO (fun h=>?_) (fun h=>?_)<;>refine wf ?_)|(refine Ao (fun h=>?_) (fun h=>?_)<;>(have h2:=h;(try simp only[AA,A8,AF,AJ]at h2);refine wf ?_)))
  all_goals (refine⟨⟨Bh (by rfl) ?_,rfl⟩,.refl _⟩;first|(simp_all;done)|grind)
 refine wf ?_
 refine A6 (fun h=>?_) (fun h=>?_)
 ·refine wf ?_
  refine Aw (.of_eq ?_)
  rw[if_pos h]
 rw[if_neg h]
 refine wf ?_
 refine BG [(33,.raw (.bool (decide (c.kind=2∧Je c.name=false)))),(1,.pt (eChg c) 0)] (LF) ?_ ?_
 ·repeat' (first|(refine A6 (fun h=>?_) (fun h=>?_)<;>refine wf ?_)|(refine AR (fun h=>?_) (fun h=>?_)<;>refine wf ?_)|(refine AO (fun h=>?_) (fun h=>?_)<;>refine wf ?_)|(refine Ao (fun h=>?_) (fun h=>?_)<;>(have h2:=h;(try simp only[AA,A8,AF,AJ]at h2);refine wf ?_)))
  all_goals (refine⟨⟨Bh (by rfl) ?_,rfl⟩,.refl _⟩;first|(simp_all;done)|grind)
 refine wf ?_
 refine A6 (fun h=>?_) (fun h=>?_)
 ·refine wf ?_
  refine Aw (.of_eq ?_)
  rw[if_pos h]
 rw[if_neg h]
 refine wf ?_
 refine BG [(43,.raw (.bool (decide (c.mode < 0∨511 < c.mode)))),(1,.pt (eChg c) 0)] (LF) ?_ ?_
 ·repeat' (first|(refine A6 (fun h=>?_) (fun h=>?_)<;>refine wf ?_)|(refine AR (fun h=>?_) (fun h=>?_)<;>refine wf ?_)|(refine AO (fun h=>?_) (fun h=>?_)<;>refine wf ?_)|(refine Ao (fun h=>?_) (fun h=>?_)<;>(have h2:=h;(try simp only[AA,A8,AF,AJ]at h2);refine wf ?_)))
  all_goals (refine⟨⟨Bh (by rfl) ?_,rfl⟩,.refl _⟩;first|(simp_all;done)|grind)
 refine wf ?_
 refine A6 (fun h=>?_) (fun h=>?_)
 ·refine wf ?_
  refine Aw (.of_eq ?_)
  rw[if_pos h]
 rw[if_neg h]
 refine wf ?_
 refine A6 (fun h=>?_) (fun h=>?_)
 ·refine wf ?_
  refine Aw (.of_eq ?_)
  rw[if_pos h]
 rw[if_neg h]
 refine wf ?_
 refine BG [(57,.raw (.bool (decide (c.kind=5∧(c.lines.length:Int)=0)))),(1,.pt (eChg c) 0)] (LF) ?_ ?_
 ·repeat' (first|(refine A6 (fun h=>?_) (fun h=>?_)<;>refine wf ?_)|(refine AR (fun h=>?_) (fun h=>?_)<;>refine wf ?_)|(refine AO (fun h=>?_) (fun h=>?_)<;>refine wf ?_)|(refine Ao (fun h=>?_) (fun h=>?_)<;>(have h2:=h;(try simp only[AA,A8,AF,AJ]at h2);refine wf ?_)))
  all_goals (refine⟨⟨Bh (by rfl) ?_,rfl⟩,.refl _⟩;first|(simp_all;done)|grind)
 refine wf ?_
 refine A6 (fun h=>?_) (fun h=>?_)
 ·refine wf ?_
  refine Aw (.of_eq ?_)
  rw[if_pos h]
 rw[if_neg h]
 refine wf ?_
 refine A6 (fun h=>?_) (fun h=>?_)
 ·refine wf ?_
  refine Aw (.of_eq ?_)
  rw[if_pos h]
 rw[if_neg h]
 refine wf ?_
 refine AZ (σ:=Nat) (fun k=>k≤c.lines.length∧ ∀ i (h:i < c.lines.length),i < k→JD c.lines[i]=true) (fun k=>c.lines.length - k) (fun k=> [(1,.pt (eChg c) 0),(73,.slice (c.lines.map eS) .ro),(74,.raw (.int .i64 c.lines.length)),(75,.raw (.int .i64 k))]) (fun _=>LF) 0 ⟨by simp,by simp⟩ ⟨rfl,rfl,rfl,rfl⟩ (.refl _) ?_
 rintro k ⟨hk,he⟩
 refine wf ?_
 refine A6 (fun hc=>?_) (fun hc=>?_)
 ·have hlt:k < c.lines.length:=by omega
  refine wf ?_
  refine AO (fun h=>?_) (fun h=>?_)
  ·refine wf ?_
   refine Aw (.of_eq ?_)
   have:JD c.lines[k]=false:=by simpa using h
   rw[if_pos (HT hlt this)]
  ·refine wf ?_
   exact⟨k+1,⟨by omega,KM he hlt (by simpa using h)⟩,by dsimp only;omega,⟨rfl,rfl,rfl,rfl⟩,.refl _⟩
 have hall:c.lines.all JD=true:=Ih fun i h=>he i h (by omega)
 rw[if_neg (by simp[hall])]
 clear he hk hc
 refine wf ?_
 refine BG [(83,.raw (.bool (decide (c.kind=7∧(c.over.length:Int)=0)))),(1,.pt (eChg c) 0)] (LF) ?_ ?_
 ·repeat' (first|(refine A6 (fun h=>?_) (fun h=>?_)<;>refine wf ?_)|(refine AR (fun h=>?_) (fun h=>?_)<;>refine wf ?_)|(refine AO (fun h=>?_) (fun h=>?_)<;>refine wf ?_)|(refine Ao (fun h=>?_) (fun h=>?_)<;>(have h2:=h;(try simp only[AA,A8,AF,AJ]at h2);refine wf ?_)))
  all_goals (refine⟨⟨Bh (by rfl) ?_,rfl⟩,.refl _⟩;first|(simp_all;done)|grind)
 refine wf ?_
 refine A6 (fun h=>?_) (fun h=>?_)
 ·refine wf ?_
  refine Aw (.of_eq ?_)
  rw[if_pos h]
 rw[if_neg h]
 refine wf ?_
 refine A6 (fun h=>?_) (fun h=>?_)
 ·refine wf ?_
  refine Aw (.of_eq ?_)
  rw[if_pos h]
 rw[if_neg h]
 refine wf ?_
 refine AZ (σ:=Nat) (fun k=>1≤k∧ ∀ i,i+1 < k→i+1 < c.over.length→Hf (c.over.getD i Ident.zero) (c.over.getD (i+1) Ident.zero) < 0) (fun k=>c.over.length - k) (fun k=> [(1,.pt (eChg c) 0),(5,.raw (.int .i64 k))]) (fun _=>LF) 1 ⟨by simp,fun i h=>by omega⟩ ⟨rfl,rfl⟩ (.refl _) ?_
 rintro k ⟨hk,he⟩
 refine wf ?_
 refine A6 (fun hc=>?_) (fun hc=>?_)
 ·obtain⟨j,rfl⟩: ∃ j,k=j+1:=⟨k - 1,by omega⟩
  refine wf ?_
  have e:((↑(j+1):Int) - 1).toNat=j:=by omega
  have hj:j+1 < c.over.length:=by omega
  refine A6 (fun h1=>?_) (fun h1=>?_)
  ·refine wf ?_
   refine Aw (.of_eq ?_)
   simp only[e]at h1
   have:Ph c.over=false:=by
    unfold Ph
    rw[J5]
    refine⟨j,BZ.2 (by omega),?_⟩
    simp only[AA,Ct,AW hj,AW (show j < c.over.length by omega),CJ]
    omega
   rw[if_pos this]
  ·refine wf ?_
   simp only[e]at h1
   refine⟨j+1+1,⟨by omega,fun i h2 h3=>?_⟩,by dsimp only;omega,⟨rfl,rfl⟩,.refl _⟩
   rcases BN (i+1) (j+1)with h'|h'
   ·exact he i h' h3
   ·have:i=j:=by omega
    subst this
    simp only[Ct,AW hj,AW (show i < c.over.length by omega),CJ]
    omega
 ·refine wf ?_
  refine Aw (.of_eq ?_)
  have:Ph c.over=true:=by
   unfold Ph
   rw[Bf]
   intro i hi
   rw[BZ]at hi
   exact BC (he i (by omega) (by omega))
  rw[if_neg (by simp[this])]
instance lB (c:Chg):C9 Tryz.prog 142 [.agg (eChg c)] (.raw (.int .i64 (C0 c))):=⟨by rw[←bq];exact UU c⟩
def J8 (p:Pat):Int:=
 if Je p.author=false then 5 else if 1000 < (p.message.length:Int)then 4 else if p.time < 0∨1099511627776 < p.time then 2 else
 if Im p.deps≠0 then Im p.deps else if(p.changes.length:Int)=0 then 1 else if 400 < (p.changes.length:Int)then 4 else 0
theorem Ig (p:Pat):CF p=if J8 p≠0 then([],J8 p)else Cz p.changes []:=by
 unfold CF J8
 generalize Im p.deps=e
 generalize Cz p.changes []=r
 by_cases h1:Je p.author=false<;>by_cases h2:1000 < (p.message.length:Int)<;>by_cases h3:p.time < 0∨1099511627776 < p.time<;>by_cases h4:e=0<;>by_cases h5:(p.changes.length:Int)=0<;>by_cases h6:400 < (p.changes.length:Int)<;>simp only[h1,h2,h3,h4,h5,h6,if_true,if_false,ne_eq,not_true_eq_false,not_false_eq_true]<;>first|rfl|simp[h4]|simp
instance yb (p:Pat):C9 Tryz.prog 141 [.agg (Ba p)] (.raw (.int .i64 (J8 p))):=⟨by
 refine Av Tryz.func141 Tryz.ntmps141 rfl (rs:= [.tmp 2]) rfl rfl fun hb LF=>?_
 have hagg:Bd (.agg (Ba p)):=hb _ (by simp)
 have hdeps:p.deps.length≤140737488355328:=(hagg.agg_at (c:= .slice (p.deps.map eDig) .ro) (by simp[Ba])).slice_map
 have hdr:Im p.deps=if 100 < (p.deps.length:Int)then 4 else Az (HZ p.deps) (List.range p.deps.length):=rfl
 refine wf ?_
 refine AO (fun h=>?_) (fun h=>?_)
 ·refine wf ?_
  refine Aw (.of_eq ?_)
  rw[J8,if_pos (by simpa using h)]
 rw[J8,if_neg (by simpa using h)]
 refine wf ?_
 refine A6 (fun h=>?_) (fun h=>?_)
 ·refine wf ?_
  refine Aw (.of_eq ?_)
  rw[if_pos h]
 rw[if_neg h]
 refine wf ?_
 refine BG [(16,.raw (.bool (decide (p.time < 0∨1099511627776 < p.time)))),(1,.pt (Ba p) 0)] (LF) ?_ ?_
 ·repeat' (first|(refine A6 (fun h=>?_) (fun h=>?_)<;>refine wf ?_)|(refine AR (fun h=>?_) (fun h=>?_)<;>refine wf ?_)|(refine AO (fun h=>?_) (fun h=>?_)<;>refine wf ?_)|(refine Ao (fun h=>?_) (fun h=>?_)<;>(have h2:=h;(try simp only[AA,A8,AF,AJ]at h2);refine wf ?_)))
  all_goals (refine⟨⟨Bh (by rfl) ?_,rfl⟩,.refl _⟩;first|(simp_all;done)|grind)
 refine wf ?_
 refine A6 (fun h=>?_) (fun h=>?_)
 ·refine wf ?_
  refine Aw (.of_eq ?_)
  rw[if_pos h]
 rw[if_neg h]
 refine wf ?_
 refine A6 (fun h=>?_) (fun h=>?_)
 ·refine wf ?_
  refine Aw (.of_eq ?_)
  rw[hdr,if_pos h,if_pos (by decide)]
 rw[if_neg h]at hdr
 refine wf ?_
 refine AZ (σ:=Nat) (fun k=>k≤p.deps.length∧ ∀ i (h:i < (List.range p.deps.length).length),i < k→HZ p.deps (List.range p.deps.length)[i]=0) (fun k=>p.deps.length - k) (fun k=> [(1,.pt (Ba p) 0),(31,.slice (p.deps.map eDig) .ro),(32,.raw (.int .i64 p.deps.length)),(33,.raw (.int .i64 k))]) (fun _=>LF) 0 ⟨by simp,by simp⟩ ⟨rfl,rfl,rfl,rfl⟩ (.refl _) ?_
 rintro k ⟨hk,he⟩
 refine wf ?_
 refine A6 (fun hc=>?_) (fun hc=>?_)
 ·have hlt:k < p.deps.length:=by omega
  have hltr:k < (List.range p.deps.length).length:=by simpa using hlt
  have ek:(List.range p.deps.length)[k]=k:=by simp
  have e0:p.deps.getD k Dig.zero=p.deps[k]:=by simp[List.getD,hlt]
  refine wz fun b4=>?_
  refine B2 4 ?_
  refine wf ?_
  refine A6 (fun h2=>?_) (fun h2=>?_)
  ·refine wf ?_
   refine Aw (.of_eq ?_)
   have e:HZ p.deps (List.range p.deps.length)[k]=1:=by rw[ek,HZ,e0,if_pos h2]
   have e3:Im p.deps=1:=by rw[hdr,DW hltr he (by rw[e];decide),e]
   rw[e3];rfl
  refine wf ?_
  refine Ao (fun hp=>?_) (fun hp=>?_)
  ·have hp':0 < (k:Int):=BP hp
   refine wf ?_
   have e1:p.deps.getD (k - 1) Dig.zero=p.deps[((k:Int) - 1).toNat]:=by
    have:((k:Int) - 1).toNat=k - 1:=by omega
    simp only[this]
    have h':k - 1 < p.deps.length:=by omega
    simp[List.getD,h']
   refine A6 (fun h3=>?_) (fun h3=>?_)
   ·refine wf ?_
    refine Aw (.of_eq ?_)
    have e:HZ p.deps (List.range p.deps.length)[k]=9:=by rw[ek,HZ,e0,e1,if_neg h2,if_pos ⟨hp',h3⟩]
    have e3:Im p.deps=9:=by rw[hdr,DW hltr he (by rw[e];decide),e]
    rw[e3];rfl
   ·refine wf ?_
    have e:HZ p.deps (List.range p.deps.length)[k]=0:=by rw[ek,HZ,e0,e1,if_neg h2,if_neg (fun h=>h3 h.2)]
    exact⟨k+1,⟨by omega,E9 he hltr e⟩,by dsimp only;omega,⟨rfl,rfl,rfl,rfl⟩,.refl _⟩
  ·have hp': ¬0 < (k:Int):=Bl hp
   refine wf ?_
   have e:HZ p.deps (List.range p.deps.length)[k]=0:=by rw[ek,HZ,e0,if_neg h2,if_neg (fun h=>hp' h.1)]
   exact⟨k+1,⟨by omega,E9 he hltr e⟩,by dsimp only;omega,⟨rfl,rfl,rfl,rfl⟩,.refl _⟩
 have e3:Im p.deps=0:=by rw[hdr,E3 fun i h=>he i h (by simp at h;omega)]
 rw[if_neg (by simp[e3])]
 refine wf ?_
 refine A6 (fun h=>?_) (fun h=>?_)
 ·refine wf ?_
  refine Aw (.of_eq ?_)
  rw[if_pos h]
 rw[if_neg h]
 refine wf ?_
 refine A6 (fun h=>?_) (fun h=>?_)
 ·refine wf ?_
  refine Aw (.of_eq ?_)
  rw[if_pos h]
 ·refine wf ?_
  refine Aw (.of_eq ?_)
  rw[if_neg h]⟩
structure Rfc where
 id:Ident
 f:Nat
 cs:List PV
def eRfc (r:Rfc):List PV:=eIdent r.id++ [.clo r.f r.cs]
@[simp] theorem kQ (r:Rfc):(eRfc r).length=34:=by unfold eRfc;simp
instance :MZ eRfc 34:=⟨kQ⟩
instance (r:Rfc):Di (eRfc r):=by unfold eRfc;infer_instance
instance :Js eRfc:=⟨fun r=>(inferInstance:Di (eRfc r)).out⟩
instance (x:Ident) (f:Nat) (cs:List PV):Fw (.agg (eIdent x++ [.clo f cs])) eRfc ⟨x,f,cs⟩:=⟨Cw.agg _⟩
instance (x y:Ident) (z:PV):Eg (eIdent x++ [z]) 0 (eIdent y) (eIdent y++ [z]):=DH (by simp)
instance (x:Ident) (y z:PV):Eg (eIdent x++ [y]) 33 [z] (eIdent x++ [z]):=Af (n:=33) (off:=0) (by simp) (Kd (by simp))
instance (r:Rfc):Jc (eRfc r) 0 (eIdent r.id):=by unfold eRfc;exact DA
instance (r:Rfc):Jc (eRfc r) 33 [.clo r.f r.cs]:=by unfold eRfc;exact Ai (n:=33) (off:=0) (by simp) Jk
instance :Cx (eIdent Ident.zero++ [.raw .nilFunc]) 34:=⟨by simp⟩
instance :Ck Tryz.prog 94 (eIdent Ident.zero++ [.raw .nilFunc]):=Ck.of (us:=(eIdent Ident.zero++ [PV.raw .nilFunc]).map zv) (by kernel_rfl) (by kernel_rfl)
instance :Ck Tryz.prog 174 (eIdent Ident.zero++ [.raw .nilFunc]):=Ck.of (us:=(eIdent Ident.zero++ [PV.raw .nilFunc]).map zv) (by kernel_rfl) (by kernel_rfl)
instance :Ck Tryz.prog 171 [.slice [] .nil]:=Nq (v:= .slice none 0 0) (by kernel_rfl) rfl fun _=> .nilN none (by simp)
structure y6 (P:Program) (r:Rfc) (p:Atm→Bool):Prop where
 fn:B1 P r.f
 out: ∀ a:Atm,Q.Fn P r.f (.agg (eAtm a)::r.cs) (.raw (.bool (p a)))
def iB (k:Int):Int:=if k=2∨k=3∨k=4∨k=6 then k else 0
instance qt (k:Int):C9 Tryz.prog 123 [.raw (.int .i64 k)] (.raw (.int .i64 (iB k))):=⟨by
 refine Av Tryz.func123 Tryz.ntmps123 rfl (rs:= [.tmp 2]) rfl rfl fun hb LF=>?_
 refine zC fun b=>?_
 refine Aw (.of_eq ?_)
 simp only[iB]
 simp[Dd,CY]
 grind⟩
def wx (a:Atm):Bool:=decide (a.kind=1)
def vI (a:Atm):Bool:=decide (a.kind=1)&&(decide (a.type=2)||decide (a.type=3))
def vH (a:Atm):Bool:=decide (a.kind=1)&&decide (a.type=1)
def o7 (a:Atm):Bool:=decide (a.kind=1)&&decide (a.type=4)
def wv (c:Chg) (a:Atm):Bool:=decide (a.id=c.file)||(decide (a.kind=5)&&decide (a.file=c.file))
def wu (c:Chg) (a:Atm):Bool:=decide (c.kind=7)||(decide (a.kind=iB c.kind)&&decide (a.file=c.file))
instance tF (a:Atm):C9 Tryz.prog 116 [.agg (eAtm a)] (.raw (.bool (wx a))):=⟨by
 refine Av Tryz.func116 Tryz.ntmps116 rfl (rs:= [.tmp 2]) rfl rfl fun hb LF=>?_
 refine wf ?_
 refine Aw (.of_eq ?_)
 rfl⟩
instance tE (a:Atm):C9 Tryz.prog 117 [.agg (eAtm a)] (.raw (.bool (vI a))):=⟨by
 refine Av Tryz.func117 Tryz.ntmps117 rfl (rs:= [.tmp 2]) rfl rfl fun hb LF=>?_
 refine wf ?_
 repeat' (first|(refine A6 (fun h=>?_) (fun h=>?_)<;>refine wf ?_)|(refine AR (fun h=>?_) (fun h=>?_)<;>refine wf ?_)|(refine AO (fun h=>?_) (fun h=>?_)<;>refine wf ?_)|(refine Ao (fun h=>?_) (fun h=>?_)<;>(have h2:=h;(try simp only[AA,A8,AF,AJ]at h2);refine wf ?_)))
 all_goals (refine Aw (.of_eq ?_);simp only[vI];first|(simp_all;done)|grind)⟩
instance tD (a:Atm):C9 Tryz.prog 118 [.agg (eAtm a)] (.raw (.bool (vH a))):=⟨by
 refine Av Tryz.func118 Tryz.ntmps118 rfl (rs:= [.tmp 2]) rfl rfl fun hb LF=>?_
 refine wf ?_
 repeat' (first|(refine A6 (fun h=>?_) (fun h=>?_)<;>refine wf ?_)|(refine AR (fun h=>?_) (fun h=>?_)<;>refine wf ?_)|(refine AO (fun h=>?_) (fun h=>?_)<;>refine wf ?_)|(refine Ao (fun h=>?_) (fun h=>?_)<;>(have h2:=h;(try simp only[AA,A8,AF,AJ]at h2);refine wf ?_)))
 all_goals (refine Aw (.of_eq ?_);simp only[vH];first|(simp_all;done)|grind)⟩
instance tC (a:Atm):C9 Tryz.prog 120 [.agg (eAtm a)] (.raw (.bool (o7 a))):=⟨by
 refine Av Tryz.func120 Tryz.ntmps120 rfl (rs:= [.tmp 2]) rfl rfl fun hb LF=>?_
 refine wf ?_
 repeat' (first|(refine A6 (fun h=>?_) (fun h=>?_)<;>refine wf ?_)|(refine AR (fun h=>?_) (fun h=>?_)<;>refine wf ?_)|(refine AO (fun h=>?_) (fun h=>?_)<;>refine wf ?_)|(refine Ao (fun h=>?_) (fun h=>?_)<;>(have h2:=h;(try simp only[AA,A8,AF,AJ]at h2);refine wf ?_)))
 all_goals (refine Aw (.of_eq ?_);simp only[o7];first|(simp_all;done)|grind)⟩
instance tB (c:Chg) (a:Atm):C9 Tryz.prog 121 [.agg (eAtm a),.pt (eChg c) 0] (.raw (.bool (wv c a))):=⟨by
 refine Av Tryz.func121 Tryz.ntmps121 rfl (rs:= [.tmp 3]) rfl rfl fun hb LF=>?_
 refine wf ?_
 repeat' (first|(refine A6 (fun h=>?_) (fun h=>?_)<;>refine wf ?_)|(refine AR (fun h=>?_) (fun h=>?_)<;>refine wf ?_)|(refine AO (fun h=>?_) (fun h=>?_)<;>refine wf ?_)|(refine Ao (fun h=>?_) (fun h=>?_)<;>(have h2:=h;(try simp only[AA,A8,AF,AJ]at h2);refine wf ?_)))
 all_goals (refine Aw (.of_eq ?_);simp only[wv];first|(simp_all;done)|grind)⟩
instance tA (c:Chg) (a:Atm):C9 Tryz.prog 122 [.agg (eAtm a),.pt (eChg c) 0] (.raw (.bool (wu c a))):=⟨by
 refine Av Tryz.func122 Tryz.ntmps122 rfl (rs:= [.tmp 3]) rfl rfl fun hb LF=>?_
 refine wf ?_
 repeat' (first|(refine A6 (fun h=>?_) (fun h=>?_)<;>refine wf ?_)|(refine AR (fun h=>?_) (fun h=>?_)<;>refine wf ?_)|(refine AO (fun h=>?_) (fun h=>?_)<;>refine wf ?_)|(refine Ao (fun h=>?_) (fun h=>?_)<;>(have h2:=h;(try simp only[AA,A8,AF,AJ]at h2);refine wf ?_)))
 all_goals (refine Aw (.of_eq ?_);simp only[wu];first|(simp_all;done)|grind)⟩
def gf (b:Nat) (l:List Rfc) (t:CD):List Res:= [.box b 90 [.slice (l.map eRfc) t],.tok t l.length 34]
theorem uX (x:Ident) (f:Nat) (cs:List PV) (b:Nat) (l:List Rfc) (t:CD) (hl:l.length≤1000000):
  BH Tryz.prog 115 [.agg (eIdent x),.clo f cs,.raw (.pointer (some ⟨b,0,none⟩))] (gf b l t) (fun _ L'=> ∃ t',L'=gf b (l++ [⟨x,f,cs⟩]) t'):=by
 refine C8 Tryz.func115 rfl Tryz.ntmps115 (rs:= []) rfl rfl fun hb LF=>?_
 rw[show gf b l t++LF= .box b 90 [.slice (l.map eRfc) t]:: .tok t l.length 34::LF from rfl]
 refine aO fun t'=>?_
 exact⟨trivial,[],gf b (l++ [⟨x,f,cs⟩]) t',.nil,.refl _,t',rfl⟩
section
variable {N:Nat} {all:Array Oper} {K:Env→List Res→Prop} {fl:List Bool} {os:List Oper} {ρ:Env} {L:List Res} {Q:PPost} {c:Code} {d:Nat} {ty:TypeId} {pos:String} {af:Array Edge}
theorem U1 {x x0 x1:Operand} {ats:Array TypeId} {b f:Nat} {l:List Rfc} {t:CD} {id:Ident} {cs:List PV} {a1:PV} {LF:List Res}
  (qx:ρ.ev x= .clo 115 [.raw (.pointer (some ⟨b,0,none⟩))]) (q0:ρ.ev x0= .agg (eIdent id)) (q1:ρ.ev x1=a1) [h1:WI a1 f cs] (hl:l.length≤1000000)
  (k: ∀ t' u,AU Tryz.prog N all K fl.tail os (CR ρ d u) (.box b 90 [.slice ((l++ [Rfc.mk id f cs]).map eRfc) t']:: .tok t' (l++ [Rfc.mk id f cs]).length 34::LF)) (hd:Nat.blt d N=true:=by rfl) (hfl:fl.headD true=true:=by rfl):
  AU Tryz.prog N all K fl (⟨some d,.call { callee:= .value x,args:= #[x0,x1],argTypes:=ats },ty,pos,af,none⟩::os) ρ (.box b 90 [.slice (l.map eRfc) t]:: .tok t l.length 34::LF):=
 CV (xs:= [x0,x1]) (gf b l t) LF (.of_eq qx) rfl rfl (.refl _) (fun _ L'=> ∃ t',L'=gf b (l++ [⟨id,f,cs⟩]) t')
  (BH.args (bs:= [.agg (eIdent id),.clo f cs,.raw (.pointer (some ⟨b,0,none⟩))]) rfl (fun i g1 g2=>by
   match i,g1,g2 with
   |0,_,_=>exact .of_eq q0
   |1,_,_=>show Le (ρ.ev x1) _;rw[q1];exact h1.out
   |2,_,_=>exact .refl _
   |m+3,g1,_=>exact absurd g1 (by simp)) (uX id f cs b l t hl)) (fun r L' ⟨t',e⟩=>by subst e;exact k t' r) hd hfl
end
def Ho (c:Chg):List Rfc:=
 if c.kind=2∨c.kind=3 then [⟨c.file,116,[]⟩]else if c.kind=4 then [⟨c.file,117,[]⟩]else
 if c.kind=5∨c.kind=6 then [⟨c.file,118,[]⟩]else []
def KZ (c:Chg):List Rfc:=if c.kind=2∧c.parent≠⟨Dig.zero,-1⟩then [⟨c.parent,120,[]⟩]else []
def PN (c:Chg):List Rfc:=if c.kind=5∨c.kind=6 then [⟨c.after,121,[.pt (eChg c) 0]⟩,⟨c.before,121,[.pt (eChg c) 0]⟩]else []
def NX (c:Chg) (l:List Ident):List Rfc:=l.map fun x=>⟨x,122,[.pt (eChg c) 0]⟩
def Ek (c:Chg):List Rfc:=Ho c++KZ c++PN c++NX c c.over
theorem VY (c:Chg):(Ho c).length≤1:=by unfold Ho;split<;>(try split)<;>(try split)<;>simp
theorem VX (c:Chg):(KZ c).length≤1:=by unfold KZ;split<;>simp
theorem VW (c:Chg):(PN c).length≤2:=by unfold PN;split<;>simp
instance jw (c:Chg) [hs:Ay (c.over.length≤400)]:C9 Tryz.prog 58 [.agg (eChg c)] (.slice ((Ek c).map eRfc) .ro):=⟨by
 have hover:=hs.out
 have r1:=VY c
 have r2:=VX c
 have r3:=VW c
 refine Av Tryz.func58 Tryz.ntmps58 rfl (rs:= [.tmp 2]) rfl rfl fun hb LF=>?_
 refine wf ?_
 refine CA fun b3=>?_
 refine wo ?_
 refine AE ?_
 refine EC 34 ?_
 refine EH (.swap _ _ _) ?_
 refine ws ?_
 refine Ca (σ:=List Rfc × CD) (fun s=>s.1=Ho c) (fun s=> [(1,.pt (eChg c) 0),(3,.raw (.pointer (some ⟨b3,0,none⟩))),(4,.clo 115 [.raw (.pointer (some ⟨b3,0,none⟩))])]) (fun s=> .box b3 90 [.slice (s.1.map eRfc) s.2]:: .tok s.2 s.1.length 34::LF) ?_ ?_
 ·refine wf ?_
  refine Ca (σ:=Unit) (fun _=>True) (fun _=> [(1,.pt (eChg c) 0),(3,.raw (.pointer (some ⟨b3,0,none⟩))),(4,.clo 115 [.raw (.pointer (some ⟨b3,0,none⟩))]),(10,.raw (.int .i64 c.kind)),(11,.raw (.bool (decide (c.kind=2∨c.kind=3))))]) (fun _=> .box b3 90 [.slice [] .nil]:: .tok .nil 0 34::LF) ?_ ?_
  ·refine A6 (fun h=>?_) (fun h=>?_)
   ·refine wf ?_
    exact⟨(),trivial,⟨rfl,rfl,rfl,rfl,Bh (by rfl) (by simp[h])⟩,.refl _⟩
   ·refine wf ?_
    exact⟨(),trivial,⟨rfl,rfl,rfl,rfl,Bh (by rfl) (by simp[h])⟩,.refl _⟩
  intro _ _
  refine A6 (fun h=>?_) (fun h=>?_)
  ·refine wf ?_
   refine U1 (l:= []) rfl rfl (by(conv=>lhs;whnf);done) (h1:=(by first|infer_instance|fail)) (by simp) fun t' u=>?_
   refine wf ?_
   exact⟨([⟨c.file,116,[]⟩],t'),by rw[Ho,if_pos h],⟨rfl,rfl,rfl⟩,.refl _⟩
  have e1:Ho c=if c.kind=4 then [⟨c.file,117,[]⟩]else if c.kind=5∨c.kind=6 then [⟨c.file,118,[]⟩]else []:=by rw[Ho,if_neg h]
  refine wf ?_
  refine A6 (fun h4=>?_) (fun h4=>?_)
  ·refine wf ?_
   refine U1 (l:= []) rfl rfl (by(conv=>lhs;whnf);done) (h1:=(by first|infer_instance|fail)) (by simp) fun t' u=>?_
   refine wf ?_
   exact⟨([⟨c.file,117,[]⟩],t'),by rw[e1,if_pos h4],⟨rfl,rfl,rfl⟩,.refl _⟩
  rw[if_neg h4]at e1
  refine wf ?_
  refine Ca (σ:=Unit) (fun _=>True) (fun _=> [(1,.pt (eChg c) 0),(3,.raw (.pointer (some ⟨b3,0,none⟩))),(4,.clo 115 [.raw (.pointer (some ⟨b3,0,none⟩))]),(24,.raw (.bool (decide (c.kind=5∨c.kind=6))))]) (fun _=> .box b3 90 [.slice [] .nil]:: .tok .nil 0 34::LF) ?_ ?_
  ·refine A6 (fun h=>?_) (fun h=>?_)
   ·refine wf ?_
    exact⟨(),trivial,⟨rfl,rfl,rfl,Bh (by rfl) (by simp[h])⟩,.refl _⟩
   ·refine wf ?_
    exact⟨(),trivial,⟨rfl,rfl,rfl,Bh (by rfl) (by simp[h])⟩,.refl _⟩
  intro _ _
  refine A6 (fun h5=>?_) (fun h5=>?_)
  ·refine wf ?_
   refine U1 (l:= []) rfl rfl (by(conv=>lhs;whnf);done) (h1:=(by first|infer_instance|fail)) (by simp) fun t' u=>?_
   refine wf ?_
   exact⟨([⟨c.file,118,[]⟩],t'),by rw[e1,if_pos h5],⟨rfl,rfl,rfl⟩,.refl _⟩
  ·refine wf ?_
   exact⟨([],.nil),by rw[e1,if_neg h5],⟨rfl,rfl,rfl⟩,.refl _⟩
 rintro⟨l1,t1⟩ hl1
 dsimp only at hl1 ⊢
 subst hl1
 refine ws ?_
 refine BG [(39,.raw (.bool (decide (c.kind=2∧c.parent≠⟨Dig.zero,-1⟩)))),(1,.pt (eChg c) 0),(3,.raw (.pointer (some ⟨b3,0,none⟩))),(4,.clo 115 [.raw (.pointer (some ⟨b3,0,none⟩))])] (.box b3 90 [.slice ((Ho c).map eRfc) t1]:: .tok t1 (Ho c).length 34::LF) ?_ ?_
 ·repeat' (first|(refine A6 (fun h=>?_) (fun h=>?_)<;>refine wf ?_)|(refine AR (fun h=>?_) (fun h=>?_)<;>refine wf ?_)|(refine AO (fun h=>?_) (fun h=>?_)<;>refine wf ?_)|(refine Ao (fun h=>?_) (fun h=>?_)<;>(have h2:=h;(try simp only[AA,A8,AF,AJ]at h2);refine wf ?_)))
  all_goals (refine⟨⟨Bh (by rfl) ?_,rfl,rfl,rfl⟩,.refl _⟩;first|(simp_all;done)|grind)
 refine Ca (σ:=List Rfc × CD) (fun s=>s.1=Ho c++KZ c) (fun s=> [(1,.pt (eChg c) 0),(3,.raw (.pointer (some ⟨b3,0,none⟩))),(4,.clo 115 [.raw (.pointer (some ⟨b3,0,none⟩))])]) (fun s=> .box b3 90 [.slice (s.1.map eRfc) s.2]:: .tok s.2 s.1.length 34::LF) ?_ ?_
 ·refine A6 (fun h=>?_) (fun h=>?_)
  ·refine wf ?_
   refine U1 rfl rfl (by(conv=>lhs;whnf);done) (h1:=(by first|infer_instance|fail)) (by omega) fun t' u=>?_
   refine wf ?_
   exact⟨(Ho c++ [⟨c.parent,120,[]⟩],t'),by rw[KZ,if_pos h],⟨rfl,rfl,rfl⟩,.refl _⟩
  ·refine wf ?_
   exact⟨(Ho c,t1),by rw[KZ,if_neg h];simp,⟨rfl,rfl,rfl⟩,.refl _⟩
 rintro⟨l1,t2⟩ hl1
 dsimp only at hl1 ⊢
 subst hl1
 refine ws ?_
 refine BG [(51,.raw (.bool (decide (c.kind=5∨c.kind=6)))),(1,.pt (eChg c) 0),(3,.raw (.pointer (some ⟨b3,0,none⟩))),(4,.clo 115 [.raw (.pointer (some ⟨b3,0,none⟩))])] (.box b3 90 [.slice ((Ho c++KZ c).map eRfc) t2]:: .tok t2 (Ho c++KZ c).length 34::LF) ?_ ?_
 ·repeat' (first|(refine A6 (fun h=>?_) (fun h=>?_)<;>refine wf ?_)|(refine AR (fun h=>?_) (fun h=>?_)<;>refine wf ?_)|(refine AO (fun h=>?_) (fun h=>?_)<;>refine wf ?_)|(refine Ao (fun h=>?_) (fun h=>?_)<;>(have h2:=h;(try simp only[AA,A8,AF,AJ]at h2);refine wf ?_)))
  all_goals (refine⟨⟨Bh (by rfl) ?_,rfl,rfl,rfl⟩,.refl _⟩;first|(simp_all;done)|grind)
 refine Ca (σ:=List Rfc × CD) (fun s=>s.1=Ho c++KZ c++PN c) (fun s=> [(1,.pt (eChg c) 0),(3,.raw (.pointer (some ⟨b3,0,none⟩))),(4,.clo 115 [.raw (.pointer (some ⟨b3,0,none⟩))])]) (fun s=> .box b3 90 [.slice (s.1.map eRfc) s.2]:: .tok s.2 s.1.length 34::LF) ?_ ?_
 ·refine A6 (fun h=>?_) (fun h=>?_)
  ·refine wf ?_
   refine U1 rfl rfl (by(conv=>lhs;whnf);done) (h1:=(by first|infer_instance|fail)) (by simp only[AD];omega) fun t' u=>?_
   refine wf ?_
   refine U1 rfl rfl (by(conv=>lhs;whnf);done) (h1:=(by first|infer_instance|fail)) (by simp only[AD,AN,Ae];omega) fun t' u=>?_
   refine wf ?_
   exact⟨(Ho c++KZ c++ [⟨c.after,121,[.pt (eChg c) 0]⟩]++ [⟨c.before,121,[.pt (eChg c) 0]⟩],t'),by rw[PN,if_pos h];simp,⟨rfl,rfl,rfl⟩,.refl _⟩
  ·refine wf ?_
   exact⟨(Ho c++KZ c,t2),by rw[PN,if_neg h];simp,⟨rfl,rfl,rfl⟩,.refl _⟩
 rintro⟨l1,t3⟩ hl1
 dsimp only at hl1 ⊢
 have hl3:l1.length≤4:=by rw[hl1];simp only[AD];omega
 refine wf ?_
 refine AZ (σ:=Nat × List Rfc × CD) (fun k=>k.1≤c.over.length∧k.2.1=l1++NX c (c.over.take k.1)) (fun k=>c.over.length - k.1) (fun k=> [(1,.pt (eChg c) 0),(3,.raw (.pointer (some ⟨b3,0,none⟩))),(4,.clo 115 [.raw (.pointer (some ⟨b3,0,none⟩))]),(64,.slice (c.over.map eIdent) .ro),(65,.raw (.int .i64 c.over.length)),(66,.raw (.int .i64 k.1))]) (fun k=> .box b3 90 [.slice (k.2.1.map eRfc) k.2.2]:: .tok k.2.2 k.2.1.length 34::LF) (0,l1,t3) ⟨by simp,by simp[NX]⟩ ⟨rfl,rfl,rfl,rfl,rfl,rfl⟩ (.refl _) ?_
 rintro⟨k,m,t4⟩ ⟨hk,hm⟩
 dsimp only at hk hm ⊢
 have hml:m.length≤404:=by rw[hm,NX];simp only[AD,AQ,Ab];omega
 refine wf ?_
 refine A6 (fun hc=>?_) (fun hc=>?_)
 ·have hlt:k < c.over.length:=by omega
  refine wz fun b7=>?_
  refine B2 7 ?_
  refine wf ?_
  refine U1 rfl rfl (by(conv=>lhs;whnf);done) (h1:=(by first|infer_instance|fail)) (by omega) fun t' u=>?_
  refine wf ?_
  refine⟨(k+1,m++ [⟨c.over[k],122,[.pt (eChg c) 0]⟩],t'),⟨by dsimp only;omega,?_⟩,by dsimp only;omega,⟨rfl,rfl,rfl,rfl,rfl,rfl⟩,.refl _⟩
  dsimp only
  rw[hm,NX,NX,A7 hlt,Au,AV];rfl
 ·rw[AB (by omega)]at hm
  refine wf ?_
  refine Aw (.ros ?_)
  rw[hm,hl1];rfl⟩
theorem Gi {α:Type} (f:α→Int): ∀ a b:List α,Az f (a++b)=if Az f a≠0 then Az f a else Az f b
 | [],b=>by simp[Az]
 |x::a,b=>by
  simp only[B3,Az,Gi f a b]
  by_cases h:f x=0<;>simp[h]
theorem Qj {α β:Type} (f:β→Int) (g:α→β): ∀ l:List α,Az f (l.map g)=Az (fun x=>f (g x)) l
 | []=>rfl
 |x::l=>by simp only[Aq,Az,Qj f g l]
theorem GM {α:Type} {f g:α→Int}: ∀ {l:List α},(∀ x∈l,f x=g x)→Az f l=Az g l
 | [],_=>rfl
 |x::l,h=>by
  rw[Az,Az,h x (by simp),GM (fun y hy=>h y (AL _ hy))]
def Nb (c:Chg) (f:Nat):Atm→Bool:=
 if f=116 then wx else if f=117 then vI else if f=118 then vH else if f=120 then o7 else if f=121 then wv c else wu c
theorem kp (c:Chg) (r:Rfc) (h:r∈Ek c):y6 Tryz.prog r (Nb c r.f):=by
 simp only[Ek,Ah]at h
 rcases h with ((h|h)|h)|h
 ·unfold Ho at h
  split at h
  ·simp at h;subst h;exact⟨inferInstance,fun a=>(tF a).out⟩
  ·split at h
   ·simp at h;subst h;exact⟨inferInstance,fun a=>(tE a).out⟩
   ·split at h
    ·simp at h;subst h;exact⟨inferInstance,fun a=>(tD a).out⟩
    ·simp at h
 ·unfold KZ at h
  split at h
  ·simp at h;subst h;exact⟨inferInstance,fun a=>(tC a).out⟩
  ·simp at h
 ·unfold PN at h
  split at h
  ·simp at h
   rcases h with h|h<;>subst h<;>exact⟨inferInstance,fun a=>(tB c a).out⟩
  ·simp at h
 ·unfold NX at h
  obtain⟨x,_,rfl⟩:=AY.1 h
  exact⟨inferInstance,fun a=>(tA c a).out⟩
def O0 (c:Chg) (own:List Atm) (r:Rfc):Int:=
 if r.id.n < 0∨(r.id.patch=Dig.zero∧(own.length:Int)≤r.id.n)∨100000≤r.id.n then 7 else if r.id.patch=Dig.zero∧Nb c r.f (own.getD r.id.n.toNat Atm.zero)=false then 8 else 0
def RN (c:Chg) (own:List Atm):Int:=
 if Az (O0 c own) (Ek c)≠0 then Az (O0 c own) (Ek c)else if c.kind=2∧c.parent=c.file then 20 else
 if(c.kind=6∧c.after=c.before)∨(c.kind=5∧c.after=c.before∧c.after≠c.file)then 1 else 0
def Nf (own:List Atm):Prop:= ∀ i (h:i < own.length),own[i].id=⟨Dig.zero,i⟩
theorem Ly (c:Chg) (own:List Atm) (hl:own.length≤100000) (x:Ident) (f:Nat) (cs:List PV):O0 c own ⟨x,f,cs⟩=J6 x own (Nb c f (ME own x)):=by
 by_cases h:x.patch=Dig.zero
 ·by_cases h1:0≤x.n∧x.n < own.length
  ·have n1: ¬(x.n < 0∨(x.patch=Dig.zero∧(own.length:Int)≤x.n)∨100000≤x.n):=by rintro(h2|⟨_,h2⟩|h2)<;>omega
   have ha:Dk x own.length=true:=by unfold Dk;rw[if_pos h];simp[h1]
   unfold O0 J6 ME
   dsimp only
   rw[if_neg n1,ha,if_pos (show x.patch=Dig.zero∧0≤x.n from⟨h,h1.1⟩)]
   simp only[Bool.true_eq_false,if_false]
  ·have n1:x.n < 0∨(x.patch=Dig.zero∧(own.length:Int)≤x.n)∨100000≤x.n:=by
    by_cases h2:x.n < 0
    ·exact .inl h2
    ·exact .inr (.inl ⟨h,by omega⟩)
   have ha:Dk x own.length=false:=by
    unfold Dk;rw[if_pos h]
    by_cases h2:0≤x.n
    ·have: ¬x.n < own.length:=fun h3=>h1 ⟨h2,h3⟩
     simp[this]
    ·simp[h2]
   unfold O0 J6
   dsimp only
   rw[if_pos n1,if_pos ha]
 ·by_cases h1:0≤x.n∧x.n < 100000
  ·have n1: ¬(x.n < 0∨(x.patch=Dig.zero∧(own.length:Int)≤x.n)∨100000≤x.n):=by
    rintro(h2|⟨h2,_⟩|h2)
    ·omega
    ·exact h h2
    ·omega
   have ha:Dk x own.length=true:=by unfold Dk;rw[if_neg h];simp[h1]
   unfold O0 J6
   dsimp only
   rw[if_neg n1,ha]
   simp only[Bool.true_eq_false,if_false,h,false_and]
  ·have n1:x.n < 0∨(x.patch=Dig.zero∧(own.length:Int)≤x.n)∨100000≤x.n:=by omega
   have ha:Dk x own.length=false:=by
    unfold Dk;rw[if_neg h]
    by_cases h2:0≤x.n
    ·have: ¬x.n < 100000:=fun h3=>h1 ⟨h2,h3⟩
     simp[this]
    ·simp[h2]
   unfold O0 J6
   dsimp only
   rw[if_pos n1,if_pos ha]
theorem TR {x:Ident} {own:List Atm} {a b:Bool} (h:x.patch=Dig.zero→0≤x.n→x.n < own.length→a=b):J6 x own a=J6 x own b:=by
 unfold J6
 by_cases h1:Dk x own.length=false
 ·rw[if_pos h1,if_pos h1]
 rw[if_neg h1,if_neg h1]
 by_cases h2:x.patch=Dig.zero
 ·have h3:Dk x own.length=true:=by simpa using h1
  unfold Dk at h3
  simp only[h2,if_true,BQ,AA]at h3
  rw[h h2 h3.1 h3.2]
 ·rw[if_neg (fun h3=>h2 h3.1),if_neg (fun h3=>h2 h3.1)]
theorem Jn {c:Chg} (h:C0 c=0):1≤c.kind∧c.kind≤7:=by
 unfold C0 at h
 by_cases h1:c.kind < 1∨7 < c.kind
 ·rw[if_pos h1]at h;omega
 ·omega
theorem KI {c:Chg} (h:C0 c=0):Fg (Hp c)=true:=by
 have hk:=Jn h
 unfold C0 at h
 rw[if_neg (by omega)]at h
 by_cases h1:Fg (Hp c)=false
 ·rw[if_pos h1]at h;omega
 ·simpa using h1
theorem Jm {c:Chg} (h:C0 c=0) (hk:c.kind=1∨c.kind=5):c.over= []:=by
 have h2:=KI h
 unfold Fg Hp at h2
 simp only[BQ,AA]at h2
 have h3:=h2.2
 rw[if_neg (by omega)]at h3
 exact BA (by omega)
theorem SQ {c:Chg} (h:C0 c=0):c.over.length≤400:=by
 have h0:=Jm h
 have hk:c.kind=5∨c.kind≠5:=by omega
 rcases hk with hk|hk
 ·rw[h0 (.inr hk)];simp
 clear h0
 unfold C0 at h
 generalize Fg (Hp c)=a1 at h
 generalize Je c.name=a2 at h
 generalize Ph c.over=a3 at h
 generalize Mw c.lines=a4 at h
 rcases BN 400 c.over.length with hc|hc
 ·exfalso
  have hc':400 < (c.over.length:Int):=by omega
  rw[if_pos hc',if_neg hk]at h
  by_cases g1:c.kind < 1∨7 < c.kind
  ·rw[if_pos g1]at h;exact absurd h (by decide)
  rw[if_neg g1]at h
  by_cases g2:a1=false
  ·rw[if_pos g2]at h;exact absurd h (by decide)
  rw[if_neg g2]at h
  by_cases g3:c.kind=1∧(c.type < 1∨4 < c.type)
  ·rw[if_pos g3]at h;exact absurd h (by decide)
  rw[if_neg g3]at h
  by_cases g4:c.kind=2∧a2=false
  ·rw[if_pos g4]at h;exact absurd h (by decide)
  rw[if_neg g4]at h
  by_cases g5:c.kind=3∧(c.mode < 0∨511 < c.mode)
  ·rw[if_pos g5]at h;exact absurd h (by decide)
  rw[if_neg g5]at h
  by_cases g6:65536 < (c.data.length:Int)
  ·rw[if_pos g6]at h;exact absurd h (by decide)
  rw[if_neg g6]at h
  by_cases g7:c.kind=7∧(c.over.length:Int)=0
  ·rw[if_pos g7]at h;exact absurd h (by decide)
  rw[if_neg g7]at h
  exact absurd h (by decide)
 ·exact hc
theorem jc {c:Chg} {own:List Atm} (hf:C0 c=0) (hl:own.length≤100000) (hi:Nf own):RN c own=Ey c own:=by
 have hk:=Jn hf
 have e1:Az (O0 c own) (Ho c)=K4 c own:=by
  unfold Ho K4
  by_cases h1:c.kind=2∨c.kind=3
  ·have:wx=EK c.kind:=by
    funext a;unfold wx EK IX
    rcases h1 with h|h<;>simp[h]
   rw[if_pos h1,if_pos (by omega),Az,Az,Ly c own hl,show Nb c 116=wx from rfl,this]
   split<;>simp_all
  by_cases h2:c.kind=4
  ·have:vI=EK c.kind:=by
    funext a;unfold vI EK IX
    simp[h2]<;>(by_cases ha:a.kind=1<;>simp[ha])
   rw[if_neg h1,if_pos h2,if_pos (by omega),Az,Az,Ly c own hl,show Nb c 117=vI from rfl,this]
   split<;>simp_all
  by_cases h3:c.kind=5∨c.kind=6
  ·have:vH=EK c.kind:=by
    funext a;unfold vH EK IX
    rcases h3 with h|h<;>simp[h]<;>by_cases ha:a.kind=1<;>simp[ha]
   rw[if_neg h1,if_neg h2,if_pos h3,if_pos (by omega),Az,Az,Ly c own hl,show Nb c 118=vH from rfl,this]
   split<;>simp_all
  ·rw[if_neg h1,if_neg h2,if_neg h3,if_neg (by omega)];rfl
 have e2:Az (O0 c own) (KZ c)=Lz c own:=by
  unfold KZ Lz rRoot
  by_cases h1:c.kind=2∧c.parent≠⟨Dig.zero,-1⟩
  ·rw[if_pos h1,if_pos h1,Az,Az,Ly c own hl,show Nb c 120=o7 from rfl,show o7=rDirectory from rfl]
   split<;>simp_all
  ·rw[if_neg h1,if_neg h1];rfl
 have e6: ∀ x:Ident,O0 c own ⟨x,121,[.pt (eChg c) 0]⟩=QK c own x:=fun x=>by
  rw[Ly c own hl,show Nb c 121=wv c from rfl,QK]
  refine TR fun h1 h2 h3=>?_
  have h4:x.n.toNat < own.length:=by omega
  have e:(ME own x).id=x:=by
   unfold ME
   rw[if_pos ⟨h1,h2⟩]
   have:own.getD x.n.toNat Atm.zero=own[x.n.toNat]:=by simp[List.getD,h4]
   rw[this,hi _ h4]
   obtain⟨p,n⟩:=x
   simp only at h1 h2 ⊢
   subst h1
   congr 1
   omega
  unfold wv
  rw[e];rfl
 have e3:Az (O0 c own) (PN c)=IJ c own:=by
  unfold PN IJ
  by_cases h1:c.kind=5∨c.kind=6
  ·have:IX c.kind=true:=by unfold IX;rcases h1 with h|h<;>simp[h]
   rw[if_pos h1,if_pos this]
   simp only[Az,e6]
  ·have: ¬IX c.kind=true:=by unfold IX;intro h;simp at h;exact h1 h
   rw[if_neg h1,if_neg this];rfl
 have e4:Az (O0 c own) (NX c c.over)=Az (O2 c own) c.over:=by
  unfold NX
  rw[Qj]
  refine GM fun x hx=>?_
  rw[Ly c own hl,show Nb c 122=wu c from rfl,O2]
  refine TR fun _ _ _=>?_
  have h15:c.kind≠1∧c.kind≠5:=⟨fun h=>(by rw[Jm hf (.inl h)]at hx;simp at hx),fun h=>(by rw[Jm hf (.inr h)]at hx;simp at hx)⟩
  unfold wu HH TI iB
  by_cases h7:c.kind=7
  ·simp[h7]
  ·have:c.kind=2∨c.kind=3∨c.kind=4∨c.kind=6:=by omega
   rw[if_pos this,if_neg h7]
   simp[h7]
   omega
 unfold RN Ey
 rw[Ek,Gi,Gi,Gi,e1,e2,e3,e4]
 have e5:((c.kind=6∧c.after=c.before)∨(c.kind=5∧c.after=c.before∧c.after≠c.file))↔((IX c.kind=true∧c.after=c.before)∧(c.kind=6∨c.after≠c.file)):=by
  unfold IX
  simp only[qH,AA]
  constructor
  ·rintro(⟨h1,h2⟩|⟨h1,h2,h3⟩)
   ·exact⟨⟨.inr h1,h2⟩,.inl h1⟩
   ·exact⟨⟨.inl h1,h2⟩,.inr h3⟩
  ·rintro⟨⟨h1|h1,h2⟩,h3⟩
   ·rcases h3 with h3|h3
    ·omega
    ·exact .inr ⟨h1,h2,h3⟩
   ·exact .inl ⟨h1,h2⟩
 simp only[e5]
 by_cases a1:K4 c own=0<;>by_cases a2:Lz c own=0<;>by_cases a3:IJ c own=0<;>by_cases a4:Az (O2 c own) c.over=0<;>simp[a1,a2,a3,a4]
theorem VV {c:Chg} (h:c.over.length≤400):(Ek c).length≤404:=by
 have r1:=VY c
 have r2:=VX c
 have r3:=VW c
 rw[Ek,NX];simp only[AD,AQ];omega
theorem Xm (c:Chg) (own:List Atm) (t:CD) (hov:c.over.length≤400) (hol:own.length≤100000):Q.Fn Tryz.prog 143 [.agg (eChg c),.slice (own.map eAtm) t] (.raw (.int .i64 (RN c own))):=by
 have i0:Ay (c.over.length≤400):=⟨hov⟩
 have hrl:=VV hov
 refine Av Tryz.func143 Tryz.ntmps143 rfl (rs:= [.tmp 4]) rfl rfl fun hb LF=>?_
 refine wf ?_
 refine AZ (σ:=Nat) (fun k=>k≤(Ek c).length∧ ∀ i (h:i < (Ek c).length),i < k→O0 c own (Ek c)[i]=0) (fun k=>(Ek c).length - k) (fun k=> [(1,.slice (own.map eAtm) t),(2,.pt (eChg c) 0),(8,.slice ((Ek c).map eRfc) .ro),(9,.raw (.int .i64 (Ek c).length)),(10,.raw (.int .i64 k))]) (fun _=>LF) 0 ⟨by simp,by simp⟩ ⟨rfl,rfl,rfl,rfl,rfl⟩ (.refl _) ?_
 rintro k ⟨hk,he⟩
 refine wf ?_
 refine A6 (fun hc=>?_) (fun hc=>?_)
 ·have hlt:k < (Ek c).length:=by omega
  have hat:=DW (f:=O0 c own) hlt he
  have hsu:=fun h=>E9 (f:=O0 c own) he hlt h
  have hfit:=kp c _ (AH hlt)
  refine wz fun b6=>?_
  generalize (Ek c)[k]=r at hat hsu hfit ⊢
  refine B2 6 ?_
  have i1:B1 Tryz.prog r.f:=hfit.fn
  have i2: ∀ a:Atm,C9 Tryz.prog r.f (.agg (eAtm a)::r.cs) (.raw (.bool (Nb c r.f a))):=fun a=>⟨hfit.out a⟩
  have er:O0 c own r=if r.id.n < 0∨(r.id.patch=Dig.zero∧(own.length:Int)≤r.id.n)∨100000≤r.id.n then 7 else if r.id.patch=Dig.zero∧Nb c r.f (own.getD r.id.n.toNat Atm.zero)=false then 8 else 0:=rfl
  refine wf ?_
  refine Ca (σ:=Unit) (fun _=>True) (fun _=> [(1,.slice (own.map eAtm) t),(2,.pt (eChg c) 0),(6,.pt (eRfc r) 0),(8,.slice ((Ek c).map eRfc) .ro),(9,.raw (.int .i64 (Ek c).length)),(10,.raw (.int .i64 k)),(14,.raw (.bool (decide (r.id.n < 0∨(r.id.patch=Dig.zero∧(own.length:Int)≤r.id.n)∨100000≤r.id.n))))]) (fun _=>LF) ?_ ?_
  ·refine A6 (fun h=>?_) (fun h=>?_)
   ·refine wf ?_
    exact⟨(),trivial,⟨rfl,rfl,rfl,rfl,rfl,rfl,Bh (by rfl) (by simp[h])⟩,.refl _⟩
   ·refine wf ?_
    refine BG [(14,.raw (.bool (decide (r.id.patch=Dig.zero∧(own.length:Int)≤r.id.n)))),(1,.slice (own.map eAtm) t),(2,.pt (eChg c) 0),(6,.pt (eRfc r) 0),(8,.slice ((Ek c).map eRfc) .ro),(9,.raw (.int .i64 (Ek c).length)),(10,.raw (.int .i64 k))] (LF) ?_ ?_
    ·repeat' (first|(refine A6 (fun h=>?_) (fun h=>?_)<;>refine wf ?_)|(refine AR (fun h=>?_) (fun h=>?_)<;>refine wf ?_)|(refine AO (fun h=>?_) (fun h=>?_)<;>refine wf ?_)|(refine Ao (fun h=>?_) (fun h=>?_)<;>(have h2:=h;(try simp only[AA,A8,AF,AJ]at h2);refine wf ?_)))
     all_goals (refine⟨⟨Bh (by rfl) ?_,rfl,rfl,rfl,rfl,rfl,rfl⟩,.refl _⟩;first|(simp_all;done)|(clear hat hsu hfit er he;grind))
    refine wf ?_
    refine A6 (fun h2=>?_) (fun h2=>?_)
    ·refine wf ?_
     exact⟨(),trivial,⟨rfl,rfl,rfl,rfl,rfl,rfl,Bh (by rfl) (by simp[h2])⟩,.refl _⟩
    ·refine wf ?_
     have e8:(100000≤r.id.n)↔(r.id.n < 0∨(r.id.patch=Dig.zero∧(own.length:Int)≤r.id.n)∨100000≤r.id.n):=⟨fun h=> .inr (.inr h),fun h3=>by
      rcases h3 with h3|h3|h3
      ·exact absurd h3 h
      ·exact absurd h3 h2
      ·exact h3⟩
     exact⟨(),trivial,⟨rfl,rfl,rfl,rfl,rfl,rfl,Bh (by rfl) (by rw[decide_eq_decide];exact e8)⟩,.refl _⟩
  intro _ _
  refine A6 (fun h=>?_) (fun h=>?_)
  ·refine wf ?_
   refine Aw (.of_eq ?_)
   rw[if_pos h]at er
   rw[RN,hat (by rw[er];decide),er];rfl
  rw[if_neg h]at er
  refine wf ?_
  refine BG [(34,.raw (.bool (decide (r.id.patch=Dig.zero∧Nb c r.f (own.getD r.id.n.toNat Atm.zero)=false)))),(1,.slice (own.map eAtm) t),(2,.pt (eChg c) 0),(8,.slice ((Ek c).map eRfc) .ro),(9,.raw (.int .i64 (Ek c).length)),(10,.raw (.int .i64 k))] LF ?_ ?_
  ·refine Ao (fun hp=>?_) (fun hp=>?_)
   ·have hp2:=BP hp
    have g1:0≤r.id.n:=by
     rcases Ue r.id.n 0 with h'|h'
     ·exact absurd (.inl h') h
     ·exact h'
    have g2:r.id.n < own.length:=by
     rcases Ue r.id.n own.length with h'|h'
     ·exact h'
     ·exact absurd (.inr (.inl ⟨hp2,h'⟩)) h
    have g3:own.getD r.id.n.toNat Atm.zero=own[r.id.n.toNat]'(by omega):=by
     have:r.id.n.toNat < own.length:=by omega
     simp[List.getD,this]
    refine wf ?_
    exact⟨⟨Bh (by rfl) (by rw[g3];simp[hp2]),rfl,rfl,rfl,rfl,rfl⟩,.refl _⟩
   ·have hp2:=Bl hp
    refine wf ?_
    exact⟨⟨Bh (by rfl) (by simp[hp2]),rfl,rfl,rfl,rfl,rfl⟩,.refl _⟩
  refine wf ?_
  refine A6 (fun h2=>?_) (fun h2=>?_)
  ·refine wf ?_
   refine Aw (.of_eq ?_)
   rw[if_pos h2]at er
   rw[RN,hat (by rw[er];decide),er];rfl
  ·rw[if_neg h2]at er
   refine wf ?_
   exact⟨k+1,⟨by omega,hsu er⟩,by dsimp only;omega,⟨rfl,rfl,rfl,rfl,rfl⟩,.refl _⟩
 have e0:Az (O0 c own) (Ek c)=0:=E3 fun i h=>he i h (by omega)
 rw[RN,if_neg (by simp[e0])]
 clear e0 he hk hc
 refine wf ?_
 refine BG [(51,.raw (.bool (decide (c.kind=2∧c.parent=c.file)))),(2,.pt (eChg c) 0)] (LF) ?_ ?_
 ·repeat' (first|(refine A6 (fun h=>?_) (fun h=>?_)<;>refine wf ?_)|(refine AR (fun h=>?_) (fun h=>?_)<;>refine wf ?_)|(refine AO (fun h=>?_) (fun h=>?_)<;>refine wf ?_)|(refine Ao (fun h=>?_) (fun h=>?_)<;>(have h2:=h;(try simp only[AA,A8,AF,AJ]at h2);refine wf ?_)))
  all_goals (refine⟨⟨Bh (by rfl) ?_,rfl⟩,.refl _⟩;first|(simp_all;done)|grind)
 refine wf ?_
 refine A6 (fun h=>?_) (fun h=>?_)
 ·refine wf ?_
  refine Aw (.of_eq ?_)
  rw[if_pos h]
 rw[if_neg h]
 refine wf ?_
 refine BG [(62,.raw (.bool (decide (c.kind=6∧c.after=c.before)))),(2,.pt (eChg c) 0)] (LF) ?_ ?_
 ·repeat' (first|(refine A6 (fun h=>?_) (fun h=>?_)<;>refine wf ?_)|(refine AR (fun h=>?_) (fun h=>?_)<;>refine wf ?_)|(refine AO (fun h=>?_) (fun h=>?_)<;>refine wf ?_)|(refine Ao (fun h=>?_) (fun h=>?_)<;>(have h2:=h;(try simp only[AA,A8,AF,AJ]at h2);refine wf ?_)))
  all_goals (refine⟨⟨Bh (by rfl) ?_,rfl⟩,.refl _⟩;first|(simp_all;done)|grind)
 refine wf ?_
 refine Ca (σ:=Unit) (fun _=>True) (fun _=> [(62,.raw (.bool (decide ((c.kind=6∧c.after=c.before)∨(c.kind=5∧c.after=c.before∧c.after≠c.file)))))]) (fun _=>LF) ?_ ?_
 ·refine A6 (fun h=>?_) (fun h=>?_)
  ·refine wf ?_
   exact⟨(),trivial,Bh (by rfl) (by simp[h]),.refl _⟩
  ·refine wf ?_
   repeat' (first|(refine A6 (fun h=>?_) (fun h=>?_)<;>refine wf ?_)|(refine AR (fun h=>?_) (fun h=>?_)<;>refine wf ?_)|(refine AO (fun h=>?_) (fun h=>?_)<;>refine wf ?_)|(refine Ao (fun h=>?_) (fun h=>?_)<;>(have h2:=h;(try simp only[AA,A8,AF,AJ]at h2);refine wf ?_)))
   all_goals (refine⟨(),trivial,Bh (by rfl) ?_,.refl _⟩;first|(simp_all;done)|grind)
 intro _ _
 refine A6 (fun h=>?_) (fun h=>?_)
 ·refine wf ?_
  refine Aw (.of_eq ?_)
  rw[if_pos h]
 ·refine wf ?_
  refine Aw (.of_eq ?_)
  rw[if_neg h]
instance bz (c:Chg) (own:List Atm) (t:CD) [hs:Ay (C0 c=0∧own.length≤100000∧Nf own)]:C9 Tryz.prog 143 [.agg (eChg c),.slice (own.map eAtm) t] (.raw (.int .i64 (Ey c own))):=⟨by
 obtain⟨h1,h2,h3⟩:=hs.out
 rw[←jc h1 h2 h3]
 exact Xm c own t (SQ h1) h2⟩
end Go.Proofs
