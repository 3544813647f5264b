/- Contracts of the program: digests of strings (sha256), continued: the blocks of a padded message. -/
import Derived.Test.YtaibdmankdppkaaGreatDoorXaj
import Derived.Test.YtaibdmankdppkaaGreatDoorXae
import Derived.Test.YtaibdmankdppkaaGreatDoorXaf
import Derived.Test.YtaibdmankdppkaaGreatDoorXah
import Derived.Test.YtaibdmankdppkaaGreatDoorXai
set_option linter.unusedSimpArgs false
set_option linter.unusedVariables false
set_option maxHeartbeats 8000000
namespace Go.Q
open Go
section
variable {P:Program} {N:Nat} {all:Array Oper} {K:Env→List Res→Prop} {fl:List Bool} {os:List Oper} {ρ:Env} {L:List Res} {d:Nat} {ty:TypeId} {pos:String} {af:Array Edge}
theorem mM {T T':TypeId} {x y:Operand} {a b:Nat} (hx:ρ.ev x= .raw (.int .u64 (a:Int))) (hy:ρ.ev y= .raw (.int .i64 (b:Int))) (k:AQ P N all K fl.tail os (CT ρ d (.raw (.int .u64 ((a / 2 ^ (min b 64):Nat):Int)))) L) (hd:Nat.blt d N=true:=by rfl):
  AQ P N all K fl (⟨some d,.binOp .shr T x y T',ty,pos,af,none⟩::os) ρ L:=Gi hx hy (fun w=>by
   have h0: ¬(b:Int) < 0:=by omega
   simp only[binOp,Op.shift,h0,if_false,IntKind.bits,E0]
   rw[Qc];rfl) k hd
theorem mY {T E sz by_:Nat} [hT:ML P T E] [hE:Ed P E sz by_] {x y z:Operand} {α:Type} {f:α→List PV} [hf:NR f sz] {l:List α} {t:CN} {k1 k2:IntKind} {i j:Nat} (hx:ρ.ev x= .slice (l.map f) t) (hy:ρ.ev y= .raw (.int k1 (i:Int))) (hz:ρ.ev z= .raw (.int k2 (j:Int))) (hij:i≤j) (hj:j≤l.length)
  (k:AQ P N all K fl.tail os (CT ρ d (.slice (((l.drop i).take (j - i)).map f) .ro)) L) (hd:Nat.blt d N=true:=by rfl):AQ P N all K fl (⟨some d,.slice T x (some y) (some z) none,ty,pos,af,none⟩::os) ρ L:=
 Bh hd (WH i j hx hij (by simpa using hj) (fun e he=>by obtain⟨a,_,rfl⟩:=AO.1 he;exact hf.out a) (fun o e=>by cases e;exact⟨_,hy⟩) (by simp) (fun o e=>by cases e;exact⟨_,hz⟩) (by simp)) (by
  rw[←List.map_drop,←xD];exact k)
end
end Go.Q
namespace Go.Proofs
open Go Go.Q
attribute [local irreducible] ER AQ BG Fu
def oU (m:Str) (k:Nat):Str:=(m.drop (64*k)).take 64
def zC (s:Str):List PV:= [.str s]
def O7 (s:Str):List Str:=(List.range ((JC s).length / 64)).map (oU (JC s))
theorem iy (s:Str):(JC s).length % 64=0:=by rw[Sw];omega
theorem Sv (s:Str) (n:Nat) (h:n≤s.length):(JC s).drop n=(s.drop n++ [128])++List.replicate ((120 - (s.length+1) % 64) % 64) 0++FL (s.length*8) 8:=by
 unfold JC
 rw[AV,AV,List.drop_append_of_le_length h,AV,AV]
theorem fZ {s:Str} {k:Nat} (h:64*k+64≤s.length):oU (JC s) k=(s.drop (64*k)).take 64:=by
 unfold oU
 rw[Sv s (64*k) (by omega),AV,AV,IH (by rw[BB];omega)]
theorem Ve (s:Str) {k:Nat} (h:k < (JC s).length / 64):(O7 s).take (k+1)=(O7 s).take k++ [oU (JC s) k]:=by
 have hl:k < (O7 s).length:=by simpa [O7]using h
 rw[A7 hl]
 simp[O7]
theorem QO (n j:Nat):FL n (j+1)=FL n j++ [UInt8.ofNat (n / 2 ^ (min (8*(7 - j)) 64))]:=by
 rw[FL,FL,E8,An];rfl
theorem ZR (s:Str) (hs:s.length≤1000000):dT Tryz.prog 231 [.pt [.str s] 0] zC (O7 s):=by
 have hpl:=Sw s
 have hpm:=iy s
 obtain⟨q,hq⟩: ∃ q,q=s.length / 64:=⟨_,rfl⟩
 have hq1:64*q≤s.length:=by omega
 have hq2:s.length < 64*q+64:=by omega
 have hn:q < (JC s).length / 64:=by omega
 intro l J Jx hY L hJ
 have e128:GI (.raw (.int .u8 128)) eBy (128:UInt8):=(inferInstance:GI (.raw (.int .u8 (((128:UInt8)).toNat:Int))) eBy 128)
 have e0:GI (.raw (.int .u8 0)) eBy (0:UInt8):=(inferInstance:GI (.raw (.int .u8 (((0:UInt8)).toNat:Int))) eBy 0)
 have hpre: ∀ k,(O7 s).take k <+:O7 s:=fun k=>List.take_prefix _ _
 refine CA Tryz.func231 rfl Tryz.ntmps231 (rs:= []) rfl rfl fun hb LF=>?_
 refine wf ?_
 refine gx (by rfl) (by rfl) (by decide) (by omega) ?_
 rw[show s.length / (@OfNat.ofNat Nat 64 _)=q from hq.symm]
 refine wf ?_
 refine Ab (σ:=Nat × List Res) (fun k=>k.1≤q∧J ((O7 s).take k.1) k.2) (fun k=>q - k.1) (fun k=> [(0,.raw (.func (.yield l) #[] #[])),(1,.pt [.str s] 0),(3,.raw (.int .i64 ((64*q:Nat):Int))),(4,.raw (.int .i64 ((64*k.1:Nat):Int)))]) (fun k=>k.2++LF) (0,L) ⟨by simp,hJ⟩ ⟨rfl,rfl,?_,rfl⟩ (.refl _) ?_
 ·show PV.raw (.int .i64 ((q:Int)*64))=_
  rw[show((q:Int)*64)=((64*q:Nat):Int) by omega]
 rintro⟨k,L1⟩ ⟨hk,hJ1⟩
 dsimp only at hk hJ1 ⊢
 refine wf ?_
 refine A6 (fun hc=>?_) (fun hc=>?_)
 ·have hkq:k < q:=by omega
  have hb:=fZ (s:=s) (k:=k) (by omega)
  have hbt:=Ve s (k:=k) (by omega)
  refine wf ?_
  refine W4 (ax:= .str s) (i:=64*k) (j:=64*k+64) rfl rfl (by show PV.raw (.int .i64 (((64*k:Nat):Int)+64))=_;rw[show(((64*k:Nat):Int)+64)=((64*k+64:Nat):Int) by omega]) (by omega) (by omega) (by omega) ?_
  rw[show 64*k+64 - 64*k=64 by omega,←hb]
  refine JQ L1 LF rfl rfl rfl (.refl _) _ (hY ((O7 s).take k) (oU (JC s) k) L1 (by rw[←hbt];exact hpre _) hJ1) fun bo L' hR=>?_
  refine wf ?_
  rw[←hbt]at hR
  rcases hR with ⟨rfl,hJ2⟩|⟨rfl,hJx⟩
  ·refine wf ?_
   refine⟨(k+1,L'),⟨by dsimp only;omega,hJ2⟩,by dsimp only;omega,⟨rfl,rfl,rfl,?_⟩,.refl _⟩
   show PV.raw (.int .i64 (((64*k:Nat):Int)+64))=_
   rw[show(((64*k:Nat):Int)+64)=((64*(k+1):Nat):Int) by omega]
  ·refine wf ?_
   exact⟨trivial,_,L',.nil,.refl _,.inr ⟨_,hJx⟩⟩
 ·have hkq:k=q:=by omega
  subst hkq
  refine wf ?_
  refine Ud (ax:= .str (s.drop (64*k))) rfl (by rw[BB];omega) fun t=>?_
  refine bW fun t1=>?_
  have hdl:(s.drop (64*k)).length=s.length - 64*k:=BB
  refine Ab (σ:=Nat × CN) (fun j=>j.1≤(120 - (s.length+1) % 64) % 64) (fun j=>(120 - (s.length+1) % 64) % 64 - j.1) (fun j=> [(0,.raw (.func (.yield l) #[] #[])),(1,.pt [.str s] 0),(5,.slice (((s.drop (64*k)++ [128])++List.replicate j.1 0).map eBy) j.2)]) (fun j=> .tok j.2 ((s.drop (64*k)++ [128])++List.replicate j.1 0).length 1::(L1++LF)) (0,t1) (by simp) ⟨rfl,rfl,?_⟩ ?_ ?_
  ·rw[List.replicate_zero,BU];rfl
  ·rw[List.replicate_zero,BU];exact .refl _
  rintro⟨j,t2⟩ hj
  dsimp only at hj ⊢
  have hjl:((s.drop (64*k)++ [128])++List.replicate j (0:UInt8)).length=s.length - 64*k+1+j:=by simp[hdl];omega
  refine wf ?_
  refine Zu (by rfl) (by rfl) (by decide) ?_
  refine wf ?_
  refine AX (fun hc2=>?_) (fun hc2=>?_)
  ·have hlt:j < (120 - (s.length+1) % 64) % 64:=by
    rcases BP j ((120 - (s.length+1) % 64) % 64)with h|h
    ·exact h
    ·exfalso
     apply hc2
     rw[hjl]
     omega
   generalize hmj:(s.drop (64*k)++ [128])++List.replicate j (0:UInt8)=mj at hjl ⊢
   refine bW fun t3=>?_
   refine⟨(j+1,t3),by dsimp only;omega,by dsimp only;omega,⟨rfl,rfl,?_⟩,?_⟩
   ·dsimp only
    rw[XQ,←AV,hmj];rfl
   ·dsimp only
    rw[XQ,←AV,hmj];exact .refl _
  have hjz:j=(120 - (s.length+1) % 64) % 64:=by
   rw[hjl]at hc2
   omega
  subst hjz
  generalize hm0:(s.drop (64*k)++ [128])++List.replicate ((120 - (s.length+1) % 64) % 64) (0:UInt8)=m0 at hjl ⊢
  refine wf ?_
  refine Ab (σ:=Nat × CN) (fun j=>j.1≤8) (fun j=>8 - j.1) (fun j=> [(0,.raw (.func (.yield l) #[] #[])),(1,.pt [.str s] 0),(5,.slice ((m0++FL (s.length*8) j.1).map eBy) j.2),(6,.raw (.int .i64 (56 - 8*(j.1:Int))))]) (fun j=> .tok j.2 (m0++FL (s.length*8) j.1).length 1::(L1++LF)) (0,t2) (by simp) ⟨rfl,rfl,?_,rfl⟩ ?_ ?_
  ·show _=PV.slice ((m0++ []).map eBy) _
   rw[BU];rfl
  ·show List.Sublist (_::_) (_::_)
   rw[show m0++FL (s.length*8) 0=m0 from BU _];exact .refl _
  rintro⟨j,t3⟩ hj8
  dsimp only at hj8 ⊢
  have hpt:(m0++FL (s.length*8) j).length=s.length - 64*k+1+(120 - (s.length+1) % 64) % 64+j:=by simp[FL,hjl]
  refine wf ?_
  refine A6 (fun hc3=>?_) (fun hc3=>?_)
  ·generalize hmj:m0++FL (s.length*8) j=mj at hpt ⊢
   refine wf ?_
   refine W2 (b:=8) (by rfl) (by rfl) (by omega) ?_
   refine wf ?_
   refine mM (b:=8*(7 - j)) (by rfl) (by show PV.raw (.int .i64 (56 - 8*(j:Int)))=_;rw[show(56 - 8*(j:Int))=((8*(7 - j):Nat):Int) by omega]) ?_
   refine bW fun t4=>?_
   refine⟨(j+1,t4),by dsimp only;omega,by dsimp only;omega,⟨rfl,rfl,?_,?_⟩,?_⟩
   ·dsimp only
    rw[QO,←AV,hmj];rfl
   ·show PV.raw (.int .i64 (56 - 8*(j:Int) - 8))=PV.raw (.int .i64 (56 - 8*((j+1:Nat):Int)))
    rw[show(56 - 8*(j:Int) - 8)=56 - 8*((j+1:Nat):Int) by omega]
   ·dsimp only
    rw[QO,←AV,hmj];exact .refl _
  have hj:j=8:=by omega
  subst hj
  have hm1:m0++FL (s.length*8) 8=(JC s).drop (64*k):=by rw[Sv s (64*k) hq1,←hm0]
  rw[hm1]at hpt ⊢
  refine wf ?_
  refine Ab (σ:=Nat × List Res) (fun i=>k+i.1≤(JC s).length / 64∧J ((O7 s).take (k+i.1)) i.2) (fun i=>(JC s).length / 64 - (k+i.1)) (fun i=> [(0,.raw (.func (.yield l) #[] #[])),(5,.slice (((JC s).drop (64*k)).map eBy) t3),(7,.raw (.int .i64 ((64*i.1:Nat):Int)))]) (fun i=>i.2++LF) (0,L1) ⟨by dsimp only;omega,hJ1⟩ ⟨rfl,rfl,rfl⟩ (.cons _ (.refl _)) ?_
  rintro⟨i,L2⟩ ⟨hi,hJ2⟩
  dsimp only at hi hJ2 ⊢
  refine wf ?_
  refine A6 (fun hc4=>?_) (fun hc4=>?_)
  ·have hbt:=Ve s (k:=k+i) (by omega)
   refine wf ?_
   refine mY (i:=64*i) (j:=64*i+64) rfl rfl (by show PV.raw (.int .i64 (((64*i:Nat):Int)+64))=_;rw[show(((64*i:Nat):Int)+64)=((64*i+64:Nat):Int) by omega]) (by omega) (by omega) ?_
   refine wf ?_
   have e:(((JC s).drop (64*k)).drop (64*i)).take (64*i+64 - 64*i)=oU (JC s) (k+i):=by
    rw[LV,oU,show 64*i+64 - 64*i=64 by omega,show 64*k+64*i=64*(k+i) by omega]
   rw[e]
   refine JQ L2 LF rfl rfl rfl (.refl _) _ (hY ((O7 s).take (k+i)) (oU (JC s) (k+i)) L2 (by rw[←hbt];exact hpre _) hJ2) fun bo L' hR=>?_
   refine wf ?_
   rw[←hbt]at hR
   rcases hR with ⟨rfl,hJ3⟩|⟨rfl,hJx⟩
   ·refine wf ?_
    refine⟨(i+1,L'),⟨by dsimp only;omega,hJ3⟩,by dsimp only;omega,⟨rfl,rfl,?_⟩,.refl _⟩
    show PV.raw (.int .i64 (((64*i:Nat):Int)+64))=_
    rw[show(((64*i:Nat):Int)+64)=((64*(i+1):Nat):Int) by omega]
   ·refine wf ?_
    exact⟨trivial,_,L',.nil,.refl _,.inr ⟨_,hJx⟩⟩
  ·have hie:k+i=(JC s).length / 64:=by omega
   rw[hie,AE (by simp[O7])]at hJ2
   refine wf ?_
   exact⟨trivial,_,L2,.nil,.refl _,.inl hJ2⟩
end Go.Proofs
namespace Go.Q
open Go
section
variable {P:Program} {N:Nat} {all:Array Oper} {K:Env→List Res→Prop} {fl:List Bool} {os:List Oper} {ρ:Env} {L:List Res} {d:Nat} {ty:TypeId} {pos:String} {af:Array Edge}
theorem mL {T T':TypeId} {x y:Operand} {a b:Nat} (hx:ρ.ev x= .raw (.int .u32 (a:Int))) (hy:ρ.ev y= .raw (.int .i64 (b:Int))) (k:AQ P N all K fl.tail os (CT ρ d (.raw (.int .u32 (Vy a b:Nat)))) L) (hd:Nat.blt d N=true:=by rfl):
  AQ P N all K fl (⟨some d,.binOp .shr T x y T',ty,pos,af,none⟩::os) ρ L:=Gi hx hy (fun w=>by
   have h0: ¬(b:Int) < 0:=by omega
   simp only[binOp,Op.shift,h0,if_false,IntKind.bits,E0]
   rw[Qc];rfl) k hd
end
end Go.Q
namespace Go.Proofs
open Go Go.Q
attribute [local irreducible] ER AQ BG Fu
instance uR (s:Str):C9 Tryz.prog 184 [.str s] (.clo 231 [.pt [.str s] 0]):=⟨by
 refine Au Tryz.func184 Tryz.ntmps184 rfl (rs:= [.tmp 2]) rfl rfl fun hb LF=>?_
 refine wf ?_
 exact Az (.refl _)⟩
theorem kZ {s b:Str} (h:b∈O7 s):b.length=64:=by
 obtain⟨k,hk,rfl⟩:=AO.1 h
 have:=BW.1 hk
 rw[oU,AZ,BB]
 omega
theorem fY (s:Str):(O7 s).foldl NK rH=IC (JC s) ((JC s).length / 64):=by
 rw[O7,List.foldl_map];rfl
instance xy (s:Str) [hs:B4 (s.length≤1000000)]:C9 Tryz.prog 137 [.str s] (.agg (eDig (eD s))):=⟨by
 refine Au Tryz.func137 Tryz.ntmps137 rfl (rs:= [.cell 2 31]) rfl rfl fun hb LF=>?_
 have hl:=hs.out
 have j2:Cx (eW (List.replicate 8 0)) 8:=⟨rfl⟩
 have j3:Cx (eW rH) 8:=⟨rfl⟩
 refine Jo fun b2=>?_
 refine Ig fun b3=>?_
 refine JV (ZR s hl) [12] (σ:=List Nat) (fun pre h=>h=pre.foldl NK rH∧h.length=8) (fun _ _=>False) (fun h LF'=> .box b3 216 (eW h):: .box b2 31 (eDig Dig.zero)::LF') rH LF ?_ rfl (fun _=>rfl) (by simp) (fun s' LF'=>rfl) (.refl _) ⟨rfl,rfl⟩ ?_ ?_ ?_
 ·exact .refl _
 ·rintro pre x h LF' hpx ⟨hh,h8⟩
  have hx:x∈O7 s:=hpx.subset (by simp)
  have i1:B4 (x.length=64):=⟨kZ hx⟩
  have i2:B4 (h.length=8):=⟨h8⟩
  have j4:Cx (eW h) 8:=⟨by rw[Gv,h8]⟩
  have j5:Cx (eW (NK h x)) 8:=⟨by rw[Gv,OU h8]⟩
  refine E6 ?_
  refine⟨NK h x,⟨by rw[CH,←hh];rfl,OU h8⟩,.refl _⟩
 ·rintro h ⟨hh,h8⟩
  rw[fY]at hh
  have hrs:eD s=(List.range 32).foldl (QK h) Dig.zero:=by rw[eD,←hh]
  rw[hrs]
  have j4:Cx (eW h) 8:=⟨by rw[Gv,h8]⟩
  refine Jo fun b5=>?_
  refine Ab (σ:=Nat × Dig) (fun k=>k.1≤8∧k.2=(List.range (4*k.1)).foldl (QK h) Dig.zero) (fun k=>8 - k.1) (fun k=> [(2,.raw (.pointer (some ⟨b2,0,none⟩))),(5,.raw (.pointer (some ⟨b5,0,none⟩))),(16,.agg (eW h)),(17,.raw (.int .i64 k.1))]) (fun k=> .box b5 31 (eDig k.2):: .box b2 31 (eDig Dig.zero)::LF) (0,Dig.zero) ⟨by simp,rfl⟩ ⟨rfl,rfl,rfl,rfl⟩ (.cons_cons _ (.cons _ (.refl _))) ?_
  rintro⟨k,d⟩ ⟨hk,hd⟩
  dsimp only at hk hd ⊢
  refine E6 ?_
  refine A6 (fun hc=>?_) (fun hc=>?_)
  ·refine E6 ?_
   refine Y1 rfl rfl h8 (by omega) ?_
   refine E6 ?_
   refine Ab (σ:=Nat × Dig) (fun j=>j.1≤4∧j.2=(List.range (4*k+j.1)).foldl (QK h) Dig.zero) (fun j=>4 - j.1) (fun j=> [(2,.raw (.pointer (some ⟨b2,0,none⟩))),(5,.raw (.pointer (some ⟨b5,0,none⟩))),(6,.raw (.int .i64 k)),(7,.raw (.int .u32 ((h.getD k 0:Nat):Int))),(16,.agg (eW h)),(17,.raw (.int .i64 k)),(21,.raw (.int .i64 j.1))]) (fun j=> .box b5 31 (eDig j.2):: .box b2 31 (eDig Dig.zero)::LF) (0,d) ⟨by simp,hd⟩ ⟨rfl,rfl,rfl,rfl,rfl,rfl,rfl⟩ (.refl _) ?_
   rintro⟨j,e⟩ ⟨hj,he⟩
   dsimp only at hj he ⊢
   refine E6 ?_
   refine A6 (fun hc2=>?_) (fun hc2=>?_)
   ·refine E6 ?_
    refine mL (a:=h.getD k 0) (b:=24 - 8*j) rfl (by show PV.raw (.int .i64 (24 - 8*(j:Int)))=_;rw[show(24 - 8*(j:Int))=((24 - 8*j:Nat):Int) by omega]) ?_
    refine E6 ?_
    have er:QK h e (4*k+j)=e.put (4*k+j) (UInt8.ofNat (Vy (h.getD k 0) (24 - 8*j))):=by
     rw[QK,show(4*k+j) / 4=k by omega,show(4*k+j) % 4=j by omega]
    refine⟨(j+1,QK h e (4*k+j)),⟨by dsimp only;omega,by dsimp only;rw[show 4*k+(j+1)=4*k+j+1 by omega,Bq,←he]⟩,by dsimp only;omega,⟨rfl,rfl,rfl,rfl,rfl,rfl,rfl⟩,?_⟩
    dsimp only
    rw[er,show(4*(k:Int)+(j:Int)).toNat=4*k+j by omega]
    exact .refl _
   ·have hj4:j=4:=by omega
    subst hj4
    refine E6 ?_
    exact⟨(k+1,e),⟨by dsimp only;omega,by dsimp only;rw[he,show 4*(k+1)=4*k+4 by omega]⟩,by dsimp only;omega,⟨rfl,rfl,rfl,rfl⟩,.refl _⟩
  ·have hk8:k=8:=by omega
   subst hk8
   refine E6 ?_
   refine Fq rfl (.of_eq ?_)
   rw[hd]
 ·intro pre s' h
  exact h.elim⟩
theorem dW {P:Program} {E:Nat} {α:Type} {ev:α→PV} {a0:α} {v:Value} (h:(P.info? E).bind (·.zero)=some v) (hv: ∀ g,VR g v (ev a0)):ZV P E ev a0:=⟨by
 obtain⟨i,h1,h2⟩:=Dy.1 h
 exact⟨i,v,h1,h2,hv⟩⟩
instance :OD Tryz.prog 121 31 4:=⟨by kernel_rfl⟩
instance :OD Tryz.prog 119 31 24:=⟨by kernel_rfl⟩
instance :OD Tryz.prog 168 31 68:=⟨by kernel_rfl⟩
instance :OD Tryz.prog 203 3 3:=⟨by kernel_rfl⟩
instance :OD Tryz.prog 226 3 228:=⟨by kernel_rfl⟩
instance :ZV Tryz.prog 4 vBool false:=dW (v:= .bool false) (by kernel_rfl) fun _=> .raw _
instance :ZV Tryz.prog 3 vInt 0:=dW (v:= .int .i64 0) (by kernel_rfl) fun _=> .raw _
instance :ZV Tryz.prog 24 (KO eDig) []:=dW (v:= .slice none 0 0) (by kernel_rfl) fun _=> .nilR
instance :ZV Tryz.prog 68 (KO eAtm) []:=dW (v:= .slice none 0 0) (by kernel_rfl) fun _=> .nilR
instance :ZV Tryz.prog 228 vId (.raw .nilFunc):=dW (v:= .nilFunc) (by kernel_rfl) fun _=> .raw _
instance :L8 Tryz.prog 121 kDig vBool:=⟨trivial⟩
instance :L8 Tryz.prog 119 kDig (KO eDig):=⟨trivial⟩
instance :L8 Tryz.prog 168 kDig (KO eAtm):=⟨trivial⟩
instance :L8 Tryz.prog 203 kInt vInt:=⟨trivial⟩
instance :L8 Tryz.prog 226 kInt vId:=⟨trivial⟩
theorem NY {P:Program} {T:Nat} {v:Value} {x:PV} (h:(P.info? T).bind (·.zero)=some v) (hc:v.cells= #[v]) (hv: ∀ g,VR g v x):Cq P T [x]:=⟨by
 obtain⟨i,h1,h2⟩:=Dy.1 h
 exact⟨i,v,[v],h1,h2,hc,fun g=> .cons (hv g) (.nil g)⟩⟩
instance :Cq Tryz.prog 3 [.raw (.int .i64 0)]:=NY (v:= .int .i64 0) (by kernel_rfl) rfl fun _=> .raw _
instance :Cq Tryz.prog 4 [.raw (.bool false)]:=NY (v:= .bool false) (by kernel_rfl) rfl fun _=> .raw _
instance :Cq Tryz.prog 24 [.slice [] .nil]:=NY (v:= .slice none 0 0) (by kernel_rfl) rfl fun _=> .nilN none (by simp)
instance :Cq Tryz.prog 68 [.slice [] .nil]:=NY (v:= .slice none 0 0) (by kernel_rfl) rfl fun _=> .nilN none (by simp)
instance :Cq Tryz.prog 90 [.slice [] .nil]:=NY (v:= .slice none 0 0) (by kernel_rfl) rfl fun _=> .nilN none (by simp)
instance :Cq Tryz.prog 121 [.raw (.map none)]:=NY (v:= .map none) (by kernel_rfl) rfl fun _=> .raw _
instance :Cq Tryz.prog 119 [.raw (.map none)]:=NY (v:= .map none) (by kernel_rfl) rfl fun _=> .raw _
instance (a b:List UInt8) (t u:CN):ZY Tryz.prog 180 [.slice (a.map eBy) t,.slice (b.map eBy) u] (.raw (.int .i64 (O5 a b))):=XD Tryz.func180 (by kernel_rfl) (by kernel_rfl) (by kernel_rfl) (by kernel_rfl) a b t u
instance (s:Str) (c:Int):ZY Tryz.prog 301 [.str s,.raw (.int .u8 c)] (.raw (.int .i64 (Lib.indexByte s c.toNat.toUInt8))):=Ts Tryz.func301 (by kernel_rfl) (by kernel_rfl) (by kernel_rfl) (by kernel_rfl) s c
instance qV (a b:List UInt8) (t u:CN):C9 Tryz.prog 126 [.slice (a.map eBy) t,.slice (b.map eBy) u] (.raw (.int .i64 (O5 a b))):=⟨by
 refine Au Tryz.func126 Tryz.ntmps126 rfl (rs:= [.tmp 4]) rfl rfl fun hb LF=>?_
 refine wf ?_
 exact Az (.refl _)⟩
instance YU (a b:Dig):C9 Tryz.prog 61 [.agg (eDig a),.agg (eDig b)] (.raw (.int .i64 (Ea a b))):=⟨by
 refine Au Tryz.func61 Tryz.ntmps61 rfl (rs:= [.tmp 4]) rfl rfl fun hb LF=>?_
 refine wf ?_
 refine Az (.of_eq ?_)
 rfl⟩
instance w6 (a:Int):C9 Tryz.prog 273 [.raw (.int .i64 a)] (.raw (.bool false)):=⟨by
 refine Au Tryz.func273 Tryz.ntmps273 rfl (rs:= [.tmp 2]) rfl rfl fun hb LF=>?_
 refine wf ?_
 refine Az (.of_eq ?_)
 simp⟩
def XH (a b:Int):Int:=if a < b then -1 else if b < a then 1 else 0
instance uO (a b:Int):C9 Tryz.prog 215 [.raw (.int .i64 a),.raw (.int .i64 b)] (.raw (.int .i64 (XH a b))):=⟨by
 refine Au Tryz.func215 Tryz.ntmps215 rfl (rs:= [.tmp 4]) rfl rfl fun hb LF=>?_
 refine wf ?_
 refine A6 (fun h=>?_) (fun h=>?_)
 ·refine wf ?_
  refine Az (.of_eq ?_)
  rw[XH,if_pos h]
 refine wf ?_
 refine A6 (fun h2=>?_) (fun h2=>?_)
 ·refine wf ?_
  refine Az (.of_eq ?_)
  rw[XH,if_neg h,if_pos h2]
 ·refine wf ?_
  refine Az (.of_eq ?_)
  rw[XH,if_neg h,if_neg h2]⟩
instance WT (a b:Ident):C9 Tryz.prog 159 [.agg (eIdent a),.agg (eIdent b)] (.raw (.int .i64 (Hc a b))):=⟨by
 refine Au Tryz.func159 Tryz.ntmps159 rfl (rs:= [.tmp 4]) rfl rfl fun hb LF=>?_
 refine wf ?_
 have e:O5 a.patch.bs b.patch.bs=Ea a.patch b.patch:=rfl
 rw[e]
 refine AX (fun h=>?_) (fun h=>?_)
 ·refine wf ?_
  refine Az (.of_eq ?_)
  rw[Hc,if_pos h]
 ·refine wf ?_
  refine Az (.of_eq ?_)
  rw[Hc,if_neg (by simp[h])];rfl⟩
instance yM (x:Ident):C9 Tryz.prog 59 [.agg (eIdent x)] (.raw (.bool (decide (x.patch=Dig.zero)))):=⟨by
 refine Au Tryz.func59 Tryz.ntmps59 rfl (rs:= [.tmp 2]) rfl rfl fun hb LF=>?_
 refine wf ?_
 exact Az (.refl _)⟩
instance vZ:C9 Tryz.prog 119 [] (.agg (eIdent ⟨Dig.zero,-1⟩)):=⟨by
 refine Au Tryz.func119 Tryz.ntmps119 rfl (rs:= [.cell 0 65]) rfl rfl fun hb LF=>?_
 refine XY fun b=>?_
 exact Fq rfl (.refl _)⟩
instance gg (s:Str) (c:Int):C9 Tryz.prog 286 [.str s,.raw (.int .u8 c)] (.raw (.int .i64 (Lib.indexByte s c.toNat.toUInt8))):=⟨by
 refine Au Tryz.func286 Tryz.ntmps286 rfl (rs:= [.tmp 4]) rfl rfl fun hb LF=>?_
 refine wf ?_
 exact Az (.refl _)⟩
instance lF (s:Str) (c:Int):C9 Tryz.prog 237 [.str s,.raw (.int .u8 c)] (.raw (.int .i64 (Lib.indexByte s c.toNat.toUInt8))):=⟨by
 refine Au Tryz.func237 Tryz.ntmps237 rfl (rs:= [.tmp 4]) rfl rfl fun hb LF=>?_
 refine wf ?_
 exact Az (.refl _)⟩
theorem LN (c:UInt8): ∀ l:List UInt8,Lib.indexByte l c < 0↔c∉l
 | []=>by simp[Lib.indexByte]
 |b::l=>by
  have h:=Lib.indexByte_ge l c
  have ih:=LN c l
  unfold Lib.indexByte
  by_cases e:b=c
  ·subst e;simp
  ·have e2: ¬c=b:=fun h=>e h.symm
   have d:(b==c)=false:=by simp[e]
   simp only[d,BX,if_false,AH,e2,false_or]
   rw[←ih]
   split
   ·rename_i h2
    have h2:Lib.indexByte l c= -1:=by simpa using h2
    omega
   ·rename_i h2
    have h2:Lib.indexByte l c≠ -1:=by simpa using h2
    omega
theorem aK (s:Str) (m n:UInt8):PJ s m.toNat n.toNat=(decide (m∉s)&&decide (n∉s)):=by
 unfold PJ
 induction s with
 |nil=>simp
 |cons a s ih=>
  simp only[xE,ih,OX,AH,not_or]
  have e1:((a.toNat:Int)=m.toNat)↔a=m:=⟨fun h=>UInt8.toNat.inj (by omega),fun h=>by rw[h]⟩
  have e2:((a.toNat:Int)=n.toNat)↔a=n:=⟨fun h=>UInt8.toNat.inj (by omega),fun h=>by rw[h]⟩
  simp only[e1,e2]
  grind
theorem eC (s:Str):JB s=(decide ((s.length:Int)≤1000)&&decide (Lib.indexByte s 10 < 0)&&decide (Lib.indexByte s 0 < 0)):=by
 have h:PJ s 10 0=(decide (10∉s)&&decide (0∉s)):=aK s 10 0
 have a1:decide (Lib.indexByte s 10 < 0)=decide (10∉s):=by rw[decide_eq_decide];exact LN 10 s
 have a2:decide (Lib.indexByte s 0 < 0)=decide (0∉s):=by rw[decide_eq_decide];exact LN 0 s
 rw[JB,h,a1,a2,Bool.and_assoc]
instance uC (s:Str):C9 Tryz.prog 195 [.str s] (.raw (.bool (JB s))):=⟨by
 refine Au Tryz.func195 Tryz.ntmps195 rfl (rs:= [.tmp 2]) rfl rfl fun hb LF=>?_
 have e:=eC s
 have c1:((10:Int).toNat).toUInt8=10:=rfl
 have c2:((0:Int).toNat).toUInt8=0:=rfl
 refine wf ?_
 repeat' (first|(refine A6 (fun h=>?_) (fun h=>?_)<;>refine wf ?_)|(refine AX (fun h=>?_) (fun h=>?_)<;>refine wf ?_)|(refine AU (fun h=>?_) (fun h=>?_)<;>refine wf ?_)|(refine Ar (fun h=>?_) (fun h=>?_)<;>(have h2:=h;(try simp only[AB,A8,AG,AL]at h2);refine wf ?_)))
 all_goals (refine Az (.of_eq ?_);rw[e];simp only[c1,c2]at*;first|(simp_all;done)|grind)⟩
instance uE (s:Str):C9 Tryz.prog 193 [.str s] (.raw (.bool (Jc s))):=⟨by
 refine Au Tryz.func193 Tryz.ntmps193 rfl (rs:= [.tmp 2]) rfl rfl fun hb LF=>?_
 have hlen:s.length≤140737488355328:=(hb (.str s) (by simp)).str_len
 refine wf ?_
 refine Ab (σ:=Nat) (fun k=>k≤s.length∧ ∀ i (h:i < s.length),i < k→KR s[i]=true) (fun k=>s.length - k) (fun k=> [(0,.str s),(6,.raw (.int .i64 s.length)),(7,.raw (.int .i64 k))]) (fun _=>LF) 0 ⟨by simp,by simp⟩ ⟨rfl,rfl,rfl⟩ (.refl _) ?_
 rintro k ⟨hk,he⟩
 refine wf ?_
 refine A6 (fun hc=>?_) (fun hc=>?_)
 ·have hlt:k < s.length:=by omega
  refine wf ?_
  refine BR [(46,.raw (.bool (!KR s[k]))),(0,.str s),(6,.raw (.int .i64 s.length)),(7,.raw (.int .i64 k))] (LF) ?_ ?_
  ·repeat' (first|(refine A6 (fun h=>?_) (fun h=>?_)<;>refine wf ?_)|(refine AX (fun h=>?_) (fun h=>?_)<;>refine wf ?_)|(refine AU (fun h=>?_) (fun h=>?_)<;>refine wf ?_)|(refine Ar (fun h=>?_) (fun h=>?_)<;>(have h2:=h;(try simp only[AB,A8,AG,AL]at h2);refine wf ?_)))
   all_goals (refine⟨⟨C4 (by rfl) ?_,rfl,rfl,rfl⟩,.refl _⟩;(clear he hc;grind [KR]))
  refine wf ?_
  refine AU (fun h=>?_) (fun h=>?_)
  ·refine wf ?_
   refine Az (.of_eq ?_)
   have:KR s[k]=false:=by simpa using h
   rw[Jc,HQ hlt this];rfl
  ·refine wf ?_
   exact⟨k+1,⟨by omega,Lb he hlt (by simpa using h)⟩,by dsimp only;omega,⟨rfl,rfl,rfl⟩,.refl _⟩
 ·have hall:s.all KR=true:=Ie fun i h=>he i h (by omega)
  have e1:decide (1≤(s.length:Int))=!decide (s= []):=by cases s<;>simp;omega
  refine wf ?_
  repeat' (first|(refine A6 (fun h=>?_) (fun h=>?_)<;>refine wf ?_)|(refine AX (fun h=>?_) (fun h=>?_)<;>refine wf ?_)|(refine AU (fun h=>?_) (fun h=>?_)<;>refine wf ?_)|(refine Ar (fun h=>?_) (fun h=>?_)<;>(have h2:=h;(try simp only[AB,A8,AG,AL]at h2);refine wf ?_)))
  all_goals (refine Az (.of_eq ?_);rw[Jc,hall,e1];clear he hall hb;first|(simp_all;done)|grind)⟩
def QX {α:Type} [DecidableEq α] (v:α):List α→Int
 | []=> -1
 |a::l=>if v=a then 0 else if QX v l= -1 then -1 else QX v l+1
theorem Wj {α:Type} [DecidableEq α] (v:α): ∀ l:List α,-1≤QX v l
 | []=>by simp[QX]
 |a::l=>by
  have:=Wj v l
  unfold QX;split
  ·omega
  ·split<;>omega
theorem Tf {α:Type} [DecidableEq α] (v:α): ∀ l:List α,0≤QX v l↔v∈l
 | []=>by simp[QX]
 |a::l=>by
  have h:=Wj v l
  have ih:=Tf v l
  unfold QX
  by_cases e:v=a
  ·simp[e]
  ·simp only[e,if_false,AH,false_or]
   rw[←ih]
   split<;>omega
theorem cY {α:Type} [DecidableEq α] (v:α): ∀ {l:List α} {k:Nat} (h:k < l.length),l[k]=v→(∀ i (hi:i < l.length),i < k→l[i]≠v)→QX v l=k
 |a::l,0,_,e,_=>by simp only[BM]at e;simp[QX,e]
 |a::l,k+1,h,e,hb=>by
  have h0:a≠v:=hb 0 (by simp) (by omega)
  have ih:=cY v (l:=l) (k:=k) (by simpa using h) (by simpa using e) (fun i hi hk=>by have:=hb (i+1) (by simpa using hi) (by omega);simpa using this)
  unfold QX
  rw[if_neg (Ne.symm h0),ih,if_neg (by omega)];omega
theorem fB {α:Type} [DecidableEq α] (v:α) {l:List α} (h: ∀ i (hi:i < l.length),l[i]≠v):QX v l= -1:=by
 have h1:=Wj v l
 have h2: ¬0≤QX v l:=fun h'=>by
  obtain⟨i,hi,e⟩:=Ad.1 ((Tf v l).1 h')
  exact h i hi e
 omega
instance ua (l:List Int) (v:Int) (t:CN):C9 Tryz.prog 285 [.slice (l.map eI) t,.raw (.int .i64 v)] (.raw (.int .i64 (QX v l))):=⟨by
 refine Au Tryz.func285 Tryz.ntmps285 rfl (rs:= [.tmp 4]) rfl rfl fun hb LF=>?_
 have hlen:l.length≤140737488355328:=(hb (.slice (l.map eI) t) (by simp)).slice_map
 refine wf ?_
 refine Ab (σ:=Nat) (fun k=>k≤l.length∧ ∀ i (h:i < l.length),i < k→l[i]≠v) (fun k=>l.length - k) (fun k=> [(0,.slice (l.map eI) t),(1,.raw (.int .i64 v)),(7,.raw (.int .i64 l.length)),(8,.raw (.int .i64 k))]) (fun _=>LF) 0 ⟨by simp,by simp⟩ ⟨rfl,rfl,rfl,rfl⟩ (.refl _) ?_
 rintro k ⟨hk,he⟩
 refine wf ?_
 refine A6 (fun hc=>?_) (fun hc=>?_)
 ·have hlt:k < l.length:=by omega
  refine wf ?_
  refine A6 (fun h=>?_) (fun h=>?_)
  ·refine wf ?_
   refine Az (.of_eq ?_)
   rw[cY v hlt h.symm he]
  ·refine wf ?_
   refine⟨k+1,⟨by omega,fun i hi hik=>?_⟩,by dsimp only;omega,⟨rfl,rfl,rfl,rfl⟩,.refl _⟩
   rcases BP i k with h'|h'
   ·exact he i hi h'
   ·have:i=k:=by omega
    subst this;exact fun e=>h e.symm
 ·refine wf ?_
  refine Az (.of_eq ?_)
  rw[fB v fun i hi=>he i hi (by omega)]⟩
instance ov (l:List Int) (v:Int) (t:CN):C9 Tryz.prog 236 [.slice (l.map eI) t,.raw (.int .i64 v)] (.raw (.bool (decide (v∈l)))):=⟨by
 refine Au Tryz.func236 Tryz.ntmps236 rfl (rs:= [.tmp 4]) rfl rfl fun hb LF=>?_
 refine wf ?_
 refine Az (.of_eq ?_)
 have:=Tf v l
 simp only[this]⟩
instance yR (l:List Int) (k:Int) (t:CN):C9 Tryz.prog 235 [.slice (l.map eI) t,.pt [.raw (.int .i64 k)] 0] (.raw (.bool (decide (k∈l)))):=⟨by
 refine Au Tryz.func235 Tryz.ntmps235 rfl (rs:= [.tmp 3]) rfl rfl fun hb LF=>?_
 refine wf ?_
 exact Az (.refl _)⟩
def Me (c:Chg):Bool:=decide (c.kind∈ [1])||decide (c.type=0)
def Mc (c:Chg):Bool:=decide (c.kind∈ [2,3,4,5,6])||decide (c.file=Ident.zero)
def Nl (c:Chg):Bool:=decide (c.kind∈ [2])||(decide (c.parent=Ident.zero)&&decide (c.name= []))
def PH (c:Chg):Bool:=decide (c.kind∈ [3])||decide (c.mode=0)
def R4 (c:Chg):Bool:=decide (c.kind∈ [4])||decide (c.data= [])
def Sp (c:Chg):Bool:=decide (c.kind∈ [5,6])||(decide (c.after=Ident.zero)&&decide (c.before=Ident.zero))
def W9 (c:Chg):Bool:=decide (c.kind∈ [5])||decide ((c.lines.length:Int)=0)
def aE (c:Chg):Bool:=decide (c.kind∈ [2,3,4,6,7])||decide ((c.over.length:Int)=0)
def Y9 (c:Chg):Bool:=Me c&&Mc c&&Nl c&&PH c&&R4 c&&Sp c&&W9 c&&aE c
instance xO (c:Chg):C9 Tryz.prog 194 [.agg (eChg c)] (.raw (.bool (Y9 c))):=⟨by
 refine Au Tryz.func194 Tryz.ntmps194 rfl (rs:= [.tmp 2]) rfl rfl fun hb LF=>?_
 refine wz fun b3=>?_
 refine Ay 3 ?_
 refine wz fun b=>?_
 refine Da ?_
 refine CR (by kernel_rfl) ?_
 refine KK 19 [(28,.raw (.bool (Me c&&Mc c))),(1,.pt (eChg c) 0),(4,.clo 235 [.pt [.raw (.int .i64 c.kind)] 0]),(5,.raw (.pointer (some ⟨b,0,none⟩)))] (.box b 65 (eIdent Ident.zero)::LF) ?_ ?_
 ·refine wf ?_
  repeat' (first|(refine A6 (fun h=>?_) (fun h=>?_)<;>refine wf ?_)|(refine AX (fun h=>?_) (fun h=>?_)<;>refine wf ?_)|(refine AU (fun h=>?_) (fun h=>?_)<;>refine wf ?_)|(refine Ar (fun h=>?_) (fun h=>?_)<;>(have h2:=h;(try simp only[AB,A8,AG,AL]at h2);refine wf ?_)))
  all_goals (refine⟨⟨C4 (by rfl) ?_,rfl,rfl,rfl⟩,.refl _⟩;(simp only[Me,Mc];first|(simp_all;done)|grind))
 refine KK 16 [(44,.raw (.bool (Me c&&Mc c&&Nl c))),(1,.pt (eChg c) 0),(4,.clo 235 [.pt [.raw (.int .i64 c.kind)] 0]),(5,.raw (.pointer (some ⟨b,0,none⟩)))] (.box b 65 (eIdent Ident.zero)::LF) ?_ ?_
 ·refine wf ?_
  repeat' (first|(refine A6 (fun h=>?_) (fun h=>?_)<;>refine wf ?_)|(refine AX (fun h=>?_) (fun h=>?_)<;>refine wf ?_)|(refine AU (fun h=>?_) (fun h=>?_)<;>refine wf ?_)|(refine Ar (fun h=>?_) (fun h=>?_)<;>(have h2:=h;(try simp only[AB,A8,AG,AL]at h2);refine wf ?_)))
  all_goals (refine⟨⟨C4 (by rfl) ?_,rfl,rfl,rfl⟩,.refl _⟩;(simp only[Nl];first|(simp_all;done)|grind))
 refine KK 10 [(54,.raw (.bool (Me c&&Mc c&&Nl c&&PH c))),(1,.pt (eChg c) 0),(4,.clo 235 [.pt [.raw (.int .i64 c.kind)] 0]),(5,.raw (.pointer (some ⟨b,0,none⟩)))] (.box b 65 (eIdent Ident.zero)::LF) ?_ ?_
 ·refine wf ?_
  repeat' (first|(refine A6 (fun h=>?_) (fun h=>?_)<;>refine wf ?_)|(refine AX (fun h=>?_) (fun h=>?_)<;>refine wf ?_)|(refine AU (fun h=>?_) (fun h=>?_)<;>refine wf ?_)|(refine Ar (fun h=>?_) (fun h=>?_)<;>(have h2:=h;(try simp only[AB,A8,AG,AL]at h2);refine wf ?_)))
  all_goals (refine⟨⟨C4 (by rfl) ?_,rfl,rfl,rfl⟩,.refl _⟩;(simp only[PH];first|(simp_all;done)|grind))
 refine KK 10 [(64,.raw (.bool (Me c&&Mc c&&Nl c&&PH c&&R4 c))),(1,.pt (eChg c) 0),(4,.clo 235 [.pt [.raw (.int .i64 c.kind)] 0]),(5,.raw (.pointer (some ⟨b,0,none⟩)))] (.box b 65 (eIdent Ident.zero)::LF) ?_ ?_
 ·refine wf ?_
  repeat' (first|(refine A6 (fun h=>?_) (fun h=>?_)<;>refine wf ?_)|(refine AX (fun h=>?_) (fun h=>?_)<;>refine wf ?_)|(refine AU (fun h=>?_) (fun h=>?_)<;>refine wf ?_)|(refine Ar (fun h=>?_) (fun h=>?_)<;>(have h2:=h;(try simp only[AB,A8,AG,AL]at h2);refine wf ?_)))
  all_goals (refine⟨⟨C4 (by rfl) ?_,rfl,rfl,rfl⟩,.refl _⟩;(simp only[R4];first|(simp_all;done)|grind))
 refine KK 17 [(81,.raw (.bool (Me c&&Mc c&&Nl c&&PH c&&R4 c&&Sp c))),(1,.pt (eChg c) 0),(4,.clo 235 [.pt [.raw (.int .i64 c.kind)] 0]),(5,.raw (.pointer (some ⟨b,0,none⟩)))] (.box b 65 (eIdent Ident.zero)::LF) ?_ ?_
 ·refine wf ?_
  repeat' (first|(refine A6 (fun h=>?_) (fun h=>?_)<;>refine wf ?_)|(refine AX (fun h=>?_) (fun h=>?_)<;>refine wf ?_)|(refine AU (fun h=>?_) (fun h=>?_)<;>refine wf ?_)|(refine Ar (fun h=>?_) (fun h=>?_)<;>(have h2:=h;(try simp only[AB,A8,AG,AL]at h2);refine wf ?_)))
  all_goals (refine⟨⟨C4 (by rfl) ?_,rfl,rfl,rfl⟩,.refl _⟩;(simp only[Sp];first|(simp_all;done)|grind))
 refine KK 11 [(92,.raw (.bool (Me c&&Mc c&&Nl c&&PH c&&R4 c&&Sp c&&W9 c))),(1,.pt (eChg c) 0),(4,.clo 235 [.pt [.raw (.int .i64 c.kind)] 0]),(5,.raw (.pointer (some ⟨b,0,none⟩)))] (.box b 65 (eIdent Ident.zero)::LF) ?_ ?_
 ·refine wf ?_
  repeat' (first|(refine A6 (fun h=>?_) (fun h=>?_)<;>refine wf ?_)|(refine AX (fun h=>?_) (fun h=>?_)<;>refine wf ?_)|(refine AU (fun h=>?_) (fun h=>?_)<;>refine wf ?_)|(refine Ar (fun h=>?_) (fun h=>?_)<;>(have h2:=h;(try simp only[AB,A8,AG,AL]at h2);refine wf ?_)))
  all_goals (refine⟨⟨C4 (by rfl) ?_,rfl,rfl,rfl⟩,.refl _⟩;(simp only[W9];first|(simp_all;done)|grind))
 refine wf ?_
 repeat' (first|(refine A6 (fun h=>?_) (fun h=>?_)<;>refine wf ?_)|(refine AX (fun h=>?_) (fun h=>?_)<;>refine wf ?_)|(refine AU (fun h=>?_) (fun h=>?_)<;>refine wf ?_)|(refine Ar (fun h=>?_) (fun h=>?_)<;>(have h2:=h;(try simp only[AB,A8,AG,AL]at h2);refine wf ?_)))
 all_goals (refine Az (.of_eq ?_);simp only[Y9,aE];first|(simp_all;done)|grind)⟩
def Nr (c:Chg):Int:=
 if c.kind < 1∨7 < c.kind then 8 else
 if Y9 c=false then 1 else
 if c.kind=1∧(c.type < 1∨4 < c.type)then 8 else
 if c.kind=2∧Jc c.name=false then 5 else
 if c.mode < 0∨511 < c.mode then 2 else
 if 65536 < (c.data.length:Int)then 4 else
 if c.kind=5∧(c.lines.length:Int)=0 then 1 else
 if 2000 < (c.lines.length:Int)then 4 else
 if c.lines.all JB=false then 3 else
 if c.kind=7∧(c.over.length:Int)=0 then 1 else
 if 400 < (c.over.length:Int)then 4 else
 if PK c.over=false then 9 else 0
theorem ln (c:Chg) (h1:1≤c.kind) (h2:c.kind≤7):Y9 c=Fo (Hr c):=by
 have hk:c.kind=1∨c.kind=2∨c.kind=3∨c.kind=4∨c.kind=5∨c.kind=6∨c.kind=7:=by omega
 unfold Y9 Me Mc Nl PH R4 Sp W9 aE Fo Hr
 rcases hk with h|h|h|h|h|h|h<;>simp[h]<;>grind
theorem av (c:Chg):Nr c=Bz c:=by
 unfold Nr Bz
 by_cases h1:c.kind < 1∨7 < c.kind
 ·rw[if_pos h1,if_pos h1]
 rw[if_neg h1,if_neg h1,ln c (by omega) (by omega)]
 by_cases h2:Fo (Hr c)=false
 ·rw[if_pos h2,if_pos h2]
 rw[if_neg h2,if_neg h2]
 have h2:Fo (Hr c)=true:=by simpa using h2
 by_cases h3:c.kind=1∧(c.type < 1∨4 < c.type)
 ·rw[if_pos h3,if_pos h3]
 rw[if_neg h3,if_neg h3]
 by_cases h4:c.kind=2∧Jc c.name=false
 ·rw[if_pos h4,if_pos h4]
 rw[if_neg h4,if_neg h4]
 have hmode:c.kind≠3→c.mode=0:=fun h=>by
  unfold Fo Hr at h2
  simp only[BJ,AB,h,if_false]at h2
  exact h2.1.1.1.1.1.2
 by_cases h5:c.kind=3∧(c.mode < 0∨511 < c.mode)
 ·rw[if_pos h5.2,if_pos h5]
 rw[if_neg (fun h=>h5 ⟨by
  by_cases e:c.kind=3
  ·exact e
  ·have:=hmode e;omega,h⟩),if_neg h5]
 by_cases h6:65536 < (c.data.length:Int)
 ·rw[if_pos h6,if_pos h6]
 rw[if_neg h6,if_neg h6]
 by_cases h7:c.kind=5
 ·have hov:c.over.length=0:=by
   unfold Fo Hr at h2
   simp only[BJ,AB,h7]at h2
   have:=h2.2
   simp at this
   simp[this]
  have ho:c.over= []:=BO hov
  rw[if_pos h7,Mg]
  by_cases h8:(c.lines.length:Int)=0
  ·rw[if_pos ⟨h7,h8⟩,if_pos h8]
  rw[if_neg (fun h=>h8 h.2),if_neg h8]
  by_cases h9:2000 < (c.lines.length:Int)
  ·rw[if_pos h9,if_pos h9]
  rw[if_neg h9,if_neg h9]
  by_cases h10:c.lines.all JB=true
  ·rw[if_neg (by simp[h10]),if_pos h10,if_neg (fun h=>by omega),if_neg (by omega),ho];rfl
  ·rw[if_pos (by simpa using h10),if_neg h10]
 ·have hl:c.lines= []:=by
   unfold Fo Hr at h2
   simp only[BJ,AB,h7,if_false]at h2
   exact BO (by have:=h2.1.2;omega)
  rw[if_neg h7,if_neg (fun h=>h7 h.1),hl,if_neg (by simp),if_neg (by simp)]
theorem U0 (c:Chg):Q.Fn Tryz.prog 142 [.agg (eChg c)] (.raw (.int .i64 (Nr c))):=by
 refine Au Tryz.func142 Tryz.ntmps142 rfl (rs:= [.tmp 2]) rfl rfl fun hb LF=>?_
 have hagg:Bd (.agg (eChg c)):=hb _ (by simp)
 have hlines:c.lines.length≤140737488355328:=(hagg.agg_at (c:= .slice (c.lines.map eS) .ro) (by simp[eChg])).slice_map
 have hover:c.over.length≤140737488355328:=(hagg.agg_at (c:= .slice (c.over.map eIdent) .ro) (by simp[eChg])).slice_map
 refine wf ?_
 refine BR [(6,.raw (.bool (decide (c.kind < 1∨7 < c.kind)))),(1,.pt (eChg c) 0)] (LF) ?_ ?_
 ·repeat' (first|(refine A6 (fun h=>?_) (fun h=>?_)<;>refine wf ?_)|(refine AX (fun h=>?_) (fun h=>?_)<;>refine wf ?_)|(refine AU (fun h=>?_) (fun h=>?_)<;>refine wf ?_)|(refine Ar (fun h=>?_) (fun h=>?_)<;>(have h2:=h;(try simp only[AB,A8,AG,AL]at h2);refine wf ?_)))
  all_goals (refine⟨⟨C4 (by rfl) ?_,rfl⟩,.refl _⟩;first|(simp_all;done)|grind)
 refine wf ?_
 refine A6 (fun h=>?_) (fun h=>?_)
 ·refine wf ?_
  refine Az (.of_eq ?_)
  rw[Nr,if_pos h]
 rw[Nr,if_neg h]
 refine wf ?_
 refine AU (fun h=>?_) (fun h=>?_)
 ·refine wf ?_
  refine Az (.of_eq ?_)
  rw[if_pos (by simpa using h)]
 rw[if_neg (by simpa using h)]
 refine wf ?_
 refine BR [(19,.raw (.bool (decide (c.kind=1∧(c.type < 1∨4 < c.type))))),(1,.pt (eChg c) 0)] (LF) ?_ ?_
 ·repeat' (first|(refine A6 (fun h=>?_) (fun h=>?_)<;>refine wf ?_)|(refine AX (fun h=>?_) (fun h=>?_)<;>refine wf ?_)|(refine AU (fun h=>?_) (fun h=>?_)<;>refine wf ?_)|(refine Ar (fun h=>?_) (fun h=>?_)<;>(have h2:=h;(try simp only[AB,A8,AG,AL]at h2);refine wf ?_)))
  all_goals (refine⟨⟨C4 (by rfl) ?_,rfl⟩,.refl _⟩;first|(simp_all;done)|grind)
 refine wf ?_
 refine A6 (fun h=>?_) (fun h=>?_)
 ·refine wf ?_
  refine Az (.of_eq ?_)
  rw[if_pos h]
 rw[if_neg h]
 refine wf ?_
 refine BR [(33,.raw (.bool (decide (c.kind=2∧Jc c.name=false)))),(1,.pt (eChg c) 0)] (LF) ?_ ?_
 ·repeat' (first|(refine A6 (fun h=>?_) (fun h=>?_)<;>refine wf ?_)|(refine AX (fun h=>?_) (fun h=>?_)<;>refine wf ?_)|(refine AU (fun h=>?_) (fun h=>?_)<;>refine wf ?_)|(refine Ar (fun h=>?_) (fun h=>?_)<;>(have h2:=h;(try simp only[AB,A8,AG,AL]at h2);refine wf ?_)))
  all_goals (refine⟨⟨C4 (by rfl) ?_,rfl⟩,.refl _⟩;first|(simp_all;done)|grind)
 refine wf ?_
 refine A6 (fun h=>?_) (fun h=>?_)
 ·refine wf ?_
  refine Az (.of_eq ?_)
  rw[if_pos h]
 rw[if_neg h]
 refine wf ?_
 refine BR [(43,.raw (.bool (decide (c.mode < 0∨511 < c.mode)))),(1,.pt (eChg c) 0)] (LF) ?_ ?_
 ·repeat' (first|(refine A6 (fun h=>?_) (fun h=>?_)<;>refine wf ?_)|(refine AX (fun h=>?_) (fun h=>?_)<;>refine wf ?_)|(refine AU (fun h=>?_) (fun h=>?_)<;>refine wf ?_)|(refine Ar (fun h=>?_) (fun h=>?_)<;>(have h2:=h;(try simp only[AB,A8,AG,AL]at h2);refine wf ?_)))
  all_goals (refine⟨⟨C4 (by rfl) ?_,rfl⟩,.refl _⟩;first|(simp_all;done)|grind)
 refine wf ?_
 refine A6 (fun h=>?_) (fun h=>?_)
 ·refine wf ?_
  refine Az (.of_eq ?_)
  rw[if_pos h]
 rw[if_neg h]
 refine wf ?_
 refine A6 (fun h=>?_) (fun h=>?_)
 ·refine wf ?_
  refine Az (.of_eq ?_)
  rw[if_pos h]
 rw[if_neg h]
 refine wf ?_
 refine BR [(57,.raw (.bool (decide (c.kind=5∧(c.lines.length:Int)=0)))),(1,.pt (eChg c) 0)] (LF) ?_ ?_
 ·repeat' (first|(refine A6 (fun h=>?_) (fun h=>?_)<;>refine wf ?_)|(refine AX (fun h=>?_) (fun h=>?_)<;>refine wf ?_)|(refine AU (fun h=>?_) (fun h=>?_)<;>refine wf ?_)|(refine Ar (fun h=>?_) (fun h=>?_)<;>(have h2:=h;(try simp only[AB,A8,AG,AL]at h2);refine wf ?_)))
  all_goals (refine⟨⟨C4 (by rfl) ?_,rfl⟩,.refl _⟩;first|(simp_all;done)|grind)
 refine wf ?_
 refine A6 (fun h=>?_) (fun h=>?_)
 ·refine wf ?_
  refine Az (.of_eq ?_)
  rw[if_pos h]
 rw[if_neg h]
 refine wf ?_
 refine A6 (fun h=>?_) (fun h=>?_)
 ·refine wf ?_
  refine Az (.of_eq ?_)
  rw[if_pos h]
 rw[if_neg h]
 refine wf ?_
 refine Ab (σ:=Nat) (fun k=>k≤c.lines.length∧ ∀ i (h:i < c.lines.length),i < k→JB c.lines[i]=true) (fun k=>c.lines.length - k) (fun k=> [(1,.pt (eChg c) 0),(73,.slice (c.lines.map eS) .ro),(74,.raw (.int .i64 c.lines.length)),(75,.raw (.int .i64 k))]) (fun _=>LF) 0 ⟨by simp,by simp⟩ ⟨rfl,rfl,rfl,rfl⟩ (.refl _) ?_
 rintro k ⟨hk,he⟩
 refine wf ?_
 refine A6 (fun hc=>?_) (fun hc=>?_)
 ·have hlt:k < c.lines.length:=by omega
  refine wf ?_
  refine AU (fun h=>?_) (fun h=>?_)
  ·refine wf ?_
   refine Az (.of_eq ?_)
   have:JB c.lines[k]=false:=by simpa using h
   rw[if_pos (HQ hlt this)]
  ·refine wf ?_
   exact⟨k+1,⟨by omega,Lb he hlt (by simpa using h)⟩,by dsimp only;omega,⟨rfl,rfl,rfl,rfl⟩,.refl _⟩
 have hall:c.lines.all JB=true:=Ie fun i h=>he i h (by omega)
 rw[if_neg (by simp[hall])]
 clear he hk hc
 refine wf ?_
 refine BR [(83,.raw (.bool (decide (c.kind=7∧(c.over.length:Int)=0)))),(1,.pt (eChg c) 0)] (LF) ?_ ?_
 ·repeat' (first|(refine A6 (fun h=>?_) (fun h=>?_)<;>refine wf ?_)|(refine AX (fun h=>?_) (fun h=>?_)<;>refine wf ?_)|(refine AU (fun h=>?_) (fun h=>?_)<;>refine wf ?_)|(refine Ar (fun h=>?_) (fun h=>?_)<;>(have h2:=h;(try simp only[AB,A8,AG,AL]at h2);refine wf ?_)))
  all_goals (refine⟨⟨C4 (by rfl) ?_,rfl⟩,.refl _⟩;first|(simp_all;done)|grind)
 refine wf ?_
 refine A6 (fun h=>?_) (fun h=>?_)
 ·refine wf ?_
  refine Az (.of_eq ?_)
  rw[if_pos h]
 rw[if_neg h]
 refine wf ?_
 refine A6 (fun h=>?_) (fun h=>?_)
 ·refine wf ?_
  refine Az (.of_eq ?_)
  rw[if_pos h]
 rw[if_neg h]
 refine wf ?_
 refine Ab (σ:=Nat) (fun k=>1≤k∧ ∀ i,i+1 < k→i+1 < c.over.length→Hc (c.over.getD i Ident.zero) (c.over.getD (i+1) Ident.zero) < 0) (fun k=>c.over.length - k) (fun k=> [(1,.pt (eChg c) 0),(5,.raw (.int .i64 k))]) (fun _=>LF) 1 ⟨by simp,fun i h=>by omega⟩ ⟨rfl,rfl⟩ (.refl _) ?_
 rintro k ⟨hk,he⟩
 refine wf ?_
 refine A6 (fun hc=>?_) (fun hc=>?_)
 ·obtain⟨j,rfl⟩: ∃ j,k=j+1:=⟨k - 1,by omega⟩
  refine wf ?_
  have e:((↑(j+1):Int) - 1).toNat=j:=by omega
  have hj:j+1 < c.over.length:=by omega
  refine A6 (fun h1=>?_) (fun h1=>?_)
  ·refine wf ?_
   refine Az (.of_eq ?_)
   simp only[e]at h1
   have:PK c.over=false:=by
    unfold PK
    rw[J3]
    refine⟨j,BW.2 (by omega),?_⟩
    simp only[AB,Cr,AW hj,AW (show j < c.over.length by omega),Br]
    omega
   rw[if_pos this]
  ·refine wf ?_
   simp only[e]at h1
   refine⟨j+1+1,⟨by omega,fun i h2 h3=>?_⟩,by dsimp only;omega,⟨rfl,rfl⟩,.refl _⟩
   rcases BP (i+1) (j+1)with h'|h'
   ·exact he i h' h3
   ·have:i=j:=by omega
    subst this
    simp only[Cr,AW hj,AW (show i < c.over.length by omega),Br]
    omega
 ·refine wf ?_
  refine Az (.of_eq ?_)
  have:PK c.over=true:=by
   unfold PK
   rw[BT]
   intro i hi
   rw[BW]at hi
   exact BK (he i (by omega) (by omega))
  rw[if_neg (by simp[this])]
instance kX (c:Chg):C9 Tryz.prog 142 [.agg (eChg c)] (.raw (.int .i64 (Bz c))):=⟨by rw[←av];exact U0 c⟩
def J7 (p:Pat):Int:=
 if Jc p.author=false then 5 else if 1000 < (p.message.length:Int)then 4 else if p.time < 0∨1099511627776 < p.time then 2 else
 if H9 p.deps≠0 then H9 p.deps else if(p.changes.length:Int)=0 then 1 else if 400 < (p.changes.length:Int)then 4 else 0
theorem Ic (p:Pat):Bo p=if J7 p≠0 then([],J7 p)else Cv p.changes []:=by
 unfold Bo J7
 generalize H9 p.deps=e
 generalize Cv p.changes []=r
 by_cases h1:Jc p.author=false<;>by_cases h2:1000 < (p.message.length:Int)<;>by_cases h3:p.time < 0∨1099511627776 < p.time<;>by_cases h4:e=0<;>by_cases h5:(p.changes.length:Int)=0<;>by_cases h6:400 < (p.changes.length:Int)<;>simp only[h1,h2,h3,h4,h5,h6,if_true,if_false,ne_eq,not_true_eq_false,not_false_eq_true]<;>first|rfl|simp[h4]|simp
instance xe (p:Pat):C9 Tryz.prog 141 [.agg (Ba p)] (.raw (.int .i64 (J7 p))):=⟨by
 refine Au Tryz.func141 Tryz.ntmps141 rfl (rs:= [.tmp 2]) rfl rfl fun hb LF=>?_
 have hagg:Bd (.agg (Ba p)):=hb _ (by simp)
 have hdeps:p.deps.length≤140737488355328:=(hagg.agg_at (c:= .slice (p.deps.map eDig) .ro) (by simp[Ba])).slice_map
 have hdr:H9 p.deps=if 100 < (p.deps.length:Int)then 4 else Av (Fj p.deps) (List.range p.deps.length):=rfl
 refine wf ?_
 refine AU (fun h=>?_) (fun h=>?_)
 ·refine wf ?_
  refine Az (.of_eq ?_)
  rw[J7,if_pos (by simpa using h)]
 rw[J7,if_neg (by simpa using h)]
 refine wf ?_
 refine A6 (fun h=>?_) (fun h=>?_)
 ·refine wf ?_
  refine Az (.of_eq ?_)
  rw[if_pos h]
 rw[if_neg h]
 refine wf ?_
 refine BR [(16,.raw (.bool (decide (p.time < 0∨1099511627776 < p.time)))),(1,.pt (Ba p) 0)] (LF) ?_ ?_
 ·repeat' (first|(refine A6 (fun h=>?_) (fun h=>?_)<;>refine wf ?_)|(refine AX (fun h=>?_) (fun h=>?_)<;>refine wf ?_)|(refine AU (fun h=>?_) (fun h=>?_)<;>refine wf ?_)|(refine Ar (fun h=>?_) (fun h=>?_)<;>(have h2:=h;(try simp only[AB,A8,AG,AL]at h2);refine wf ?_)))
  all_goals (refine⟨⟨C4 (by rfl) ?_,rfl⟩,.refl _⟩;first|(simp_all;done)|grind)
 refine wf ?_
 refine A6 (fun h=>?_) (fun h=>?_)
 ·refine wf ?_
  refine Az (.of_eq ?_)
  rw[if_pos h]
 rw[if_neg h]
 refine wf ?_
 refine A6 (fun h=>?_) (fun h=>?_)
 ·refine wf ?_
  refine Az (.of_eq ?_)
  rw[hdr,if_pos h,if_pos (by decide)]
 rw[if_neg h]at hdr
 refine wf ?_
 refine Ab (σ:=Nat) (fun k=>k≤p.deps.length∧ ∀ i (h:i < (List.range p.deps.length).length),i < k→Fj p.deps (List.range p.deps.length)[i]=0) (fun k=>p.deps.length - k) (fun k=> [(1,.pt (Ba p) 0),(31,.slice (p.deps.map eDig) .ro),(32,.raw (.int .i64 p.deps.length)),(33,.raw (.int .i64 k))]) (fun _=>LF) 0 ⟨by simp,by simp⟩ ⟨rfl,rfl,rfl,rfl⟩ (.refl _) ?_
 rintro k ⟨hk,he⟩
 refine wf ?_
 refine A6 (fun hc=>?_) (fun hc=>?_)
 ·have hlt:k < p.deps.length:=by omega
  have hltr:k < (List.range p.deps.length).length:=by simpa using hlt
  have ek:(List.range p.deps.length)[k]=k:=by simp
  have e0:p.deps.getD k Dig.zero=p.deps[k]:=by simp[List.getD,hlt]
  refine wz fun b4=>?_
  refine Ay 4 ?_
  refine wf ?_
  refine A6 (fun h2=>?_) (fun h2=>?_)
  ·refine wf ?_
   refine Az (.of_eq ?_)
   have e:Fj p.deps (List.range p.deps.length)[k]=1:=by rw[ek,Fj,e0,if_pos h2]
   have e3:H9 p.deps=1:=by rw[hdr,DQ hltr he (by rw[e];decide),e]
   rw[e3];rfl
  refine wf ?_
  refine Ar (fun hp=>?_) (fun hp=>?_)
  ·have hp':0 < (k:Int):=BF hp
   refine wf ?_
   have e1:p.deps.getD (k - 1) Dig.zero=p.deps[((k:Int) - 1).toNat]:=by
    have:((k:Int) - 1).toNat=k - 1:=by omega
    simp only[this]
    have h':k - 1 < p.deps.length:=by omega
    simp[List.getD,h']
   refine A6 (fun h3=>?_) (fun h3=>?_)
   ·refine wf ?_
    refine Az (.of_eq ?_)
    have e:Fj p.deps (List.range p.deps.length)[k]=9:=by rw[ek,Fj,e0,e1,if_neg h2,if_pos ⟨hp',h3⟩]
    have e3:H9 p.deps=9:=by rw[hdr,DQ hltr he (by rw[e];decide),e]
    rw[e3];rfl
   ·refine wf ?_
    have e:Fj p.deps (List.range p.deps.length)[k]=0:=by rw[ek,Fj,e0,e1,if_neg h2,if_neg (fun h=>h3 h.2)]
    exact⟨k+1,⟨by omega,EC he hltr e⟩,by dsimp only;omega,⟨rfl,rfl,rfl,rfl⟩,.refl _⟩
  ·have hp': ¬0 < (k:Int):=Bm hp
   refine wf ?_
   have e:Fj p.deps (List.range p.deps.length)[k]=0:=by rw[ek,Fj,e0,if_neg h2,if_neg (fun h=>hp' h.1)]
   exact⟨k+1,⟨by omega,EC he hltr e⟩,by dsimp only;omega,⟨rfl,rfl,rfl,rfl⟩,.refl _⟩
 have e3:H9 p.deps=0:=by rw[hdr,Db fun i h=>he i h (by simp at h;omega)]
 rw[if_neg (by simp[e3])]
 refine wf ?_
 refine A6 (fun h=>?_) (fun h=>?_)
 ·refine wf ?_
  refine Az (.of_eq ?_)
  rw[if_pos h]
 rw[if_neg h]
 refine wf ?_
 refine A6 (fun h=>?_) (fun h=>?_)
 ·refine wf ?_
  refine Az (.of_eq ?_)
  rw[if_pos h]
 ·refine wf ?_
  refine Az (.of_eq ?_)
  rw[if_neg h]⟩
structure Rfc where
 id:Ident
 f:Nat
 cs:List PV
def eRfc (r:Rfc):List PV:=eIdent r.id++ [.clo r.f r.cs]
@[simp] theorem jj (r:Rfc):(eRfc r).length=34:=by unfold eRfc;simp
instance :NR eRfc 34:=⟨jj⟩
instance (r:Rfc):E3 (eRfc r):=by unfold eRfc;infer_instance
instance :K2 eRfc:=⟨fun r=>(inferInstance:E3 (eRfc r)).out⟩
instance (x:Ident) (f:Nat) (cs:List PV):GI (.agg (eIdent x++ [.clo f cs])) eRfc ⟨x,f,cs⟩:=⟨Dm.agg _⟩
instance (x y:Ident) (z:PV):FB (eIdent x++ [z]) 0 (eIdent y) (eIdent y++ [z]):=DE (by simp)
instance (x:Ident) (y z:PV):FB (eIdent x++ [y]) 33 [z] (eIdent x++ [z]):=Ae (n:=33) (off:=0) (by simp) (Lv (by simp))
instance (r:Rfc):Km (eRfc r) 0 (eIdent r.id):=by unfold eRfc;exact Dk
instance (r:Rfc):Km (eRfc r) 33 [.clo r.f r.cs]:=by unfold eRfc;exact Al (n:=33) (off:=0) (by simp) MF
instance :Cx (eIdent Ident.zero++ [.raw .nilFunc]) 34:=⟨by simp⟩
instance :Cq Tryz.prog 94 (eIdent Ident.zero++ [.raw .nilFunc]):=Cq.of (us:=(eIdent Ident.zero++ [PV.raw .nilFunc]).map zv) (by kernel_rfl) (by kernel_rfl)
instance :Cq Tryz.prog 174 (eIdent Ident.zero++ [.raw .nilFunc]):=Cq.of (us:=(eIdent Ident.zero++ [PV.raw .nilFunc]).map zv) (by kernel_rfl) (by kernel_rfl)
instance :Cq Tryz.prog 171 [.slice [] .nil]:=NY (v:= .slice none 0 0) (by kernel_rfl) rfl fun _=> .nilN none (by simp)
structure x8 (P:Program) (r:Rfc) (p:Atm→Bool):Prop where
 fn:B5 P r.f
 out: ∀ a:Atm,Q.Fn P r.f (.agg (eAtm a)::r.cs) (.raw (.bool (p a)))
def fy (k:Int):Int:=if k=2∨k=3∨k=4∨k=6 then k else 0
instance qC (k:Int):C9 Tryz.prog 123 [.raw (.int .i64 k)] (.raw (.int .i64 (fy k))):=⟨by
 refine Au Tryz.func123 Tryz.ntmps123 rfl (rs:= [.tmp 2]) rfl rfl fun hb LF=>?_
 refine yD fun b=>?_
 refine Az (.of_eq ?_)
 simp only[fy]
 simp[DJ,CU]
 grind⟩
def vY (a:Atm):Bool:=decide (a.kind=1)
def uA (a:Atm):Bool:=decide (a.kind=1)&&(decide (a.type=2)||decide (a.type=3))
def u9 (a:Atm):Bool:=decide (a.kind=1)&&decide (a.type=1)
def nH (a:Atm):Bool:=decide (a.kind=1)&&decide (a.type=4)
def vX (c:Chg) (a:Atm):Bool:=decide (a.id=c.file)||(decide (a.kind=5)&&decide (a.file=c.file))
def vW (c:Chg) (a:Atm):Bool:=decide (c.kind=7)||(decide (a.kind=fy c.kind)&&decide (a.file=c.file))
instance sF (a:Atm):C9 Tryz.prog 116 [.agg (eAtm a)] (.raw (.bool (vY a))):=⟨by
 refine Au Tryz.func116 Tryz.ntmps116 rfl (rs:= [.tmp 2]) rfl rfl fun hb LF=>?_
 refine wf ?_
 refine Az (.of_eq ?_)
 rfl⟩
instance sE (a:Atm):C9 Tryz.prog 117 [.agg (eAtm a)] (.raw (.bool (uA a))):=⟨by
 refine Au Tryz.func117 Tryz.ntmps117 rfl (rs:= [.tmp 2]) rfl rfl fun hb LF=>?_
 refine wf ?_
 repeat' (first|(refine A6 (fun h=>?_) (fun h=>?_)<;>refine wf ?_)|(refine AX (fun h=>?_) (fun h=>?_)<;>refine wf ?_)|(refine AU (fun h=>?_) (fun h=>?_)<;>refine wf ?_)|(refine Ar (fun h=>?_) (fun h=>?_)<;>(have h2:=h;(try simp only[AB,A8,AG,AL]at h2);refine wf ?_)))
 all_goals (refine Az (.of_eq ?_);simp only[uA];first|(simp_all;done)|grind)⟩
instance sD (a:Atm):C9 Tryz.prog 118 [.agg (eAtm a)] (.raw (.bool (u9 a))):=⟨by
 refine Au Tryz.func118 Tryz.ntmps118 rfl (rs:= [.tmp 2]) rfl rfl fun hb LF=>?_
 refine wf ?_
 repeat' (first|(refine A6 (fun h=>?_) (fun h=>?_)<;>refine wf ?_)|(refine AX (fun h=>?_) (fun h=>?_)<;>refine wf ?_)|(refine AU (fun h=>?_) (fun h=>?_)<;>refine wf ?_)|(refine Ar (fun h=>?_) (fun h=>?_)<;>(have h2:=h;(try simp only[AB,A8,AG,AL]at h2);refine wf ?_)))
 all_goals (refine Az (.of_eq ?_);simp only[u9];first|(simp_all;done)|grind)⟩
instance sC (a:Atm):C9 Tryz.prog 120 [.agg (eAtm a)] (.raw (.bool (nH a))):=⟨by
 refine Au Tryz.func120 Tryz.ntmps120 rfl (rs:= [.tmp 2]) rfl rfl fun hb LF=>?_
 refine wf ?_
 repeat' (first|(refine A6 (fun h=>?_) (fun h=>?_)<;>refine wf ?_)|(refine AX (fun h=>?_) (fun h=>?_)<;>refine wf ?_)|(refine AU (fun h=>?_) (fun h=>?_)<;>refine wf ?_)|(refine Ar (fun h=>?_) (fun h=>?_)<;>(have h2:=h;(try simp only[AB,A8,AG,AL]at h2);refine wf ?_)))
 all_goals (refine Az (.of_eq ?_);simp only[nH];first|(simp_all;done)|grind)⟩
instance sA (c:Chg) (a:Atm):C9 Tryz.prog 121 [.agg (eAtm a),.pt (eChg c) 0] (.raw (.bool (vX c a))):=⟨by
 refine Au Tryz.func121 Tryz.ntmps121 rfl (rs:= [.tmp 3]) rfl rfl fun hb LF=>?_
 refine wf ?_
 repeat' (first|(refine A6 (fun h=>?_) (fun h=>?_)<;>refine wf ?_)|(refine AX (fun h=>?_) (fun h=>?_)<;>refine wf ?_)|(refine AU (fun h=>?_) (fun h=>?_)<;>refine wf ?_)|(refine Ar (fun h=>?_) (fun h=>?_)<;>(have h2:=h;(try simp only[AB,A8,AG,AL]at h2);refine wf ?_)))
 all_goals (refine Az (.of_eq ?_);simp only[vX];first|(simp_all;done)|grind)⟩
instance s9 (c:Chg) (a:Atm):C9 Tryz.prog 122 [.agg (eAtm a),.pt (eChg c) 0] (.raw (.bool (vW c a))):=⟨by
 refine Au Tryz.func122 Tryz.ntmps122 rfl (rs:= [.tmp 3]) rfl rfl fun hb LF=>?_
 refine wf ?_
 repeat' (first|(refine A6 (fun h=>?_) (fun h=>?_)<;>refine wf ?_)|(refine AX (fun h=>?_) (fun h=>?_)<;>refine wf ?_)|(refine AU (fun h=>?_) (fun h=>?_)<;>refine wf ?_)|(refine Ar (fun h=>?_) (fun h=>?_)<;>(have h2:=h;(try simp only[AB,A8,AG,AL]at h2);refine wf ?_)))
 all_goals (refine Az (.of_eq ?_);simp only[vW];first|(simp_all;done)|grind)⟩
def fi (b:Nat) (l:List Rfc) (t:CN):List Res:= [.box b 90 [.slice (l.map eRfc) t],.tok t l.length 34]
theorem tP (x:Ident) (f:Nat) (cs:List PV) (b:Nat) (l:List Rfc) (t:CN) (hl:l.length≤1000000):
  BG Tryz.prog 115 [.agg (eIdent x),.clo f cs,.raw (.pointer (some ⟨b,0,none⟩))] (fi b l t) (fun _ L'=> ∃ t',L'=fi b (l++ [⟨x,f,cs⟩]) t'):=by
 refine CA Tryz.func115 rfl Tryz.ntmps115 (rs:= []) rfl rfl fun hb LF=>?_
 rw[show fi b l t++LF= .box b 90 [.slice (l.map eRfc) t]:: .tok t l.length 34::LF from rfl]
 refine bW fun t'=>?_
 exact⟨trivial,[],fi b (l++ [⟨x,f,cs⟩]) t',.nil,.refl _,t',rfl⟩
section
variable {N:Nat} {all:Array Oper} {K:Env→List Res→Prop} {fl:List Bool} {os:List Oper} {ρ:Env} {L:List Res} {Q:PPost} {c:Code} {d:Nat} {ty:TypeId} {pos:String} {af:Array Edge}
theorem Tc {x x0 x1:Operand} {ats:Array TypeId} {b f:Nat} {l:List Rfc} {t:CN} {id:Ident} {cs:List PV} {a1:PV} {LF:List Res}
  (qx:ρ.ev x= .clo 115 [.raw (.pointer (some ⟨b,0,none⟩))]) (q0:ρ.ev x0= .agg (eIdent id)) (q1:ρ.ev x1=a1) [h1:Vq a1 f cs] (hl:l.length≤1000000)
  (k: ∀ t' u,AQ Tryz.prog N all K fl.tail os (CT ρ d u) (.box b 90 [.slice ((l++ [Rfc.mk id f cs]).map eRfc) t']:: .tok t' (l++ [Rfc.mk id f cs]).length 34::LF)) (hd:Nat.blt d N=true:=by rfl) (hfl:fl.headD true=true:=by rfl):
  AQ Tryz.prog N all K fl (⟨some d,.call { callee:= .value x,args:= #[x0,x1],argTypes:=ats },ty,pos,af,none⟩::os) ρ (.box b 90 [.slice (l.map eRfc) t]:: .tok t l.length 34::LF):=
 CV (xs:= [x0,x1]) (fi b l t) LF (.of_eq qx) rfl rfl (.refl _) (fun _ L'=> ∃ t',L'=fi b (l++ [⟨id,f,cs⟩]) t')
  (BG.args (bs:= [.agg (eIdent id),.clo f cs,.raw (.pointer (some ⟨b,0,none⟩))]) rfl (fun i g1 g2=>by
   match i,g1,g2 with
   |0,_,_=>exact .of_eq q0
   |1,_,_=>show Le (ρ.ev x1) _;rw[q1];exact h1.out
   |2,_,_=>exact .refl _
   |m+3,g1,_=>exact absurd g1 (by simp)) (tP id f cs b l t hl)) (fun r L' ⟨t',e⟩=>by subst e;exact k t' r) hd hfl
end
def Hq (c:Chg):List Rfc:=
 if c.kind=2∨c.kind=3 then [⟨c.file,116,[]⟩]else if c.kind=4 then [⟨c.file,117,[]⟩]else
 if c.kind=5∨c.kind=6 then [⟨c.file,118,[]⟩]else []
def KQ (c:Chg):List Rfc:=if c.kind=2∧c.parent≠⟨Dig.zero,-1⟩then [⟨c.parent,120,[]⟩]else []
def P4 (c:Chg):List Rfc:=if c.kind=5∨c.kind=6 then [⟨c.after,121,[.pt (eChg c) 0]⟩,⟨c.before,121,[.pt (eChg c) 0]⟩]else []
def NJ (c:Chg) (l:List Ident):List Rfc:=l.map fun x=>⟨x,122,[.pt (eChg c) 0]⟩
def Ei (c:Chg):List Rfc:=Hq c++KQ c++P4 c++NJ c c.over
theorem Uv (c:Chg):(Hq c).length≤1:=by unfold Hq;split<;>(try split)<;>(try split)<;>simp
theorem Uu (c:Chg):(KQ c).length≤1:=by unfold KQ;split<;>simp
theorem Ur (c:Chg):(P4 c).length≤2:=by unfold P4;split<;>simp
instance jN (c:Chg) [hs:B4 (c.over.length≤400)]:C9 Tryz.prog 58 [.agg (eChg c)] (.slice ((Ei c).map eRfc) .ro):=⟨by
 have hover:=hs.out
 have r1:=Uv c
 have r2:=Uu c
 have r3:=Ur c
 refine Au Tryz.func58 Tryz.ntmps58 rfl (rs:= [.tmp 2]) rfl rfl fun hb LF=>?_
 refine wf ?_
 refine CC fun b3=>?_
 refine wo ?_
 refine AD ?_
 refine EL 34 ?_
 refine EP (.swap _ _ _) ?_
 refine ws ?_
 refine Cp (σ:=List Rfc × CN) (fun s=>s.1=Hq c) (fun s=> [(1,.pt (eChg c) 0),(3,.raw (.pointer (some ⟨b3,0,none⟩))),(4,.clo 115 [.raw (.pointer (some ⟨b3,0,none⟩))])]) (fun s=> .box b3 90 [.slice (s.1.map eRfc) s.2]:: .tok s.2 s.1.length 34::LF) ?_ ?_
 ·refine wf ?_
  refine Cp (σ:=Unit) (fun _=>True) (fun _=> [(1,.pt (eChg c) 0),(3,.raw (.pointer (some ⟨b3,0,none⟩))),(4,.clo 115 [.raw (.pointer (some ⟨b3,0,none⟩))]),(10,.raw (.int .i64 c.kind)),(11,.raw (.bool (decide (c.kind=2∨c.kind=3))))]) (fun _=> .box b3 90 [.slice [] .nil]:: .tok .nil 0 34::LF) ?_ ?_
  ·refine A6 (fun h=>?_) (fun h=>?_)
   ·refine wf ?_
    exact⟨(),trivial,⟨rfl,rfl,rfl,rfl,C4 (by rfl) (by simp[h])⟩,.refl _⟩
   ·refine wf ?_
    exact⟨(),trivial,⟨rfl,rfl,rfl,rfl,C4 (by rfl) (by simp[h])⟩,.refl _⟩
  intro _ _
  refine A6 (fun h=>?_) (fun h=>?_)
  ·refine wf ?_
   refine Tc (l:= []) rfl rfl (by(conv=>lhs;whnf);done) (h1:=(by first|infer_instance|fail)) (by simp) fun t' u=>?_
   refine wf ?_
   exact⟨([⟨c.file,116,[]⟩],t'),by rw[Hq,if_pos h],⟨rfl,rfl,rfl⟩,.refl _⟩
  have e1:Hq c=if c.kind=4 then [⟨c.file,117,[]⟩]else if c.kind=5∨c.kind=6 then [⟨c.file,118,[]⟩]else []:=by rw[Hq,if_neg h]
  refine wf ?_
  refine A6 (fun h4=>?_) (fun h4=>?_)
  ·refine wf ?_
   refine Tc (l:= []) rfl rfl (by(conv=>lhs;whnf);done) (h1:=(by first|infer_instance|fail)) (by simp) fun t' u=>?_
   refine wf ?_
   exact⟨([⟨c.file,117,[]⟩],t'),by rw[e1,if_pos h4],⟨rfl,rfl,rfl⟩,.refl _⟩
  rw[if_neg h4]at e1
  refine wf ?_
  refine Cp (σ:=Unit) (fun _=>True) (fun _=> [(1,.pt (eChg c) 0),(3,.raw (.pointer (some ⟨b3,0,none⟩))),(4,.clo 115 [.raw (.pointer (some ⟨b3,0,none⟩))]),(24,.raw (.bool (decide (c.kind=5∨c.kind=6))))]) (fun _=> .box b3 90 [.slice [] .nil]:: .tok .nil 0 34::LF) ?_ ?_
  ·refine A6 (fun h=>?_) (fun h=>?_)
   ·refine wf ?_
    exact⟨(),trivial,⟨rfl,rfl,rfl,C4 (by rfl) (by simp[h])⟩,.refl _⟩
   ·refine wf ?_
    exact⟨(),trivial,⟨rfl,rfl,rfl,C4 (by rfl) (by simp[h])⟩,.refl _⟩
  intro _ _
  refine A6 (fun h5=>?_) (fun h5=>?_)
  ·refine wf ?_
   refine Tc (l:= []) rfl rfl (by(conv=>lhs;whnf);done) (h1:=(by first|infer_instance|fail)) (by simp) fun t' u=>?_
   refine wf ?_
   exact⟨([⟨c.file,118,[]⟩],t'),by rw[e1,if_pos h5],⟨rfl,rfl,rfl⟩,.refl _⟩
  ·refine wf ?_
   exact⟨([],.nil),by rw[e1,if_neg h5],⟨rfl,rfl,rfl⟩,.refl _⟩
 rintro⟨l1,t1⟩ hl1
 dsimp only at hl1 ⊢
 subst hl1
 refine ws ?_
 refine BR [(39,.raw (.bool (decide (c.kind=2∧c.parent≠⟨Dig.zero,-1⟩)))),(1,.pt (eChg c) 0),(3,.raw (.pointer (some ⟨b3,0,none⟩))),(4,.clo 115 [.raw (.pointer (some ⟨b3,0,none⟩))])] (.box b3 90 [.slice ((Hq c).map eRfc) t1]:: .tok t1 (Hq c).length 34::LF) ?_ ?_
 ·repeat' (first|(refine A6 (fun h=>?_) (fun h=>?_)<;>refine wf ?_)|(refine AX (fun h=>?_) (fun h=>?_)<;>refine wf ?_)|(refine AU (fun h=>?_) (fun h=>?_)<;>refine wf ?_)|(refine Ar (fun h=>?_) (fun h=>?_)<;>(have h2:=h;(try simp only[AB,A8,AG,AL]at h2);refine wf ?_)))
  all_goals (refine⟨⟨C4 (by rfl) ?_,rfl,rfl,rfl⟩,.refl _⟩;first|(simp_all;done)|grind)
 refine Cp (σ:=List Rfc × CN) (fun s=>s.1=Hq c++KQ c) (fun s=> [(1,.pt (eChg c) 0),(3,.raw (.pointer (some ⟨b3,0,none⟩))),(4,.clo 115 [.raw (.pointer (some ⟨b3,0,none⟩))])]) (fun s=> .box b3 90 [.slice (s.1.map eRfc) s.2]:: .tok s.2 s.1.length 34::LF) ?_ ?_
 ·refine A6 (fun h=>?_) (fun h=>?_)
  ·refine wf ?_
   refine Tc rfl rfl (by(conv=>lhs;whnf);done) (h1:=(by first|infer_instance|fail)) (by omega) fun t' u=>?_
   refine wf ?_
   exact⟨(Hq c++ [⟨c.parent,120,[]⟩],t'),by rw[KQ,if_pos h],⟨rfl,rfl,rfl⟩,.refl _⟩
  ·refine wf ?_
   exact⟨(Hq c,t1),by rw[KQ,if_neg h];simp,⟨rfl,rfl,rfl⟩,.refl _⟩
 rintro⟨l1,t2⟩ hl1
 dsimp only at hl1 ⊢
 subst hl1
 refine ws ?_
 refine BR [(51,.raw (.bool (decide (c.kind=5∨c.kind=6)))),(1,.pt (eChg c) 0),(3,.raw (.pointer (some ⟨b3,0,none⟩))),(4,.clo 115 [.raw (.pointer (some ⟨b3,0,none⟩))])] (.box b3 90 [.slice ((Hq c++KQ c).map eRfc) t2]:: .tok t2 (Hq c++KQ c).length 34::LF) ?_ ?_
 ·repeat' (first|(refine A6 (fun h=>?_) (fun h=>?_)<;>refine wf ?_)|(refine AX (fun h=>?_) (fun h=>?_)<;>refine wf ?_)|(refine AU (fun h=>?_) (fun h=>?_)<;>refine wf ?_)|(refine Ar (fun h=>?_) (fun h=>?_)<;>(have h2:=h;(try simp only[AB,A8,AG,AL]at h2);refine wf ?_)))
  all_goals (refine⟨⟨C4 (by rfl) ?_,rfl,rfl,rfl⟩,.refl _⟩;first|(simp_all;done)|grind)
 refine Cp (σ:=List Rfc × CN) (fun s=>s.1=Hq c++KQ c++P4 c) (fun s=> [(1,.pt (eChg c) 0),(3,.raw (.pointer (some ⟨b3,0,none⟩))),(4,.clo 115 [.raw (.pointer (some ⟨b3,0,none⟩))])]) (fun s=> .box b3 90 [.slice (s.1.map eRfc) s.2]:: .tok s.2 s.1.length 34::LF) ?_ ?_
 ·refine A6 (fun h=>?_) (fun h=>?_)
  ·refine wf ?_
   refine Tc rfl rfl (by(conv=>lhs;whnf);done) (h1:=(by first|infer_instance|fail)) (by simp only[AA];omega) fun t' u=>?_
   refine wf ?_
   refine Tc rfl rfl (by(conv=>lhs;whnf);done) (h1:=(by first|infer_instance|fail)) (by simp only[AA,AN,Af];omega) fun t' u=>?_
   refine wf ?_
   exact⟨(Hq c++KQ c++ [⟨c.after,121,[.pt (eChg c) 0]⟩]++ [⟨c.before,121,[.pt (eChg c) 0]⟩],t'),by rw[P4,if_pos h];simp,⟨rfl,rfl,rfl⟩,.refl _⟩
  ·refine wf ?_
   exact⟨(Hq c++KQ c,t2),by rw[P4,if_neg h];simp,⟨rfl,rfl,rfl⟩,.refl _⟩
 rintro⟨l1,t3⟩ hl1
 dsimp only at hl1 ⊢
 have hl3:l1.length≤4:=by rw[hl1];simp only[AA];omega
 refine wf ?_
 refine Ab (σ:=Nat × List Rfc × CN) (fun k=>k.1≤c.over.length∧k.2.1=l1++NJ c (c.over.take k.1)) (fun k=>c.over.length - k.1) (fun k=> [(1,.pt (eChg c) 0),(3,.raw (.pointer (some ⟨b3,0,none⟩))),(4,.clo 115 [.raw (.pointer (some ⟨b3,0,none⟩))]),(64,.slice (c.over.map eIdent) .ro),(65,.raw (.int .i64 c.over.length)),(66,.raw (.int .i64 k.1))]) (fun k=> .box b3 90 [.slice (k.2.1.map eRfc) k.2.2]:: .tok k.2.2 k.2.1.length 34::LF) (0,l1,t3) ⟨by simp,by simp[NJ]⟩ ⟨rfl,rfl,rfl,rfl,rfl,rfl⟩ (.refl _) ?_
 rintro⟨k,m,t4⟩ ⟨hk,hm⟩
 dsimp only at hk hm ⊢
 have hml:m.length≤404:=by rw[hm,NJ];simp only[AA,AR,AZ];omega
 refine wf ?_
 refine A6 (fun hc=>?_) (fun hc=>?_)
 ·have hlt:k < c.over.length:=by omega
  refine wz fun b7=>?_
  refine Ay 7 ?_
  refine wf ?_
  refine Tc rfl rfl (by(conv=>lhs;whnf);done) (h1:=(by first|infer_instance|fail)) (by omega) fun t' u=>?_
  refine wf ?_
  refine⟨(k+1,m++ [⟨c.over[k],122,[.pt (eChg c) 0]⟩],t'),⟨by dsimp only;omega,?_⟩,by dsimp only;omega,⟨rfl,rfl,rfl,rfl,rfl,rfl⟩,.refl _⟩
  dsimp only
  rw[hm,NJ,NJ,A7 hlt,An,AV];rfl
 ·rw[AE (by omega)]at hm
  refine wf ?_
  refine Az (.ros ?_)
  rw[hm,hl1];rfl⟩
theorem Gk {α:Type} (f:α→Int): ∀ a b:List α,Av f (a++b)=if Av f a≠0 then Av f a else Av f b
 | [],b=>by simp[Av]
 |x::a,b=>by
  simp only[B0,Av,Gk f a b]
  by_cases h:f x=0<;>simp[h]
theorem Qb {α β:Type} (f:β→Int) (g:α→β): ∀ l:List α,Av f (l.map g)=Av (fun x=>f (g x)) l
 | []=>rfl
 |x::l=>by simp only[Aq,Av,Qb f g l]
theorem GQ {α:Type} {f g:α→Int}: ∀ {l:List α},(∀ x∈l,f x=g x)→Av f l=Av g l
 | [],_=>rfl
 |x::l,h=>by
  rw[Av,Av,h x (by simp),GQ (fun y hy=>h y (AI _ hy))]
def NM (c:Chg) (f:Nat):Atm→Bool:=
 if f=116 then vY else if f=117 then uA else if f=118 then u9 else if f=120 then nH else if f=121 then vX c else vW c
theorem kE (c:Chg) (r:Rfc) (h:r∈Ei c):x8 Tryz.prog r (NM c r.f):=by
 simp only[Ei,Ai]at h
 rcases h with ((h|h)|h)|h
 ·unfold Hq at h
  split at h
  ·simp at h;subst h;exact⟨inferInstance,fun a=>(sF a).out⟩
  ·split at h
   ·simp at h;subst h;exact⟨inferInstance,fun a=>(sE a).out⟩
   ·split at h
    ·simp at h;subst h;exact⟨inferInstance,fun a=>(sD a).out⟩
    ·simp at h
 ·unfold KQ at h
  split at h
  ·simp at h;subst h;exact⟨inferInstance,fun a=>(sC a).out⟩
  ·simp at h
 ·unfold P4 at h
  split at h
  ·simp at h
   rcases h with h|h<;>subst h<;>exact⟨inferInstance,fun a=>(sA c a).out⟩
  ·simp at h
 ·unfold NJ at h
  obtain⟨x,_,rfl⟩:=AO.1 h
  exact⟨inferInstance,fun a=>(s9 c a).out⟩
def Nk (c:Chg) (own:List Atm) (r:Rfc):Int:=
 if r.id.n < 0∨(r.id.patch=Dig.zero∧(own.length:Int)≤r.id.n)∨100000≤r.id.n then 7 else if r.id.patch=Dig.zero∧NM c r.f (own.getD r.id.n.toNat Atm.zero)=false then 8 else 0
def R5 (c:Chg) (own:List Atm):Int:=
 if Av (Nk c own) (Ei c)≠0 then Av (Nk c own) (Ei c)else if c.kind=2∧c.parent=c.file then 20 else
 if(c.kind=6∧c.after=c.before)∨(c.kind=5∧c.after=c.before∧c.after≠c.file)then 1 else 0
def NN (own:List Atm):Prop:= ∀ i (h:i < own.length),own[i].id=⟨Dig.zero,i⟩
theorem Lj (c:Chg) (own:List Atm) (hl:own.length≤100000) (x:Ident) (f:Nat) (cs:List PV):Nk c own ⟨x,f,cs⟩=J4 x own (NM c f (Lp own x)):=by
 by_cases h:x.patch=Dig.zero
 ·by_cases h1:0≤x.n∧x.n < own.length
  ·have n1: ¬(x.n < 0∨(x.patch=Dig.zero∧(own.length:Int)≤x.n)∨100000≤x.n):=by rintro(h2|⟨_,h2⟩|h2)<;>omega
   have ha:Dj x own.length=true:=by unfold Dj;rw[if_pos h];simp[h1]
   unfold Nk J4 Lp
   dsimp only
   rw[if_neg n1,ha,if_pos (show x.patch=Dig.zero∧0≤x.n from⟨h,h1.1⟩)]
   simp only[Bool.true_eq_false,if_false]
  ·have n1:x.n < 0∨(x.patch=Dig.zero∧(own.length:Int)≤x.n)∨100000≤x.n:=by
    by_cases h2:x.n < 0
    ·exact .inl h2
    ·exact .inr (.inl ⟨h,by omega⟩)
   have ha:Dj x own.length=false:=by
    unfold Dj;rw[if_pos h]
    by_cases h2:0≤x.n
    ·have: ¬x.n < own.length:=fun h3=>h1 ⟨h2,h3⟩
     simp[this]
    ·simp[h2]
   unfold Nk J4
   dsimp only
   rw[if_pos n1,if_pos ha]
 ·by_cases h1:0≤x.n∧x.n < 100000
  ·have n1: ¬(x.n < 0∨(x.patch=Dig.zero∧(own.length:Int)≤x.n)∨100000≤x.n):=by
    rintro(h2|⟨h2,_⟩|h2)
    ·omega
    ·exact h h2
    ·omega
   have ha:Dj x own.length=true:=by unfold Dj;rw[if_neg h];simp[h1]
   unfold Nk J4
   dsimp only
   rw[if_neg n1,ha]
   simp only[Bool.true_eq_false,if_false,h,false_and]
  ·have n1:x.n < 0∨(x.patch=Dig.zero∧(own.length:Int)≤x.n)∨100000≤x.n:=by omega
   have ha:Dj x own.length=false:=by
    unfold Dj;rw[if_neg h]
    by_cases h2:0≤x.n
    ·have: ¬x.n < 100000:=fun h3=>h1 ⟨h2,h3⟩
     simp[this]
    ·simp[h2]
   unfold Nk J4
   dsimp only
   rw[if_pos n1,if_pos ha]
theorem Sy {x:Ident} {own:List Atm} {a b:Bool} (h:x.patch=Dig.zero→0≤x.n→x.n < own.length→a=b):J4 x own a=J4 x own b:=by
 unfold J4
 by_cases h1:Dj x own.length=false
 ·rw[if_pos h1,if_pos h1]
 rw[if_neg h1,if_neg h1]
 by_cases h2:x.patch=Dig.zero
 ·have h3:Dj x own.length=true:=by simpa using h1
  unfold Dj at h3
  simp only[h2,if_true,BJ,AB]at h3
  rw[h h2 h3.1 h3.2]
 ·rw[if_neg (fun h3=>h2 h3.1),if_neg (fun h3=>h2 h3.1)]
theorem Jj {c:Chg} (h:Bz c=0):1≤c.kind∧c.kind≤7:=by
 unfold Bz at h
 by_cases h1:c.kind < 1∨7 < c.kind
 ·rw[if_pos h1]at h;omega
 ·omega
theorem KD {c:Chg} (h:Bz c=0):Fo (Hr c)=true:=by
 have hk:=Jj h
 unfold Bz at h
 rw[if_neg (by omega)]at h
 by_cases h1:Fo (Hr c)=false
 ·rw[if_pos h1]at h;omega
 ·simpa using h1
theorem Ji {c:Chg} (h:Bz c=0) (hk:c.kind=1∨c.kind=5):c.over= []:=by
 have h2:=KD h
 unfold Fo Hr at h2
 simp only[BJ,AB]at h2
 have h3:=h2.2
 rw[if_neg (by omega)]at h3
 exact BO (by omega)
theorem SF {c:Chg} (h:Bz c=0):c.over.length≤400:=by
 have h0:=Ji h
 have hk:c.kind=5∨c.kind≠5:=by omega
 rcases hk with hk|hk
 ·rw[h0 (.inr hk)];simp
 clear h0
 unfold Bz at h
 generalize Fo (Hr c)=a1 at h
 generalize Jc c.name=a2 at h
 generalize PK c.over=a3 at h
 generalize Mg c.lines=a4 at h
 rcases BP 400 c.over.length with hc|hc
 ·exfalso
  have hc':400 < (c.over.length:Int):=by omega
  rw[if_pos hc',if_neg hk]at h
  by_cases g1:c.kind < 1∨7 < c.kind
  ·rw[if_pos g1]at h;exact absurd h (by decide)
  rw[if_neg g1]at h
  by_cases g2:a1=false
  ·rw[if_pos g2]at h;exact absurd h (by decide)
  rw[if_neg g2]at h
  by_cases g3:c.kind=1∧(c.type < 1∨4 < c.type)
  ·rw[if_pos g3]at h;exact absurd h (by decide)
  rw[if_neg g3]at h
  by_cases g4:c.kind=2∧a2=false
  ·rw[if_pos g4]at h;exact absurd h (by decide)
  rw[if_neg g4]at h
  by_cases g5:c.kind=3∧(c.mode < 0∨511 < c.mode)
  ·rw[if_pos g5]at h;exact absurd h (by decide)
  rw[if_neg g5]at h
  by_cases g6:65536 < (c.data.length:Int)
  ·rw[if_pos g6]at h;exact absurd h (by decide)
  rw[if_neg g6]at h
  by_cases g7:c.kind=7∧(c.over.length:Int)=0
  ·rw[if_pos g7]at h;exact absurd h (by decide)
  rw[if_neg g7]at h
  exact absurd h (by decide)
 ·exact hc
theorem iu {c:Chg} {own:List Atm} (hf:Bz c=0) (hl:own.length≤100000) (hi:NN own):R5 c own=Ey c own:=by
 have hk:=Jj hf
 have e1:Av (Nk c own) (Hq c)=Jy c own:=by
  unfold Hq Jy
  by_cases h1:c.kind=2∨c.kind=3
  ·have:vY=EK c.kind:=by
    funext a;unfold vY EK IW
    rcases h1 with h|h<;>simp[h]
   rw[if_pos h1,if_pos (by omega),Av,Av,Lj c own hl,show NM c 116=vY from rfl,this]
   split<;>simp_all
  by_cases h2:c.kind=4
  ·have:uA=EK c.kind:=by
    funext a;unfold uA EK IW
    simp[h2]<;>(by_cases ha:a.kind=1<;>simp[ha])
   rw[if_neg h1,if_pos h2,if_pos (by omega),Av,Av,Lj c own hl,show NM c 117=uA from rfl,this]
   split<;>simp_all
  by_cases h3:c.kind=5∨c.kind=6
  ·have:u9=EK c.kind:=by
    funext a;unfold u9 EK IW
    rcases h3 with h|h<;>simp[h]<;>by_cases ha:a.kind=1<;>simp[ha]
   rw[if_neg h1,if_neg h2,if_pos h3,if_pos (by omega),Av,Av,Lj c own hl,show NM c 118=u9 from rfl,this]
   split<;>simp_all
  ·rw[if_neg h1,if_neg h2,if_neg h3,if_neg (by omega)];rfl
 have e2:Av (Nk c own) (KQ c)=Lk c own:=by
  unfold KQ Lk rRoot
  by_cases h1:c.kind=2∧c.parent≠⟨Dig.zero,-1⟩
  ·rw[if_pos h1,if_pos h1,Av,Av,Lj c own hl,show NM c 120=nH from rfl,show nH=rDirectory from rfl]
   split<;>simp_all
  ·rw[if_neg h1,if_neg h1];rfl
 have e6: ∀ x:Ident,Nk c own ⟨x,121,[.pt (eChg c) 0]⟩=QD c own x:=fun x=>by
  rw[Lj c own hl,show NM c 121=vX c from rfl,QD]
  refine Sy fun h1 h2 h3=>?_
  have h4:x.n.toNat < own.length:=by omega
  have e:(Lp own x).id=x:=by
   unfold Lp
   rw[if_pos ⟨h1,h2⟩]
   have:own.getD x.n.toNat Atm.zero=own[x.n.toNat]:=by simp[List.getD,h4]
   rw[this,hi _ h4]
   obtain⟨p,n⟩:=x
   simp only at h1 h2 ⊢
   subst h1
   congr 1
   omega
  unfold vX
  rw[e];rfl
 have e3:Av (Nk c own) (P4 c)=IK c own:=by
  unfold P4 IK
  by_cases h1:c.kind=5∨c.kind=6
  ·have:IW c.kind=true:=by unfold IW;rcases h1 with h|h<;>simp[h]
   rw[if_pos h1,if_pos this]
   simp only[Av,e6]
  ·have: ¬IW c.kind=true:=by unfold IW;intro h;simp at h;exact h1 h
   rw[if_neg h1,if_neg this];rfl
 have e4:Av (Nk c own) (NJ c c.over)=Av (Nm c own) c.over:=by
  unfold NJ
  rw[Qb]
  refine GQ fun x hx=>?_
  rw[Lj c own hl,show NM c 122=vW c from rfl,Nm]
  refine Sy fun _ _ _=>?_
  have h15:c.kind≠1∧c.kind≠5:=⟨fun h=>(by rw[Ji hf (.inl h)]at hx;simp at hx),fun h=>(by rw[Ji hf (.inr h)]at hx;simp at hx)⟩
  unfold vW GK QB fy
  by_cases h7:c.kind=7
  ·simp[h7]
  ·have:c.kind=2∨c.kind=3∨c.kind=4∨c.kind=6:=by omega
   rw[if_pos this,if_neg h7]
   simp[h7]
   omega
 unfold R5 Ey
 rw[Ei,Gk,Gk,Gk,e1,e2,e3,e4]
 have e5:((c.kind=6∧c.after=c.before)∨(c.kind=5∧c.after=c.before∧c.after≠c.file))↔((IW c.kind=true∧c.after=c.before)∧(c.kind=6∨c.after≠c.file)):=by
  unfold IW
  simp only[UA,AB]
  constructor
  ·rintro(⟨h1,h2⟩|⟨h1,h2,h3⟩)
   ·exact⟨⟨.inr h1,h2⟩,.inl h1⟩
   ·exact⟨⟨.inl h1,h2⟩,.inr h3⟩
  ·rintro⟨⟨h1|h1,h2⟩,h3⟩
   ·rcases h3 with h3|h3
    ·omega
    ·exact .inr ⟨h1,h2,h3⟩
   ·exact .inl ⟨h1,h2⟩
 simp only[e5]
 by_cases a1:Jy c own=0<;>by_cases a2:Lk c own=0<;>by_cases a3:IK c own=0<;>by_cases a4:Av (Nm c own) c.over=0<;>simp[a1,a2,a3,a4]
theorem Uq {c:Chg} (h:c.over.length≤400):(Ei c).length≤404:=by
 have r1:=Uv c
 have r2:=Uu c
 have r3:=Ur c
 rw[Ei,NJ];simp only[AA,AR];omega
theorem XJ (c:Chg) (own:List Atm) (t:CN) (hov:c.over.length≤400) (hol:own.length≤100000):Q.Fn Tryz.prog 143 [.agg (eChg c),.slice (own.map eAtm) t] (.raw (.int .i64 (R5 c own))):=by
 have i0:B4 (c.over.length≤400):=⟨hov⟩
 have hrl:=Uq hov
 refine Au Tryz.func143 Tryz.ntmps143 rfl (rs:= [.tmp 4]) rfl rfl fun hb LF=>?_
 refine wf ?_
 refine Ab (σ:=Nat) (fun k=>k≤(Ei c).length∧ ∀ i (h:i < (Ei c).length),i < k→Nk c own (Ei c)[i]=0) (fun k=>(Ei c).length - k) (fun k=> [(1,.slice (own.map eAtm) t),(2,.pt (eChg c) 0),(8,.slice ((Ei c).map eRfc) .ro),(9,.raw (.int .i64 (Ei c).length)),(10,.raw (.int .i64 k))]) (fun _=>LF) 0 ⟨by simp,by simp⟩ ⟨rfl,rfl,rfl,rfl,rfl⟩ (.refl _) ?_
 rintro k ⟨hk,he⟩
 refine wf ?_
 refine A6 (fun hc=>?_) (fun hc=>?_)
 ·have hlt:k < (Ei c).length:=by omega
  have hat:=DQ (f:=Nk c own) hlt he
  have hsu:=fun h=>EC (f:=Nk c own) he hlt h
  have hfit:=kE c _ (AJ hlt)
  refine wz fun b6=>?_
  generalize (Ei c)[k]=r at hat hsu hfit ⊢
  refine Ay 6 ?_
  have i1:B5 Tryz.prog r.f:=hfit.fn
  have i2: ∀ a:Atm,C9 Tryz.prog r.f (.agg (eAtm a)::r.cs) (.raw (.bool (NM c r.f a))):=fun a=>⟨hfit.out a⟩
  have er:Nk c own r=if r.id.n < 0∨(r.id.patch=Dig.zero∧(own.length:Int)≤r.id.n)∨100000≤r.id.n then 7 else if r.id.patch=Dig.zero∧NM c r.f (own.getD r.id.n.toNat Atm.zero)=false then 8 else 0:=rfl
  refine wf ?_
  refine Cp (σ:=Unit) (fun _=>True) (fun _=> [(1,.slice (own.map eAtm) t),(2,.pt (eChg c) 0),(6,.pt (eRfc r) 0),(8,.slice ((Ei c).map eRfc) .ro),(9,.raw (.int .i64 (Ei c).length)),(10,.raw (.int .i64 k)),(14,.raw (.bool (decide (r.id.n < 0∨(r.id.patch=Dig.zero∧(own.length:Int)≤r.id.n)∨100000≤r.id.n))))]) (fun _=>LF) ?_ ?_
  ·refine A6 (fun h=>?_) (fun h=>?_)
   ·refine wf ?_
    exact⟨(),trivial,⟨rfl,rfl,rfl,rfl,rfl,rfl,C4 (by rfl) (by simp[h])⟩,.refl _⟩
   ·refine wf ?_
    refine BR [(14,.raw (.bool (decide (r.id.patch=Dig.zero∧(own.length:Int)≤r.id.n)))),(1,.slice (own.map eAtm) t),(2,.pt (eChg c) 0),(6,.pt (eRfc r) 0),(8,.slice ((Ei c).map eRfc) .ro),(9,.raw (.int .i64 (Ei c).length)),(10,.raw (.int .i64 k))] (LF) ?_ ?_
    ·repeat' (first|(refine A6 (fun h=>?_) (fun h=>?_)<;>refine wf ?_)|(refine AX (fun h=>?_) (fun h=>?_)<;>refine wf ?_)|(refine AU (fun h=>?_) (fun h=>?_)<;>refine wf ?_)|(refine Ar (fun h=>?_) (fun h=>?_)<;>(have h2:=h;(try simp only[AB,A8,AG,AL]at h2);refine wf ?_)))
     all_goals (refine⟨⟨C4 (by rfl) ?_,rfl,rfl,rfl,rfl,rfl,rfl⟩,.refl _⟩;first|(simp_all;done)|(clear hat hsu hfit er he;grind))
    refine wf ?_
    refine A6 (fun h2=>?_) (fun h2=>?_)
    ·refine wf ?_
     exact⟨(),trivial,⟨rfl,rfl,rfl,rfl,rfl,rfl,C4 (by rfl) (by simp[h2])⟩,.refl _⟩
    ·refine wf ?_
     have e8:(100000≤r.id.n)↔(r.id.n < 0∨(r.id.patch=Dig.zero∧(own.length:Int)≤r.id.n)∨100000≤r.id.n):=⟨fun h=> .inr (.inr h),fun h3=>by
      rcases h3 with h3|h3|h3
      ·exact absurd h3 h
      ·exact absurd h3 h2
      ·exact h3⟩
     exact⟨(),trivial,⟨rfl,rfl,rfl,rfl,rfl,rfl,C4 (by rfl) (by rw[decide_eq_decide];exact e8)⟩,.refl _⟩
  intro _ _
  refine A6 (fun h=>?_) (fun h=>?_)
  ·refine wf ?_
   refine Az (.of_eq ?_)
   rw[if_pos h]at er
   rw[R5,hat (by rw[er];decide),er];rfl
  rw[if_neg h]at er
  refine wf ?_
  refine BR [(34,.raw (.bool (decide (r.id.patch=Dig.zero∧NM c r.f (own.getD r.id.n.toNat Atm.zero)=false)))),(1,.slice (own.map eAtm) t),(2,.pt (eChg c) 0),(8,.slice ((Ei c).map eRfc) .ro),(9,.raw (.int .i64 (Ei c).length)),(10,.raw (.int .i64 k))] LF ?_ ?_
  ·refine Ar (fun hp=>?_) (fun hp=>?_)
   ·have hp2:=BF hp
    have g1:0≤r.id.n:=by
     rcases U6 r.id.n 0 with h'|h'
     ·exact absurd (.inl h') h
     ·exact h'
    have g2:r.id.n < own.length:=by
     rcases U6 r.id.n own.length with h'|h'
     ·exact h'
     ·exact absurd (.inr (.inl ⟨hp2,h'⟩)) h
    have g3:own.getD r.id.n.toNat Atm.zero=own[r.id.n.toNat]'(by omega):=by
     have:r.id.n.toNat < own.length:=by omega
     simp[List.getD,this]
    refine wf ?_
    exact⟨⟨C4 (by rfl) (by rw[g3];simp[hp2]),rfl,rfl,rfl,rfl,rfl⟩,.refl _⟩
   ·have hp2:=Bm hp
    refine wf ?_
    exact⟨⟨C4 (by rfl) (by simp[hp2]),rfl,rfl,rfl,rfl,rfl⟩,.refl _⟩
  refine wf ?_
  refine A6 (fun h2=>?_) (fun h2=>?_)
  ·refine wf ?_
   refine Az (.of_eq ?_)
   rw[if_pos h2]at er
   rw[R5,hat (by rw[er];decide),er];rfl
  ·rw[if_neg h2]at er
   refine wf ?_
   exact⟨k+1,⟨by omega,hsu er⟩,by dsimp only;omega,⟨rfl,rfl,rfl,rfl,rfl⟩,.refl _⟩
 have e0:Av (Nk c own) (Ei c)=0:=Db fun i h=>he i h (by omega)
 rw[R5,if_neg (by simp[e0])]
 clear e0 he hk hc
 refine wf ?_
 refine BR [(51,.raw (.bool (decide (c.kind=2∧c.parent=c.file)))),(2,.pt (eChg c) 0)] (LF) ?_ ?_
 ·repeat' (first|(refine A6 (fun h=>?_) (fun h=>?_)<;>refine wf ?_)|(refine AX (fun h=>?_) (fun h=>?_)<;>refine wf ?_)|(refine AU (fun h=>?_) (fun h=>?_)<;>refine wf ?_)|(refine Ar (fun h=>?_) (fun h=>?_)<;>(have h2:=h;(try simp only[AB,A8,AG,AL]at h2);refine wf ?_)))
  all_goals (refine⟨⟨C4 (by rfl) ?_,rfl⟩,.refl _⟩;first|(simp_all;done)|grind)
 refine wf ?_
 refine A6 (fun h=>?_) (fun h=>?_)
 ·refine wf ?_
  refine Az (.of_eq ?_)
  rw[if_pos h]
 rw[if_neg h]
 refine wf ?_
 refine BR [(62,.raw (.bool (decide (c.kind=6∧c.after=c.before)))),(2,.pt (eChg c) 0)] (LF) ?_ ?_
 ·repeat' (first|(refine A6 (fun h=>?_) (fun h=>?_)<;>refine wf ?_)|(refine AX (fun h=>?_) (fun h=>?_)<;>refine wf ?_)|(refine AU (fun h=>?_) (fun h=>?_)<;>refine wf ?_)|(refine Ar (fun h=>?_) (fun h=>?_)<;>(have h2:=h;(try simp only[AB,A8,AG,AL]at h2);refine wf ?_)))
  all_goals (refine⟨⟨C4 (by rfl) ?_,rfl⟩,.refl _⟩;first|(simp_all;done)|grind)
 refine wf ?_
 refine Cp (σ:=Unit) (fun _=>True) (fun _=> [(62,.raw (.bool (decide ((c.kind=6∧c.after=c.before)∨(c.kind=5∧c.after=c.before∧c.after≠c.file)))))]) (fun _=>LF) ?_ ?_
 ·refine A6 (fun h=>?_) (fun h=>?_)
  ·refine wf ?_
   exact⟨(),trivial,C4 (by rfl) (by simp[h]),.refl _⟩
  ·refine wf ?_
   repeat' (first|(refine A6 (fun h=>?_) (fun h=>?_)<;>refine wf ?_)|(refine AX (fun h=>?_) (fun h=>?_)<;>refine wf ?_)|(refine AU (fun h=>?_) (fun h=>?_)<;>refine wf ?_)|(refine Ar (fun h=>?_) (fun h=>?_)<;>(have h2:=h;(try simp only[AB,A8,AG,AL]at h2);refine wf ?_)))
   all_goals (refine⟨(),trivial,C4 (by rfl) ?_,.refl _⟩;first|(simp_all;done)|grind)
 intro _ _
 refine A6 (fun h=>?_) (fun h=>?_)
 ·refine wf ?_
  refine Az (.of_eq ?_)
  rw[if_pos h]
 ·refine wf ?_
  refine Az (.of_eq ?_)
  rw[if_neg h]
instance bH (c:Chg) (own:List Atm) (t:CN) [hs:B4 (Bz c=0∧own.length≤100000∧NN own)]:C9 Tryz.prog 143 [.agg (eChg c),.slice (own.map eAtm) t] (.raw (.int .i64 (Ey c own))):=⟨by
 obtain⟨h1,h2,h3⟩:=hs.out
 rw[←iu h1 h2 h3]
 exact XJ c own t (SF h1) h2⟩
end Go.Proofs
