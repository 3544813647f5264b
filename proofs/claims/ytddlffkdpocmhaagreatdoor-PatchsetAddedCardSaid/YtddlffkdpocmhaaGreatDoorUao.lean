/- Contracts of the program: digests of strings (sha256): rotations, constants, the schedule of a block. -/
import Derived.Test.YtddlffkdpocmhaaGreatDoorUaj
import Derived.Test.YtddlffkdpocmhaaGreatDoorUah
import Derived.Test.YtddlffkdpocmhaaGreatDoorUan
import Derived.Test.YtddlffkdpocmhaaGreatDoorUag
import Derived.Test.YtddlffkdpocmhaaGreatDoorUal
import Derived.Test.YtddlffkdpocmhaaGreatDoorUai
set_option linter.unusedSimpArgs false
set_option linter.unusedVariables false
namespace Go.Proofs
open Go Go.Q
attribute [local irreducible] pwp pops PCalls OpN
section
variable {P:Program} {N:Nat} {all:Array Oper} {K:Env→List Res→Prop} {fl:List Bool} {os:List Oper} {ρ:Env} {L:List Res} {d:Nat} {ty:TypeId} {pos:String} {af:Array Edge}
theorem s_convNeg {S T:TypeId} {k':IntKind} [hS:TInt P S k'] [hT:TInt P T .u64] {x:Operand} {k₀:IntKind} {n:Nat} (hx:ρ.ev x= .raw (.int k₀ (-(n:Int)))) (hn:0 < n∧n≤32) (k:pops P N all K fl.tail os (upd ρ d (.raw (.int .u64 ((18446744073709551616 - n:Nat):Int)))) L) (hd:Nat.blt d N=true:=by rfl):
  pops P N all K fl (⟨some d,.convert S T x,ty,pos,af,none⟩::os) ρ L:=s_conv hx (by
 have e:IntKind.wrap .u64 (-(n:Int))=((18446744073709551616 - n:Nat):Int):=by
  simp only[IntKind.wrap,IntKind.signed,IntKind.bits]
  simp
  omega
 rw[e];exact k) hd
theorem s_and31 {T T':TypeId} {x y:Operand} {n:Nat} (hx:ρ.ev x= .raw (.int .u64 ((18446744073709551616 - n:Nat):Int))) (hy:ρ.ev y= .raw (.int .u64 31)) (hn:0 < n∧n < 32) (k:pops P N all K fl.tail os (upd ρ d (.raw (.int .u64 ((32 - n:Nat):Int)))) L) (hd:Nat.blt d N=true:=by rfl):
  pops P N all K fl (⟨some d,.binOp .and T x y T',ty,pos,af,none⟩::os) ρ L:=s_int hx hy (fun w=>by
 have key: ∀ m:Nat,m < 32→0 < m→IntKind.u64.wrap ((BitVec.ofInt 64 ((18446744073709551616 - m:Nat):Int)&&& BitVec.ofInt 64 31).toNat:Int)=((32 - m:Nat):Int):=by decide
 simp only[binOp,ne_eq,not_true_eq_false,if_false]
 show(pure (Value.int .u64 (IntKind.u64.wrap ((BitVec.ofInt 64 ((18446744073709551616 - n:Nat):Int)&&& BitVec.ofInt 64 31).toNat:Int))):Sem Value).run P w=_
 rw[key n hn.2 hn.1];rfl) k hd
end
theorem orW_comm (a b:Nat):orW a b=orW b a:=Nat.or_comm _ _
theorem rotl_fn (a n:Nat) (hn:0 < n∧n < 32):FnC Tryz.prog 216 [.raw (.int .u32 (a:Int)),.raw (.int .i64 (-(n:Int)))] (.raw (.int .u32 (rotW a n:Nat))):=⟨by
 refine fn_of Tryz.func216 Tryz.ntmps216 rfl (rs:= [.tmp 4]) rfl rfl fun hb LF=>?_
 refine walkW ?_
 refine s_convNeg (n:=n) rfl ⟨hn.1,by omega⟩ ?_
 refine s_and31 (n:=n) rfl rfl hn ?_
 refine walkW ?_
 refine s_subU (a:=32) (b:=32 - n) (by rfl) (by rfl) (by omega) (by decide) ?_
 refine walkW ?_
 refine end1 (.of_eq ?_)
 rw[show 32 - (32 - n)=n by omega,rotW,orW_comm]⟩
theorem right_fn (a n:Nat) (hn:0 < n∧n < 32):FnC Tryz.prog 175 [.raw (.int .u32 (a:Int)),.raw (.int .i64 (n:Int))] (.raw (.int .u32 (rotW a n:Nat))):=⟨by
 have i1:FnC Tryz.prog 216 [.raw (.int .u32 (a:Int)),.raw (.int .i64 (-(n:Int)))] (.raw (.int .u32 (rotW a n:Nat))):=rotl_fn a n hn
 refine fn_of Tryz.func175 Tryz.ntmps175 rfl (rs:= [.tmp 4]) rfl rfl fun hb LF=>?_
 refine walkW ?_
 exact end1 (.refl _)⟩
instance right2_ct (a:Nat):FnC Tryz.prog 175 [.raw (.int .u32 (a:Int)),.raw (.int .i64 2)] (.raw (.int .u32 (rotW a 2:Nat))):=right_fn a 2 ⟨by decide,by decide⟩
instance right6_ct (a:Nat):FnC Tryz.prog 175 [.raw (.int .u32 (a:Int)),.raw (.int .i64 6)] (.raw (.int .u32 (rotW a 6:Nat))):=right_fn a 6 ⟨by decide,by decide⟩
instance right7_ct (a:Nat):FnC Tryz.prog 175 [.raw (.int .u32 (a:Int)),.raw (.int .i64 7)] (.raw (.int .u32 (rotW a 7:Nat))):=right_fn a 7 ⟨by decide,by decide⟩
instance right11_ct (a:Nat):FnC Tryz.prog 175 [.raw (.int .u32 (a:Int)),.raw (.int .i64 11)] (.raw (.int .u32 (rotW a 11:Nat))):=right_fn a 11 ⟨by decide,by decide⟩
instance right13_ct (a:Nat):FnC Tryz.prog 175 [.raw (.int .u32 (a:Int)),.raw (.int .i64 13)] (.raw (.int .u32 (rotW a 13:Nat))):=right_fn a 13 ⟨by decide,by decide⟩
instance right17_ct (a:Nat):FnC Tryz.prog 175 [.raw (.int .u32 (a:Int)),.raw (.int .i64 17)] (.raw (.int .u32 (rotW a 17:Nat))):=right_fn a 17 ⟨by decide,by decide⟩
instance right18_ct (a:Nat):FnC Tryz.prog 175 [.raw (.int .u32 (a:Int)),.raw (.int .i64 18)] (.raw (.int .u32 (rotW a 18:Nat))):=right_fn a 18 ⟨by decide,by decide⟩
instance right19_ct (a:Nat):FnC Tryz.prog 175 [.raw (.int .u32 (a:Int)),.raw (.int .i64 19)] (.raw (.int .u32 (rotW a 19:Nat))):=right_fn a 19 ⟨by decide,by decide⟩
instance right22_ct (a:Nat):FnC Tryz.prog 175 [.raw (.int .u32 (a:Int)),.raw (.int .i64 22)] (.raw (.int .u32 (rotW a 22:Nat))):=right_fn a 22 ⟨by decide,by decide⟩
instance right25_ct (a:Nat):FnC Tryz.prog 175 [.raw (.int .u32 (a:Int)),.raw (.int .i64 25)] (.raw (.int .u32 (rotW a 25:Nat))):=right_fn a 25 ⟨by decide,by decide⟩
instance constantsP_ct:FnC Tryz.prog 174 [] (.agg (eW rK)):=⟨by
 refine fn_of Tryz.func174 Tryz.ntmps174 rfl (rs:= [.cell 0 199]) rfl rfl fun hb LF=>?_
 refine walkWb fun b=>?_
 refine s_buildWe [.const (.int .u32 1116352408),.const (.int .u32 1899447441),.const (.int .u32 3049323471),.const (.int .u32 3921009573),.const (.int .u32 961987163),.const (.int .u32 1508970993),.const (.int .u32 2453635748),.const (.int .u32 2870763221),.const (.int .u32 3624381080),.const (.int .u32 310598401),.const (.int .u32 607225278),.const (.int .u32 1426881987),.const (.int .u32 1925078388),.const (.int .u32 2162078206),.const (.int .u32 2614888103),.const (.int .u32 3248222580),.const (.int .u32 3835390401),.const (.int .u32 4022224774),.const (.int .u32 264347078),.const (.int .u32 604807628),.const (.int .u32 770255983),.const (.int .u32 1249150122),.const (.int .u32 1555081692),.const (.int .u32 1996064986),.const (.int .u32 2554220882),.const (.int .u32 2821834349),.const (.int .u32 2952996808),.const (.int .u32 3210313671),.const (.int .u32 3336571891),.const (.int .u32 3584528711),.const (.int .u32 113926993),.const (.int .u32 338241895),.const (.int .u32 666307205),.const (.int .u32 773529912),.const (.int .u32 1294757372),.const (.int .u32 1396182291),.const (.int .u32 1695183700),.const (.int .u32 1986661051),.const (.int .u32 2177026350),.const (.int .u32 2456956037),.const (.int .u32 2730485921),.const (.int .u32 2820302411),.const (.int .u32 3259730800),.const (.int .u32 3345764771),.const (.int .u32 3516065817),.const (.int .u32 3600352804),.const (.int .u32 4094571909),.const (.int .u32 275423344),.const (.int .u32 430227734),.const (.int .u32 506948616),.const (.int .u32 659060556),.const (.int .u32 883997877),.const (.int .u32 958139571),.const (.int .u32 1322822218),.const (.int .u32 1537002063),.const (.int .u32 1747873779),.const (.int .u32 1955562222),.const (.int .u32 2024104815),.const (.int .u32 2227730452),.const (.int .u32 2361852424),.const (.int .u32 2428436474),.const (.int .u32 2756734187),.const (.int .u32 3204031479),.const (.int .u32 3329325298)] rK rfl rfl rfl rfl ?_
 have i1:LenIs (eW rK) 64:=⟨rfl⟩
 have i2:LenIs (eW (List.replicate 64 0)) 64:=⟨rfl⟩
 refine walkWp ?_
 exact endC rfl (.refl _) (hn:=(rfl:(eW rK).length=64))⟩
instance initialP_ct:FnC Tryz.prog 132 [] (.agg (eW rH)):=⟨by
 refine fn_of Tryz.func132 Tryz.ntmps132 rfl (rs:= [.cell 0 171]) rfl rfl fun hb LF=>?_
 refine walkWb fun b=>?_
 refine s_buildWe [.const (.int .u32 1779033703),.const (.int .u32 3144134277),.const (.int .u32 1013904242),.const (.int .u32 2773480762),.const (.int .u32 1359893119),.const (.int .u32 2600822924),.const (.int .u32 528734635),.const (.int .u32 1541459225)] rH rfl rfl (by simp[rH]) rfl ?_
 have i1:LenIs (eW rH) 8:=⟨rfl⟩
 have i2:LenIs (eW (List.replicate 8 0)) 8:=⟨rfl⟩
 refine walkWp ?_
 exact endC rfl (.refl _) (hn:=(rfl:(eW rH).length=8))⟩
end Go.Proofs
namespace Go.Proofs
open Go Go.Q
attribute [local irreducible] pwp pops PCalls OpN
theorem or_add {a b i:Nat} (hb:b < 2 ^ i):a*2 ^ i|||b=a*2 ^ i+b:=by
 rw[←Nat.shiftLeft_eq];exact(Nat.shiftLeft_add_eq_or_of_lt hb a).symm
def byteW (v:Nat) (c:UInt8):Nat:=orW (shlW v 8) (c.toNat % 4294967296)
theorem byteW_eq {v:Nat} {c:UInt8} (hv:v < 16777216):byteW v c=v*256+c.toNat:=by
 have hc:c.toNat < 256:=c.toNat_lt
 unfold byteW orW shlW
 rw[show min 8 32=8 from rfl,Nat.mod_mod,Nat.mod_mod,Nat.mod_eq_of_lt (show c.toNat < 4294967296 by omega),Nat.mod_eq_of_lt (show v*2 ^ 8 < 4294967296 by omega)]
 exact or_add (i:=8) (by omega)
theorem word_bytes (b:Str) (t:Nat) (h:4*t+4≤b.length):(List.range 4).foldl (fun v i=>byteW v (b.getD (4*t+i) 0)) 0=rWord b t:=by
 have h0: ∀ i,(b.getD i 0).toNat < 256:=fun i=>UInt8.toNat_lt _
 have a0:=h0 (4*t)
 have a1:=h0 (4*t+1)
 have a2:=h0 (4*t+2)
 have a3:=h0 (4*t+3)
 show byteW (byteW (byteW (byteW 0 (b.getD (4*t+0) 0)) (b.getD (4*t+1) 0)) (b.getD (4*t+2) 0)) (b.getD (4*t+3) 0)=_
 rw[Nat.add_zero]
 rw[byteW_eq (v:=0) (by omega),byteW_eq (v:=0*256+(b.getD (4*t) 0).toNat) (by omega),byteW_eq (v:=(0*256+(b.getD (4*t) 0).toNat)*256+(b.getD (4*t+1) 0).toNat) (by omega),
  byteW_eq (v:=((0*256+(b.getD (4*t) 0).toNat)*256+(b.getD (4*t+1) 0).toNat)*256+(b.getD (4*t+2) 0).toNat) (by omega)]
 unfold rWord
 have e0:(4*(t:Int)).toNat=4*t:=by omega
 have e1:(4*(t:Int)+1).toNat=4*t+1:=by omega
 have e2:(4*(t:Int)+2).toNat=4*t+2:=by omega
 have e3:(4*(t:Int)+3).toNat=4*t+3:=by omega
 rw[e0,e1,e2,e3]
 generalize (b.getD (4*t) 0).toNat=x0 at*
 generalize (b.getD (4*t+1) 0).toNat=x1 at*
 generalize (b.getD (4*t+2) 0).toNat=x2 at*
 generalize (b.getD (4*t+3) 0).toNat=x3 at*
 unfold orW shlW
 rw[show min 24 32=24 from rfl,show min 16 32=16 from rfl,show min 8 32=8 from rfl]
 simp only[Nat.mod_eq_of_lt (show x0 < 4294967296 by omega),Nat.mod_eq_of_lt (show x1 < 4294967296 by omega),Nat.mod_eq_of_lt (show x2 < 4294967296 by omega),Nat.mod_eq_of_lt (show x3 < 4294967296 by omega),Nat.mod_eq_of_lt (show x0*2 ^ 24 < 4294967296 by omega),Nat.mod_eq_of_lt (show x1*2 ^ 16 < 4294967296 by omega),Nat.mod_eq_of_lt (show x2*2 ^ 8 < 4294967296 by omega)]
 have k1:x0*2 ^ 24|||x1*2 ^ 16=(x0*256+x1)*2 ^ 16:=by rw[or_add (by omega)];omega
 rw[k1,Nat.mod_eq_of_lt (show(x0*256+x1)*2 ^ 16 < 4294967296 by omega)]
 have k2:(x0*256+x1)*2 ^ 16|||x2*2 ^ 8=((x0*256+x1)*256+x2)*2 ^ 8:=by rw[or_add (by omega)];omega
 rw[k2,Nat.mod_eq_of_lt (show((x0*256+x1)*256+x2)*2 ^ 8 < 4294967296 by omega),or_add (by omega)]
 omega
def schS (b:Str) (k:Nat):List Nat:=(List.range (k - 16)).foldl rSched2 ((List.range (min k 16)).foldl (rSched1 b) (List.replicate 64 0))
theorem schS_len (b:Str) (k:Nat):(schS b k).length=64:=fold2_len (fold1_len b _) _
theorem schS_succ1 {b:Str} {k:Nat} (h:k < 16):schS b (k+1)=(schS b k).set k (rWord b k):=by
 unfold schS
 rw[show k+1 - 16=0 by omega,show k - 16=0 by omega,show min (k+1) 16=k+1 by omega,show min k 16=k by omega,foldl_range_succ];rfl
theorem schS_succ2 (b:Str) (j:Nat):schS b (j+16+1)=(schS b (j+16)).set (j+16) (rSigma (schS b (j+16)) j):=by
 unfold schS
 rw[show j+16+1 - 16=j+1 by omega,show j+16 - 16=j by omega,show min (j+16+1) 16=16 by omega,show min (j+16) 16=16 by omega,foldl_range_succ];rfl
theorem fold1_zero (b:Str) (k:Nat): ∀ j,k≤j→((List.range k).foldl (rSched1 b) (List.replicate 64 0)).getD j 0=0:=by
 induction k with
 |zero=>intro j _;rw[List.range_zero,List.foldl_nil,List.getD_eq_getElem?_getD,List.getElem?_replicate];split<;>rfl
 |succ k ih=>
  intro j hj
  have:=ih j (by omega)
  rw[foldl_range_succ,rSched1,List.getD,List.getElem?_set_ne (by omega)]
  exact this
theorem schS_zero {b:Str} {k:Nat} (h:k < 16):(schS b k).set k 0=schS b k:=by
 have h0:=fold1_zero b k k (Nat.le_refl _)
 have hl:=schS_len b k
 have e:schS b k=(List.range k).foldl (rSched1 b) (List.replicate 64 0):=by
  unfold schS
  rw[show k - 16=0 by omega,show min k 16=k by omega];rfl
 rw[←e]at h0
 refine List.ext_getElem (by simp) fun i h1 h2=>?_
 rw[List.getElem_set]
 split
 ·rename_i e
  subst e
  simpa [List.getD,h2]using h0.symm
 ·rfl
set_option maxHeartbeats 2000000 in
instance scheduleP_ct (s:Str) [hs:Small (s.length=64)]:FnC Tryz.prog 173 [.str s] (.agg (eW (rSched s))):=⟨by
 refine fn_of Tryz.func173 Tryz.ntmps173 rfl (rs:= [.cell 2 199]) rfl rfl fun hb LF=>?_
 have hl:=hs.out
 have i2:LenIs (eW (List.replicate 64 0)) 64:=⟨rfl⟩
 refine walkWb fun b=>?_
 refine walkWbp fun b2=>?_
 refine pwp_loopS (σ:=Nat × List Nat) (fun k=>k.1≤64∧k.2.length=64∧k.2=schS s k.1) (fun k=>64 - k.1) (fun k=> [(0,.str s),(2,.raw (.pointer (some ⟨b,0,none⟩))),(3,.raw (.pointer (some ⟨b2,0,none⟩))),(9,.raw (.int .i64 k.1))]) (fun k=> .box b2 199 (eW k.2):: .box b 199 (eW (List.replicate 64 0))::LF) (0,List.replicate 64 0) ⟨by simp,by simp,rfl⟩ ⟨rfl,rfl,rfl,rfl⟩ (.refl _) ?_
 rintro⟨k,w⟩ ⟨hk,hw,he⟩
 dsimp only at hk hw he ⊢
 have i3:LenIs (eW w) 64:=⟨by rw[len_eW,hw]⟩
 refine walkW ?_
 refine pwp_condD (fun hc=>?_) (fun hc=>?_)
 ·refine walkW ?_
  refine pwp_condD (fun h16=>?_) (fun h16=>?_)
  ·have h16':k < 16:=by omega
   have hz:=schS_zero (b:=s) h16'
   rw[←he]at hz
   refine walkW ?_
   refine s_cutS (ax:= .str s) (i:=4*k) (j:=4*k+4) rfl (by show PV.raw (.int .i64 (4*(k:Int)))=_;rw[show(4*(k:Int))=((4*k:Nat):Int) by omega]) (by show PV.raw (.int .i64 (4*(k:Int)+4))=_;rw[show(4*(k:Int)+4)=((4*k+4:Nat):Int) by omega]) (by omega) (by omega) (by omega) ?_
   refine s_toBytes (ax:= .str ((s.drop (4*k)).take (4*k+4 - 4*k))) rfl (by rw[List.length_take,List.length_drop];omega) fun t=>?_
   have hcl:((s.drop (4*k)).take (4*k+4 - 4*k)).length=4:=by rw[List.length_take,List.length_drop];omega
   have hce: ∀ i (h:i < ((s.drop (4*k)).take (4*k+4 - 4*k)).length),((s.drop (4*k)).take (4*k+4 - 4*k))[i]=s.getD (4*k+i) 0:=fun i h=>by
    rw[List.getElem_take,List.getElem_drop,List.getD_eq_getElem?_getD,List.getElem?_eq_getElem (by omega)];rfl
   generalize (s.drop (4*k)).take (4*k+4 - 4*k)=cs at hcl hce ⊢
   refine walkW ?_
   refine pwp_loopS (σ:=Nat × Nat) (fun j=>j.1≤4∧j.2=(List.range j.1).foldl (fun v i=>byteW v (s.getD (4*k+i) 0)) 0) (fun j=>4 - j.1) (fun j=> [(0,.str s),(2,.raw (.pointer (some ⟨b,0,none⟩))),(3,.raw (.pointer (some ⟨b2,0,none⟩))),(4,.raw (.int .i64 k)),(9,.raw (.int .i64 k)),(21,.slice (cs.map eBy) t),(22,.raw (.int .i64 cs.length)),(23,.raw (.int .i64 j.1))]) (fun j=> .box b2 199 (eW (w.set k j.2)):: .box b 199 (eW (List.replicate 64 0))::LF) (0,0) ⟨by simp,rfl⟩ ⟨rfl,rfl,rfl,rfl,rfl,rfl,rfl,rfl⟩ (by dsimp only;rw[hz];exact .cons _ (.refl _)) ?_
   rintro⟨j,v⟩ ⟨hj,hv⟩
   dsimp only at hj hv ⊢
   refine walkW ?_
   refine pwp_condD (fun hc2=>?_) (fun hc2=>?_)
   ·have hj4:j < 4:=by omega
    have hsl:(w.set k v).length=64:=by rw[List.length_set,hw]
    have hkw:k < w.length:=by omega
    refine wf ?_
    refine walkW ?_
    refine⟨(j+1,byteW v (s.getD (4*k+j) 0)),⟨by dsimp only;omega,?_⟩,by dsimp only;omega,⟨rfl,rfl,rfl,rfl,rfl,rfl,rfl,rfl⟩,?_⟩
    ·dsimp only
     rw[foldl_range_succ,←hv]
    ·have e:(w.set k v).getD k 0=v:=by simp[List.getD,hkw]
     dsimp only
     rw[e,hce j (by omega),List.set_set]
     exact .refl _
   ·have hj4:j=4:=by omega
    subst hj4
    rw[word_bytes s k (by omega)]at hv
    refine walkW ?_
    refine⟨(k+1,w.set k v),⟨by dsimp only;omega,by dsimp only;rw[List.length_set,hw],by dsimp only;rw[schS_succ1 h16',←he,hv]⟩,by dsimp only;omega,⟨rfl,rfl,rfl,rfl⟩,.refl _⟩
  ·obtain⟨j,rfl⟩: ∃ j,k=j+16:=⟨k - 16,by omega⟩
   refine walkWn ?_
   refine pwp_drawQ (by decide+kernel) ?_
   refine walkWnp ?_
   refine pwp_drawN 29 ?_ ?_
   ·decide+kernel
   refine walkWp ?_
   refine⟨(j+16+1,w.set (j+16) (rSigma w j)),⟨by dsimp only;omega,by dsimp only;rw[List.length_set,hw],by dsimp only;rw[schS_succ2,←he]⟩,by dsimp only;omega,⟨rfl,rfl,rfl,rfl⟩,?_⟩
   dsimp only;rw[rSigma_int];exact .refl _
 ·refine walkW ?_
  refine endC rfl (.of_eq ?_) (hn:=(by rw[len_eW,hw]:(eW w).length=64))
  have hkk:k=64:=by omega
  subst hkk
  rw[he];rfl⟩
end Go.Proofs
namespace Go.Q
open Go
section
variable {P:Program} {N:Nat} {all:Array Oper} {K:Env→List Res→Prop} {fl:List Bool} {os:List Oper} {ρ:Env} {L:List Res} {d:Nat} {ty:TypeId} {pos:String} {af:Array Edge}
theorem s_indexA {T n E by_:Nat} [hT:TArr P T n E] [hE:TSz P E 1 by_] [hS:TScal P E] {x y:Operand} {l:List Nat} {i:Nat} {kk:IntKind} (hx:ρ.ev x= .agg (eW l)) (hy:ρ.ev y= .raw (.int kk (i:Int))) (hl:l.length=n) (hi:i < n)
  (k:pops P N all K fl.tail os (upd ρ d (.raw (.int .u32 ((l.getD i 0:Nat):Int)))) L) (hd:Nat.blt d N=true:=by rfl):pops P N all K fl (⟨some d,.index T x y,ty,pos,af,none⟩::os) ρ L:=
 step_q hd (qop_of_run fun a w g ha hi'=>⟨.int .u32 ((l.getD i 0:Nat):Int),by
  have h1:=ha x (by simp[Op.operands])
  rw[hx]at h1
  have h2:=evRaw ha (x:=y) (by simp[Op.operands]) hy
  obtain⟨z,z1,z2,_⟩:=hE.out
  show(do pure (Next.value (←Instr.index T (a.eval x) (a.eval y))):Sem Next).run P w=_
  rw[h2]
  generalize a.eval x=v at h1
  cases h1 with
  |agg hs hv=>
   rename_i vs
   have hil:i < l.length:=by omega
   have hiv:i < vs.size:=by rw[hs];simpa using hil
   have h3:vs[i]= .int .u32 ((l.getD i 0:Nat):Int):=by
    have:=hv i hiv (by simpa using hil)
    simp only[eW,List.getElem_map]at this
    rw[this.raw_inv]
    simp[List.getD,hil]
   have hn:(0:Int)≤(i:Int)∧(i:Int) < (n:Int):=⟨by omega,by omega⟩
   have hp:(part E vs ((i:Int).toNat*1)).run P w= .ok (.int .u32 ((l.getD i 0:Nat):Int)) w:=by
    unfold part
    rw[Sem.run_bind,isAgg_run_no hS.out,Int.toNat_natCast,Nat.mul_one]
    simp only[Result.andThen_ok,Bool.false_eq_true,if_false,Array.getElem?_eq_getElem hiv,h3,Sem.run_pure]
   simp only[Instr.index,asIntOf,Sem.run_bind,Sem.run_pure,Result.andThen_ok,run_und hT.out,hn,and_self,if_true,sizeOf,typeInfo,run_program,z1,z2,hp],.raw _⟩) k
end
end Go.Q
namespace Go.Proofs
open Go Go.Q
attribute [local irreducible] pwp pops PCalls OpN
def v8 (v:List Nat):List Nat:= [v.getD 0 0,v.getD 1 0,v.getD 2 0,v.getD 3 0,v.getD 4 0,v.getD 5 0,v.getD 6 0,v.getD 7 0]
theorem v8_eq {v:List Nat} (h:v.length=8):v8 v=v:=by
 match v,h with
 | [_,_,_,_,_,_,_,_],_=>rfl
set_option maxHeartbeats 4000000 in
instance compressP_ct (h:List Nat) (s:Str) [hs:Small (s.length=64)] [hh:Small (h.length=8)]:FnC Tryz.prog 134 [.agg (eW h),.str s] (.agg (eW (rStep h s))):=⟨by
 refine fn_of Tryz.func134 Tryz.ntmps134 rfl (rs:= [.cell 4 171]) rfl rfl fun hb LF=>?_
 have hl:=hh.out
 have hsl:=rSched_len s
 have j1:LenIs (eW (List.replicate 64 0)) 64:=⟨rfl⟩
 have j2:LenIs (eW (List.replicate 8 0)) 8:=⟨rfl⟩
 have j3:LenIs (eW h) 8:=⟨by rw[len_eW,hl]⟩
 have j4:LenIs (eW rK) 64:=⟨rfl⟩
 have j5:LenIs (eW (rSched s)) 64:=⟨by rw[len_eW,hsl]⟩
 have hkl:rK.length=64:=rfl
 refine walkWb fun b2=>?_
 refine walkWbp fun b4=>?_
 refine walkWbp fun b5=>?_
 refine walkWbp fun b6=>?_
 refine pwp_loopS (σ:=Nat × List Nat) (fun k=>k.1≤64∧k.2.length=8∧k.2=(List.range k.1).foldl (rRound (rSched s)) h) (fun k=>64 - k.1) (fun k=> [(2,.raw (.pointer (some ⟨b2,0,none⟩))),(4,.raw (.pointer (some ⟨b4,0,none⟩))),(5,.raw (.pointer (some ⟨b5,0,none⟩))),(6,.raw (.pointer (some ⟨b6,0,none⟩))),(7,.raw (.int .u32 ((k.2.getD 0 0:Nat):Int))),(8,.raw (.int .u32 ((k.2.getD 1 0:Nat):Int))),(9,.raw (.int .u32 ((k.2.getD 2 0:Nat):Int))),(10,.raw (.int .u32 ((k.2.getD 3 0:Nat):Int))),(11,.raw (.int .u32 ((k.2.getD 4 0:Nat):Int))),(12,.raw (.int .u32 ((k.2.getD 5 0:Nat):Int))),(13,.raw (.int .u32 ((k.2.getD 6 0:Nat):Int))),(14,.raw (.int .u32 ((k.2.getD 7 0:Nat):Int))),(39,.raw (.int .i64 k.1))]) (fun k=> .box b6 199 (eW rK):: .box b5 199 (eW (rSched s)):: .box b4 171 (eW (List.replicate 8 0)):: .box b2 171 (eW h)::LF) (0,h) ⟨by simp,hl,rfl⟩ ⟨rfl,rfl,rfl,rfl,rfl,rfl,rfl,rfl,rfl,rfl,rfl,rfl,rfl⟩ (.refl _) ?_
 rintro⟨k,v⟩ ⟨hk,hv,hve⟩
 dsimp only at hk hv hve ⊢
 refine walkW ?_
 refine pwp_condD (fun hc=>?_) (fun hc=>?_)
 ·refine walkW ?_
  refine⟨(k+1,rRound (rSched s) v k),⟨by dsimp only;omega,rfl,by dsimp only;rw[foldl_range_succ,←hve]⟩,by dsimp only;omega,⟨rfl,rfl,rfl,rfl,rfl,rfl,rfl,rfl,rfl,rfl,rfl,rfl,rfl⟩,.refl _⟩
 have hkk:k=64:=by omega
 subst hkk
 replace hve:v=rRounds h s:=hve
 have hv8:=v8_eq hv
 refine walkW ?_
 refine s_buildWe [.tmp 102,.tmp 103,.tmp 104,.tmp 105,.tmp 106,.tmp 107,.tmp 108,.tmp 109] (v8 v) rfl (hx8 (by rfl) (by rfl) (by rfl) (by rfl) (by rfl) (by rfl) (by rfl) (by rfl)) (by simp[v8]) (by simp[v8]) ?_
 rw[hv8]
 refine walkW ?_
 refine pwp_loopS (σ:=Nat × List Nat) (fun k=>k.1≤8∧k.2.length=8∧k.2=(List.range k.1).foldl (rAdd8 (rRounds h s)) h) (fun k=>8 - k.1) (fun k=> [(2,.raw (.pointer (some ⟨b2,0,none⟩))),(4,.raw (.pointer (some ⟨b4,0,none⟩))),(110,.agg (eW v)),(111,.raw (.int .i64 k.1))]) (fun k=> .box b4 171 (eW (List.replicate 8 0)):: .box b2 171 (eW k.2)::LF) (0,h) ⟨by simp,hl,rfl⟩ ⟨rfl,rfl,rfl,rfl⟩ (.cons _ (.cons _ (.refl _))) ?_
 rintro⟨k,x⟩ ⟨hk,hx,hxe⟩
 dsimp only at hk hx hxe ⊢
 have j8:LenIs (eW x) 8:=⟨by rw[len_eW,hx]⟩
 refine walkW ?_
 refine pwp_condD (fun hc=>?_) (fun hc=>?_)
 ·refine walkW ?_
  refine s_indexA rfl rfl hv (by omega) ?_
  refine walkW ?_
  refine⟨(k+1,x.set k (addW (x.getD k 0) ((rRounds h s).getD k 0))),⟨by dsimp only;omega,by dsimp only;rw[List.length_set,hx],by dsimp only;rw[foldl_range_succ,←hxe];rfl⟩,by dsimp only;omega,⟨rfl,rfl,rfl,rfl⟩,?_⟩
  rw[←hve]
  exact .refl _
 ·refine walkW ?_
  refine endC rfl (.of_eq ?_) (hn:=(by rw[len_eW,hx]:(eW x).length=8))
  have hkk:k=8:=by omega
  subst hkk
  rw[rStep,hxe]⟩
end Go.Proofs
namespace Go.Q
open Go
section
variable {P:Program} {N:Nat} {all:Array Oper} {K:Env→List Res→Prop} {fl:List Bool} {os:List Oper} {ρ:Env} {L:List Res} {d:Nat} {ty:TypeId} {pos:String} {af:Array Edge}
theorem s_shrUI {T T':TypeId} {x y:Operand} {a b:Nat} (hx:ρ.ev x= .raw (.int .u64 (a:Int))) (hy:ρ.ev y= .raw (.int .i64 (b:Int))) (k:pops P N all K fl.tail os (upd ρ d (.raw (.int .u64 ((a / 2 ^ (min b 64):Nat):Int)))) L) (hd:Nat.blt d N=true:=by rfl):
  pops P N all K fl (⟨some d,.binOp .shr T x y T',ty,pos,af,none⟩::os) ρ L:=s_int hx hy (fun w=>by
   have h0: ¬(b:Int) < 0:=by omega
   simp only[binOp,Op.shift,h0,if_false,IntKind.bits,Int.toNat_natCast]
   rw[fdiv_pow];rfl) k hd
theorem s_cutLH {T E sz by_:Nat} [hT:TSl P T E] [hE:TSz P E sz by_] {x y z:Operand} {α:Type} {f:α→List PV} [hf:Len f sz] {l:List α} {t:Tag} {k1 k2:IntKind} {i j:Nat} (hx:ρ.ev x= .slice (l.map f) t) (hy:ρ.ev y= .raw (.int k1 (i:Int))) (hz:ρ.ev z= .raw (.int k2 (j:Int))) (hij:i≤j) (hj:j≤l.length)
  (k:pops P N all K fl.tail os (upd ρ d (.slice (((l.drop i).take (j - i)).map f) .ro)) L) (hd:Nat.blt d N=true:=by rfl):pops P N all K fl (⟨some d,.slice T x (some y) (some z) none,ty,pos,af,none⟩::os) ρ L:=
 step_q hd (qop_cut i j hx hij (by simpa using hj) (fun e he=>by obtain⟨a,_,rfl⟩:=List.mem_map.1 he;exact hf.out a) (fun o e=>by cases e;exact⟨_,hy⟩) (by simp) (fun o e=>by cases e;exact⟨_,hz⟩) (by simp)) (by
  rw[←List.map_drop,←List.map_take];exact k)
end
end Go.Q
namespace Go.Proofs
open Go Go.Q
attribute [local irreducible] pwp pops PCalls OpN
def blk (m:Str) (k:Nat):Str:=(m.drop (64*k)).take 64
def eS1 (s:Str):List PV:= [.str s]
def blks (s:Str):List Str:=(List.range ((rPad s).length / 64)).map (blk (rPad s))
theorem rPad_mod (s:Str):(rPad s).length % 64=0:=by rw[rPad_len];omega
theorem rPad_split (s:Str) (n:Nat) (h:n≤s.length):(rPad s).drop n=(s.drop n++ [128])++List.replicate ((120 - (s.length+1) % 64) % 64) 0++padTail (s.length*8) 8:=by
 unfold rPad
 rw[List.append_assoc,List.append_assoc,List.drop_append_of_le_length h,List.append_assoc,List.append_assoc]
theorem blk_whole {s:Str} {k:Nat} (h:64*k+64≤s.length):blk (rPad s) k=(s.drop (64*k)).take 64:=by
 unfold blk
 rw[rPad_split s (64*k) (by omega),List.append_assoc,List.append_assoc,List.take_append_of_le_length (by rw[List.length_drop];omega)]
theorem blks_take (s:Str) {k:Nat} (h:k < (rPad s).length / 64):(blks s).take (k+1)=(blks s).take k++ [blk (rPad s) k]:=by
 have hl:k < (blks s).length:=by simpa [blks]using h
 rw[List.take_succ_eq_append_getElem hl]
 simp[blks]
theorem padTail_succ (n j:Nat):padTail n (j+1)=padTail n j++ [UInt8.ofNat (n / 2 ^ (min (8*(7 - j)) 64))]:=by
 rw[padTail,padTail,List.range_succ,List.map_append];rfl
set_option maxHeartbeats 4000000 in
theorem blocks_iter (s:Str) (hs:s.length≤1000000):PIter Tryz.prog 172 [.pt [.str s] 0] eS1 (blks s):=by
 have hpl:=rPad_len s
 have hpm:=rPad_mod s
 obtain⟨q,hq⟩: ∃ q,q=s.length / 64:=⟨_,rfl⟩
 have hq1:64*q≤s.length:=by omega
 have hq2:s.length < 64*q+64:=by omega
 have hn:q < (rPad s).length / 64:=by omega
 intro l J Jx hY L hJ
 have e128:EncC (.raw (.int .u8 128)) eBy (128:UInt8):=(inferInstance:EncC (.raw (.int .u8 (((128:UInt8)).toNat:Int))) eBy 128)
 have e0:EncC (.raw (.int .u8 0)) eBy (0:UInt8):=(inferInstance:EncC (.raw (.int .u8 (((0:UInt8)).toNat:Int))) eBy 0)
 have hpre: ∀ k,(blks s).take k <+:blks s:=fun k=>List.take_prefix _ _
 refine pcalls_bd Tryz.func172 rfl Tryz.ntmps172 (rs:= []) rfl rfl fun hb LF=>?_
 refine wf ?_
 refine s_quoL (by rfl) (by rfl) (by decide) (by omega) ?_
 rw[show s.length / (@OfNat.ofNat Nat 64 _)=q from hq.symm]
 refine wf ?_
 refine pwp_loopS (σ:=Nat × List Res) (fun k=>k.1≤q∧J ((blks s).take k.1) k.2) (fun k=>q - k.1) (fun k=> [(0,.raw (.func (.yield l) #[] #[])),(1,.pt [.str s] 0),(3,.raw (.int .i64 ((64*q:Nat):Int))),(4,.raw (.int .i64 ((64*k.1:Nat):Int)))]) (fun k=>k.2++LF) (0,L) ⟨by simp,hJ⟩ ⟨rfl,rfl,?_,rfl⟩ (.refl _) ?_
 ·show PV.raw (.int .i64 ((q:Int)*64))=_
  rw[show((q:Int)*64)=((64*q:Nat):Int) by omega]
 rintro⟨k,L1⟩ ⟨hk,hJ1⟩
 dsimp only at hk hJ1 ⊢
 refine wf ?_
 refine pwp_condD (fun hc=>?_) (fun hc=>?_)
 ·have hkq:k < q:=by omega
  have hb:=blk_whole (s:=s) (k:=k) (by omega)
  have hbt:=blks_take s (k:=k) (by omega)
  refine wf ?_
  refine s_cutS (ax:= .str s) (i:=64*k) (j:=64*k+64) rfl rfl (by show PV.raw (.int .i64 (((64*k:Nat):Int)+64))=_;rw[show(((64*k:Nat):Int)+64)=((64*k+64:Nat):Int) by omega]) (by omega) (by omega) (by omega) ?_
  rw[show 64*k+64 - 64*k=64 by omega,←hb]
  refine s_yield L1 LF rfl rfl rfl (.refl _) _ (hY ((blks s).take k) (blk (rPad s) k) L1 (by rw[←hbt];exact hpre _) hJ1) fun bo L' hR=>?_
  refine wf ?_
  rw[←hbt]at hR
  rcases hR with ⟨rfl,hJ2⟩|⟨rfl,hJx⟩
  ·refine wf ?_
   refine⟨(k+1,L'),⟨by dsimp only;omega,hJ2⟩,by dsimp only;omega,⟨rfl,rfl,rfl,?_⟩,.refl _⟩
   show PV.raw (.int .i64 (((64*k:Nat):Int)+64))=_
   rw[show(((64*k:Nat):Int)+64)=((64*(k+1):Nat):Int) by omega]
  ·refine wf ?_
   exact⟨trivial,_,L',.nil,.refl _,.inr ⟨_,hJx⟩⟩
 ·have hkq:k=q:=by omega
  subst hkq
  refine wf ?_
  refine s_toBytes (ax:= .str (s.drop (64*k))) rfl (by rw[List.length_drop];omega) fun t=>?_
  refine wfa fun t1=>?_
  have hdl:(s.drop (64*k)).length=s.length - 64*k:=List.length_drop
  refine pwp_loopS (σ:=Nat × Tag) (fun j=>j.1≤(120 - (s.length+1) % 64) % 64) (fun j=>(120 - (s.length+1) % 64) % 64 - j.1) (fun j=> [(0,.raw (.func (.yield l) #[] #[])),(1,.pt [.str s] 0),(5,.slice (((s.drop (64*k)++ [128])++List.replicate j.1 0).map eBy) j.2)]) (fun j=> .tok j.2 ((s.drop (64*k)++ [128])++List.replicate j.1 0).length 1::(L1++LF)) (0,t1) (by simp) ⟨rfl,rfl,?_⟩ ?_ ?_
  ·rw[List.replicate_zero,List.append_nil];rfl
  ·rw[List.replicate_zero,List.append_nil];exact .refl _
  rintro⟨j,t2⟩ hj
  dsimp only at hj ⊢
  have hjl:((s.drop (64*k)++ [128])++List.replicate j (0:UInt8)).length=s.length - 64*k+1+j:=by simp[hdl];omega
  refine wf ?_
  refine s_remL (by rfl) (by rfl) (by decide) ?_
  refine wf ?_
  refine pwp_condN (fun hc2=>?_) (fun hc2=>?_)
  ·have hlt:j < (120 - (s.length+1) % 64) % 64:=by
    rcases Nat.lt_or_ge j ((120 - (s.length+1) % 64) % 64)with h|h
    ·exact h
    ·exfalso
     apply hc2
     rw[hjl]
     omega
   generalize hmj:(s.drop (64*k)++ [128])++List.replicate j (0:UInt8)=mj at hjl ⊢
   refine wfa fun t3=>?_
   refine⟨(j+1,t3),by dsimp only;omega,by dsimp only;omega,⟨rfl,rfl,?_⟩,?_⟩
   ·dsimp only
    rw[List.replicate_succ',←List.append_assoc,hmj];rfl
   ·dsimp only
    rw[List.replicate_succ',←List.append_assoc,hmj];exact .refl _
  have hjz:j=(120 - (s.length+1) % 64) % 64:=by
   rw[hjl]at hc2
   omega
  subst hjz
  generalize hm0:(s.drop (64*k)++ [128])++List.replicate ((120 - (s.length+1) % 64) % 64) (0:UInt8)=m0 at hjl ⊢
  refine wf ?_
  refine pwp_loopS (σ:=Nat × Tag) (fun j=>j.1≤8) (fun j=>8 - j.1) (fun j=> [(0,.raw (.func (.yield l) #[] #[])),(1,.pt [.str s] 0),(5,.slice ((m0++padTail (s.length*8) j.1).map eBy) j.2),(6,.raw (.int .i64 (56 - 8*(j.1:Int))))]) (fun j=> .tok j.2 (m0++padTail (s.length*8) j.1).length 1::(L1++LF)) (0,t2) (by simp) ⟨rfl,rfl,?_,rfl⟩ ?_ ?_
  ·show _=PV.slice ((m0++ []).map eBy) _
   rw[List.append_nil];rfl
  ·show List.Sublist (_::_) (_::_)
   rw[show m0++padTail (s.length*8) 0=m0 from List.append_nil _];exact .refl _
  rintro⟨j,t3⟩ hj8
  dsimp only at hj8 ⊢
  have hpt:(m0++padTail (s.length*8) j).length=s.length - 64*k+1+(120 - (s.length+1) % 64) % 64+j:=by simp[padTail,hjl]
  refine wf ?_
  refine pwp_condD (fun hc3=>?_) (fun hc3=>?_)
  ·generalize hmj:m0++padTail (s.length*8) j=mj at hpt ⊢
   refine wf ?_
   refine s_mulU (b:=8) (by rfl) (by rfl) (by omega) ?_
   refine wf ?_
   refine s_shrUI (b:=8*(7 - j)) (by rfl) (by show PV.raw (.int .i64 (56 - 8*(j:Int)))=_;rw[show(56 - 8*(j:Int))=((8*(7 - j):Nat):Int) by omega]) ?_
   refine wfa fun t4=>?_
   refine⟨(j+1,t4),by dsimp only;omega,by dsimp only;omega,⟨rfl,rfl,?_,?_⟩,?_⟩
   ·dsimp only
    rw[padTail_succ,←List.append_assoc,hmj];rfl
   ·show PV.raw (.int .i64 (56 - 8*(j:Int) - 8))=PV.raw (.int .i64 (56 - 8*((j+1:Nat):Int)))
    rw[show(56 - 8*(j:Int) - 8)=56 - 8*((j+1:Nat):Int) by omega]
   ·dsimp only
    rw[padTail_succ,←List.append_assoc,hmj];exact .refl _
  have hj:j=8:=by omega
  subst hj
  have hm1:m0++padTail (s.length*8) 8=(rPad s).drop (64*k):=by rw[rPad_split s (64*k) hq1,←hm0]
  rw[hm1]at hpt ⊢
  refine wf ?_
  refine pwp_loopS (σ:=Nat × List Res) (fun i=>k+i.1≤(rPad s).length / 64∧J ((blks s).take (k+i.1)) i.2) (fun i=>(rPad s).length / 64 - (k+i.1)) (fun i=> [(0,.raw (.func (.yield l) #[] #[])),(5,.slice (((rPad s).drop (64*k)).map eBy) t3),(7,.raw (.int .i64 ((64*i.1:Nat):Int)))]) (fun i=>i.2++LF) (0,L1) ⟨by dsimp only;omega,hJ1⟩ ⟨rfl,rfl,rfl⟩ (.cons _ (.refl _)) ?_
  rintro⟨i,L2⟩ ⟨hi,hJ2⟩
  dsimp only at hi hJ2 ⊢
  refine wf ?_
  refine pwp_condD (fun hc4=>?_) (fun hc4=>?_)
  ·have hbt:=blks_take s (k:=k+i) (by omega)
   refine wf ?_
   refine s_cutLH (i:=64*i) (j:=64*i+64) rfl rfl (by show PV.raw (.int .i64 (((64*i:Nat):Int)+64))=_;rw[show(((64*i:Nat):Int)+64)=((64*i+64:Nat):Int) by omega]) (by omega) (by omega) ?_
   refine wf ?_
   have e:(((rPad s).drop (64*k)).drop (64*i)).take (64*i+64 - 64*i)=blk (rPad s) (k+i):=by
    rw[List.drop_drop,blk,show 64*i+64 - 64*i=64 by omega,show 64*k+64*i=64*(k+i) by omega]
   rw[e]
   refine s_yield L2 LF rfl rfl rfl (.refl _) _ (hY ((blks s).take (k+i)) (blk (rPad s) (k+i)) L2 (by rw[←hbt];exact hpre _) hJ2) fun bo L' hR=>?_
   refine wf ?_
   rw[←hbt]at hR
   rcases hR with ⟨rfl,hJ3⟩|⟨rfl,hJx⟩
   ·refine wf ?_
    refine⟨(i+1,L'),⟨by dsimp only;omega,hJ3⟩,by dsimp only;omega,⟨rfl,rfl,?_⟩,.refl _⟩
    show PV.raw (.int .i64 (((64*i:Nat):Int)+64))=_
    rw[show(((64*i:Nat):Int)+64)=((64*(i+1):Nat):Int) by omega]
   ·refine wf ?_
    exact⟨trivial,_,L',.nil,.refl _,.inr ⟨_,hJx⟩⟩
  ·have hie:k+i=(rPad s).length / 64:=by omega
   rw[hie,List.take_of_length_le (by simp[blks])]at hJ2
   refine wf ?_
   exact⟨trivial,_,L2,.nil,.refl _,.inl hJ2⟩
end Go.Proofs
namespace Go.Q
open Go
section
variable {P:Program} {N:Nat} {all:Array Oper} {K:Env→List Res→Prop} {fl:List Bool} {os:List Oper} {ρ:Env} {L:List Res} {d:Nat} {ty:TypeId} {pos:String} {af:Array Edge}
theorem s_shrWI {T T':TypeId} {x y:Operand} {a b:Nat} (hx:ρ.ev x= .raw (.int .u32 (a:Int))) (hy:ρ.ev y= .raw (.int .i64 (b:Int))) (k:pops P N all K fl.tail os (upd ρ d (.raw (.int .u32 (shrW a b:Nat)))) L) (hd:Nat.blt d N=true:=by rfl):
  pops P N all K fl (⟨some d,.binOp .shr T x y T',ty,pos,af,none⟩::os) ρ L:=s_int hx hy (fun w=>by
   have h0: ¬(b:Int) < 0:=by omega
   simp only[binOp,Op.shift,h0,if_false,IntKind.bits,Int.toNat_natCast]
   rw[fdiv_pow];rfl) k hd
end
end Go.Q
namespace Go.Proofs
open Go Go.Q
attribute [local irreducible] pwp pops PCalls OpN
instance blocks_ct (s:Str):FnC Tryz.prog 133 [.str s] (.clo 172 [.pt [.str s] 0]):=⟨by
 refine fn_of Tryz.func133 Tryz.ntmps133 rfl (rs:= [.tmp 2]) rfl rfl fun hb LF=>?_
 refine wf ?_
 exact end1 (.refl _)⟩
theorem blks_len {s b:Str} (h:b∈blks s):b.length=64:=by
 obtain⟨k,hk,rfl⟩:=List.mem_map.1 h
 have:=List.mem_range.1 hk
 rw[blk,List.length_take,List.length_drop]
 omega
theorem blks_fold (s:Str):(blks s).foldl rStep rH=rBlocks (rPad s) ((rPad s).length / 64):=by
 rw[blks,List.foldl_map];rfl
set_option maxHeartbeats 4000000 in
instance SumP_ct (s:Str) [hs:Small (s.length≤1000000)]:FnC Tryz.prog 106 [.str s] (.agg (eDig (rSum s))):=⟨by
 refine fn_of Tryz.func106 Tryz.ntmps106 rfl (rs:= [.cell 2 37]) rfl rfl fun hb LF=>?_
 have hl:=hs.out
 have j2:LenIs (eW (List.replicate 8 0)) 8:=⟨rfl⟩
 have j3:LenIs (eW rH) 8:=⟨rfl⟩
 refine walkWb fun b2=>?_
 refine walkWbp fun b3=>?_
 refine pwp_rangeFunc (blocks_iter s hl) [12] (σ:=List Nat) (fun pre h=>h=pre.foldl rStep rH∧h.length=8) (fun _ _=>False) (fun h LF'=> .box b3 171 (eW h):: .box b2 37 (eDig Dig.zero)::LF') rH LF ?_ rfl (fun _=>rfl) (by simp) (fun s' LF'=>rfl) (.refl _) ⟨rfl,rfl⟩ ?_ ?_ ?_
 ·exact .refl _
 ·rintro pre x h LF' hpx ⟨hh,h8⟩
  have hx:x∈blks s:=hpx.subset (by simp)
  have i1:Small (x.length=64):=⟨blks_len hx⟩
  have i2:Small (h.length=8):=⟨h8⟩
  have j4:LenIs (eW h) 8:=⟨by rw[len_eW,h8]⟩
  have j5:LenIs (eW (rStep h x)) 8:=⟨by rw[len_eW,rStep_len h8]⟩
  refine walkW ?_
  refine⟨rStep h x,⟨by rw[List.foldl_append,←hh];rfl,rStep_len h8⟩,.refl _⟩
 ·rintro h ⟨hh,h8⟩
  rw[blks_fold]at hh
  have hrs:rSum s=(List.range 32).foldl (rByte h) Dig.zero:=by rw[rSum,←hh]
  rw[hrs]
  have j4:LenIs (eW h) 8:=⟨by rw[len_eW,h8]⟩
  refine walkWb fun b5=>?_
  refine pwp_loopS (σ:=Nat × Dig) (fun k=>k.1≤8∧k.2=(List.range (4*k.1)).foldl (rByte h) Dig.zero) (fun k=>8 - k.1) (fun k=> [(2,.raw (.pointer (some ⟨b2,0,none⟩))),(5,.raw (.pointer (some ⟨b5,0,none⟩))),(16,.agg (eW h)),(17,.raw (.int .i64 k.1))]) (fun k=> .box b5 37 (eDig k.2):: .box b2 37 (eDig Dig.zero)::LF) (0,Dig.zero) ⟨by simp,rfl⟩ ⟨rfl,rfl,rfl,rfl⟩ (.cons_cons _ (.cons _ (.refl _))) ?_
  rintro⟨k,d⟩ ⟨hk,hd⟩
  dsimp only at hk hd ⊢
  refine walkW ?_
  refine pwp_condD (fun hc=>?_) (fun hc=>?_)
  ·refine walkW ?_
   refine s_indexA rfl rfl h8 (by omega) ?_
   refine walkW ?_
   refine pwp_loopS (σ:=Nat × Dig) (fun j=>j.1≤4∧j.2=(List.range (4*k+j.1)).foldl (rByte h) Dig.zero) (fun j=>4 - j.1) (fun j=> [(2,.raw (.pointer (some ⟨b2,0,none⟩))),(5,.raw (.pointer (some ⟨b5,0,none⟩))),(6,.raw (.int .i64 k)),(7,.raw (.int .u32 ((h.getD k 0:Nat):Int))),(16,.agg (eW h)),(17,.raw (.int .i64 k)),(21,.raw (.int .i64 j.1))]) (fun j=> .box b5 37 (eDig j.2):: .box b2 37 (eDig Dig.zero)::LF) (0,d) ⟨by simp,hd⟩ ⟨rfl,rfl,rfl,rfl,rfl,rfl,rfl⟩ (.refl _) ?_
   rintro⟨j,e⟩ ⟨hj,he⟩
   dsimp only at hj he ⊢
   refine walkW ?_
   refine pwp_condD (fun hc2=>?_) (fun hc2=>?_)
   ·refine walkW ?_
    refine s_shrWI (a:=h.getD k 0) (b:=24 - 8*j) rfl (by show PV.raw (.int .i64 (24 - 8*(j:Int)))=_;rw[show(24 - 8*(j:Int))=((24 - 8*j:Nat):Int) by omega]) ?_
    refine walkW ?_
    have er:rByte h e (4*k+j)=e.put (4*k+j) (UInt8.ofNat (shrW (h.getD k 0) (24 - 8*j))):=by
     rw[rByte,show(4*k+j) / 4=k by omega,show(4*k+j) % 4=j by omega]
    refine⟨(j+1,rByte h e (4*k+j)),⟨by dsimp only;omega,by dsimp only;rw[show 4*k+(j+1)=4*k+j+1 by omega,foldl_range_succ,←he]⟩,by dsimp only;omega,⟨rfl,rfl,rfl,rfl,rfl,rfl,rfl⟩,?_⟩
    dsimp only
    rw[er,show(4*(k:Int)+(j:Int)).toNat=4*k+j by omega]
    exact .refl _
   ·have hj4:j=4:=by omega
    subst hj4
    refine walkW ?_
    exact⟨(k+1,e),⟨by dsimp only;omega,by dsimp only;rw[he,show 4*(k+1)=4*k+4 by omega]⟩,by dsimp only;omega,⟨rfl,rfl,rfl,rfl⟩,.refl _⟩
  ·have hk8:k=8:=by omega
   subst hk8
   refine walkW ?_
   refine endC rfl (.of_eq ?_)
   rw[hd]
 ·intro pre s' h
  exact h.elim⟩
end Go.Proofs
namespace Go.Proofs
open Go Go.Q
attribute [local irreducible] pwp pops PCalls OpN
instance IdPP_ct (p:Pat) [hs:Small (rGreat p=false)]:FnC Tryz.prog 62 [.agg (ePat p)] (.tuple [.agg (eDig (rId p).1),.raw (.int .i64 (rId p).2)]):=⟨by
 have i1:Small ((rEncodeP p).1.length≤1000000):=⟨by have:=rEncodeP_len p;omega⟩
 refine fn_of Tryz.func62 Tryz.ntmps62 rfl (rs:= [.cell 2 37,.tmp 3]) rfl rfl fun hb LF=>?_
 refine wf ?_
 refine s_alloc fun b2=>?_
 refine wf ?_
 refine pwp_condN (fun h=>?_) (fun h=>?_)
 ·refine wf ?_
  refine endC1 rfl ?_
  rw[rId,if_pos h]
  exact .refl _
 ·refine wf ?_
  refine endC1 rfl ?_
  rw[rId,if_neg (by simpa using h)]
  exact .refl _⟩
instance search1_ct (x:Sto) (d:Dig):FnC Tryz.prog 128 [.agg (eSto x),.agg (eDig d)] (.raw (.int .i64 (cmpD x.id d))):=⟨by
 refine fn_of Tryz.func128 Tryz.ntmps128 rfl (rs:= [.tmp 4]) rfl rfl fun hb LF=>?_
 refine wf ?_
 exact end1 (.refl _)⟩
def posD (s:List Sto) (d:Dig):Nat:=s.findIdx fun x=>decide (0≤cmpD x.id d)
theorem posD_of {s:List Sto} {d:Dig} {i:Nat} (hi:i≤s.length) (h1: ∀ k (h:k < s.length),k < i→cmpD s[k].id d < 0) (h2: ∀ k (h:k < s.length),i≤k→0≤cmpD s[k].id d):posD s d=i:=by
 unfold posD
 rcases Nat.lt_or_ge i s.length with h|h
 ·refine(List.findIdx_eq h).2 ⟨decide_eq_true (h2 i h (Nat.le_refl _)),fun j hj=>decide_eq_false ?_⟩
  have:=h1 j (by omega) hj
  omega
 ·have e:i=s.length:=by omega
  subst e
  refine List.findIdx_eq_length.2 fun x hx=>decide_eq_false ?_
  obtain⟨k,hk,rfl⟩:=List.mem_iff_getElem.1 hx
  have:=h1 k hk hk
  omega
theorem posD_mem {s:List Sto} (ha:Asc (ids s)) {d:Dig} {i:Nat} (h1: ∀ k (h:k < s.length),k < i→cmpD s[k].id d < 0) (h2: ∀ k (h:k < s.length),i≤k→0≤cmpD s[k].id d):d∈ids s↔ ∃ h:i < s.length,cmpD s[i].id d=0:=by
 constructor
 ·intro h
  obtain⟨x,hx,rfl⟩:=List.mem_map.1 h
  obtain⟨k,hk,rfl⟩:=List.mem_iff_getElem.1 hx
  have hz:cmpD s[k].id s[k].id=0:=cmpD_zero.2 rfl
  have hik:i≤k:=by
   rcases Nat.lt_or_ge k i with h'|h'
   ·have:=h1 k hk h';omega
   ·exact h'
  have hi:i < s.length:=by omega
  refine⟨hi,?_⟩
  rcases Nat.lt_or_ge i k with h'|h'
  ·have hp:=List.pairwise_iff_getElem.1 ha i k (by simpa [ids]using hi) (by simpa [ids]using hk) h'
   simp only[ids,List.getElem_map]at hp
   have:=h2 i hi (Nat.le_refl _)
   have hp:cmpD s[i].id s[k].id < 0:=hp
   omega
  ·have e:i=k:=by omega
   subst e;exact hz
 ·rintro⟨h,e⟩
  rw[←cmpD_zero.1 e]
  exact List.mem_map.2 ⟨s[i],List.getElem_mem h,rfl⟩
theorem asc_le {s:List Sto} (ha:Asc (ids s)) {i k:Nat} (hk:k < s.length) (hik:i≤k) {d:Dig}:(cmpD s[k].id d < 0→cmpD s[i].id d < 0)∧(0≤cmpD s[i].id d→0≤cmpD s[k].id d):=by
 rcases Nat.lt_or_ge i k with h|h
 ·have hp:=List.pairwise_iff_getElem.1 ha i k (by simp[ids];omega) (by simpa [ids]using hk) h
  simp only[ids,List.getElem_map]at hp
  refine⟨fun h'=>Dig.lt_trans hp h',fun h'=>?_⟩
  rcases Int.lt_or_le (cmpD s[k].id d) 0 with h2|h2
  ·have:cmpD s[i].id d < 0:=Dig.lt_trans hp h2
   omega
  ·exact h2
 ·have e:i=k:=by omega
  subst e;exact⟨id,id⟩
set_option maxHeartbeats 1000000 in
theorem binary_fn (s:List Sto) (t:Tag) (d:Dig) (ha:Asc (ids s)) (hl:s.length≤1000000):FnC Tryz.prog 127 [.slice (s.map eSto) t,.agg (eDig d),.clo 128 []] (.tuple [.raw (.int .i64 (posD s d)),.raw (.bool (decide (d∈ids s)))]):=⟨by
 refine fn_of Tryz.func127 Tryz.ntmps127 rfl (rs:= [.tmp 6,.tmp 7]) rfl rfl fun hb LF=>?_
 refine wf ?_
 refine pwp_loopS (σ:=Nat × Nat) (fun k=>k.1≤k.2∧k.2≤s.length∧(∀ i (h:i < s.length),i < k.1→cmpD s[i].id d < 0)∧(∀ i (h:i < s.length),k.2≤i→0≤cmpD s[i].id d)) (fun k=>k.2 - k.1) (fun k=> [(0,.slice (s.map eSto) t),(2,.clo 128 []),(4,.pt (eDig d) 0),(8,.raw (.int .i64 s.length)),(9,.raw (.int .i64 k.1)),(10,.raw (.int .i64 k.2))]) (fun _=>LF) (0,s.length) ⟨by simp,by simp,fun i h h'=>by omega,fun i h h'=>by omega⟩ ⟨rfl,rfl,rfl,rfl,rfl,rfl⟩ (.refl _) ?_
 rintro⟨i,j⟩ ⟨hij,hjn,h1,h2⟩
 dsimp only at hij hjn h1 h2 ⊢
 refine wf ?_
 refine pwp_condD (fun hc=>?_) (fun hc=>?_)
 ·have hlt:i < j:=by omega
  obtain⟨m,hm⟩: ∃ m,m=(i+j) / 2 ^ (min 1 64):=⟨_,rfl⟩
  have hm2:m=(i+j) / 2:=hm
  have hmn:m < s.length:=by omega
  refine wf ?_
  refine s_convI (n:=(((i+j) / 2 ^ (min 1 64):Nat):Int)) rfl (IntWalk.i64_in _ ⟨by omega,by omega⟩) ?_
  rw[←hm]
  refine wf ?_
  refine pwp_condD (fun h=>?_) (fun h=>?_)
  ·refine wf ?_
   exact⟨(m+1,j),⟨by dsimp only;omega,hjn,fun k hk hkm=>(asc_le (d:=d) ha hmn (by omega)).1 h,h2⟩,by dsimp only;omega,⟨rfl,rfl,rfl,rfl,rfl,rfl⟩,.refl _⟩
  ·refine wf ?_
   exact⟨(i,m),⟨by dsimp only;omega,by dsimp only;omega,h1,fun k hk hkm=>(asc_le (d:=d) ha hk hkm).2 (Int.not_lt.1 h)⟩,by dsimp only;omega,⟨rfl,rfl,rfl,rfl,rfl,rfl⟩,.refl _⟩
 ·have e:i=j:=by omega
  subst e
  refine Decidable.byCases (p:=i < s.length) (fun hin=>?_) (fun hin=>?_)
  ·have g:decide ((i:Int) < (s.length:Int))=true:=decide_eq_true (by omega)
   refine wf ?_
   refine end2 (.of_eq ?_)
   have hpm:=posD_mem ha h1 h2
   rw[posD_of hjn h1 h2]
   have e2:decide (d∈ids s)=decide (cmpD s[i].id d=0):=by
    rw[decide_eq_decide,hpm]
    exact⟨fun⟨_,h⟩=>h,fun h=>⟨hin,h⟩⟩
   rw[e2]
  ·have g:decide ((i:Int) < (s.length:Int))=false:=decide_eq_false (by omega)
   refine wf ?_
   refine end2 (.of_eq ?_)
   have hpm:=posD_mem ha h1 h2
   rw[posD_of hjn h1 h2,decide_eq_false (fun h=>hin (hpm.1 h).1)]⟩
theorem searchP_fn (s:List Sto) (t:Tag) (d:Dig) (ha:Asc (ids s)) (hl:s.length≤1000000):FnC Tryz.prog 95 [.slice (s.map eSto) t,.agg (eDig d)] (.tuple [.raw (.int .i64 (posD s d)),.raw (.bool (decide (d∈ids s)))]):=⟨by
 have i1: ∀ t,FnC Tryz.prog 127 [.slice (s.map eSto) t,.agg (eDig d),.clo 128 []] (.tuple [.raw (.int .i64 (posD s d)),.raw (.bool (decide (d∈ids s)))]):=fun t=>binary_fn s t d ha hl
 refine fn_of Tryz.func95 Tryz.ntmps95 rfl (rs:= [.tmp 4,.tmp 5]) rfl rfl fun hb LF=>?_
 refine wf ?_
 exact end2 (.refl _)⟩
theorem lacks1_fn (s:List Sto) (t:Tag) (d:Dig) (ha:Asc (ids s)) (hl:s.length≤1000000):FnC Tryz.prog 117 [.agg (eDig d),.pt [.slice (s.map eSto) t] 0] (.raw (.bool (!decide (d∈ids s)))):=⟨by
 have i1: ∀ t,FnC Tryz.prog 95 [.slice (s.map eSto) t,.agg (eDig d)] (.tuple [.raw (.int .i64 (posD s d)),.raw (.bool (decide (d∈ids s)))]):=fun t=>searchP_fn s t d ha hl
 refine fn_of Tryz.func117 Tryz.ntmps117 rfl (rs:= [.tmp 3]) rfl rfl fun hb LF=>?_
 refine wf ?_
 exact end1 (.refl _)⟩
theorem lacks_fn (s:List Sto) (t:Tag) (p:Pat) (ha:Asc (ids s)) (hl:s.length≤1000000) (hg:rGreat p=false):FnC Tryz.prog 84 [.slice (s.map eSto) t,.agg (ePat p)] (.raw (.bool (!allIn (ids s) (rNeeds p)))):=⟨by
 have i0:Small (rGreat p=false):=⟨hg⟩
 have i1: ∀ t d,FnC Tryz.prog 117 [.agg (eDig d),.pt [.slice (s.map eSto) t] 0] (.raw (.bool (!decide (d∈ids s)))):=fun t d=>lacks1_fn s t d ha hl
 have i2: ∀ t u,FnC Tryz.prog 35 [.slice ((rNeeds p).map eDig) t,.clo 117 [.pt [.slice (s.map eSto) u] 0]] (.raw (.bool ((rNeeds p).any fun d=>!decide (d∈ids s)))):=fun t u=>containsD_fn 117 [.pt [.slice (s.map eSto) u] 0] (fun d=>!decide (d∈ids s)) (rNeeds p) t
 refine fn_of Tryz.func84 Tryz.ntmps84 rfl (rs:= [.tmp 4]) rfl rfl fun hb LF=>?_
 refine wf ?_
 refine end1 (.of_eq ?_)
 rw[allIn,List.not_all_eq_any_not]⟩
end Go.Proofs
namespace Go.Proofs
open Go Go.Q
attribute [local irreducible] pwp pops PCalls OpN
instance trw_set:TRw Tryz.prog 23 59 37 120:=⟨by
 have h2:(Tryz.prog.info? 59).map (fun i=>(i.size,i.bytes,i.zero.isSome,(i.zero.getD undef).cells.size))=some (37,120,true,37):=by kernel_rfl
 obtain⟨i,hi,e⟩:=Option.map_eq_some_iff.1 h2
 simp only[Prod.mk.injEq]at e
 obtain⟨e1,e2,e3,e4⟩:=e
 obtain⟨z,hz⟩:=Option.isSome_iff_exists.1 e3
 rw[hz]at e4
 exact⟨i,z,by kernel_rfl,hi,e1,e2,hz,e4,by decide,by decide⟩⟩
instance trw_sto:TRw Tryz.prog 22 59 37 120:=⟨by
 obtain⟨i,z,_,h⟩:=trw_set.out
 exact⟨i,z,by kernel_rfl,h⟩⟩
theorem splice_len {X cs:List Value} {o:Nat} (h:o+cs.length≤X.length):(splice X o cs).length=X.length:=by
 unfold splice
 simp only[List.length_append,List.length_take,List.length_drop];omega
theorem splice_at {X cs:List Value} {o:Nat} (h:o+cs.length≤X.length) (k:Nat):(splice X o cs)[k]? =if k < o then X[k]? else if k < o+cs.length then cs[k - o]? else X[k]?:=by
 unfold splice
 have h1:(X.take o).length=o:=by rw[List.length_take];omega
 by_cases a:k < o
 ·rw[if_pos a,List.append_assoc,List.getElem?_append_left (by omega),List.getElem?_take_of_lt a]
 ·rw[if_neg a,List.append_assoc,List.getElem?_append_right (by omega),h1]
  by_cases b:k < o+cs.length
  ·rw[if_pos b,List.getElem?_append_left (by omega)]
  ·rw[if_neg b,List.getElem?_append_right (by omega),List.getElem?_drop]
   congr 1;omega
theorem target_at {us cv:List Value} {a:Nat} (h:a≤us.length) (k:Nat):(us.take a++cv++us.drop a)[k]? =if k < a then us[k]? else if k < a+cv.length then cv[k - a]? else us[k - cv.length]?:=by
 have h1:(us.take a).length=a:=by rw[List.length_take];omega
 by_cases b:k < a
 ·rw[if_pos b,List.append_assoc,List.getElem?_append_left (by omega),List.getElem?_take_of_lt b]
 ·rw[if_neg b,List.append_assoc,List.getElem?_append_right (by omega),h1]
  by_cases c:k < a+cv.length
  ·rw[if_pos c,List.getElem?_append_left (by omega)]
  ·rw[if_neg c,List.getElem?_append_right (by omega),List.getElem?_drop]
   congr 1;omega
theorem target_len {us cv:List Value} {a:Nat} (h:a≤us.length):(us.take a++cv++us.drop a).length=us.length+cv.length:=by
 simp only[List.length_append,List.length_take,List.length_drop];omega
theorem grow_target {us cv zs:List Value} {a:Nat} (h:a≤us.length) (hz:cv.length+(us.length - a)≤zs.length):(splice (splice (us.take a++zs) a cv) (a+cv.length) (us.drop a)).take (us.length+cv.length)=us.take a++cv++us.drop a:=by
 have h1:(us.take a).length=a:=by rw[List.length_take];omega
 have hX:(us.take a++zs).length=a+zs.length:=by rw[List.length_append,h1]
 have hB:(us.drop a).length=us.length - a:=List.length_drop
 have q1:a+cv.length≤(us.take a++zs).length:=by omega
 have q2:=splice_len q1
 have q3:a+cv.length+(us.drop a).length≤(splice (us.take a++zs) a cv).length:=by omega
 refine List.ext_getElem? fun k=>?_
 rw[target_at h,List.getElem?_take]
 by_cases hk:k < us.length+cv.length
 ·rw[if_pos hk,splice_at q3,splice_at q1]
  by_cases b:k < a
  ·rw[if_pos (by omega),if_pos b,if_pos b,List.getElem?_append_left (by omega),List.getElem?_take_of_lt b]
  ·rw[if_neg b,if_neg b]
   by_cases c:k < a+cv.length
   ·rw[if_pos c,if_pos c,if_pos c]
   ·rw[if_neg c,if_pos (by omega),if_neg c,List.getElem?_drop]
    congr 1;omega
 ·rw[if_neg hk,if_neg (by omega),if_neg (by omega),List.getElem?_eq_none (by omega)]
theorem shift_target {us cv X:List Value} {a:Nat} (h:a≤us.length) (hX:us.length+cv.length≤X.length) (ht:X.take us.length=us):(splice (splice X (a+cv.length) (us.drop a)) a cv).take (us.length+cv.length)=us.take a++cv++us.drop a:=by
 have hB:(us.drop a).length=us.length - a:=List.length_drop
 have q1:a+cv.length+(us.drop a).length≤X.length:=by omega
 have q2:=splice_len q1
 have q3:a+cv.length≤(splice X (a+cv.length) (us.drop a)).length:=by omega
 refine List.ext_getElem? fun k=>?_
 rw[target_at h,List.getElem?_take]
 by_cases hk:k < us.length+cv.length
 ·rw[if_pos hk,splice_at q3,splice_at q1]
  by_cases b:k < a
  ·rw[if_pos b,if_pos (by omega),if_pos b]
   conv=>rhs;rw[←ht]
   rw[List.getElem?_take_of_lt (by omega)]
  ·rw[if_neg b,if_neg b]
   by_cases c:k < a+cv.length
   ·rw[if_pos c,if_pos c]
   ·rw[if_neg c,if_neg c,if_neg c,if_pos (by omega),List.getElem?_drop]
    congr 1;omega
 ·rw[if_neg hk,if_neg (by omega),if_neg (by omega),List.getElem?_eq_none (by omega)]
theorem cellsAt_take {cur:Array Value} {us:List Value} (h:cur.toList.take us.length=us) (a:Nat):CellsAt cur 0 (us.take a):=fun j hj=>by
 rw[List.length_take]at hj
 rw[Nat.zero_add,List.getElem_take,←List.getElem?_eq_getElem (by omega)]
 conv=>rhs;rw[←h]
 rw[List.getElem?_take_of_lt (by omega)]
theorem cellsAt_drop {cur:Array Value} {us:List Value} (h:cur.toList.take us.length=us) (a:Nat):CellsAt cur a (us.drop a):=fun j hj=>by
 rw[List.length_drop]at hj
 rw[List.getElem_drop,←List.getElem?_eq_getElem (by omega)]
 conv=>rhs;rw[←h]
 rw[List.getElem?_take_of_lt (by omega)]
set_option maxHeartbeats 2000000 in
theorem insert_raw (v:Value) (n:Nat) (us:List Value) (R:List Res) (hv:RowG 59 37 v n us R) (i:Nat) (hi:i≤n) (hn:n≤1000) (rv:Nat) (cv:Array Value) (hcv:cv.size=37) (h1v: ∀ x∈cv.toList,x.oneCell'=true) (h1u: ∀ x∈us,x.oneCell'=true):
  PCalls Tryz.prog 97 [.raw v,.raw (.int .i64 (i:Int)),.raw (.slice (some ⟨rv,0,none⟩) 1 1)] (R++ [.raw rv (.cells cv 59 (0,0))])
   (fun x L'=> ∃ v' R',x= .raw v'∧RowG 59 37 v' (n+1) (us.take (i*37)++cv.toList++us.drop (i*37)) R'∧L'=R'++ [.raw rv (.cells cv 59 (0,0))]):=by
 refine pcalls_bd Tryz.func97 rfl Tryz.ntmps97 (rs:= [.tmp 6]) rfl rfl fun hb LF=>?_
 have hul:=hv.len
 have hcl:cv.toList.length=37:=by simpa using hcv
 have hcat:CellsAt cv 0 cv.toList:=fun j hj=>by rw[Nat.zero_add,List.getElem?_eq_getElem hj]
 obtain⟨o,c,hvs⟩:=hv.slice
 have hnc:n≤c:=by cases hv<;>(injection hvs with _ _ e;omega)
 subst hvs
 refine wf ?_
 refine s_cutAny rfl rfl hi hnc fun u=>?_
 refine wf ?_
 refine s_lenR rfl ?_
 refine wf ?_
 refine s_lenR rfl ?_
 refine wf ?_
 refine pwp_condD (fun h=>?_) (fun h=>?_)
 ·have hin:i=n:=by omega
  subst hin
  refine wf ?_
  refine s_appRR (us:=us) (vs:=cv.toList) (R:=R) (LF:= .raw rv (.cells cv 59 (0,0))::LF) (fun R'=>R'++(.raw rv (.cells cv 59 (0,0))::LF)) rfl rfl hv (.of_eq (by simp)) (fun R'=> .refl _) (by omega) h1v ⟨cv,_,_,List.mem_cons_self,hcat⟩ (by omega) (by omega) fun v' R' hv'=>?_
  refine wf ?_
  refine wf ?_
  refine⟨trivial,_,R'++ [.raw rv (.cells cv 59 (0,0))],.cons (.tmp 6) .nil,by rw[List.append_assoc];exact .refl _,v',R',rfl,?_,rfl⟩
  rw[List.take_of_length_le (by omega),List.drop_eq_nil_of_le (by omega),List.append_nil]
  exact hv'
 have hin:i < n:=by omega
 cases hv with
 |nil o ho=>omega
 |row hlc hs hu hc=>
 rename_i r cur
 have hc':cur.toList.take us.length=us:=by rw[hul];exact hc
 have hcs:cur.toList.length=c*37:=by simpa using hs
 have hia:i*37≤us.length:=by omega
 have htl:(us.take (i*37)).length=i*37:=by rw[List.length_take];omega
 have hdl:(us.drop (i*37)).length=(n - i)*37:=by rw[List.length_drop];omega
 refine wf ?_
 refine s_capR rfl ?_
 refine wf ?_
 refine pwp_condD (fun h2=>?_) (fun h2=>?_)
 ·refine wf ?_
  refine s_cutC 0 i rfl (by omega) (by omega) (by omega) hlc (fun _ e=>by cases e) (fun _=>rfl) (fun o e=>by cases e;exact⟨_,rfl⟩) (fun e=>by cases e) ?_
  refine wf ?_
  refine s_appZ (T₂:=3) (us:=us.take (i*37)) (n:=i) (m:=n+1 - i) (c:=c) (o:=0) (cur:=cur) (by kernel_rfl) rfl (by show PV.raw (Value.int .i64 ((n:Int)+1 - i))=PV.raw (Value.int .i64 ((n+1 - i:Nat):Int));congr 2;omega) List.mem_cons_self rfl htl (cellsAt_take hc' _) (by omega) (by omega) (by omega) (by omega) fun r' nc zs hnc hzl=>?_
  have e1:i+(n+1 - i)=n+1:=by omega
  rw[e1]at hnc ⊢
  have hz37:cv.toList.length+(us.length - i*37)≤zs.length:=by
   rw[List.length_append,htl]at hzl
   have:(n+1)*37≤nc*37:=Nat.mul_le_mul_right _ hnc
   omega
  refine wf ?_
  refine wf ?_
  refine s_cutC i (n+1) rfl (by omega) hnc (by omega) hnc (fun o e=>by cases e;exact⟨_,rfl⟩) (fun e=>by cases e) (fun _ e=>by cases e) (fun _=>rfl) ?_
  refine wf ?_
  refine s_copyR (r:=r') (cur:=(us.take (i*37)++zs).toArray) cv.toList (fun c=>c::([.raw r (.cells cur 59 (0,0))]++ [.raw rv (.cells cv 59 (0,0))]++LF)) rfl rfl (.refl _) (fun c=> .refl _) (by rw[show Nat.min 1 (n+1 - i)=1 by show min 1 (n+1 - i)=1;omega];omega) h1v (by simp only[List.size_toArray,List.length_append,htl];omega) ⟨cv,_,_,List.mem_cons_of_mem _ (List.mem_cons_of_mem _ List.mem_cons_self),hcat⟩ ?_
  rw[show 0+i*37=i*37 from Nat.zero_add _]
  rw[show(us.take (i*37)++zs).toArray.toList=us.take (i*37)++zs from rfl]
  refine pops_nil ?_
  refine wn ?_
  refine pwp_drawN 8 ?_ ?_
  ·decide+kernel
  refine wf ?_
  refine s_cutC (i+1) (n+1) rfl (by omega) hnc (by omega) hnc (fun o e=>by cases e;exact⟨_,rfl⟩) (fun e=>by cases e) (fun _ e=>by cases e) (fun _=>rfl) ?_
  refine wf ?_
  refine s_cutC i n rfl (by omega) (by omega) (by omega) hlc (fun o e=>by cases e;exact⟨_,rfl⟩) (fun e=>by cases e) (fun _ e=>by cases e) (fun _=>rfl) ?_
  refine wf ?_
  have hsp:(splice (us.take (i*37)++zs) (i*37) cv.toList).length=nc*37:=by
   rw[splice_len (by rw[List.length_append,htl];omega),hzl]
  have hnz:(n+1)*37≤nc*37:=Nat.mul_le_mul_right _ hnc
  refine s_copyR (r:=r') (cur:=(splice (us.take (i*37)++zs) (i*37) cv.toList).toArray) (us.drop (i*37)) (fun c=>c::([.raw r (.cells cur 59 (0,0))]++ [.raw rv (.cells cv 59 (0,0))]++LF)) rfl rfl (.refl _) (fun c=> .refl _) (by rw[show Nat.min (n - i) (n+1 - (i+1))=n - i by show min (n - i) (n+1 - (i+1))=n - i;omega];exact hdl) (fun x hx=>h1u x (List.mem_of_mem_drop hx)) (by rw[List.size_toArray,hsp,hdl];omega) ⟨cur,_,_,List.mem_cons_of_mem _ List.mem_cons_self,by rw[Nat.zero_add];exact cellsAt_drop hc' _⟩ ?_
  rw[show 0+(i+1)*37=(i+1)*37 from Nat.zero_add _]
  rw[show(splice (us.take (i*37)++zs) (i*37) cv.toList).toArray.toList=splice (us.take (i*37)++zs) (i*37) cv.toList from rfl]
  refine wf ?_
  refine wf ?_
  refine⟨trivial,_,[.raw r' (.cells (splice (splice (us.take (i*37)++zs) (i*37) cv.toList) ((i+1)*37) (us.drop (i*37))).toArray 59 (0,0))]++ [.raw rv (.cells cv 59 (0,0))],.cons (.tmp 6) .nil,.cons_cons _ (.cons _ (.refl _)),_,_,rfl,.row hnc ?_ ?_ ?_,rfl⟩
  ·rw[List.size_toArray,splice_len (by rw[hsp,hdl];omega),hsp]
  ·rw[target_len hia,hul];omega
  ·have e3:=grow_target (us:=us) (cv:=cv.toList) (zs:=zs) hia hz37
   rw[hcl,hul,show i*37+37=(i+1)*37 by omega,show n*37+37=(n+1)*37 by omega]at e3
   exact e3
 have hroom:n+1≤c:=by omega
 have hnz:(n+1)*37≤c*37:=Nat.mul_le_mul_right _ hroom
 refine wf ?_
 refine s_cutC 0 (n+1) rfl (by omega) hroom (by omega) hlc (fun _ e=>by cases e) (fun _=>rfl) (fun o e=>by cases e;exact⟨_,rfl⟩) (fun e=>by cases e) ?_
 refine wf ?_
 refine s_cutC (i+1) (n+1) rfl (by omega) (by omega) (by omega) (by omega) (fun o e=>by cases e;exact⟨_,rfl⟩) (fun e=>by cases e) (fun _ e=>by cases e) (fun _=>rfl) ?_
 refine s_overlaps (f:=129) (T:=22) (B:=4) (L':=LF) Tryz.func129 (by kernel_rfl) (by kernel_rfl) (by kernel_rfl) (by kernel_rfl) rfl rfl (.swap _ _ _) (by omega) ?_
 refine wo ?_
 refine pops_nil ?_
 refine wn ?_
 refine pwp_drawN 8 ?_ ?_
 ·decide+kernel
 refine wf ?_
 refine s_cutC (i+1) (n+1) rfl (by omega) (by omega) (by omega) (by omega) (fun o e=>by cases e;exact⟨_,rfl⟩) (fun e=>by cases e) (fun _ e=>by cases e) (fun _=>rfl) ?_
 refine wf ?_
 refine s_cutC i (n+1) rfl (by omega) (by omega) (by omega) (by omega) (fun o e=>by cases e;exact⟨_,rfl⟩) (fun e=>by cases e) (fun _ e=>by cases e) (fun _=>rfl) ?_
 refine wf ?_
 refine s_copyR (r:=r) (cur:=cur) (us.drop (i*37)) (fun c=>c::([.raw rv (.cells cv 59 (0,0))]++LF)) rfl rfl (.refl _) (fun c=> .refl _) (by rw[hdl];congr 1;show n - i=min _ _;omega) (fun x hx=>h1u x (List.mem_of_mem_drop hx)) (by rw[hs,hdl];omega) ⟨cur,_,_,List.mem_cons_self,by rw[show 0+0*37+i*37=i*37 by omega];exact cellsAt_drop hc' _⟩ ?_
 rw[show 0+0*37+(i+1)*37=(i+1)*37 by omega]
 have hsp:(splice cur.toList ((i+1)*37) (us.drop (i*37))).length=c*37:=by
  rw[splice_len (by rw[hcs,hdl];omega),hcs]
 refine pops_nil ?_
 refine wf ?_
 refine s_cutC i (n+1) rfl (by omega) (by omega) (by omega) (by omega) (fun o e=>by cases e;exact⟨_,rfl⟩) (fun e=>by cases e) (fun _ e=>by cases e) (fun _=>rfl) ?_
 refine wf ?_
 refine s_copyR (r:=r) (cur:=(splice cur.toList ((i+1)*37) (us.drop (i*37))).toArray) cv.toList (fun c=>c::([.raw rv (.cells cv 59 (0,0))]++LF)) rfl rfl (.refl _) (fun c=> .refl _) (by rw[hcl];show 37=min 1 _*37;omega) h1v (by rw[List.size_toArray,hsp,hcl];omega) ⟨cv,_,_,List.mem_cons_of_mem _ List.mem_cons_self,hcat⟩ ?_
 rw[show 0+0*37+i*37=i*37 by omega,show(splice cur.toList ((i+1)*37) (us.drop (i*37))).toArray.toList=splice cur.toList ((i+1)*37) (us.drop (i*37)) from rfl]
 refine pops_nil ?_
 refine wf ?_
 refine⟨trivial,_,[.raw r (.cells (splice (splice cur.toList ((i+1)*37) (us.drop (i*37))) (i*37) cv.toList).toArray 59 (0,0))]++ [.raw rv (.cells cv 59 (0,0))],.cons (.tmp 6) .nil,.refl _,_,_,rfl,.row hroom ?_ ?_ ?_,rfl⟩
 ·rw[List.size_toArray,splice_len (by rw[hsp,hcl];omega),hsp,Nat.sub_zero]
 ·rw[target_len hia,hul];omega
 ·have e3:=shift_target (us:=us) (cv:=cv.toList) (X:=cur.toList) hia (by omega) hc'
  rw[hcl,hul,show i*37+37=(i+1)*37 by omega,show n*37+37=(n+1)*37 by omega]at e3
  exact e3
end Go.Proofs
namespace Go.Q
open Go
theorem flat_split {sz:Nat} {xs:List (List PV)} (hs: ∀ e∈xs,e.length=sz) {i:Nat} (hi:i < xs.length):xs.flatten=(xs.take i).flatten++(xs[i]++(xs.drop (i+1)).flatten)∧(xs.take i).flatten.length=i*sz:=by
 constructor
 ·conv=>lhs;rw[←List.take_append_drop i xs,List.flatten_append,List.drop_eq_getElem_cons hi,List.flatten_cons]
 ·rw[flatten_len (sz:=sz) fun e he=>hs e (List.mem_of_mem_take he),List.length_take,Nat.min_eq_left (by omega)]
theorem flat_sub {sz:Nat} {xs:List (List PV)} {rest:List PV} (hs: ∀ e∈xs,e.length=sz) {i:Nat} (hi:i < xs.length):Sub (xs.flatten++rest) (0+i*sz) sz xs[i]:=by
 obtain⟨h1,h2⟩:=flat_split hs hi
 have h3:=hs _ (List.getElem_mem hi)
 rw[Nat.zero_add,h1,List.append_assoc]
 refine⟨?_,?_⟩
 ·rw[←h2,List.drop_left,List.append_assoc,←h3,List.take_left]
 ·simp only[List.length_append];omega
theorem flat_put {sz:Nat} {xs:List (List PV)} {rest new:List PV} (hs: ∀ e∈xs,e.length=sz) {i:Nat} (hi:i < xs.length) (hn:new.length=sz):Put (xs.flatten++rest) (0+i*sz) new ((xs.set i new).flatten++rest):=by
 obtain⟨h1,h2⟩:=flat_split hs hi
 have h3:=hs _ (List.getElem_mem hi)
 have h4:(xs.set i new).flatten=(xs.take i).flatten++(new++(xs.drop (i+1)).flatten):=by
  rw[List.set_eq_take_append_cons_drop,if_pos hi,List.flatten_append,List.flatten_cons]
 rw[Nat.zero_add,h1,h4]
 refine⟨?_,?_⟩
 ·have e1:((xs.take i).flatten++(xs[i]++(xs.drop (i+1)).flatten)++rest).take (i*sz)=(xs.take i).flatten:=by
   rw[List.append_assoc,←h2,List.take_left]
  have e2:((xs.take i).flatten++(xs[i]++(xs.drop (i+1)).flatten)++rest).drop (i*sz+new.length)=(xs.drop (i+1)).flatten++rest:=by
   rw[hn,←h2,←h3,←List.drop_drop,List.append_assoc,List.drop_left,List.append_assoc,List.drop_left]
  rw[e1,e2]
  simp only[List.append_assoc]
 ·simp only[List.length_append];omega
theorem RowB.inv {E sz n c:Nat} {o:Option Addr} {xs:List (List PV)} {R:List Res} (h:RowB E sz (.slice o n c) xs R) (h0:0 < n): ∃ r rest,o=some ⟨r,0,none⟩∧R= [.box r E (xs.flatten++rest)]∧xs.length=n∧n≤c∧(∀ e∈xs,e.length=sz)∧xs.flatten.length+rest.length=c*sz:=by
 generalize hv:Value.slice o n c=v at h
 cases h with
 |nil o' ho=>injection hv with _ e2 _;omega
 |row hn hl hs hc=>injection hv with e1 e2 e3;subst e1 e2 e3;exact⟨_,_,rfl,rfl,hn,hl,hs,hc⟩
theorem RowB.freeze {E sz:Nat} {w:World} {g:Gh} {R L':List Res} {v:Value} {xs:List (List PV)} (hi:Inv w g (R++L')) (hv:RowB E sz v xs R) (hm:xs.length≤maxN∧xs.length*sz≤maxN):
  ∃ g',Inv w g' L'∧Step (blocks (R++L')) w g w g'∧Within w (R++L') L'∧VR g' v (.slice xs .ro):=by
 cases hv with
 |nil o ho=>exact⟨g,hi,.refl _ _ _,.refl _ _,.nilR⟩
 |row hn hl hs hc=>
  rename_i r n cap rest
  subst hn
  obtain⟨us,h1,h2⟩:=Inv.boxRaw hi
  obtain⟨k1,k2,k3,k4,k5⟩:=h2.rawHead
  have hul:us.length=xs.flatten.length+rest.length:=by rw[h1.len,List.length_append]
  let u:=us.take xs.flatten.length
  have hu0:u.length=xs.flatten.length:=by simp only[u,List.length_take];omega
  have hu:VRl g u xs.flatten:=⟨hu0,fun i k1 k2=>by
   have:=h1.at_ i (by omega) (by rw[List.length_append];omega)
   rw[List.getElem_append_left k2]at this
   simpa [u]using this⟩
  have hle:=Gh.le_lay (g:=g) (b:=r) (from_:=0) (us:=u) (fun o _=>k2 o)
  have hcell: ∀ j (h:j < u.length),w.cell? ⟨r,j,none⟩=some u[j]:=fun j h=>by
   have hj:j < us.length:=by omega
   simp only[World.cell?,k1,Option.isSome_none,Bool.false_eq_true,if_false,List.getElem?_toArray]
   rw[List.getElem?_eq_getElem hj]
   simp[u]
  refine⟨g.lay r 0 u,⟨fun b' o v hv=>?_,fun b' z hz=>hi.satM b' z hz,fun r' hr'=>?_,k5.nodup,hi.glob.mono hle⟩,⟨rfl,rfl,⟨rfl,Nat.le_refl _⟩,Nat.le_refl _,fun _ _ _=>rfl,hle,fun k _ hn=>⟨fun o=>Gh.lay_out (fun h=>hn (by rw[h.1];simp[blocks,Res.block])),rfl⟩⟩,fun b hb _=>?_,?_⟩
  ·by_cases hin:b'=r∧0≤o∧o < 0+u.length
   ·obtain⟨rfl,_,h6⟩:=hin
    have hj:o < u.length:=by omega
    have:=Gh.lay_in (g:=g) (b:=b') (from_:=0) hj
    rw[Nat.zero_add,hv]at this
    cases this
    exact hcell o hj
   ·rw[Gh.lay_out hin]at hv;exact hi.sat b' o v hv
  ·exact Res.holds_kept hle (k5.res r' hr') fun b' hb'=>⟨rfl,fun o=>Gh.lay_out (fun h=>k4 (List.mem_filterMap.2 ⟨r',hr',by rw[hb',h.1]⟩)),rfl⟩
  ·simp only[blocks,List.filterMap_append]at hb ⊢;exact List.mem_append_right _ hb
  ·exact VR.of_cells (g:=g.lay r 0 u) (t:= .ro) (sz:=sz) (b:=r) (off:=0) (cap:=cap) hs hl hm (us:=u) (hu.mono hle) (fun j hj=>Gh.lay_in hj) (fun b' cap' e=>by cases e) (by simp)
section
variable {P:Program} {N:Nat} {ρ:Env} {L:List Res}
theorem pwp_freezeB {E sz:Nat} {R L':List Res} {v:Value} {xs:List (List PV)} {c:Code} {Q:PPost} (i:Nat) (hv:RowB E sz v xs R) (hm:xs.length≤maxN∧xs.length*sz≤maxN) (hp:L.Perm (R++L')) (hi:ρ i= .raw v) (k:pwp P N c Q (upd ρ i (.slice xs .ro)) L'):pwp P N c Q ρ L:=
 pwp_ghost (fun base a w g ha hI=>by
  obtain⟨g',h1,h2,h3,h4⟩:=RowB.freeze (hI.perm hp) hv hm
  refine⟨g',⟨ha.size,ha.defers.mono h2.le,fun j=>?_⟩,h1,h2.grow (fun b hb=>(blocks_perm hp).symm.subset hb),fun b hb hlt=>(blocks_perm hp).symm.subset (h3 b hb hlt)⟩
  have hj:=(ha.slot j).mono h2.le
  by_cases e:j=i
  ·subst e
   rw[hi]at hj
   show VR g' _ (upd ρ j _ j)
   rw[upd_self,hj.raw_inv];exact h4
  ·show VR g' _ (upd ρ i _ j)
   rw[upd_ne _ _ e];exact hj) k
end
end Go.Q
namespace Go.Q
open Go
section
variable {P:Program} {N:Nat} {all:Array Oper} {K:Env→List Res→Prop} {fl:List Bool} {os:List Oper} {ρ:Env} {L:List Res} {d:Nat} {ty:TypeId} {pos:String} {af:Array Edge}
theorem s_build1B {T E sz by_:Nat} [hT:TRw P T E sz by_] {x0:Operand} {cs:List PV} (hc:Cells (ρ.ev x0) cs) (hl:cs.length=sz) (h24:sz≤16777216)
  (k: ∀ b,pops P N all K fl.tail os (upd ρ d (.raw (.slice (some ⟨b,0,none⟩) 1 1))) (.box b E cs::L)) (hd:Nat.blt d N=true:=by rfl) (hfl:fl.headD true=true:=by rfl):pops P N all K fl (⟨some d,.buildSlice T 1 #[(0,x0)],ty,pos,af,none⟩::os) ρ L:=
 pops_n rfl (dlt hd) hfl (fun a w g ha hi=>by
  obtain⟨i,z,t1,t2,t3,t4,t5,t6,t7,t8⟩:=hT.out
  obtain⟨us,e1,e2⟩:=hc g _ (ha x0 (by simp[Op.operands]))
  have hul:us.length=sz:=by rw[e2.len,hl]
  have hr:(execOp a.eval ⟨some d,.buildSlice T 1 #[(0,x0)],ty,pos,af,none⟩).run P w= .ok (.value (.slice (some ⟨w.heap.size,0,none⟩) 1 1)) { w with heap:=w.heap.push (.cells us.toArray E (0,0)) }:=by
   have hz: ∀ (zz:Array Value),Instr.fill (fun i=>some (i*sz,sz)) ((Array.range (1*sz)).map (zz[·% zz.size]!)) [(0,a.eval x0)]=some us.toArray:=fun zz=>by
    have e:(Array.range (1*sz)).map (zz[·% zz.size]!)=((List.range (1*sz)).map (zz[·% zz.size]!)).toArray:=by
     apply Array.ext';simp
    have:=fill_all (sz:=sz) [us] [a.eval x0] 0 ((List.range (1*sz)).map (zz[·% zz.size]!)) rfl (fun i h1 h2=>by
     have h0:i=0:=by simp at h1;omega
     subst h0
     exact⟨e1,hul⟩) (by simp)
    rw[e]
    simpa using this
   show(do pure (Next.value (←Instr.buildSlice T 1 (#[(0,x0)].map fun(p:Nat × Operand)=>(p.1,a.eval p.2)))):Sem Next).run P w=_
   simp only[Instr.buildSlice,Sem.run_bind,run_underlying t1,Result.andThen_ok,sizeOf,typeInfo,run_program,t2,Sem.run_pure,t3]
   rw[if_neg (by have:(2:Nat) ^ 24=16777216:=by decide
                 omega)]
   have hzv:(zeroValue E).run P w= .ok z w:=by simp[zeroValue,typeInfo,t2,t5]
   split
   ·simp only[Sem.run_bind,Sem.run_pure,Result.andThen_ok,List.map_toArray,List.map_cons,List.map_nil,hz #[],newRow,run_newObj]
   ·simp only[Sem.run_bind,hzv,Sem.run_pure,Result.andThen_ok,List.map_toArray,List.map_cons,List.map_nil,hz z.cells,newRow,run_newObj]
  obtain⟨j1,j2,j3⟩:=hi.alloc e2 E
  refine Oper.wq_of_run hr ?_
  exact⟨_,.raw _,g,_,rfl,.raw _,j1,j2,j3,k _⟩)
end
end Go.Q
namespace Go.Proofs
open Go Go.Q
attribute [local irreducible] pwp pops PCalls OpN
theorem cloneS_fn (l:List Sto) (t:Tag) (hl:l.length≤1000000):PCalls Tryz.prog 98 [.slice (l.map eSto) t] [] (fun r L'=> ∃ v,r= .raw v∧RowB 59 37 v (l.map eSto) L'):=by
 refine pcalls_bd Tryz.func98 rfl Tryz.ntmps98 (rs:= [.tmp 2]) rfl rfl fun hb LF=>?_
 rw[List.nil_append]
 refine wf ?_
 refine s_eqNil rfl fun b hnil=>?_
 refine wf ?_
 refine pwp_condB (fun h=>?_) (fun h=>?_)
 ·have h0:l= []:=by simpa using hnil h
  subst h0
  refine pwp_seq ?_
  refine pwp_region (by kernel_rfl) ?_
  refine s_assign ?_
  refine pops_nil ?_
  refine wf ?_
  exact⟨trivial,_,[],.cons (.tmp 2) .nil,.refl _,_,rfl,.nil none (by simp)⟩
 refine pwp_skip ?_
 refine pwp_seq ?_
 refine pwp_region (by kernel_rfl) ?_
 refine s_bsRow (vf:=fun(_:Sto)=> []) fun v0 hv0=>?_
 have hv1:RowB 59 37 v0 [] []:=by
  generalize hR:([]:List Res)=R at hv0
  generalize hn:([]:List Sto).length=n at hv0
  unfold RowL at hv0
  rw[hn]at hv0
  cases hv0 with
  |nil o ho=>exact .nil o ho
  |row _ _ _ _=>cases hR
 refine wf ?_
 refine s_appB (f:=eSto) (R:= []) (LF:=LF) (fun R'=>R'++LF) rfl rfl hv1 (.refl _) (fun R'=> .refl _) (by simp only[List.length_nil];omega) (by simp only[List.length_nil];omega) fun v R' hv=>?_
 refine wf ?_
 refine wf ?_
 rw[List.nil_append]at hv
 exact⟨trivial,_,R',.cons (.tmp 2) .nil,.refl _,v,rfl,hv⟩
theorem flat_take {α:Type} {f:α→List PV} {sz:Nat} [hf:Len f sz] (l:List α) (i:Nat) (hi:i≤l.length):(l.map f).flatten.take (i*sz)=((l.take i).map f).flatten∧(l.map f).flatten.drop (i*sz)=((l.drop i).map f).flatten:=by
 have e:(l.map f).flatten=((l.take i).map f).flatten++((l.drop i).map f).flatten:=by
  rw[←List.flatten_append,←List.map_append,List.take_append_drop]
 have hlen:((l.take i).map f).flatten.length=i*sz:=by
  rw[flatten_len (sz:=sz) (fun e he=>by obtain⟨a,_,rfl⟩:=List.mem_map.1 he;exact hf.out a),List.length_map,List.length_take,Nat.min_eq_left hi]
 rw[e]
 exact⟨List.take_left' hlen,List.drop_left' hlen⟩
theorem insertS_fn (v:Value) (l:List Sto) (R:List Res) (hv:RowB 59 37 v (l.map eSto) R) (i:Nat) (hi:i≤l.length) (hn:l.length≤1000) (rv:Nat) (x:Sto):
  PCalls Tryz.prog 97 [.raw v,.raw (.int .i64 (i:Int)),.raw (.slice (some ⟨rv,0,none⟩) 1 1)] (R++ [.box rv 59 (eSto x)])
   (fun r L'=> ∃ v' R',r= .raw v'∧RowB 59 37 v' ((l.take i++x::l.drop i).map eSto) R'∧L'=R'++ [.box rv 59 (eSto x)]):=by
 have hfl: ∀ (m:List Sto),flat (m.map eSto).flatten:=fun m c hc=>by
  obtain⟨e,he,hce⟩:=List.mem_flatten.1 hc
  obtain⟨a,_,rfl⟩:=List.mem_map.1 he
  exact(inferInstance:FlatF eSto).out a c hce
 unfold PCalls
 intro vs w g LF hvv hI
 have hI1:Inv w g (R++([.box rv 59 (eSto x)]++LF)):=by rw[←List.append_assoc];exact hI
 obtain⟨us,R₁,q1,q2,q3,q4⟩:=hv.open hI1
 have hI2:Inv w g (.box rv 59 (eSto x)::(R₁++LF)):=q3.perm List.perm_middle
 obtain⟨uv,p1,p2⟩:=Inv.boxRaw hI2
 have hI3:Inv w g ((R₁++ [.raw rv (.cells uv.toArray 59 (0,0))])++LF):=p2.perm (by rw[List.append_assoc];exact List.perm_middle.symm)
 rw[List.length_map]at q2
 have huv:uv.length=37:=by rw[p1.len];exact(inferInstance:Len eSto 37).out x
 have hbl1:blocks (R₁++ [.raw rv (.cells uv.toArray 59 (0,0))]++LF)=blocks (R++ [.box rv 59 (eSto x)]++LF):=by
  simp only[blocks,List.filterMap_append]at q4 ⊢
  rw[q4];rfl
 have key:=insert_raw v l.length us R₁ q2 i hi hn rv uv.toArray (by simpa using huv) (by simpa using p1.one (fun c hc=>(inferInstance:FlatF eSto).out x c hc)) (q1.one (hfl l))
 unfold PCalls at key
 refine(key vs w g LF hvv hI3).mono ?_
 rintro e w' ⟨v',x',g',L',rfl,k2,k3,k4,k5,v2,R',rfl,k6,rfl⟩
 have k3':Inv w' g' (.raw rv (.cells uv.toArray 59 (0,0))::(R'++LF)):=k3.perm (by rw[List.append_assoc];exact List.perm_middle)
 have k7:Inv w' g' (.box rv 59 (eSto x)::(R'++LF)):=Inv.rawBox k3' (by simpa using p1.mono k4.le)
 have k8:Inv w' g' (R'++([.box rv 59 (eSto x)]++LF)):=k7.perm List.perm_middle.symm
 obtain⟨f1,f2⟩:=flat_take (f:=eSto) (sz:=37) l i hi
 have hus:VRl g' (us.take (i*37)++uv++us.drop (i*37)) ((l.take i++x::l.drop i).map eSto).flatten:=by
  have h1:=(q1.mono k4.le).take (i*37)
  have h2:=(q1.mono k4.le).drop (i*37)
  rw[f1]at h1
  rw[f2]at h2
  rw[List.map_append,List.map_cons,List.flatten_append,List.flatten_cons,←List.append_assoc]
  exact(h1.append (p1.mono k4.le)).append h2
 have hln:((l.take i++x::l.drop i).map eSto).length=l.length+1:=by
  simp only[List.length_map,List.length_append,List.length_take,List.length_cons,List.length_drop];omega
 obtain⟨R2,z1,z2,z3⟩:=RowB.close (xs:=(l.take i++x::l.drop i).map eSto) hln (fun e he=>by obtain⟨a,_,rfl⟩:=List.mem_map.1 he;exact(inferInstance:Len eSto 37).out a) k6 hus k8
 have hbl2:blocks (R2++ [.box rv 59 (eSto x)]++LF)=blocks (R'++ [.raw rv (.cells uv.toArray 59 (0,0))]++LF):=by
  simp only[blocks,List.filterMap_append]at z3 ⊢
  rw[z3];rfl
 refine⟨v',.raw v2,g',R2++ [.box rv 59 (eSto x)],rfl,k2,by rw[List.append_assoc];exact z2,hbl1 ▸ k4,fun b hb hlt=>?_,v2,R2,rfl,z1,rfl⟩
 rw[hbl2]at hb
 rw[←hbl1]
 exact k5 b hb hlt
end Go.Proofs
namespace Go.Proofs
open Go Go.Q
attribute [local irreducible] pwp pops PCalls OpN
instance supers_ct (k:Int):FnC Tryz.prog 152 [.raw (.int .i64 k)] (.raw (.int .i64 (ovK k))):=⟨by
 refine fn_of Tryz.func152 Tryz.ntmps152 rfl (rs:= [.tmp 2]) rfl rfl fun hb LF=>?_
 refine wf ?_
 repeat' (first|(refine pwp_condD (fun h=>?_) (fun h=>?_)<;>refine wf ?_)|(refine pwp_condN (fun h=>?_) (fun h=>?_)<;>refine wf ?_)|(refine pwp_condB (fun h=>?_) (fun h=>?_)<;>refine wf ?_)|(refine pops_if (fun h=>?_) (fun h=>?_)<;>(have h2:=h;(try simp only[decide_eq_true_eq,decide_eq_false_iff_not,Bool.not_eq_true',Bool.not_eq_false']at h2);refine wf ?_)))
 all_goals (refine end1 (.of_eq ?_);simp only[ovK];first|(simp_all;done)|grind)⟩
def ffP (k:Int) (a:Atm):Bool:=if a.kind≠1 then false else if k=5∨k=6 then decide (a.type=1)else if k=4 then decide (a.type=2∨a.type=3)else true
instance fitsFile_ct (k:Int) (a:Atm):FnC Tryz.prog 149 [.raw (.int .i64 k),.agg (eAtm a)] (.raw (.bool (ffP k a))):=⟨by
 refine fn_of Tryz.func149 Tryz.ntmps149 rfl (rs:= [.tmp 4]) rfl rfl fun hb LF=>?_
 refine wf ?_
 repeat' (first|(refine pwp_condD (fun h=>?_) (fun h=>?_)<;>refine wf ?_)|(refine pwp_condN (fun h=>?_) (fun h=>?_)<;>refine wf ?_)|(refine pwp_condB (fun h=>?_) (fun h=>?_)<;>refine wf ?_)|(refine pops_if (fun h=>?_) (fun h=>?_)<;>(have h2:=h;(try simp only[decide_eq_true_eq,decide_eq_false_iff_not,Bool.not_eq_true',Bool.not_eq_false']at h2);refine wf ?_)))
 all_goals (refine end1 (.of_eq ?_);simp only[ffP];first|(simp_all;done)|grind)⟩
def sf4 (x f g:Ident) (a:Atm):Bool:=decide (x=f)||(decide (a.kind=5)&&decide (a.file=g))
def sf5 (k:Int) (g:Ident) (a:Atm):Bool:=decide (k=0)||(decide (a.kind=k)&&decide (a.file=g))
instance sf2_ct (c:Chg) (a:Atm):FnC Tryz.prog 148 [.agg (eAtm a),.pt (eChg c) 0] (.raw (.bool (ffP c.kind a))):=⟨by
 refine fn_of Tryz.func148 Tryz.ntmps148 rfl (rs:= [.tmp 3]) rfl rfl fun hb LF=>?_
 refine wf ?_
 exact end1 (.refl _)⟩
instance sf3_ct (a:Atm):FnC Tryz.prog 150 [.agg (eAtm a)] (.raw (.bool (pf5 a))):=⟨by
 refine fn_of Tryz.func150 Tryz.ntmps150 rfl (rs:= [.tmp 2]) rfl rfl fun hb LF=>?_
 refine wf ?_
 repeat' (first|(refine pwp_condD (fun h=>?_) (fun h=>?_)<;>refine wf ?_)|(refine pwp_condN (fun h=>?_) (fun h=>?_)<;>refine wf ?_)|(refine pwp_condB (fun h=>?_) (fun h=>?_)<;>refine wf ?_)|(refine pops_if (fun h=>?_) (fun h=>?_)<;>(have h2:=h;(try simp only[decide_eq_true_eq,decide_eq_false_iff_not,Bool.not_eq_true',Bool.not_eq_false']at h2);refine wf ?_)))
 all_goals (refine end1 (.of_eq ?_);simp only[pf5];first|(simp_all;done)|grind)⟩
instance sf4_ct (x g:Ident) (c:Chg) (a:Atm):FnC Tryz.prog 151 [.agg (eAtm a),.pt (eIdent x) 0,.pt (eChg c) 0,.pt (eIdent g) 0] (.raw (.bool (sf4 x c.file g a))):=⟨by
 refine fn_of Tryz.func151 Tryz.ntmps151 rfl (rs:= [.tmp 5]) rfl rfl fun hb LF=>?_
 refine wf ?_
 repeat' (first|(refine pwp_condD (fun h=>?_) (fun h=>?_)<;>refine wf ?_)|(refine pwp_condN (fun h=>?_) (fun h=>?_)<;>refine wf ?_)|(refine pwp_condB (fun h=>?_) (fun h=>?_)<;>refine wf ?_)|(refine pops_if (fun h=>?_) (fun h=>?_)<;>(have h2:=h;(try simp only[decide_eq_true_eq,decide_eq_false_iff_not,Bool.not_eq_true',Bool.not_eq_false']at h2);refine wf ?_)))
 all_goals (refine end1 (.of_eq ?_);simp only[sf4];first|(simp_all;done)|grind)⟩
instance sf5_ct (k:Int) (g:Ident) (a:Atm):FnC Tryz.prog 153 [.agg (eAtm a),.pt [.raw (.int .i64 k)] 0,.pt (eIdent g) 0] (.raw (.bool (sf5 k g a))):=⟨by
 refine fn_of Tryz.func153 Tryz.ntmps153 rfl (rs:= [.tmp 4]) rfl rfl fun hb LF=>?_
 refine wf ?_
 repeat' (first|(refine pwp_condD (fun h=>?_) (fun h=>?_)<;>refine wf ?_)|(refine pwp_condN (fun h=>?_) (fun h=>?_)<;>refine wf ?_)|(refine pwp_condB (fun h=>?_) (fun h=>?_)<;>refine wf ?_)|(refine pops_if (fun h=>?_) (fun h=>?_)<;>(have h2:=h;(try simp only[decide_eq_true_eq,decide_eq_false_iff_not,Bool.not_eq_true',Bool.not_eq_false']at h2);refine wf ?_)))
 all_goals (refine end1 (.of_eq ?_);simp only[sf5];first|(simp_all;done)|grind)⟩
def putR (l:List Rfc) (r:Rfc):List Rfc:=if r.id.patch=Dig.zero then l else l++ [r]
def addS (b:Nat) (l:List Rfc) (t:Tag):List Res:= [.box b 152 [.slice (l.map eRfc) t],.tok t l.length 34]
set_option maxHeartbeats 1000000 in
theorem addS_fn (x:Ident) (f:Nat) (cs:List PV) (b:Nat) (l:List Rfc) (t:Tag) (hl:l.length≤1000000):
  PCalls Tryz.prog 147 [.agg (eIdent x),.clo f cs,.raw (.pointer (some ⟨b,0,none⟩))] (addS b l t) (fun _ L'=> ∃ t',L'=addS b (putR l ⟨x,f,cs⟩) t'):=by
 refine pcalls_bd Tryz.func147 rfl Tryz.ntmps147 (rs:= []) rfl rfl fun hb LF=>?_
 rw[show addS b l t++LF= .box b 152 [.slice (l.map eRfc) t]:: .tok t l.length 34::LF from rfl]
 refine wf ?_
 refine pwp_condN (fun h=>?_) (fun h=>?_)
 ·refine wfa fun t'=>?_
  exact⟨trivial,[],addS b (l++ [⟨x,f,cs⟩]) t',.nil,.refl _,t',by rw[putR,if_neg h]⟩
 ·refine wf ?_
  have h0:x.patch=Dig.zero:=by simpa using h
  exact⟨trivial,[],addS b l t,.nil,.refl _,t,by rw[putR,if_pos h0]⟩
end Go.Proofs
namespace Go.Proofs
open Go Go.Q
attribute [local irreducible] pwp pops PCalls OpN
section
variable {N:Nat} {all:Array Oper} {K:Env→List Res→Prop} {fl:List Bool} {os:List Oper} {ρ:Env} {L:List Res} {Q:PPost} {c:Code} {d:Nat} {ty:TypeId} {pos:String} {af:Array Edge}
theorem j_addS {x x0 x1:Operand} {ats:Array TypeId} {b f:Nat} {l:List Rfc} {t:Tag} {id:Ident} {cs:List PV} {a1:PV} {LF:List Res}
  (qx:ρ.ev x= .clo 147 [.raw (.pointer (some ⟨b,0,none⟩))]) (q0:ρ.ev x0= .agg (eIdent id)) (q1:ρ.ev x1=a1) [h1:IsClo a1 f cs] (hl:l.length≤1000000)
  (k: ∀ t' u,pops Tryz.prog N all K fl.tail os (upd ρ d u) (.box b 152 [.slice ((putR l (Rfc.mk id f cs)).map eRfc) t']:: .tok t' (putR l (Rfc.mk id f cs)).length 34::LF)) (hd:Nat.blt d N=true:=by rfl) (hfl:fl.headD true=true:=by rfl):
  pops Tryz.prog N all K fl (⟨some d,.call { callee:= .value x,args:= #[x0,x1],argTypes:=ats },ty,pos,af,none⟩::os) ρ (.box b 152 [.slice (l.map eRfc) t]:: .tok t l.length 34::LF):=
 s_callR (xs:= [x0,x1]) (addS b l t) LF (.of_eq qx) rfl rfl (.refl _) (fun _ L'=> ∃ t',L'=addS b (putR l ⟨id,f,cs⟩) t')
  (PCalls.args (bs:= [.agg (eIdent id),.clo f cs,.raw (.pointer (some ⟨b,0,none⟩))]) rfl (fun i g1 g2=>by
   match i,g1,g2 with
   |0,_,_=>exact .of_eq q0
   |1,_,_=>show Le (ρ.ev x1) _;rw[q1];exact h1.out
   |2,_,_=>exact .refl _
   |m+3,g1,_=>exact absurd g1 (by simp)) (addS_fn id f cs b l t hl)) (fun r L' ⟨t',e⟩=>by subst e;exact k t' r) hd hfl
end
theorem putR_len (l:List Rfc) (r:Rfc):(putR l r).length≤l.length+1:=by unfold putR;split<;>simp
def fileS (id:Dig) (c:Chg):Ident:=if c.file.patch=Dig.zero then { c.file with patch:=id }else c.file
def rs1 (c:Chg):List Rfc:=if c.kind≠1∧c.kind≠7 then putR [] ⟨c.file,148,[.pt (eChg c) 0]⟩else []
def rs2 (c:Chg) (l:List Rfc):List Rfc:=if c.kind=2 then putR l ⟨c.parent,150,[]⟩else l
def end1R (g:Ident) (c:Chg) (x:Ident):Rfc:=⟨x,151,[.pt (eIdent x) 0,.pt (eChg c) 0,.pt (eIdent g) 0]⟩
def rs3 (g:Ident) (c:Chg) (l:List Rfc):List Rfc:=if c.kind=5∨c.kind=6 then [c.after,c.before].foldl (fun l x=>putR l (end1R g c x)) l else l
def over1R (g:Ident) (c:Chg) (x:Ident):Rfc:=⟨x,153,[.pt [.raw (.int .i64 (ovK c.kind))] 0,.pt (eIdent g) 0]⟩
def rs4 (g:Ident) (c:Chg) (l:List Rfc) (o:List Ident):List Rfc:=o.foldl (fun l x=>putR l (over1R g c x)) l
def refsS (id:Dig) (c:Chg):List Rfc:=rs4 (fileS id c) c (rs3 (fileS id c) c (rs2 c (rs1 c))) c.over
theorem foldR_len' {α:Type} (f:α→Rfc): ∀ (o:List α) (l:List Rfc),(o.foldl (fun l x=>putR l (f x)) l).length≤l.length+o.length
 | [],l=>by simp
 |x::o,l=>by
  have:=foldR_len' f o (putR l (f x))
  have:=putR_len l (f x)
  simp only[List.foldl_cons,List.length_cons]
  omega
theorem rs1_len (c:Chg):(rs1 c).length≤1:=by
 unfold rs1;split
 ·exact putR_len _ _
 ·simp
theorem rs2_len (c:Chg) (l:List Rfc):(rs2 c l).length≤l.length+1:=by
 unfold rs2;split
 ·exact putR_len _ _
 ·omega
theorem rs3_len (g:Ident) (c:Chg) (l:List Rfc):(rs3 g c l).length≤l.length+2:=by
 unfold rs3;split
 ·exact foldR_len' _ _ _
 ·omega
set_option maxHeartbeats 4000000 in
instance referencesS_ct (id:Dig) (c:Chg) [hs:Small (c.over.length≤400)]:FnC Tryz.prog 118 [.agg (eDig id),.agg (eChg c)] (.slice ((refsS id c).map eRfc) .ro):=⟨by
 have hover:=hs.out
 have r1:=rs1_len c
 have r2:=rs2_len c (rs1 c)
 have r3:=rs3_len (fileS id c) c (rs2 c (rs1 c))
 refine fn_of Tryz.func118 Tryz.ntmps118 rfl (rs:= [.tmp 4]) rfl rfl fun hb LF=>?_
 refine wf ?_
 refine s_alloc fun b5=>?_
 refine wf ?_
 refine pwp_join True [(2,.pt (eDig id) 0),(3,.pt (eChg c) 0),(5,.raw (.pointer (some ⟨b5,0,none⟩)))] (.box b5 115 (eIdent (fileS id c))::LF) ?_ fun _=>?_
 ·refine pwp_condD (fun h=>?_) (fun h=>?_)
  ·refine wf ?_
   rw[fileS,if_pos h]
   exact⟨trivial,⟨rfl,rfl,rfl⟩,.refl _⟩
  ·refine wf ?_
   rw[fileS,if_neg h]
   exact⟨trivial,⟨rfl,rfl,rfl⟩,.refl _⟩
 generalize hg:fileS id c=g at r3 ⊢
 refine pwp_freezeD 5 ?_
 refine wf ?_
 refine s_alloc fun b6=>?_
 refine wo ?_
 refine pops_nil ?_
 refine pwp_tok 34 ?_
 refine pwp_perm (.swap _ _ _) ?_
 refine ws ?_
 refine pops_cutE [(29,.raw (.bool (decide (c.kind≠1∧c.kind≠7)))),(3,.pt (eChg c) 0),(5,.pt (eIdent g) 0),(6,.raw (.pointer (some ⟨b6,0,none⟩))),(7,.clo 147 [.raw (.pointer (some ⟨b6,0,none⟩))])] (.box b6 152 [.slice [] .nil]:: .tok .nil 0 34::LF) ?_ ?_
 ·repeat' (first|(refine pwp_condD (fun h=>?_) (fun h=>?_)<;>refine wf ?_)|(refine pwp_condN (fun h=>?_) (fun h=>?_)<;>refine wf ?_)|(refine pwp_condB (fun h=>?_) (fun h=>?_)<;>refine wf ?_)|(refine pops_if (fun h=>?_) (fun h=>?_)<;>(have h2:=h;(try simp only[decide_eq_true_eq,decide_eq_false_iff_not,Bool.not_eq_true',Bool.not_eq_false']at h2);refine wf ?_)))
  all_goals (refine⟨⟨holdsB (by rfl) ?_,rfl,rfl,rfl,rfl⟩,.refl _⟩;first|(simp_all;done)|grind)
 refine pwp_joinG (σ:=List Rfc × Tag) (fun s=>s.1=rs1 c) (fun s=> [(3,.pt (eChg c) 0),(5,.pt (eIdent g) 0),(6,.raw (.pointer (some ⟨b6,0,none⟩))),(7,.clo 147 [.raw (.pointer (some ⟨b6,0,none⟩))])]) (fun s=> .box b6 152 [.slice (s.1.map eRfc) s.2]:: .tok s.2 s.1.length 34::LF) ?_ ?_
 ·refine pwp_condD (fun h=>?_) (fun h=>?_)
  ·refine wf ?_
   refine j_addS (l:= []) rfl rfl (by(conv=>lhs;whnf);done) (h1:=(by first|infer_instance|fail)) (by simp) fun t' u=>?_
   refine wf ?_
   exact⟨(putR [] ⟨c.file,148,[.pt (eChg c) 0]⟩,t'),by rw[rs1,if_pos h],⟨rfl,rfl,rfl,rfl⟩,.refl _⟩
  ·refine wf ?_
   exact⟨([],.nil),by rw[rs1,if_neg h],⟨rfl,rfl,rfl,rfl⟩,.refl _⟩
 rintro⟨l1,t1⟩ hl1
 dsimp only at hl1 ⊢
 have k1:l1.length≤1:=by rw[hl1];exact r1
 rw[←hl1]at r2 r3
 refine wf ?_
 refine pwp_joinG (σ:=List Rfc × Tag) (fun s=>s.1=rs2 c l1) (fun s=> [(3,.pt (eChg c) 0),(5,.pt (eIdent g) 0),(6,.raw (.pointer (some ⟨b6,0,none⟩))),(7,.clo 147 [.raw (.pointer (some ⟨b6,0,none⟩))])]) (fun s=> .box b6 152 [.slice (s.1.map eRfc) s.2]:: .tok s.2 s.1.length 34::LF) ?_ ?_
 ·refine pwp_condD (fun h=>?_) (fun h=>?_)
  ·refine wf ?_
   refine j_addS rfl rfl (by(conv=>lhs;whnf);done) (h1:=(by first|infer_instance|fail)) (by omega) fun t' u=>?_
   refine wf ?_
   exact⟨(putR l1 ⟨c.parent,150,[]⟩,t'),by rw[rs2,if_pos h],⟨rfl,rfl,rfl,rfl⟩,.refl _⟩
  ·refine wf ?_
   exact⟨(l1,t1),by rw[rs2,if_neg h],⟨rfl,rfl,rfl,rfl⟩,.refl _⟩
 rintro⟨l2,t2⟩ hl2
 dsimp only at hl2 ⊢
 rw[←hl2]at r2 r3
 refine ws ?_
 refine pops_cutE [(49,.raw (.bool (decide (c.kind=5∨c.kind=6)))),(3,.pt (eChg c) 0),(5,.pt (eIdent g) 0),(6,.raw (.pointer (some ⟨b6,0,none⟩))),(7,.clo 147 [.raw (.pointer (some ⟨b6,0,none⟩))])] (.box b6 152 [.slice (l2.map eRfc) t2]:: .tok t2 l2.length 34::LF) ?_ ?_
 ·repeat' (first|(refine pwp_condD (fun h=>?_) (fun h=>?_)<;>refine wf ?_)|(refine pwp_condN (fun h=>?_) (fun h=>?_)<;>refine wf ?_)|(refine pwp_condB (fun h=>?_) (fun h=>?_)<;>refine wf ?_)|(refine pops_if (fun h=>?_) (fun h=>?_)<;>(have h2:=h;(try simp only[decide_eq_true_eq,decide_eq_false_iff_not,Bool.not_eq_true',Bool.not_eq_false']at h2);refine wf ?_)))
  all_goals (refine⟨⟨holdsB (by rfl) ?_,rfl,rfl,rfl,rfl⟩,.refl _⟩;first|(simp_all;done)|grind)
 refine pwp_joinG (σ:=List Rfc × Tag) (fun s=>s.1=rs3 g c l2) (fun s=> [(3,.pt (eChg c) 0),(5,.pt (eIdent g) 0),(6,.raw (.pointer (some ⟨b6,0,none⟩))),(7,.clo 147 [.raw (.pointer (some ⟨b6,0,none⟩))])]) (fun s=> .box b6 152 [.slice (s.1.map eRfc) s.2]:: .tok s.2 s.1.length 34::LF) ?_ ?_
 ·refine pwp_condD (fun h=>?_) (fun h=>?_)
  ·refine wf ?_
   refine pwp_loopS (σ:=Nat × List Rfc × Tag) (fun k=>k.1≤2∧k.2.1=([c.after,c.before].take k.1).foldl (fun l x=>putR l (end1R g c x)) l2) (fun k=>2 - k.1) (fun k=> [(3,.pt (eChg c) 0),(5,.pt (eIdent g) 0),(6,.raw (.pointer (some ⟨b6,0,none⟩))),(7,.clo 147 [.raw (.pointer (some ⟨b6,0,none⟩))]),(54,.slice ([c.after,c.before].map eIdent) .ro),(55,.raw (.int .i64 2)),(56,.raw (.int .i64 k.1))]) (fun k=> .box b6 152 [.slice (k.2.1.map eRfc) k.2.2]:: .tok k.2.2 k.2.1.length 34::LF) (0,l2,t2) ⟨by simp,rfl⟩ ⟨rfl,rfl,rfl,rfl,rfl,rfl,rfl⟩ (.refl _) ?_
   rintro⟨k,m,t3⟩ ⟨hk,hm⟩
   dsimp only at hk hm ⊢
   have hml:m.length≤10:=by
    have:=foldR_len' (end1R g c) ([c.after,c.before].take k) l2
    rw[←hm,List.length_take]at this
    simp only[List.length_cons,List.length_nil]at this
    omega
   refine wf ?_
   refine pwp_condD (fun hc=>?_) (fun hc=>?_)
   ·have hlt:k < [c.after,c.before].length:=by simp only[List.length_cons,List.length_nil];omega
    refine wz fun b9=>?_
    refine pwp_freezeD 9 ?_
    refine wf ?_
    refine j_addS rfl rfl (by(conv=>lhs;whnf);done) (h1:=(by first|infer_instance|fail)) (by omega) fun t' u=>?_
    refine wf ?_
    refine⟨(k+1,putR m (end1R g c [c.after,c.before][k]),t'),⟨by dsimp only;omega,?_⟩,by dsimp only;omega,⟨rfl,rfl,rfl,rfl,rfl,rfl,rfl⟩,.refl _⟩
    dsimp only
    rw[List.take_succ_eq_append_getElem hlt,List.foldl_append,←hm];rfl
   ·rw[List.take_of_length_le (by simp only[List.length_cons,List.length_nil];omega)]at hm
    refine wf ?_
    exact⟨(m,t3),by rw[rs3,if_pos h];exact hm,⟨rfl,rfl,rfl,rfl⟩,.refl _⟩
  ·refine wf ?_
   exact⟨(l2,t2),by rw[rs3,if_neg h],⟨rfl,rfl,rfl,rfl⟩,.refl _⟩
 rintro⟨l3,t3⟩ hl3
 dsimp only at hl3 ⊢
 rw[←hl3]at r3
 refine wf ?_
 refine s_alloc fun b10=>?_
 refine wo ?_
 refine pops_nil ?_
 refine pwp_freezeD 10 ?_
 refine wf ?_
 refine pwp_loopS (σ:=Nat × List Rfc × Tag) (fun k=>k.1≤c.over.length∧k.2.1=rs4 g c l3 (c.over.take k.1)) (fun k=>c.over.length - k.1) (fun k=> [(5,.pt (eIdent g) 0),(6,.raw (.pointer (some ⟨b6,0,none⟩))),(7,.clo 147 [.raw (.pointer (some ⟨b6,0,none⟩))]),(10,.pt [.raw (.int .i64 (ovK c.kind))] 0),(69,.slice (c.over.map eIdent) .ro),(70,.raw (.int .i64 c.over.length)),(71,.raw (.int .i64 k.1))]) (fun k=> .box b6 152 [.slice (k.2.1.map eRfc) k.2.2]:: .tok k.2.2 k.2.1.length 34::LF) (0,l3,t3) ⟨by simp,rfl⟩ ⟨rfl,rfl,rfl,rfl,rfl,rfl,rfl⟩ (.refl _) ?_
 rintro⟨k,m,t4⟩ ⟨hk,hm⟩
 dsimp only at hk hm ⊢
 have hml:m.length≤1000:=by
  have:=foldR_len' (over1R g c) (c.over.take k) l3
  rw[List.length_take]at this
  have e:m.length=((c.over.take k).foldl (fun l x=>putR l (over1R g c x)) l3).length:=by rw[hm];rfl
  omega
 refine wf ?_
 refine pwp_condD (fun hc=>?_) (fun hc=>?_)
 ·have hlt:k < c.over.length:=by omega
  refine wz fun b12=>?_
  refine pwp_freezeD 12 ?_
  refine wf ?_
  refine j_addS rfl rfl (by(conv=>lhs;whnf);done) (h1:=(by first|infer_instance|fail)) (by omega) fun t' u=>?_
  refine wf ?_
  refine⟨(k+1,putR m (over1R g c c.over[k]),t'),⟨by dsimp only;omega,?_⟩,by dsimp only;omega,⟨rfl,rfl,rfl,rfl,rfl,rfl,rfl⟩,.refl _⟩
  dsimp only
  rw[List.take_succ_eq_append_getElem hlt,rs4,List.foldl_append,hm];rfl
 ·rw[List.take_of_length_le (by omega)]at hm
  refine wf ?_
  refine end1 (.ros ?_)
  rw[hm,refsS,hg,←hl1,←hl2,←hl3]⟩
end Go.Proofs
namespace Go.Proofs
open Go Go.Q
attribute [local irreducible] pwp pops PCalls OpN
instance trw_Atm:TRw Tryz.prog 167 157 172 296:=⟨by
 have h2:(Tryz.prog.info? 157).map (fun i=>(i.size,i.bytes,i.zero.isSome,(i.zero.getD undef).cells.size))=some (172,296,true,172):=by kernel_rfl
 obtain⟨i,hi,e⟩:=Option.map_eq_some_iff.1 h2
 simp only[Prod.mk.injEq]at e
 obtain⟨e1,e2,e3,e4⟩:=e
 obtain⟨z,hz⟩:=Option.isSome_iff_exists.1 e3
 rw[hz]at e4
 exact⟨i,z,by kernel_rfl,hi,e1,e2,hz,e4,by decide,by decide⟩⟩
def bxA (b:Nat) (v:Value) (R LF:List Res):List Res:= .box b 167 [.raw v]::(R++LF)
set_option maxHeartbeats 2000000 in
theorem examineB_fn (p:Pat) (hs:rGreat p=false):PCalls Tryz.prog 131 [.agg (ePat p)] [] (fun r L'=> ∃ x y,r= .tuple [x,y,.raw (.int .i64 (rEx p).2.2)]∧(((rEx p).2.2≠0∧L'= [])∨((rEx p).2.2=0∧ ∃ v,x= .raw v∧RowB 157 172 v ((rEx p).1.map eAtm) L'∧(rEx p).1.length≤100000))):=by
 obtain⟨hg1,hg2,hg3,hg4,hg5⟩:=great_facts hs
 refine pcalls_bd Tryz.func131 rfl Tryz.ntmps131 (rs:= [.tmp 2,.tmp 3,.tmp 4]) rfl rfl fun hb LF=>?_
 have zr:ZeroE Tryz.prog 167 [.raw (.slice none 0 0)]:=zero1 (v:= .slice none 0 0) (by kernel_rfl) rfl fun _=> .raw _
 refine wf ?_
 refine pwp_condN (fun h1=>?_) (fun h1=>?_)
 ·refine wf ?_
  have e:rCheckP p=([],rHead p):=by rw[checkP_head,if_pos h1]
  have e2:rEx p=([],[],rHead p):=by rw[rEx,e,if_pos h1]
  rw[e2]
  exact⟨trivial,_,[],.cons (.tmp 2) (.cons (.tmp 3) (.cons (.tmp 4) .nil)),.refl _,_,_,rfl,.inl ⟨h1,rfl⟩⟩
 have hH:=rCheckP_ok h1
 refine wf ?_
 refine s_alloc (hZ:=zr) fun b6=>?_
 refine wf ?_
 refine pwp_loopS (σ:=Nat × Value × List Res × List Atm) (fun k=>k.1≤p.changes.length∧RowB 157 172 k.2.1 (k.2.2.2.map eAtm) k.2.2.1∧k.2.2.2.length≤k.1*4001∧idsOk k.2.2.2∧(∀ c∈p.changes.take k.1,1≤c.kind∧c.kind≤7)∧rCheckP p=rChanges (p.changes.drop k.1) k.2.2.2) (fun k=>p.changes.length - k.1) (fun k=> [(1,.pt (ePat p) 0),(6,.raw (.pointer (some ⟨b6,0,none⟩))),(20,.slice (p.changes.map eChg) .ro),(21,.raw (.int .i64 p.changes.length)),(22,.raw (.int .i64 k.1))]) (fun k=>bxA b6 k.2.1 k.2.2.1 LF) (0,.slice none 0 0,[],[]) ⟨by simp,.nil none (by simp),by simp,fun i h=>absurd h (by simp),by simp,hH⟩ ⟨rfl,rfl,rfl,rfl,rfl⟩ (.refl _) ?_
 rintro⟨k,v,R,own⟩ ⟨hk,hrow,hlen,hid,hkd,he⟩
 dsimp only at hk hrow hlen hid hkd he
 rw[show bxA b6 (k,v,R,own).2.1 (k,v,R,own).2.2.1 LF= .box b6 167 [.raw v]::(R++LF) from rfl]
 refine wf ?_
 refine pwp_condD (fun hc=>?_) (fun hc=>?_)
 ·have hlt:k < p.changes.length:=by omega
  rw[rChanges_step hlt]at he
  refine wz fun b8=>?_
  refine pwp_freezeD 8 ?_
  refine wf ?_
  refine pwp_condN (fun h2=>?_) (fun h2=>?_)
  ·refine wf ?_
   rw[if_pos h2]at he
   have e2:rEx p=([],[],rFields p.changes[k]):=by rw[rEx,he,if_pos h2]
   rw[e2]
   exact⟨trivial,_,[],.cons (.tmp 2) (.cons (.tmp 3) (.cons (.tmp 4) .nil)),.cons _ (List.sublist_append_right R LF),_,_,rfl,.inl ⟨h2,rfl⟩⟩
  rw[if_neg (by simp[h2])]at he
  have hll:p.changes[k].lines.length≤2000:=rFields_lines h2
  have hkk:1≤p.changes[k].kind∧p.changes[k].kind≤7:=rFields_kind h2
  have hmm:=rMade_len p.changes[k] own.length
  have i1:Small (rFields p.changes[k]=0∧own.length≤100000∧idsOk own):=⟨h2,by omega,hid⟩
  have hmx:(own.map eAtm).length≤maxN∧(own.map eAtm).length*172≤maxN:=by
   have:maxN=140737488355328:=rfl
   rw[List.length_map];omega
  refine wf ?_
  refine s_callR (xs:= [.tmp 31,.tmp 32]) R (.box b6 167 [.raw v]::LF) (f:=169) (cs:= []) (le_func _) rfl rfl List.perm_middle.symm _ (hrow.lend [.agg (eChg p.changes[k])] [] hmx (inferInstance:FnC Tryz.prog 169 [.agg (eChg p.changes[k]),.slice (own.map eAtm) .ro] (.raw (.int .i64 (rRefs p.changes[k] own)))).out) fun r L' ⟨e1,e2⟩=>?_
  subst e1
  rw[e2]
  refine wf ?_
  refine wf ?_
  refine pwp_perm List.perm_middle ?_
  refine pwp_condN (fun h3=>?_) (fun h3=>?_)
  ·refine wf ?_
   rw[if_pos h3]at he
   have e2:rEx p=([],[],rRefs p.changes[k] own):=by rw[rEx,he,if_pos h3]
   rw[e2]
   exact⟨trivial,_,[],.cons (.tmp 2) (.cons (.tmp 3) (.cons (.tmp 4) .nil)),.cons _ (List.sublist_append_right R LF),_,_,rfl,.inl ⟨h3,rfl⟩⟩
  rw[if_neg (by simp[h3])]at he
  have hrow':=hrow
  obtain⟨⟨o,cc,ev⟩,_⟩:=hrow.slice
  rw[List.length_map]at ev
  subst ev
  refine wf ?_
  refine s_lenR rfl ?_
  refine wf ?_
  refine pwp_rangeFunc (made_iter p.changes[k] own.length hkk ⟨hll,by omega,by omega⟩) [41] (σ:=Value × List Res × List Atm) (fun pre s=>RowB 157 172 s.1 (s.2.2.map eAtm) s.2.1∧s.2.2=own++pre) (fun _ _=>False) (fun s LF'=>bxA b6 s.1 s.2.1 LF') (.slice o own.length cc,R,own) LF ?_ rfl (fun _=>rfl) (by simp) (fun _ _=>by simp[bxA]) (.refl _) ⟨hrow',by simp⟩ ?_ ?_ (fun _ _ h=>h.elim)
  ·exact .refl _
  ·rintro pre x ⟨v1,R1,own1⟩ LF' hpre ⟨hr1,hI⟩
   dsimp only at hr1 hI
   have hpl:=hpre.length_le
   have hol:own1.length≤90000:=by
    rw[hI,List.length_append]
    rw[List.length_append,List.length_singleton]at hpl
    omega
   rw[show bxA b6 (v1,R1,own1).1 (v1,R1,own1).2.1 LF'= .box b6 167 [.raw v1]::(R1++LF') from rfl]
   refine wz fun b11=>?_
   refine pwp_freezeD 11 ?_
   refine wf ?_
   refine s_appB (f:=eAtm) (m:= [x]) (R:=R1) (LF:= .box b6 167 [.raw v1]::LF') (fun R'=> .box b6 167 [.raw v1]::(R'++LF')) rfl rfl hr1 List.perm_middle.symm (fun R'=>List.perm_middle) (by simp only[List.length_map,List.length_cons,List.length_nil];omega) (by simp only[List.length_map,List.length_cons,List.length_nil];omega) fun v2 R2 hr2=>?_
   have h1c:v2.oneCell'=true:=by
    obtain⟨⟨o2,c2,e2⟩,_⟩:=hr2.slice
    rw[e2];rfl
   refine s_storeV [.raw v2] rfl rfl h1c rfl (by simp) ?_
   refine wf ?_
   exact⟨(v2,R2,own1++ [x]),⟨by dsimp only;rw[List.map_append];exact hr2,by dsimp only;rw[hI,List.append_assoc]⟩,.refl _⟩
  ·rintro⟨v1,R1,own1⟩ ⟨hr1,hI⟩
   dsimp only at hr1 hI
   refine wf ?_
   refine⟨(k+1,v1,R1,own1),⟨by dsimp only;omega,hr1,?_,?_,?_,?_⟩,by dsimp only;omega,⟨rfl,rfl,rfl,rfl,rfl⟩,.refl _⟩
   ·dsimp only
    rw[hI,List.length_append];omega
   ·dsimp only
    rw[hI];exact idsOk_made _ hid
   ·dsimp only
    intro c hcm
    rw[List.take_succ_eq_append_getElem hlt]at hcm
    rcases List.mem_append.1 hcm with h|h
    ·exact hkd c h
    ·rw[List.mem_singleton.1 h];exact hkk
   ·dsimp only
    rw[hI];exact he
 have hkk:k=p.changes.length:=by omega
 rw[List.drop_eq_nil_of_le (by omega)]at he
 rw[List.take_of_length_le (by omega)]at hkd
 have he':rCheckP p=(own,0):=he
 have i1:Small (encOkP p):=⟨⟨encOk_of hs,rDeps_nz (rHead_deps h1),hkd⟩⟩
 refine wf ?_
 have h0: ¬(rCheckP p).2≠0:=by rw[he'];simp
 refine pwp_condD (fun h=>?_) (fun h=>?_)
 ·refine wf ?_
  have e2:rEx p=([],[],4):=by rw[rEx,if_neg h0,if_pos h]
  rw[e2]
  exact⟨trivial,_,[],.cons (.tmp 2) (.cons (.tmp 3) (.cons (.tmp 4) .nil)),.cons _ (List.sublist_append_right R LF),_,_,rfl,.inl ⟨by decide,rfl⟩⟩
 ·refine wf ?_
  have e2:rEx p=(own,rEnc p,0):=by rw[rEx,if_neg h0,if_neg h,he']
  rw[e2]
  exact⟨trivial,_,R,.cons (.tmp 2) (.cons (.tmp 3) (.cons (.tmp 4) .nil)),.cons _ (.refl _),_,_,rfl,.inr ⟨rfl,_,rfl,hrow,by dsimp only;omega⟩⟩
end Go.Proofs
