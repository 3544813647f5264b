/- Contracts of the program: the atoms that a change makes, one by one. -/
import Derived.Test.YtaibdmankdppkaaGreatDoorUak
import Derived.Test.YtaibdmankdppkaaGreatDoorProg
import Derived.Shelf.LaysM
import Derived.Shelf.Strconv.Itoa3
import Derived.Shelf.SlSortCmp.NoneTotal
import Derived.Shelf.SlGeneric
import Derived.Ground.SlsfProg
import Derived.Test.YtaibdmankdppkaaGreatDoorUai
import Derived.Test.YtaibdmankdppkaaGreatDoorUaf
import Derived.Test.YtaibdmankdppkaaGreatDoorUaj
import Derived.Test.YtaibdmankdppkaaGreatDoorUae
set_option linter.unusedSimpArgs false
set_option linter.unusedVariables false
set_option maxHeartbeats 8000000
namespace Go.Proofs
open Go Go.Q
attribute [local irreducible] Eb AV BG Fu NK
instance vQ (first n:Int) [hs:Aw (0≤first∧first≤1000000000∧0≤n∧n≤100000)]:C6 Tryz.prog 150 [.raw (.int .i64 n),.pt [.raw (.int .i64 first)] 0] (.agg (eIdent ⟨Dig.zero,first+n⟩)):=⟨by
 obtain⟨h1,h2,h3,h4⟩:=hs.out
 refine Av Tryz.func150 Tryz.ntmps150 rfl (rs:= [.cell 3 65]) rfl rfl fun hb LF=>?_
 refine Y2 fun b=>?_
 exact Fp rfl (.refl _)⟩
theorem J9 {c:Chg} {first:Int} {x:Atm} (e:Dw c first= [x]):([]++ [x]) <+:Dw c first:=by rw[e];exact⟨[],rfl⟩
theorem QO {k n:Nat} (h:k≤n):List.range k <+:List.range n:=by
 have:=List.take_prefix k (List.range n)
 rwa [List.take_range,DD h]at this
theorem Ao {a b:Res} {L LF:List Res}:(a::b::(L++LF)).Perm (L++(a::b::LF)):=((BU (l₁:=L)).trans (.cons a BU)).symm
def r6 (c:Chg) (first:Int):List PV:= [.pt [.raw (.int .i64 first)] 0,.pt (eChg c) 0]
def xo (a:Atm):List PV:= [.agg (eAtm a)]
theorem Ri (c:Chg) (first:Int) (hk:1≤c.kind∧c.kind≤7) (hl:c.lines.length≤2000∧0≤first∧first≤1000000000):eb Tryz.prog 149 (r6 c first) xo (Dw c first):=by
 intro l J Jx hY L hJ
 obtain⟨hl,hf0,hf1⟩:=hl
 have hz:Aw (0≤first∧first≤1000000000∧(0:Int)≤0∧(0:Int)≤100000):=⟨by omega⟩
 refine C7 Tryz.func149 rfl Tryz.ntmps149 (rs:= []) rfl rfl fun hb LF=>?_
 refine wn ?_
 refine A7 (fun h1=>?_) (fun h1=>?_)
 ·have e:Dw c first= [{ Atm.zero with id:=⟨Dig.zero,first+0⟩,kind:=1,file:=⟨Dig.zero,first+0⟩,type:=c.type }]:=by rw[Dw,if_pos h1,PE]
  refine Bb 8 ?_ ?_
  ·decide+kernel
  refine wf ?_
  refine JM L LF rfl rfl rfl (.refl _) _ (hY [] _ L (J9 e) hJ) fun b L' hR=>?_
  refine wf ?_
  refine⟨trivial,[],L',.nil,.refl _,?_⟩
  rcases hR with ⟨_,h⟩|⟨_,h⟩
  ·exact .inl (by rw[e];exact h)
  ·exact .inr ⟨_,h⟩
 refine wn ?_
 refine A7 (fun h2=>?_) (fun h2=>?_)
 ·have e:Dw c first= [{ Atm.zero with id:=⟨Dig.zero,first+0⟩,kind:=2,file:=c.file,parent:=c.parent,name:=c.name,over:=c.over }]:=by rw[Dw,if_neg h1,if_pos h2,PE]
  refine Bb 12 ?_ ?_
  ·decide+kernel
  refine wf ?_
  refine JM L LF rfl rfl rfl (.refl _) _ (hY [] _ L (J9 e) hJ) fun b L' hR=>?_
  refine wf ?_
  refine⟨trivial,[],L',.nil,.refl _,?_⟩
  rcases hR with ⟨_,h⟩|⟨_,h⟩
  ·exact .inl (by rw[e];exact h)
  ·exact .inr ⟨_,h⟩
 refine wn ?_
 refine A7 (fun h3=>?_) (fun h3=>?_)
 ·have e:Dw c first= [{ Atm.zero with id:=⟨Dig.zero,first+0⟩,kind:=3,file:=c.file,mode:=c.mode,over:=c.over }]:=by rw[Dw,if_neg h1,if_neg h2,if_pos h3,PE]
  refine Bb 10 ?_ ?_
  ·decide+kernel
  refine wf ?_
  refine JM L LF rfl rfl rfl (.refl _) _ (hY [] _ L (J9 e) hJ) fun b L' hR=>?_
  refine wf ?_
  refine⟨trivial,[],L',.nil,.refl _,?_⟩
  rcases hR with ⟨_,h⟩|⟨_,h⟩
  ·exact .inl (by rw[e];exact h)
  ·exact .inr ⟨_,h⟩
 refine wn ?_
 refine A7 (fun h4=>?_) (fun h4=>?_)
 ·have e:Dw c first= [{ Atm.zero with id:=⟨Dig.zero,first+0⟩,kind:=4,file:=c.file,data:=c.data,over:=c.over }]:=by rw[Dw,if_neg h1,if_neg h2,if_neg h3,if_pos h4,PE]
  refine Bb 10 ?_ ?_
  ·decide+kernel
  refine wf ?_
  refine JM L LF rfl rfl rfl (.refl _) _ (hY [] _ L (J9 e) hJ) fun b L' hR=>?_
  refine wf ?_
  refine⟨trivial,[],L',.nil,.refl _,?_⟩
  rcases hR with ⟨_,h⟩|⟨_,h⟩
  ·exact .inl (by rw[e];exact h)
  ·exact .inr ⟨_,h⟩
 refine wn ?_
 refine A7 (fun h6=>?_) (fun h6=>?_)
 ·have e:Dw c first= [{ Atm.zero with id:=⟨Dig.zero,first+0⟩,kind:=6,file:=c.file,src:=c.after,dst:=c.before,over:=c.over }]:=by rw[Dw,if_neg h1,if_neg h2,if_neg h3,if_neg h4,if_pos h6,PE]
  refine Bb 12 ?_ ?_
  ·decide+kernel
  refine wf ?_
  refine JM L LF rfl rfl rfl (.refl _) _ (hY [] _ L (J9 e) hJ) fun b L' hR=>?_
  refine wf ?_
  refine⟨trivial,[],L',.nil,.refl _,?_⟩
  rcases hR with ⟨_,h⟩|⟨_,h⟩
  ·exact .inl (by rw[e];exact h)
  ·exact .inr ⟨_,h⟩
 refine wn ?_
 refine A7 (fun h7=>?_) (fun h7=>?_)
 ·have e:Dw c first= [{ Atm.zero with id:=⟨Dig.zero,first+0⟩,kind:=7,over:=c.over }]:=by rw[Dw,if_neg h1,if_neg h2,if_neg h3,if_neg h4,if_neg h6,if_pos h7,PE]
  refine Bb 6 ?_ ?_
  ·decide+kernel
  refine wf ?_
  refine JM L LF rfl rfl rfl (.refl _) _ (hY [] _ L (J9 e) hJ) fun b L' hR=>?_
  refine wf ?_
  refine⟨trivial,[],L',.nil,.refl _,?_⟩
  rcases hR with ⟨_,h⟩|⟨_,h⟩
  ·exact .inl (by rw[e];exact h)
  ·exact .inr ⟨_,h⟩
 refine wn ?_
 refine A7 (fun h5=>?_) (fun h5=>?_)
 ·have e:Dw c first=(List.range c.lines.length).map (Fj c first)++(List.range (c.lines.length+1)).map (Ez c first):=by rw[Dw,if_neg h1,if_neg h2,if_neg h3,if_neg h4,if_neg h6,if_neg h7]
  have hc209: ∀ n:Nat,n≤4001→Aw (0≤first∧first≤1000000000∧(0:Int)≤n∧(n:Int)≤100000):=fun n hn=>⟨by omega⟩
  refine wf ?_
  refine AZ (σ:=Nat × List Res) (fun k=>k.1≤c.lines.length∧J ((List.range k.1).map (Fj c first)) k.2) (fun k=>c.lines.length - k.1) (fun k=> [(0,.raw (.func (.yield l) #[] #[])),(1,.pt [.raw (.int .i64 first)] 0),(2,.pt (eChg c) 0),(4,.clo 150 [.pt [.raw (.int .i64 first)] 0]),(93,.slice (c.lines.map eS) .ro),(94,.raw (.int .i64 c.lines.length)),(95,.raw (.int .i64 k.1))]) (fun k=>k.2++LF) (0,L) ⟨by simp,hJ⟩ ⟨rfl,rfl,rfl,rfl,rfl,rfl,rfl⟩ (.refl _) ?_
  rintro⟨k,L1⟩ ⟨hk,hJ1⟩
  dsimp only at hk hJ1 ⊢
  refine wn ?_
  refine A7 (fun hc=>?_) (fun hc=>?_)
  ·have hlt:k < c.lines.length:=by omega
   have hsk:=hc209 k (by omega)
   refine wn ?_
   refine Bb 8 ?_ ?_
   ·decide+kernel
   refine wf ?_
   have hx:Fj c first k= { Atm.zero with id:=⟨Dig.zero,first+k⟩,kind:=5,file:=c.file,text:=c.lines[k] }:=by simp[Fj,List.getD,hlt]
   have hr:(List.range (k+1)).map (Fj c first)=(List.range k).map (Fj c first)++ [Fj c first k]:=by rw[ER,Al];rfl
   refine JM L1 LF rfl rfl rfl (.refl _) _ (hY ((List.range k).map (Fj c first)) { Atm.zero with id:=⟨Dig.zero,first+k⟩,kind:=5,file:=c.file,text:=c.lines[k] } L1 ?_ hJ1) fun b L' hR=>?_
   ·rw[←hx,←hr,e]
    exact((QO (by omega)).map _).trans (List.prefix_append _ _)
   rw[←hx,←hr]at hR
   refine wf ?_
   rcases hR with ⟨rfl,h⟩|⟨rfl,h⟩
   ·refine AO (t:=false) (fun h'=>by cases h') (fun _=>?_)
    refine wf ?_
    exact⟨(k+1,L'),⟨by dsimp only;omega,h⟩,by dsimp only;omega,⟨rfl,rfl,rfl,rfl,rfl,rfl,rfl⟩,.refl _⟩
   ·refine AO (t:=true) (fun _=>?_) (fun h'=>by cases h')
    refine wf ?_
    exact⟨trivial,[],L',.nil,.refl _,.inr ⟨_,h⟩⟩
  have hkk:k=c.lines.length:=by omega
  subst hkk
  generalize hA:(List.range c.lines.length).map (Fj c first)=A at e hJ1
  refine Y2 fun b8=>?_
  refine AZ (σ:=Nat × Ident × List Res) (fun k=>k.1≤c.lines.length+1∧(k.1≤c.lines.length→k.2.1=(if 0 < (k.1:Int)then⟨Dig.zero,first+k.1 - 1⟩else c.after))∧J (A++(List.range k.1).map (Ez c first)) k.2.2) (fun k=>c.lines.length+1 - k.1) (fun k=> [(0,.raw (.func (.yield l) #[] #[])),(1,.pt [.raw (.int .i64 first)] 0),(2,.pt (eChg c) 0),(4,.clo 150 [.pt [.raw (.int .i64 first)] 0]),(7,.raw (.int .i64 c.lines.length)),(8,.raw (.pointer (some ⟨b8,0,none⟩))),(117,.raw (.int .i64 (c.lines.length+1))),(118,.raw (.int .i64 k.1))]) (fun k=> .box b8 65 (eIdent k.2.1)::(k.2.2++LF)) (0,c.after,L1) ⟨by simp,fun _=>rfl,by simpa using hJ1⟩ ⟨rfl,rfl,rfl,rfl,rfl,rfl,rfl,rfl⟩ (.refl _) ?_
  rintro⟨k,fr,L1⟩ ⟨hk,hfr,hJ1⟩
  dsimp only at hk hfr hJ1 ⊢
  refine wf ?_
  refine A7 (fun hc=>?_) (fun hc=>?_)
  ·have hfr:=hfr (by omega)
   have hsk:=hc209 k (by omega)
   have hsk2:Aw (0≤first∧first≤1000000000∧(0:Int)≤c.lines.length+k∧(c.lines.length+k:Int)≤100000):=⟨by omega⟩
   refine Y2 fun b10=>?_
   refine Cx (σ:=Ident) (fun s=>s=if(k:Int) < c.lines.length then⟨Dig.zero,first+k⟩else c.before) (fun s=> [(0,.raw (.func (.yield l) #[] #[])),(1,.pt [.raw (.int .i64 first)] 0),(2,.pt (eChg c) 0),(4,.clo 150 [.pt [.raw (.int .i64 first)] 0]),(7,.raw (.int .i64 c.lines.length)),(8,.raw (.pointer (some ⟨b8,0,none⟩))),(9,.raw (.int .i64 k)),(10,.raw (.pointer (some ⟨b10,0,none⟩))),(117,.raw (.int .i64 (c.lines.length+1))),(118,.raw (.int .i64 k))]) (fun s=> .box b10 65 (eIdent s):: .box b8 65 (eIdent fr)::(L1++LF)) ?_ ?_
   ·refine A7 (fun h=>?_) (fun h=>?_)
    ·refine wf ?_
     exact⟨⟨Dig.zero,first+k⟩,by rw[if_pos h],⟨rfl,rfl,rfl,rfl,rfl,rfl,rfl,rfl,rfl,rfl⟩,.refl _⟩
    ·refine wf ?_
     exact⟨c.before,by rw[if_neg h],⟨rfl,rfl,rfl,rfl,rfl,rfl,rfl,rfl,rfl,rfl⟩,.refl _⟩
   rintro to hto
   refine wn ?_
   refine Bb 11 ?_ ?_
   ·decide+kernel
   refine wf ?_
   have hx:Ez c first k= { Atm.zero with id:=⟨Dig.zero,first+(c.lines.length+k)⟩,kind:=6,file:=c.file,src:=fr,dst:=to }:=by rw[Ez,hfr,hto,Int.add_assoc]
   have hr:A++(List.range (k+1)).map (Ez c first)=(A++(List.range k).map (Ez c first))++ [Ez c first k]:=by rw[ER,Al,AX];rfl
   refine JM L1 (.box b10 65 (eIdent to):: .box b8 65 (eIdent fr)::LF) rfl rfl rfl Ao _ (hY (A++(List.range k).map (Ez c first)) { Atm.zero with id:=⟨Dig.zero,first+(c.lines.length+k)⟩,kind:=6,file:=c.file,src:=fr,dst:=to } L1 ?_ hJ1) fun b L' hR=>?_
   ·rw[←hx,←hr,e]
    exact(List.prefix_append_right_inj _).2 ((QO (by omega)).map _)
   rw[←hx,←hr]at hR
   refine wf ?_
   rcases hR with ⟨rfl,h⟩|⟨rfl,h⟩
   ·refine AO (t:=false) (fun h'=>by cases h') (fun _=>?_)
    refine EO Ao.symm ?_
    refine wf ?_
    refine⟨(k+1,to,L'),⟨by dsimp only;omega,?_,h⟩,by dsimp only;omega,⟨rfl,rfl,rfl,rfl,rfl,rfl,rfl,rfl⟩,.cons _ (.refl _)⟩
    intro h'
    dsimp only at h' ⊢
    rw[hto,if_pos (by omega),if_pos (by omega)]
    congr 1
    push_cast;omega
   ·refine AO (t:=true) (fun _=>?_) (fun h'=>by cases h')
    refine wf ?_
    exact⟨trivial,[],L',.nil,(Ec _).append (.cons _ (.cons _ (.refl _))),.inr ⟨_,h⟩⟩
  refine wf ?_
  have hkk:k=c.lines.length+1:=by omega
  subst hkk
  exact⟨trivial,[],L1,.nil,.cons _ (.refl _),.inl (by rw[e];exact hJ1)⟩
 ·exact absurd h5 (by omega)
instance yZ (c:Chg) (first:Int):C6 Tryz.prog 84 [.agg (eChg c),.raw (.int .i64 first)] (.clo 149 (r6 c first)):=⟨by
 refine Av Tryz.func84 Tryz.ntmps84 rfl (rs:= [.tmp 4]) rfl rfl fun hb LF=>?_
 refine wf ?_
 refine Ax (.of_eq ?_)
 rfl⟩
end Go.Proofs
namespace Go.Proofs
open Go.Shelf
def Tryz.laysItoa_ren:Go.Shelf.Ren:=⟨fun|171=>287|243=>302|246=>306|283=>308|284=>309|285=>310|286=>311|129=>179|317=>312|318=>313|319=>314|320=>315|337=>316|338=>317|n=>n,fun|3=>3|9=>9|2=>2|4=>4|171=>310|0=>0|53=>214|37=>159|5=>5|173=>312|212=>315|51=>212|20=>20|213=>316|46=>157|232=>30|233=>317|n=>n,fun|17=>1|18=>2|19=>3|n=>n⟩
theorem Tryz.laysItoa:Go.Proofs.LaysM.n171 Tryz.prog Tryz.laysItoa_ren:={
 mixed:=by kernel_rfl
 f129:=Tryz.func179.trans (congrArg some (by kernel_rfl))
 f171:=Tryz.func287.trans (congrArg some (by kernel_rfl))
 f243:=Tryz.func302.trans (congrArg some (by kernel_rfl))
 f246:=Tryz.func306.trans (congrArg some (by kernel_rfl))
 f283:=Tryz.func308.trans (congrArg some (by kernel_rfl))
 f284:=Tryz.func309.trans (congrArg some (by kernel_rfl))
 f285:=Tryz.func310.trans (congrArg some (by kernel_rfl))
 f286:=Tryz.func311.trans (congrArg some (by kernel_rfl))
 f317:=Tryz.func312.trans (congrArg some (by kernel_rfl))
 f318:=Tryz.func313.trans (congrArg some (by kernel_rfl))
 f319:=Tryz.func314.trans (congrArg some (by kernel_rfl))
 f320:=Tryz.func315.trans (congrArg some (by kernel_rfl))
 f337:=Tryz.func316.trans (congrArg some (by kernel_rfl))
 f338:=Tryz.func317.trans (congrArg some (by kernel_rfl))
 t0:=Tryz.underlying0
 a0:=Tryz.isAgg0
 z0:=Tryz.sizeOf0
 v0:=Tryz.zeroValue0
 t2:=Tryz.underlying2
 a2:=Tryz.isAgg2
 z2:=Tryz.sizeOf2
 v2:=Tryz.zeroValue2
 t3:=Tryz.underlying3
 a3:=Tryz.isAgg3
 z3:=Tryz.sizeOf3
 v3:=Tryz.zeroValue3
 t4:=Tryz.underlying4
 a4:=Tryz.isAgg4
 z4:=Tryz.sizeOf4
 v4:=Tryz.zeroValue4
 t5:=Tryz.underlying5
 a5:=Tryz.isAgg5
 z5:=Tryz.sizeOf5
 v5:=Tryz.zeroValue5
 t9:=Tryz.underlying9
 a9:=Tryz.isAgg9
 z9:=Tryz.sizeOf9
 v9:=Tryz.zeroValue9
 t20:=Tryz.underlying20
 a20:=Tryz.isAgg20
 z20:=Tryz.sizeOf20
 v20:=Tryz.zeroValue20
 t37:=Tryz.underlying159
 a37:=Tryz.isAgg159
 z37:=Tryz.sizeOf159
 v37:=Tryz.zeroValue159
 t46:=Tryz.underlying157
 a46:=Tryz.isAgg157
 z46:=Tryz.sizeOf157
 v46:=Tryz.zeroValue157
 t51:=Tryz.underlying212
 a51:=Tryz.isAgg212
 z51:=Tryz.sizeOf212
 v51:=Tryz.zeroValue212
 t53:=Tryz.underlying214
 a53:=Tryz.isAgg214
 z53:=Tryz.sizeOf214
 v53:=Tryz.zeroValue214
 t171:=Tryz.underlying310
 a171:=Tryz.isAgg310
 z171:=Tryz.sizeOf310
 v171:=Tryz.zeroValue310
 t173:=Tryz.underlying312
 a173:=Tryz.isAgg312
 z173:=Tryz.sizeOf312
 v173:=Tryz.zeroValue312
 t212:=Tryz.underlying315
 a212:=Tryz.isAgg315
 z212:=Tryz.sizeOf315
 v212:=Tryz.zeroValue315
 t213:=Tryz.underlying316
 a213:=Tryz.isAgg316
 z213:=Tryz.sizeOf316
 t232:=Tryz.underlying30
 a232:=Tryz.isAgg30
 z232:=Tryz.sizeOf30
 v232:=Tryz.zeroValue30
 t233:=Tryz.underlying317
 a233:=Tryz.isAgg317
 z233:=Tryz.sizeOf317
 v233:=Tryz.zeroValue317
 g17:=by kernel_rfl
 g18:=by kernel_rfl
 g19:=by kernel_rfl
 i0:=by kernel_rfl
 i2:=by kernel_rfl
 i3:=by kernel_rfl
 i4:=by kernel_rfl
 i5:=by kernel_rfl
 i9:=by kernel_rfl
 i20:=by kernel_rfl
 i37:=by kernel_rfl
 i46:=by kernel_rfl
 i51:=by kernel_rfl
 i53:=by kernel_rfl
 i171:=by kernel_rfl
 i173:=by kernel_rfl
 i212:=by kernel_rfl
 i232:=by kernel_rfl
 i233:=by kernel_rfl
 m17:=by kernel_rfl
 m18:=by kernel_rfl
 m19:=by kernel_rfl }
def Tryz.sortD_ren:Go.Shelf.Ren:=⟨fun|6=>60|15=>125|14=>124|28=>178|29=>179|20=>170|21=>171|22=>172|23=>173|24=>174|25=>175|26=>176|27=>177|46=>224|47=>225|48=>226|49=>227|50=>228|57=>283|n=>n,fun|22=>24|24=>31|25=>97|3=>3|39=>157|0=>0|53=>212|55=>214|4=>4|46=>206|45=>205|50=>134|5=>5|9=>9|66=>245|70=>249|76=>287|77=>288|n=>n,fun|n=>n⟩
theorem Tryz.sortD:Go.Proofs.SlLaysF0.n6 Tryz.prog Tryz.sortD_ren:={
 mixed:=by kernel_rfl
 f6:=⟨Tryz.f60.name,by decide,Tryz.func60.trans (congrArg some (by kernel_rfl))⟩
 f14:=⟨Tryz.f124.name,by decide,Tryz.func124.trans (congrArg some (by kernel_rfl))⟩
 f15:=Tryz.func125.trans (congrArg some (by kernel_rfl))
 f20:=⟨Tryz.f170.name,by decide,Tryz.func170.trans (congrArg some (by kernel_rfl))⟩
 f21:=⟨Tryz.f171.name,by decide,Tryz.func171.trans (congrArg some (by kernel_rfl))⟩
 f22:=⟨Tryz.f172.name,by decide,Tryz.func172.trans (congrArg some (by kernel_rfl))⟩
 f23:=⟨Tryz.f173.name,by decide,Tryz.func173.trans (congrArg some (by kernel_rfl))⟩
 f24:=⟨Tryz.f174.name,by decide,Tryz.func174.trans (congrArg some (by kernel_rfl))⟩
 f25:=⟨Tryz.f175.name,by decide,Tryz.func175.trans (congrArg some (by kernel_rfl))⟩
 f26:=⟨Tryz.f176.name,by decide,Tryz.func176.trans (congrArg some (by kernel_rfl))⟩
 f27:=⟨Tryz.f177.name,by decide,Tryz.func177.trans (congrArg some (by kernel_rfl))⟩
 f28:=Tryz.func178.trans (congrArg some (by kernel_rfl))
 f29:=Tryz.func179.trans (congrArg some (by kernel_rfl))
 f46:=⟨Tryz.f224.name,by decide,Tryz.func224.trans (congrArg some (by kernel_rfl))⟩
 f47:=Tryz.func225.trans (congrArg some (by kernel_rfl))
 f48:=Tryz.func226.trans (congrArg some (by kernel_rfl))
 f49:=⟨Tryz.f227.name,by decide,Tryz.func227.trans (congrArg some (by kernel_rfl))⟩
 f50:=⟨Tryz.f228.name,by decide,Tryz.func228.trans (congrArg some (by kernel_rfl))⟩
 f57:=⟨Tryz.f283.name,by decide,Tryz.func283.trans (congrArg some (by kernel_rfl))⟩
 t0:=Tryz.underlying0
 a0:=Tryz.isAgg0
 z0:=Tryz.sizeOf0
 v0:=Tryz.zeroValue0
 t3:=Tryz.underlying3
 a3:=Tryz.isAgg3
 z3:=Tryz.sizeOf3
 v3:=Tryz.zeroValue3
 t4:=Tryz.underlying4
 a4:=Tryz.isAgg4
 z4:=Tryz.sizeOf4
 v4:=Tryz.zeroValue4
 t5:=Tryz.underlying5
 a5:=Tryz.isAgg5
 z5:=Tryz.sizeOf5
 v5:=Tryz.zeroValue5
 t9:=Tryz.underlying9
 a9:=Tryz.isAgg9
 z9:=Tryz.sizeOf9
 v9:=Tryz.zeroValue9
 t22:=Tryz.underlying24
 a22:=Tryz.isAgg24
 z22:=Tryz.sizeOf24
 v22:=Tryz.zeroValue24
 t25:=Tryz.underlying97
 a25:=Tryz.isAgg97
 z25:=Tryz.sizeOf97
 v25:=Tryz.zeroValue97
 t39:=Tryz.underlying157
 a39:=Tryz.isAgg157
 z39:=Tryz.sizeOf157
 v39:=Tryz.zeroValue157
 t45:=Tryz.underlying205
 a45:=Tryz.isAgg205
 z45:=Tryz.sizeOf205
 v45:=Tryz.zeroValue205
 t46:=Tryz.underlying206
 a46:=Tryz.isAgg206
 z46:=Tryz.sizeOf206
 v46:=Tryz.zeroValue206
 t50:=Tryz.underlying134
 a50:=Tryz.isAgg134
 z50:=Tryz.sizeOf134
 v50:=Tryz.zeroValue134
 t53:=Tryz.underlying212
 a53:=Tryz.isAgg212
 z53:=Tryz.sizeOf212
 v53:=Tryz.zeroValue212
 t55:=Tryz.underlying214
 a55:=Tryz.isAgg214
 z55:=Tryz.sizeOf214
 v55:=Tryz.zeroValue214
 t66:=Tryz.underlying245
 a66:=Tryz.isAgg245
 z66:=Tryz.sizeOf245
 v66:=Tryz.zeroValue245
 t70:=Tryz.underlying249
 a70:=Tryz.isAgg249
 z70:=Tryz.sizeOf249
 v70:=Tryz.zeroValue249
 t76:=Tryz.underlying287
 a76:=Tryz.isAgg287
 z76:=Tryz.sizeOf287
 v76:=Tryz.zeroValue287
 t77:=Tryz.underlying288
 a77:=Tryz.isAgg288
 z77:=Tryz.sizeOf288
 v77:=Tryz.zeroValue288 }
end Go.Proofs
namespace Go.Proofs
open Go Go.Q Go.Shelf
attribute [local irreducible] Eb AV BG Fu
theorem Qq (n:Nat):Lib.decDigits n=Ho n:=by
 induction n using Nat.strongRecOn with
 |_ n ih=>
  unfold Lib.decDigits
  by_cases h:n < 10
  ·rw[dif_pos h,IG h]
  ·rw[dif_neg h,MA h,ih (n / 10) (by omega)]
theorem oe (n:Int):Lib.itoa n=J2 n:=by
 unfold Lib.itoa J2
 by_cases h:n < 0
 ·rw[if_pos h,if_pos h,Qq,show n.natAbs=(-n).toNat by omega]
 ·rw[if_neg h,if_neg h,Qq]
theorem sL {w:World} {g:Gh} {L:List Res} (hi:Du w g L):Lib.TabIs Tryz.prog w "internal/strconv.uint64pow10" .u64 Lib.pow10Tab:=by
 obtain⟨T,p,h⟩:=hi.satM _ _ hi.glob.tab
 unfold Lib.TabIs World.var?
 rw[show Tryz.prog.globalNamed "internal/strconv.uint64pow10" =some globAt by kernel_rfl]
 simp only[Hf,h]
 rfl
instance z6 (n:Int) [hs:Aw (-140737488355328≤n∧n≤140737488355328)]:C6 Tryz.prog 287 [.raw (.int .i64 n)] (.str (J2 n)):=⟨tw fun vs w g LF hv hi=>by
 obtain⟨h0,h1⟩:=hs.out
 obtain⟨v,rfl⟩: ∃ v,vs= [v]:=by
  have:=hv.len
  match vs,this with
  | [v],_=>exact⟨v,rfl⟩
 rw[hv.uncons.1.raw_inv]
 refine(Any.strconv_Itoa Tryz.laysItoa n (by omega) (by omega) w (sL hi)).mono ?_
 rintro e w' ⟨rfl,k,os,rfl⟩
 refine⟨_,rfl,fun g=>by rw[oe];exact .str (by have:=Oj (n:=n) ⟨h0,h1⟩;show _≤2 ^ 47;omega),rfl,rfl,rfl,mB _ _,?_,fun j hj=>?_⟩
 ·show w.heap.size≤(w.heap++os).size
  simp
 ·show(w.heap++os)[j]? =_
  rw[FL hj]⟩
def OO (b:Nat) (p v:Value):Res:= .box b 263 [.raw p,.raw v]
def IZ (b:Nat):Value:= .pointer (some ⟨b,0,none⟩)
instance :ub Tryz.prog 261 263 2:= .of (by kernel_rfl) (by kernel_rfl)
instance (v:Value):aK Tryz.prog 307 [.raw v] (.raw v):=gX Tryz.func307 (by kernel_rfl) (by kernel_rfl) (by kernel_rfl) (by kernel_rfl) v
theorem Qs (b:Nat) (p v:Value) (hp:p= .pointer none∨p=IZ b):BG Tryz.prog 303 [.raw (IZ b)] [OO b p v] (fun _ L'=>L'= [OO b (IZ b) v]):=by
 refine C7 Tryz.func303 rfl Tryz.ntmps303 (rs:= []) rfl rfl fun hb LF=>?_
 rw[show [OO b p v]++LF= .box b 263 [.raw p,.raw v]::LF from rfl]
 obtain⟨q,rfl,hq⟩: ∃ q,p= .pointer q∧(q=none∨q=some ⟨b,0,none⟩):=by
  rcases hp with rfl|rfl
  ·exact⟨none,rfl,.inl rfl⟩
  ·exact⟨_,rfl,.inr rfl⟩
 refine wf ?_
 refine se rfl rfl ?_
 refine wf ?_
 rcases hq with rfl|rfl
 ·refine AO (t:=true) (fun _=>?_) (fun h=>by cases h)
  refine wf ?_
  refine aq (by kernel_rfl) (by decide) rfl AI (by simp) ?_
  refine qg (xs:= [.tmp 9]) (args:= [.raw (IZ b)]) rfl (fun i h1 h2=>by
   match i,h1,h2 with
   |0,_,_=>exact .refl _
   |m+1,h1,_=>exact absurd h1 (by simp)) rfl ?_
  refine Wt (by kernel_rfl) rfl AI (by kernel_rfl) ?_
  refine wf ?_
  refine Hh [.raw (IZ b),.raw v] rfl rfl rfl rfl (by simp) ?_
  refine wf ?_
  exact⟨trivial,[],[OO b (IZ b) v],.nil,.refl _,rfl⟩
 ·refine AO (t:=false) (fun h=>by cases h) (fun _=>?_)
  refine wf ?_
  refine sa rfl rfl ?_
  refine wf ?_
  exact⟨trivial,[],[OO b (IZ b) v],.nil,.refl _,rfl⟩
instance :gm Tryz.prog 159 5:= .of (by kernel_rfl) (by kernel_rfl) (by kernel_rfl)
def sA (b:Nat) (l:List UInt8) (L:List Res):Prop:= ∃ p v R,(p= .pointer none∨p=IZ b)∧LP 5 v l R∧L=OO b p v::R
theorem Nl (b:Nat) (l s:List UInt8) (L:List Res) (hL:sA b l L) (hl:l.length+s.length≤140737488355328):BG Tryz.prog 290 [.raw (IZ b),.str s] L (fun _ L'=>sA b (l++s) L'):=by
 obtain⟨p,v,R,hp,hv,rfl⟩:=hL
 refine C7 Tryz.func290 rfl Tryz.ntmps290 (rs:= [.tmp 4,.tmp 5]) rfl rfl fun hb LF=>?_
 rw[show(OO b p v::R)++LF= [OO b p v]++(R++LF) from rfl]
 refine ws ?_
 refine CK (xs:= [.tmp 6]) [OO b p v] (R++LF) (f:=303) (cs:= []) (Bx _) rfl rfl (.refl _) _ (Qs b p v hp) fun r L' e=>?_
 subst e
 refine wf ?_
 refine jY (R:=R) (LF:= .box b 263 [.raw (IZ b),.raw v]::LF) (fun R'=> .box b 263 [.raw (IZ b),.raw v]::(R'++LF)) (ay:= .str s) rfl rfl hv (BU (l₁:=R)).symm (fun R'=>BU) hl fun v' R' hv'=>?_
 refine wf ?_
 refine Hh [.raw (IZ b),.raw v'] rfl rfl hv'.one rfl (by simp) ?_
 refine wf ?_
 refine wf ?_
 exact⟨trivial,_,OO b (IZ b) v'::R',.cons (.tmp 4) (.cons (.tmp 5) .nil),.refl _,_,v',R',.inr rfl,hv',rfl⟩
theorem Mb (b:Nat) (l:List UInt8) (c:UInt8) (L:List Res) (hL:sA b l L) (hl:l.length+1≤140737488355328):BG Tryz.prog 291 [.raw (IZ b),.raw (.int .u8 c.toNat)] L (fun _ L'=>sA b (l++ [c]) L'):=by
 obtain⟨p,v,R,hp,hv,rfl⟩:=hL
 refine C7 Tryz.func291 rfl Tryz.ntmps291 (rs:= [.tmp 4]) rfl rfl fun hb LF=>?_
 rw[show(OO b p v::R)++LF= [OO b p v]++(R++LF) from rfl]
 refine ws ?_
 refine CK (xs:= [.tmp 5]) [OO b p v] (R++LF) (f:=303) (cs:= []) (Bx _) rfl rfl (.refl _) _ (Qs b p v hp) fun r L' e=>?_
 subst e
 refine wf ?_
 refine fI (R:=R) (LF:= .box b 263 [.raw (IZ b),.raw v]::LF) (fun R'=> .box b 263 [.raw (IZ b),.raw v]::(R'++LF)) (t:= .ro) rfl rfl hv (BU (l₁:=R)).symm (fun R'=>BU) hl fun v' R' hv'=>?_
 refine wf ?_
 refine Hh [.raw (IZ b),.raw v'] rfl rfl hv'.one rfl (by simp) ?_
 refine wf ?_
 refine wf ?_
 exact⟨trivial,_,OO b (IZ b) v'::R',.cons (.tmp 4) .nil,.refl _,_,v',R',.inr rfl,hv',rfl⟩
theorem eu (b:Nat) (l:List UInt8) (L:List Res) (hL:sA b l L) (h0:l≠ []) (hl:l.length≤140737488355328):BG Tryz.prog 251 [.raw (IZ b)] L (fun r L'=>r= .str l∧L'= []):=by
 obtain⟨p,v,R,hp,hv,rfl⟩:=hL
 cases hv with
 |nil=>exact absurd rfl h0
 |row h1 h2 h3=>
  rename_i r cap cur
  refine C7 Tryz.func251 rfl Tryz.ntmps251 (rs:= [.tmp 2]) rfl rfl fun hb LF=>?_
  have hcap:cap≠0:=by have:=Jz.2 h0;omega
  rw[show(OO b p (.slice (some ⟨r,0,none⟩) l.length cap):: [.raw r (.cells cur 5 (0,0))])++LF= .box b 263 [.raw p,.raw (.slice (some ⟨r,0,none⟩) l.length cap)]:: .raw r (.cells cur 5 (0,0))::LF from rfl]
  refine wn ?_
  refine Bb 10 ?_ ?_
  ·decide+kernel
  refine wf ?_
  refine YN rfl hcap ?_
  refine wf ?_
  refine Ia rfl ?_
  refine wf ?_
  refine Su (E:=5) (by kernel_rfl) (by kernel_rfl) rfl rfl (.swap _ _ _) h0 (by omega) h3 hl ?_
  refine wf ?_
  exact⟨trivial,_,[],.cons (.tmp 2) .nil,.cons _ (.refl _),rfl,rfl⟩
end Go.Proofs
namespace Go.Proofs
open Go Go.Q
attribute [local irreducible] Eb AV BG Fu
theorem eG: ∀ (d:Nat) (x:Sx),P4 d x→ ∀ (b:Nat) (l:List UInt8) (L:List Res),sA b l L→l.length+(Dr d x).length≤1000000000→BG Tryz.prog 250 [.raw (IZ b),.agg (eSx x)] L (fun _ L'=>sA b (l++Dr d x) L')
 |0,x,hw,_,_,_,_,_=>hw.elim
 |d+1,x,hw,b,l,L,hL,hl=>by
  have ih:=eG d
  refine C7 Tryz.func250 rfl Tryz.ntmps250 (rs:= []) rfl rfl fun hb LF=>?_
  have hlen:x.list.length≤140737488355328:=by
   have:=(hb (.agg (eSx x)) (by simp)).agg_at (c:= .slice (x.list.map eSx) .ro) (by rw[Fq];simp)
   exact this.slice_map
  refine wf ?_
  refine AO (fun h2=>?_) (fun h2=>?_)
  ·have hB:x.isList=false:=by simpa using h2
   rcases hw with ⟨_,h3,h4⟩|⟨h3,_⟩
   ·have:Aw (-140737488355328≤(x.atom.length:Int)∧(x.atom.length:Int)≤140737488355328):=⟨by omega,by omega⟩
    have e:J2 (x.atom.length:Int)=Ho x.atom.length:=by
     rw[J2,if_neg (by omega)];rfl
    have he:Dr (d+1) x=Ho x.atom.length++58::x.atom:=by simp[Dr,hB]
    rw[he]at hl ⊢
    simp only[AD,AN]at hl
    refine wf ?_
    refine CK (xs:= [.tmp 9,.tmp 13]) L LF (f:=290) (cs:= []) (Bx _) rfl rfl (.refl _) _ (Nl b l (J2 (x.atom.length:Int)) L hL (by rw[e];omega)) fun r L1 hL1=>?_
    rw[e]at hL1
    refine wf ?_
    refine wf ?_
    refine CK (xs:= [.tmp 15,.const (.int .u8 58)]) L1 LF (f:=291) (cs:= []) (Bx _) rfl rfl (.refl _) _ (Mb b (l++Ho x.atom.length) 58 L1 hL1 (by simp only[AD];omega)) fun r L2 hL2=>?_
    refine wf ?_
    refine wf ?_
    refine CK (xs:= [.tmp 17,.tmp 19]) L2 LF (f:=290) (cs:= []) (Bx _) rfl rfl (.refl _) _ (Nl b (l++Ho x.atom.length++ [58]) x.atom L2 hL2 (by simp only[AD,AN,Af];omega)) fun r L3 hL3=>?_
    refine wf ?_
    refine wf ?_
    exact⟨trivial,_,L3,.nil,.refl _,by simpa using hL3⟩
   ·rw[hB]at h3;cases h3
  have hB:x.isList=true:=by simpa using h2
  rcases hw with ⟨h3,_⟩|⟨_,ha,hw⟩
  ·rw[hB]at h3;cases h3
  have he:Dr (d+1) x=40::(x.list.flatMap (Dr d)++ [41]):=by simp[Dr,hB]
  rw[he]at hl ⊢
  simp only[AN,AD,Af]at hl
  refine wf ?_
  refine CK (xs:= [.tmp 21,.const (.int .u8 40)]) L LF (f:=291) (cs:= []) (Bx _) rfl rfl (.refl _) _ (Mb b l 40 L hL (by omega)) fun r L1 hL1=>?_
  refine wf ?_
  refine wf ?_
  refine AZ (σ:=Nat × List Res) (fun k=>k.1≤x.list.length∧sA b (l++40::(x.list.take k.1).flatMap (Dr d)) k.2) (fun k=>x.list.length - k.1) (fun k=> [(0,.raw (IZ b)),(24,.slice (x.list.map eSx) .ro),(25,.raw (.int .i64 x.list.length)),(26,.raw (.int .i64 k.1))]) (fun k=>k.2++LF) (0,L1) ⟨by simp,by simpa using hL1⟩ ⟨rfl,rfl,rfl,rfl⟩ (.refl _) ?_
  rintro⟨k,L2⟩ ⟨hk,hL2⟩
  dsimp only at hk hL2 ⊢
  have hsl:=JG (l:=x.list) (f:=Dr d) (k:=k)
  refine wf ?_
  refine A7 (fun hc=>?_) (fun hc=>?_)
  ·have hlt:k < x.list.length:=by omega
   have hel:=JG (l:=x.list) (f:=Dr d) (k:=k+1)
   rw[Il hlt,AD]at hel
   refine wz fun b5=>?_
   refine Au 5 ?_
   refine wf ?_
   refine CK (xs:= [.tmp 30,.tmp 31]) L2 LF (f:=250) (cs:= []) (Bx _) rfl rfl (.refl _) _ (ih x.list[k] (hw _ (AG hlt)) b _ L2 hL2 (by simp only[AD,AN];omega)) fun r L3 hL3=>?_
   refine wf ?_
   refine wf ?_
   refine⟨(k+1,L3),⟨by dsimp only;omega,?_⟩,by dsimp only;omega,⟨rfl,rfl,rfl,rfl⟩,.refl _⟩
   dsimp only
   rw[Il hlt]
   simpa using hL3
  ·rw[AA (by omega)]at hL2
   refine wf ?_
   refine CK (xs:= [.tmp 34,.const (.int .u8 41)]) L2 LF (f:=291) (cs:= []) (Bx _) rfl rfl (.refl _) _ (Mb b _ 41 L2 hL2 (by simp only[AD,AN];omega)) fun r L3 hL3=>?_
   refine wf ?_
   refine wf ?_
   exact⟨trivial,_,L3,.nil,.refl _,by simpa using hL3⟩
def Tq (b:Nat) (n:Int):Res:= .box b 293 [.raw (.int .i64 n),.raw (.bool false)]
theorem eZ: ∀ (d:Nat) (x:Sx),P4 d x→ ∀ (b:Nat) (n lv:Int),0≤n→n+IU d x≤20000→1≤lv→lv+d≤13→BG Tryz.prog 288 [.raw (IZ b),.agg (eSx x),.raw (.int .i64 lv)] [Tq b n] (fun _ L'=>L'= [Tq b (n+IU d x)])
 |0,x,hw,_,_,_,_,_,_,_=>hw.elim
 |d+1,x,hw,b,n,lv,hn0,hn,hl0,hl=>by
  have ih:=eZ d
  have hpos:1≤IU (d+1) x:=by unfold IU;split<;>omega
  refine C7 Tryz.func288 rfl Tryz.ntmps288 (rs:= []) rfl rfl fun hb LF=>?_
  have hlen:x.list.length≤140737488355328:=by
   have:=(hb (.agg (eSx x)) (by simp)).agg_at (c:= .slice (x.list.map eSx) .ro) (by rw[Fq];simp)
   exact this.slice_map
  rw[show [Tq b n]++LF= .box b 293 [.raw (.int .i64 n),.raw (.bool false)]::LF from rfl]
  refine wf ?_
  refine Hh [.raw (.int .i64 (n+1)),.raw (.bool false)] rfl rfl rfl rfl (by simp) ?_
  refine wf ?_
  refine wf ?_
  refine Aq (fun hp=>?_) (fun hp=>?_)
  ·have:=Az hp;omega
  refine wf ?_
  refine A7 (fun h1=>?_) (fun h1=>?_)
  ·omega
  refine wf ?_
  refine AO (fun h2=>?_) (fun h2=>?_)
  ·refine wf ?_
   have:x.isList=false:=by simpa using h2
   exact⟨trivial,_,[Tq b (n+1)],.nil,.refl _,by simp[IU,this]⟩
  have hB:x.isList=true:=by simpa using h2
  rcases hw with ⟨h3,_⟩|⟨_,_,hw⟩
  ·rw[hB]at h3;cases h3
  have hnd:IU (d+1) x=1+(x.list.map (IU d)).sum:=by simp[IU,hB]
  rw[hnd]at hn ⊢
  refine wf ?_
  refine AZ (σ:=Nat) (fun k=>k≤x.list.length) (fun k=>x.list.length - k) (fun k=> [(0,.raw (IZ b)),(2,.raw (.int .i64 lv)),(31,.slice (x.list.map eSx) .ro),(32,.raw (.int .i64 x.list.length)),(33,.raw (.int .i64 k))]) (fun k=>Tq b (n+(1+((x.list.map (IU d)).take k).sum:Nat))::LF) 0 (by simp) ⟨rfl,rfl,rfl,rfl,rfl⟩ (by simp;exact .refl _) ?_
  intro k hk
  have hsk:=L5 (l:=x.list.map (IU d)) (k:=k)
  have hsk1:=L5 (l:=x.list.map (IU d)) (k:=k+1)
  refine wf ?_
  refine A7 (fun hc=>?_) (fun hc=>?_)
  ·have hlt:k < x.list.length:=by omega
   have e:((x.list.map (IU d)).take (k+1)).sum=((x.list.map (IU d)).take k).sum+IU d x.list[k]:=by
    rw[A6 (by simpa using hlt),Df];simp
   refine wz fun b7=>?_
   refine Au 7 ?_
   rw[show Tq b (n+(1+((x.list.map (IU d)).take k).sum:Nat))::LF= .box b 293 [.raw (.int .i64 (n+(1+((x.list.map (IU d)).take k).sum:Nat))),.raw (.bool false)]::LF from rfl]
   refine wf ?_
   refine CK (xs:= [.tmp 41,.tmp 42,.tmp 44]) [Tq b (n+(1+((x.list.map (IU d)).take k).sum:Nat))] LF (f:=288) (cs:= []) (Bx _) rfl rfl (.refl _) _ (ih x.list[k] (hw _ (AG hlt)) b _ (lv+1) (by omega) (by omega) (by omega) (by omega)) fun r L3 hL3=>?_
   subst hL3
   refine wf ?_
   refine wf ?_
   refine⟨k+1,by omega,by dsimp only;omega,⟨rfl,rfl,rfl,rfl,rfl⟩,?_⟩
   show(Tq b (n+((1+((x.list.map (IU d)).take (k+1)).sum:Nat):Int))::LF).Sublist _
   rw[e,show n+((1+(((x.list.map (IU d)).take k).sum+IU d x.list[k]):Nat):Int)=n+((1+((x.list.map (IU d)).take k).sum:Nat):Int)+(IU d x.list[k]:Int) by omega]
   exact .refl _
  ·refine wf ?_
   rw[AA (by simp;omega)]
   exact⟨trivial,_,[Tq b (n+(1+(x.list.map (IU d)).sum:Nat))],.nil,.refl _,rfl⟩
theorem VM: ∀ (d:Nat) (x:Sx),P4 d x→Q.Fn Tryz.prog 289 [.agg (eSx x)] (.raw (.int .i64 0))
 |0,x,hw=>hw.elim
 |d+1,x,hw=>by
  have ih: ∀ (y:Sx),[Aw (P4 d y)]→C6 Tryz.prog 289 [.agg (eSx y)] (.raw (.int .i64 0)):=fun y h=>⟨VM d y h.out⟩
  refine Av Tryz.func289 Tryz.ntmps289 rfl (rs:= [.tmp 2]) rfl rfl fun hb LF=>?_
  have hlen:x.list.length≤140737488355328:=by
   have:=(hb (.agg (eSx x)) (by simp)).agg_at (c:= .slice (x.list.map eSx) .ro) (by rw[Fq];simp)
   exact this.slice_map
  have hsh:(x.isList=true→x.atom= [])∧(x.isList=false→x.list= [])∧x.atom.length≤65536∧ ∀ y∈x.list,P4 d y:=by
   rcases hw with ⟨h1,h2,h3⟩|⟨h1,h2,h3⟩
   ·exact⟨fun h=>(by rw[h1]at h;cases h),fun _=>h2,h3,fun y hy=>(by rw[h2]at hy;cases hy)⟩
   ·exact⟨fun _=>h2,fun h=>(by rw[h1]at h;cases h),by rw[h2];simp,h3⟩
  refine wf ?_
  refine BM [(6,.raw (.bool (false))),(1,.pt (eSx x) 0)] (LF) ?_ ?_
  ·repeat' (first|(refine A7 (fun h=>?_) (fun h=>?_)<;>refine wf ?_)|(refine AR (fun h=>?_) (fun h=>?_)<;>refine wf ?_)|(refine AO (fun h=>?_) (fun h=>?_)<;>refine wf ?_)|(refine Aq (fun h=>?_) (fun h=>?_)<;>(have h2:=h;(try simp only[AB,A8,AH,AK]at h2);refine wf ?_)))
   all_goals (refine⟨⟨Bp (by rfl) ?_,rfl⟩,.refl _⟩;(have:=hsh.1;have:=hsh.2.1;cases hB:x.isList<;>simp_all))
  refine wf ?_
  refine A7 (fun h5=>?_) (fun h5=>?_)
  ·have:=hsh.2.2.1;omega
  refine wf ?_
  refine AZ (σ:=Nat) (fun k=>k≤x.list.length) (fun k=>x.list.length - k) (fun k=> [(31,.slice (x.list.map eSx) .ro),(32,.raw (.int .i64 x.list.length)),(33,.raw (.int .i64 k))]) (fun _=>LF) 0 (by simp) ⟨rfl,rfl,rfl⟩ (.refl _) ?_
  intro k hk
  refine wf ?_
  refine A7 (fun hc=>?_) (fun hc=>?_)
  ·have hlt:k < x.list.length:=by omega
   have:Aw (P4 d x.list[k]):=⟨hsh.2.2.2 _ (AG hlt)⟩
   refine wz fun b4=>?_
   refine Au 4 ?_
   refine wf ?_
   exact⟨k+1,by omega,by dsimp only;omega,⟨rfl,rfl,rfl⟩,.refl _⟩
  ·refine wf ?_
   exact Ax (.refl _)
instance :Ck Tryz.prog 293 [.raw (.int .i64 0),.raw (.bool false)]:=Ck.of (us:= [PV.raw (.int .i64 0),.raw (.bool false)].map zv) (by kernel_rfl) (by kernel_rfl)
instance uw (x:Sx) [hs:Aw (oI x)]:C6 Tryz.prog 249 [.agg (eSx x)] (.raw (.int .i64 0)):=⟨by
 obtain⟨h1,h2⟩:=hs.out
 have i2:C6 Tryz.prog 289 [.agg (eSx x)] (.raw (.int .i64 0)):=⟨VM 8 x h1⟩
 refine Av Tryz.func249 Tryz.ntmps249 rfl (rs:= [.tmp 2]) rfl rfl fun hb LF=>?_
 refine sF fun b1=>?_
 refine sF fun b5=>?_
 refine CK (xs:= [.tmp 6,.tmp 7,.const (.int .i64 1)]) [Tq b5 0] (.box b1 196 (eSx x)::LF) (f:=288) (cs:= []) (Bx _) rfl rfl (.refl _) _ (eZ 8 x h1 b5 0 1 (by omega) (by omega) (by omega) (by omega)) fun r L3 hL3=>?_
 subst hL3
 rw[show [Tq b5 (0+IU 8 x)]++(.box b1 196 (eSx x)::LF)= .box b5 293 [.raw (.int .i64 (0+IU 8 x)),.raw (.bool false)]:: .box b1 196 (eSx x)::LF from rfl]
 refine wk ?_
 refine wk ?_
 exact Ax (.refl _)⟩
instance :Ck Tryz.prog 263 [.raw (.pointer none),.raw (.slice none 0 0)]:=Ck.of (us:= [PV.raw (.pointer none),.raw (.slice none 0 0)].map zv) (by kernel_rfl) (by kernel_rfl)
theorem pH {d:Nat} {x:Sx} (h:P4 d x):Dr d x≠ []:=by
 cases d with
 |zero=>exact h.elim
 |succ d=>unfold Dr;split<;>simp
instance s7 (x:Sx) [hs:Aw (oI x∧(Dr 8 x).length≤1000000000)]:C6 Tryz.prog 200 [.agg (eSx x)] (.tuple [.str (Dr 8 x),.raw (.int .i64 0)]):=⟨by
 obtain⟨h1,h2⟩:=hs.out
 have:Aw (oI x):=⟨h1⟩
 refine Av Tryz.func200 Tryz.ntmps200 rfl (rs:= [.tmp 2,.tmp 3]) rfl rfl fun hb LF=>?_
 refine Y2 fun b=>?_
 rw[show Res.box b 263 [.raw (.pointer none),.raw (.slice none 0 0)]::LF= [OO b (.pointer none) (.slice none 0 0)]++LF from rfl]
 refine CK (xs:= [.tmp 5,.tmp 11]) [OO b (.pointer none) (.slice none 0 0)] LF (f:=250) (cs:= []) (Bx _) rfl rfl (.refl _) _ (eG 8 x h1.1 b [] _ ⟨.pointer none,.slice none 0 0,[],.inl rfl,.nil,rfl⟩ (by simpa using h2)) fun r L1 hL1=>?_
 rw[B7]at hL1
 refine wf ?_
 refine wf ?_
 refine CK (xs:= [.tmp 5]) L1 LF (f:=251) (cs:= []) (Bx _) rfl rfl (.refl _) _ (eu b (Dr 8 x) L1 hL1 (pH h1.1) (by omega)) fun r L2 ⟨hr,hL2⟩=>?_
 subst hr
 subst hL2
 refine wf ?_
 refine wf ?_
 refine H2 ?_
 exact .refl _⟩
instance z7 (n:Int):C6 Tryz.prog 248 [.raw (.int .i64 n)] (.tuple [.agg (eSx (RQ n).1),.raw (.int .i64 (RQ n).2)]):=⟨by
 refine Av Tryz.func248 Tryz.ntmps248 rfl (rs:= [.cell 2 196,.tmp 3]) rfl rfl fun hb LF=>?_
 refine Y2 fun b=>?_
 refine BM [(9,.raw (.bool (decide (n < -1099511627776∨1099511627776 < n)))),(0,.raw (.int .i64 n)),(2,.raw (.pointer (some ⟨b,0,none⟩)))] (.box b 196 (eSx Sx.zero)::LF) ?_ ?_
 ·repeat' (first|(refine A7 (fun h=>?_) (fun h=>?_)<;>refine wf ?_)|(refine AR (fun h=>?_) (fun h=>?_)<;>refine wf ?_)|(refine AO (fun h=>?_) (fun h=>?_)<;>refine wf ?_)|(refine Aq (fun h=>?_) (fun h=>?_)<;>(have h2:=h;(try simp only[AB,A8,AH,AK]at h2);refine wf ?_)))
  all_goals (refine⟨⟨Bp (by rfl) ?_,rfl,rfl⟩,.refl _⟩;first|(simp_all;done)|grind)
 refine wf ?_
 refine A7 (fun h=>?_) (fun h=>?_)
 ·refine wf ?_
  refine LN rfl (.of_eq ?_)
  rw[RQ,if_pos h]
 ·have:Aw (-140737488355328≤n∧n≤140737488355328):=⟨by omega⟩
  refine wf ?_
  refine LN rfl (.of_eq ?_)
  rw[RQ,if_neg h];rfl⟩
instance xu (s:Str):C6 Tryz.prog 197 [.str s] (.agg (eSx (Cj s))):=⟨by
 refine Av Tryz.func197 Tryz.ntmps197 rfl (rs:= [.cell 2 196]) rfl rfl fun hb LF=>?_
 refine Y2 fun b=>?_
 refine Fp rfl (.of_eq ?_)
 rfl⟩
@[reducible] def SR (l:List Sx) (t:C9):List PV:= [.raw (.bool true),.str [],.slice (l.map eSx) t]
theorem kS (l:List Sx):SR l .ro=eSx (ED l):=by rw[Fq];rfl
theorem bj (l:List Sx) (t:C9):Le (.agg (SR l t)) (.agg (eSx (ED l))):=fun g v hv=>by
 obtain⟨vs,rfl,h⟩:=hv.agg_inv
 match vs,h with
 | [a,b,c],h=>
   rw[←kS]
   exact EF.agg (.cons h.uncons.1 (.cons h.uncons.2.uncons.1 (.cons h.uncons.2.uncons.2.uncons.1.ro (.nil g))))
 | [],h=>have:=h.len;simp at this
 | [_],h=>have:=h.len;simp at this
 | [_,_],h=>have:=h.len;simp at this
 |_::_::_::_::_,h=>have:=h.len;simp at this
instance (l:List Sx) (t:C9):GB (.agg (SR l t)) eSx (ED l):=⟨fun g v hv=>DB.agg _ g v (bj l t g v hv)⟩
instance {x y z:PV}:At [x,y,z] 2 z:=⟨rfl⟩
instance (c:Sx) (l:List Sx) (t:C9):FA (eSx c) 0 (SR l t) (SR l t):=⟨by rw[Fq];simp⟩
instance (l:List Sx) (t:C9):DA (SR l t) 3:=⟨rfl⟩
instance (l:List Sx) (t:C9):Dn (SR l t):=by unfold SR;infer_instance
theorem Tu (l:List Sx) (t:C9):Q.Fn Tryz.prog 196 [.slice (l.map eSx) t] (.agg (SR l t)):=by
 refine Av Tryz.func196 Tryz.ntmps196 rfl (rs:= [.cell 2 196]) rfl rfl fun hb LF=>?_
 refine DP ?_
 refine CC (by kernel_rfl) ?_
 refine Bw fun b=>?_
 refine AE ?_
 refine DP ?_
 refine CC (by kernel_rfl) ?_
 refine KB (by(conv=>lhs;whnf);done) ?_
 refine Yb (z:=eSx Sx.zero) (c0:= [.raw (.bool true)]) (c1:= [.slice (l.map eSx) t]) (r1:=SR l t) (hP0:=⟨rfl,by simp⟩) (hP1:=⟨rfl,by simp⟩) ?_ ?_ rfl rfl ?_
 ·exact DB.one (c:= .raw (.bool true)) Dn.out
 ·exact DB.one (c:= .slice (l.map eSx) t) Dn.out
 refine wf ?_
 exact Fp rfl (.refl _)
instance xO (l:List Sx):C6 Tryz.prog 196 [.slice (l.map eSx) .ro] (.agg (eSx (ED l))):=⟨kS l ▸ Tu l .ro⟩
instance (priority:=low) xM (l:List Sx) (t:C9):C6 Tryz.prog 196 [.slice (l.map eSx) t] (.agg (SR l t)):=⟨Tu l t⟩
instance xP:C6 Tryz.prog 196 [.slice [] .nil] (.agg (SR [] .nil)):=⟨Tu [] .nil⟩
instance tW (n:Int):C6 Tryz.prog 199 [.raw (.int .i64 n)] (.agg (eSx (GI n))):=⟨by
 refine Av Tryz.func199 Tryz.ntmps199 rfl (rs:= [.cell 2 196]) rfl rfl fun hb LF=>?_
 refine Y2 fun b=>?_
 refine Y2 fun b2=>?_
 refine Fp rfl (.of_eq ?_)
 rfl⟩
instance pG (x:Ident):C6 Tryz.prog 240 [.agg (eIdent x)] (.agg (eSx (GH x))):=⟨by
 refine Av Tryz.func240 Tryz.ntmps240 rfl (rs:= [.cell 2 196]) rfl rfl fun hb LF=>?_
 refine wf ?_
 refine Bw fun b=>?_
 refine wn ?_
 refine A7 (fun h=>?_) (fun h=>?_)
 ·refine wn ?_
  refine Bb 6 ?_ ?_
  ·decide+kernel
  refine wf ?_
  refine Fp rfl (.of_eq ?_)
  rw[GH,KC,if_pos h]
 ·refine wn ?_
  refine Bb 9 ?_ ?_
  ·decide+kernel
  refine wf ?_
  refine Fp rfl (.of_eq ?_)
  rw[GH,KC,if_neg h]⟩
instance xD (l:List Ident) (t:C9) [hs:Aw (l.length≤1000000)]:C6 Tryz.prog 241 [.slice (l.map eIdent) t] (.agg (eSx (J0 l))):=⟨by
 refine Av Tryz.func241 Tryz.ntmps241 rfl (rs:= [.cell 2 196]) rfl rfl fun hb LF=>?_
 have hlen:=hs.out
 refine Y2 fun b=>?_
 refine Y2 fun b3=>?_
 refine EP 3 ?_
 refine AZ (σ:=Nat × C9 × List Sx) (fun k=>k.1≤l.length∧k.2.2=(l.take k.1).map GH) (fun k=>l.length - k.1) (fun k=> [(2,.raw (.pointer (some ⟨b,0,none⟩))),(3,.raw (.pointer (some ⟨b3,0,none⟩))),(7,.slice (l.map eIdent) t),(8,.raw (.int .i64 l.length)),(9,.raw (.int .i64 k.1))]) (fun k=> .tok k.2.1 k.2.2.length 3:: .box b3 196 (SR k.2.2 k.2.1):: .box b 196 (eSx Sx.zero)::LF) (0,.nil,[]) ⟨by simp,by simp⟩ ⟨rfl,rfl,rfl,rfl,rfl⟩ (.refl _) ?_
 rintro⟨k,v,out⟩ ⟨hk,he⟩
 dsimp only at hk he
 have hol:out.length=k:=by rw[he];simp;omega
 refine wf ?_
 refine A7 (fun hc=>?_) (fun hc=>?_)
 ·have hlt:k < l.length:=by omega
  have ee:(l.take (k+1)).map GH=out++ [GH l[k]]:=by rw[A6 hlt,Al,he];rfl
  refine wz fun b5=>?_
  refine Au 5 ?_
  refine wn ?_
  refine Bb 5 ?_ ?_
  ·decide+kernel
  refine aQ fun v'=>?_
  refine FW (ay:= .slice ((out++ [GH l[k]]).map eSx) v') (SR (out++ [GH l[k]]) v') rfl rfl Dn.out rfl (by simp) ?_
  refine wf ?_
  refine wf ?_
  exact⟨(k+1,v',out++ [GH l[k]]),⟨by dsimp only;omega,ee.symm⟩,by dsimp only;omega,⟨rfl,rfl,rfl,rfl,rfl⟩,.refl _⟩
 ·rw[AA (by omega)]at he
  refine wf ?_
  refine Fp rfl ?_
  rw[J0,←he]
  exact bj _ _⟩
instance iL (l:List Str) (t:C9) [hs:Aw (l.length≤1000000)]:C6 Tryz.prog 245 [.slice (l.map eS) t] (.agg (eSx (ED (l.map Cj)))):=⟨by
 refine Av Tryz.func245 Tryz.ntmps245 rfl (rs:= [.cell 2 196]) rfl rfl fun hb LF=>?_
 have hlen:=hs.out
 refine Y2 fun b=>?_
 refine Y2 fun b3=>?_
 refine EP 3 ?_
 refine AZ (σ:=Nat × C9 × List Sx) (fun k=>k.1≤l.length∧k.2.2=(l.take k.1).map Cj) (fun k=>l.length - k.1) (fun k=> [(2,.raw (.pointer (some ⟨b,0,none⟩))),(3,.raw (.pointer (some ⟨b3,0,none⟩))),(7,.slice (l.map eS) t),(8,.raw (.int .i64 l.length)),(9,.raw (.int .i64 k.1))]) (fun k=> .tok k.2.1 k.2.2.length 3:: .box b3 196 (SR k.2.2 k.2.1):: .box b 196 (eSx Sx.zero)::LF) (0,.nil,[]) ⟨by simp,by simp⟩ ⟨rfl,rfl,rfl,rfl,rfl⟩ (.refl _) ?_
 rintro⟨k,v,out⟩ ⟨hk,he⟩
 dsimp only at hk he
 have hol:out.length=k:=by rw[he];simp;omega
 refine wf ?_
 refine A7 (fun hc=>?_) (fun hc=>?_)
 ·have hlt:k < l.length:=by omega
  have ee:(l.take (k+1)).map Cj=out++ [Cj l[k]]:=by rw[A6 hlt,Al,he];rfl
  refine wn ?_
  refine Bb 5 ?_ ?_
  ·decide+kernel
  refine aQ fun v'=>?_
  refine FW (ay:= .slice ((out++ [Cj l[k]]).map eSx) v') (SR (out++ [Cj l[k]]) v') rfl rfl Dn.out rfl (by simp) ?_
  refine wf ?_
  refine wf ?_
  exact⟨(k+1,v',out++ [Cj l[k]]),⟨by dsimp only;omega,ee.symm⟩,by dsimp only;omega,⟨rfl,rfl,rfl,rfl,rfl⟩,.refl _⟩
 ·rw[AA (by omega)]at he
  refine wf ?_
  refine Fp rfl ?_
  rw[←he]
  exact bj _ _⟩
def ym (c:Chg):List Sx:= [GI c.type]
def yl (c:Chg):List Sx:= [GH c.file,GH c.parent,Cj c.name,J0 c.over]
def yk (c:Chg):List Sx:= [GH c.file,GI c.mode,J0 c.over]
def yj (c:Chg):List Sx:= [GH c.file,Cj c.data,J0 c.over]
def yi (c:Chg):List Sx:= [GH c.file,GH c.after,GH c.before,ED (c.lines.map Cj)]
def yh (c:Chg):List Sx:= [GH c.file,GH c.after,GH c.before,J0 c.over]
def yg (c:Chg):List Sx:= [J0 c.over]
instance uB (c:Chg) [hs:Aw (c.lines.length≤100000∧c.over.length≤100000)]:C6 Tryz.prog 238 [.agg (eChg c)] (.slice ((ym c).map eSx) .ro):=⟨by
 obtain⟨h1,h2⟩:=hs.out
 have i1:Aw (c.over.length≤1000000):=⟨by omega⟩
 have i2:Aw (c.lines.length≤1000000):=⟨by omega⟩
 refine Av Tryz.func238 Tryz.ntmps238 rfl (rs:= [.tmp 2]) rfl rfl fun hb LF=>?_
 refine wf ?_
 refine Ax (.of_eq ?_)
 rfl⟩
instance uA (c:Chg) [hs:Aw (c.lines.length≤100000∧c.over.length≤100000)]:C6 Tryz.prog 239 [.agg (eChg c)] (.slice ((yl c).map eSx) .ro):=⟨by
 obtain⟨h1,h2⟩:=hs.out
 have i1:Aw (c.over.length≤1000000):=⟨by omega⟩
 have i2:Aw (c.lines.length≤1000000):=⟨by omega⟩
 refine Av Tryz.func239 Tryz.ntmps239 rfl (rs:= [.tmp 2]) rfl rfl fun hb LF=>?_
 refine wn ?_
 refine Bb 14 ?_ ?_
 ·decide+kernel
 refine wf ?_
 refine Ax (.of_eq ?_)
 rfl⟩
instance u9 (c:Chg) [hs:Aw (c.lines.length≤100000∧c.over.length≤100000)]:C6 Tryz.prog 242 [.agg (eChg c)] (.slice ((yk c).map eSx) .ro):=⟨by
 obtain⟨h1,h2⟩:=hs.out
 have i1:Aw (c.over.length≤1000000):=⟨by omega⟩
 have i2:Aw (c.lines.length≤1000000):=⟨by omega⟩
 refine Av Tryz.func242 Tryz.ntmps242 rfl (rs:= [.tmp 2]) rfl rfl fun hb LF=>?_
 refine wn ?_
 refine Bb 11 ?_ ?_
 ·decide+kernel
 refine wf ?_
 refine Ax (.of_eq ?_)
 rfl⟩
instance u7 (c:Chg) [hs:Aw (c.lines.length≤100000∧c.over.length≤100000)]:C6 Tryz.prog 243 [.agg (eChg c)] (.slice ((yj c).map eSx) .ro):=⟨by
 obtain⟨h1,h2⟩:=hs.out
 have i1:Aw (c.over.length≤1000000):=⟨by omega⟩
 have i2:Aw (c.lines.length≤1000000):=⟨by omega⟩
 refine Av Tryz.func243 Tryz.ntmps243 rfl (rs:= [.tmp 2]) rfl rfl fun hb LF=>?_
 refine wn ?_
 refine Bb 11 ?_ ?_
 ·decide+kernel
 refine wf ?_
 refine Ax (.of_eq ?_)
 rfl⟩
instance u6 (c:Chg) [hs:Aw (c.lines.length≤100000∧c.over.length≤100000)]:C6 Tryz.prog 244 [.agg (eChg c)] (.slice ((yi c).map eSx) .ro):=⟨by
 obtain⟨h1,h2⟩:=hs.out
 have i1:Aw (c.over.length≤1000000):=⟨by omega⟩
 have i2:Aw (c.lines.length≤1000000):=⟨by omega⟩
 refine Av Tryz.func244 Tryz.ntmps244 rfl (rs:= [.tmp 2]) rfl rfl fun hb LF=>?_
 refine wn ?_
 refine Bb 14 ?_ ?_
 ·decide+kernel
 refine wf ?_
 refine Ax (.of_eq ?_)
 rfl⟩
instance u5 (c:Chg) [hs:Aw (c.lines.length≤100000∧c.over.length≤100000)]:C6 Tryz.prog 246 [.agg (eChg c)] (.slice ((yh c).map eSx) .ro):=⟨by
 obtain⟨h1,h2⟩:=hs.out
 have i1:Aw (c.over.length≤1000000):=⟨by omega⟩
 have i2:Aw (c.lines.length≤1000000):=⟨by omega⟩
 refine Av Tryz.func246 Tryz.ntmps246 rfl (rs:= [.tmp 2]) rfl rfl fun hb LF=>?_
 refine wn ?_
 refine Bb 14 ?_ ?_
 ·decide+kernel
 refine wf ?_
 refine Ax (.of_eq ?_)
 rfl⟩
instance u4 (c:Chg) [hs:Aw (c.lines.length≤100000∧c.over.length≤100000)]:C6 Tryz.prog 247 [.agg (eChg c)] (.slice ((yg c).map eSx) .ro):=⟨by
 obtain⟨h1,h2⟩:=hs.out
 have i1:Aw (c.over.length≤1000000):=⟨by omega⟩
 have i2:Aw (c.lines.length≤1000000):=⟨by omega⟩
 refine Av Tryz.func247 Tryz.ntmps247 rfl (rs:= [.tmp 2]) rfl rfl fun hb LF=>?_
 refine wf ?_
 refine Ax (.of_eq ?_)
 rfl⟩
def gW:List (Int × PV):= [(1,.raw (.func (.func 238) #[] #[])),(2,.raw (.func (.func 239) #[] #[])),(3,.raw (.func (.func 242) #[] #[])),(4,.raw (.func (.func 243) #[] #[])),(5,.raw (.func (.func 244) #[] #[])),(6,.raw (.func (.func 246) #[] #[])),(7,.raw (.func (.func 247) #[] #[]))]
theorem Xi:BG Tryz.prog 198 [] [] (fun r L'=> ∃ b,r= .raw (.map (some b))∧L'= [.map b (BZ kInt vId gW)]):=by
 refine C7 Tryz.func198 rfl Tryz.ntmps198 (rs:= [.tmp 0]) rfl rfl fun hb LF=>?_
 rw[B7]
 refine zF fun b=>?_
 exact⟨trivial,_,[.map b (BZ kInt vId gW)],.cons (.tmp 0) .nil,.refl _,b,rfl,rfl⟩
def vZ (k:Int):Nat:=if k=1 then 238 else if k=2 then 239 else if k=3 then 242 else if k=4 then 243 else if k=5 then 244 else if k=6 then 246 else 247
def Zs (c:Chg):List Sx:=if c.kind=1 then ym c else if c.kind=2 then yl c else if c.kind=3 then yk c else if c.kind=4 then yj c else if c.kind=5 then yi c else if c.kind=6 then yh c else yg c
theorem ky (c:Chg):(Zs c).length≤4:=by
 unfold Zs
 repeat' split
 all_goals simp[ym,yl,yk,yj,yi,yh,yg]
theorem kinds {k:Int} (h:1≤k∧k≤7):k=1∨k=2∨k=3∨k=4∨k=5∨k=6∨k=7:=by omega
theorem kz {k:Int} (h:1≤k∧k≤7):vId ((CZ k gW).getD (.raw .nilFunc))= .raw (.func (.func (vZ k)) #[] #[]):=by
 rcases kinds h with h|h|h|h|h|h|h<;>(subst h;rfl)
theorem pE {k:Int} (h:1≤k∧k≤7):B1 Tryz.prog (vZ k):=by
 rcases kinds h with h|h|h|h|h|h|h<;>(subst h;simp only[vZ];first|exact(inferInstance:B1 Tryz.prog 238)|exact(inferInstance:B1 Tryz.prog 239)|exact(inferInstance:B1 Tryz.prog 242)|exact(inferInstance:B1 Tryz.prog 243)|exact(inferInstance:B1 Tryz.prog 244)|exact(inferInstance:B1 Tryz.prog 246)|exact(inferInstance:B1 Tryz.prog 247))
theorem ow (c:Chg) (h:1≤c.kind∧c.kind≤7) [hs:Aw (c.lines.length≤100000∧c.over.length≤100000)]:Q.Fn Tryz.prog (vZ c.kind) [.agg (eChg c)] (.slice ((Zs c).map eSx) .ro):=by
 unfold vZ Zs
 by_cases h1:c.kind=1
 ·rw[if_pos h1,if_pos h1];exact(uB c).out
 by_cases h2:c.kind=2
 ·rw[if_neg h1,if_neg h1,if_pos h2,if_pos h2];exact(uA c).out
 by_cases h3:c.kind=3
 ·rw[if_neg h1,if_neg h1,if_neg h2,if_neg h2,if_pos h3,if_pos h3];exact(u9 c).out
 by_cases h4:c.kind=4
 ·rw[if_neg h1,if_neg h1,if_neg h2,if_neg h2,if_neg h3,if_neg h3,if_pos h4,if_pos h4];exact(u7 c).out
 by_cases h5:c.kind=5
 ·rw[if_neg h1,if_neg h1,if_neg h2,if_neg h2,if_neg h3,if_neg h3,if_neg h4,if_neg h4,if_pos h5,if_pos h5];exact(u6 c).out
 by_cases h6:c.kind=6
 ·rw[if_neg h1,if_neg h1,if_neg h2,if_neg h2,if_neg h3,if_neg h3,if_neg h4,if_neg h4,if_neg h5,if_neg h5,if_pos h6,if_pos h6];exact(u5 c).out
 rw[if_neg h1,if_neg h1,if_neg h2,if_neg h2,if_neg h3,if_neg h3,if_neg h4,if_neg h4,if_neg h5,if_neg h5,if_neg h6,if_neg h6];exact(u4 c).out
def PJ (c:Chg):Sx:=ED ([GI c.kind]++Zs c)
def jc (p:Pat):Sx:=ED [Cj [113,117,105,108,116,49],Cj p.author,Cj p.message,GI p.time,ED (p.deps.map fun d=>Cj d.bs),ED (p.changes.map PJ)]
theorem je {c:Chg} (h:1≤c.kind∧c.kind≤7):PJ c=Kv c:=by
 unfold PJ Kv K2 IK L7 Zs
 rcases kinds h with h|h|h|h|h|h|h<;>simp[h,ym,yl,yk,yj,yi,yh,yg]
theorem jb {p:Pat} (hd: ∀ d∈p.deps,d≠Dig.zero) (hk: ∀ c∈p.changes,1≤c.kind∧c.kind≤7):jc p=X2 p:=by
 unfold jc X2
 rw[Cc (f:=fun d:Dig=>Cj d.bs) (g:=KC) (fun d h=>by rw[KC,if_neg (hd d h)]),Cc (f:=PJ) (g:=Kv) (fun c h=>je (hk c h))]
structure cD (p:Pat):Prop where
 ok:W3 p
 deps: ∀ d∈p.deps,d≠Dig.zero
 kinds: ∀ c∈p.changes,1≤c.kind∧c.kind≤7
instance rQ (p:Pat) [hs:Aw (cD p)]:C6 Tryz.prog 144 [.agg (Bh p)] (.tuple [.str (Na p),.raw (.int .i64 0)]):=⟨by
 refine Av Tryz.func144 Tryz.ntmps144 rfl (rs:= [.tmp 2,.tmp 3]) rfl rfl fun hb LF=>?_
 have hd:=hs.out.ok.deps
 have hch:=hs.out.ok.chgs
 refine Y2 fun b4=>?_
 refine Bw fun b5=>?_
 refine wf ?_
 refine EP 3 ?_
 refine AZ (σ:=Nat × C9 × List Sx) (fun k=>k.1≤p.deps.length∧k.2.2=(p.deps.take k.1).map fun d=>Cj d.bs) (fun k=>p.deps.length - k.1) (fun k=> [(1,.pt (Bh p) 0),(4,.raw (.pointer (some ⟨b4,0,none⟩))),(5,.raw (.pointer (some ⟨b5,0,none⟩))),(15,.slice (p.deps.map eDig) .ro),(16,.raw (.int .i64 p.deps.length)),(17,.raw (.int .i64 k.1))]) (fun k=> .tok k.2.1 k.2.2.length 3:: .box b5 196 (SR [] .nil):: .box b4 196 (SR k.2.2 k.2.1)::LF) (0,.nil,[]) ⟨by simp,by simp⟩ ⟨rfl,rfl,rfl,rfl,rfl,rfl⟩ (.refl _) ?_
 rintro⟨k,v,l⟩ ⟨hk,he⟩
 dsimp only at hk he
 have hll:l.length=k:=by rw[he];simp;omega
 refine wf ?_
 refine A7 (fun hc=>?_) (fun hc=>?_)
 ·have hlt:k < p.deps.length:=by omega
  have ee:(p.deps.take (k+1)).map (fun d=>Cj d.bs)=l++ [Cj p.deps[k].bs]:=by rw[A6 hlt,Al,he];rfl
  refine wz fun b7=>?_
  refine Au 7 ?_
  refine wn ?_
  refine Bb 6 ?_ ?_
  ·decide+kernel
  refine aQ fun v'=>?_
  refine FW (ay:= .slice ((l++ [Cj p.deps[k].bs]).map eSx) v') (SR (l++ [Cj p.deps[k].bs]) v') rfl rfl Dn.out rfl (by simp) ?_
  refine wf ?_
  refine wf ?_
  exact⟨(k+1,v',l++ [Cj p.deps[k].bs]),⟨by dsimp only;omega,ee.symm⟩,by dsimp only;omega,⟨rfl,rfl,rfl,rfl,rfl,rfl⟩,.refl _⟩
 rw[AA (by omega)]at he
 clear hll
 refine wf ?_
 refine CK (xs:= []) [] (.tok v l.length 3:: .box b5 196 (SR [] .nil):: .box b4 196 (SR l v)::LF) (f:=198) (cs:= []) (Bx _) rfl rfl (.refl _) _ Xi fun r L1 ⟨bm,hr,hL1⟩=>?_
 subst hr
 subst hL1
 refine wo ?_
 refine AE ?_
 refine O5 [(1,.pt (Bh p) 0),(4,.raw (.pointer (some ⟨b4,0,none⟩))),(5,.raw (.pointer (some ⟨b5,0,none⟩))),(8,.fmap (BZ kInt vId gW))] ⟨.inl rfl,.inl rfl,.inl rfl,.inr ⟨rfl,rfl⟩⟩ (.refl _) ?_
 refine wf ?_
 refine EP 3 ?_
 refine AZ (σ:=Nat × C9 × List Sx) (fun k=>k.1≤p.changes.length∧k.2.2=(p.changes.take k.1).map PJ) (fun k=>p.changes.length - k.1) (fun k=> [(1,.pt (Bh p) 0),(4,.raw (.pointer (some ⟨b4,0,none⟩))),(5,.raw (.pointer (some ⟨b5,0,none⟩))),(8,.fmap (BZ kInt vId gW)),(32,.slice (p.changes.map eChg) .ro),(33,.raw (.int .i64 p.changes.length)),(34,.raw (.int .i64 k.1))]) (fun k=> .tok k.2.1 k.2.2.length 3:: .box b5 196 (SR k.2.2 k.2.1):: .box b4 196 (SR l v)::LF) (0,.nil,[]) ⟨by simp,by simp⟩ ⟨rfl,rfl,rfl,rfl,rfl,rfl,rfl⟩ (.cons_cons _ (.cons _ (.refl _))) ?_
 rintro⟨k,u,m⟩ ⟨hk,hm⟩
 dsimp only at hk hm
 have hml:m.length=k:=by rw[hm];simp;omega
 refine wf ?_
 refine A7 (fun hc=>?_) (fun hc=>?_)
 ·have hlt:k < p.changes.length:=by omega
  have ee:(p.changes.take (k+1)).map PJ=m++ [PJ p.changes[k]]:=by rw[A6 hlt,Al,hm];rfl
  have hcc:=hs.out.ok.chg _ (AG hlt)
  have hkc:=hs.out.kinds _ (AG hlt)
  have:Aw (p.changes[k].lines.length≤100000∧p.changes[k].over.length≤100000):=⟨hcc⟩
  have hfun:=pE hkc
  have hfl:=ky p.changes[k]
  refine wz fun b10=>?_
  refine Au 10 ?_
  refine DP ?_
  refine CC (by kernel_rfl) ?_
  refine av (by rfl) (hr:=(by first|infer_instance|fail)) ?_
  refine dH (by rfl) rfl ?_
  refine XL (by(conv=>lhs;whnf);done) (hN0:=(by first|infer_instance|fail)) (hc:=(by first|infer_instance|fail)) ?_
  refine jW (by(conv=>lhs;whnf);done) (hC0:=(by first|infer_instance|fail)) (hf:=(by first|infer_instance|fail)) (by decide) fun t=>?_
  refine wz fun b11=>?_
  refine wn ?_
  refine Bb 8 ?_ ?_
  ·decide+kernel
  refine wf ?_
  refine Wy (xs:= [.tmp 49]) (f:=vZ p.changes[k].kind) (cs:= []) (by show Le (vId ((CZ p.changes[k].kind gW).getD (.raw .nilFunc))) _;rw[kz hkc];exact Bx _) rfl rfl (ow p.changes[k] hkc) ?_
  refine aQ fun v'=>?_
  refine FW (ay:= .slice (([GI p.changes[k].kind]++Zs p.changes[k]).map eSx) v') (SR ([GI p.changes[k].kind]++Zs p.changes[k]) v') rfl rfl Dn.out rfl (by simp) ?_
  refine wf ?_
  refine aQ fun u'=>?_
  refine FW (ay:= .slice ((m++ [PJ p.changes[k]]).map eSx) u') (SR (m++ [PJ p.changes[k]]) u') rfl rfl Dn.out rfl (by simp) ?_
  refine wf ?_
  exact⟨(k+1,u',m++ [PJ p.changes[k]]),⟨by dsimp only;omega,ee.symm⟩,by dsimp only;omega,⟨rfl,rfl,rfl,rfl,rfl,rfl,rfl⟩,by dsimp only;repeat(first|exact Ec _|apply List.Sublist.cons_cons|apply List.Sublist.cons)⟩
 rw[AA (by omega)]at hm
 have e:X2 p=ED [Cj [113,117,105,108,116,49],Cj p.author,Cj p.message,GI p.time,ED l,ED m]:=by rw[←jb hs.out.deps hs.out.kinds,jc,←he,←hm]
 have i1:Aw (oI (ED [Cj [113,117,105,108,116,49],Cj p.author,Cj p.message,GI p.time,ED l,ED m])∧(Dr 8 (ED [Cj [113,117,105,108,116,49],Cj p.author,Cj p.message,GI p.time,ED l,ED m])).length≤1000000000):=by
  rw[←e];exact⟨hs.out.ok.ok,hs.out.ok.len⟩
 refine wf ?_
 refine H2 ?_
 rw[Na,e]
 exact .refl _⟩
instance yA (p:Pat) [hs:Aw (E6 p=false)]:C6 Tryz.prog 260 [.agg (Bh p)] (.tuple [.slice ((JA p).1.map eAtm) .ro,.raw (.int .i64 (JA p).2)]):=⟨by
 obtain⟨hal,hao⟩:=EB hs.out
 refine Av Tryz.func260 Tryz.ntmps260 rfl (rs:= [.tmp 2,.tmp 3]) rfl rfl fun hb LF=>?_
 refine Cz fun b1=>?_
 refine Ew fun b4=>?_
 refine AR (fun h=>?_) (fun h=>?_)
 ·refine AW ?_
  refine H2 ?_
  rw[JA,if_pos h]
  exact .tuple2 (.ro _ _) (.refl _)
 rw[JA,if_neg (by simp[h])]
 refine AW ?_
 generalize (Ei p).1=d
 generalize (CB p).1=own at hal hao
 refine EP 172 ?_
 refine AZ (σ:=Nat × List Atm × C9) (fun k=>k.1≤own.length∧k.2.1=(own.take k.1).map (Vc d)) (fun k=>own.length - k.1) (fun k=> [(4,.raw (.pointer (some ⟨b4,0,none⟩))),(6,.slice (own.map eAtm) .ro),(8,.slice (k.2.1.map eAtm) k.2.2),(9,.raw (.int .i64 k.1))]) (fun k=> .tok k.2.2 k.2.1.length 172:: .box b4 31 (eDig d)::LF) (0,[],.nil) ⟨by simp,by simp⟩ ⟨rfl,rfl,rfl,rfl⟩ (.cons_cons _ (.cons_cons _ (.cons _ (.refl _)))) ?_
 rintro⟨i,out,v⟩ ⟨hi,ho⟩
 dsimp only at hi ho ⊢
 have hol:out.length=i:=by rw[ho];simp;omega
 refine AW ?_
 refine A7 (fun hc=>?_) (fun hc=>?_)
 ·have hlt:i < own.length:=by omega
  have hov:=hao _ (AG hlt)
  refine Cz fun b10=>?_
  refine Cx (σ:=Unit) (fun _=>True) (fun _=> [(4,.raw (.pointer (some ⟨b4,0,none⟩))),(6,.slice (own.map eAtm) .ro),(8,.slice (out.map eAtm) v),(9,.raw (.int .i64 i)),(10,.raw (.pointer (some ⟨b10,0,none⟩)))]) (fun _=> .box b10 125 (eAtm (Pg d (Mo d own[i]))):: .tok v out.length 172:: .box b4 31 (eDig d)::LF) ?_ ?_
  ·refine AR (fun h7=>?_) (fun h7=>?_)
   ·refine AW ?_
    refine⟨(),trivial,⟨rfl,rfl,rfl,rfl,rfl⟩,?_⟩
    have h7':(Mo d own[i]).kind≠7:=h7
    rw[Pg,if_pos h7'];exact .refl _
   ·refine AW ?_
    refine⟨(),trivial,⟨rfl,rfl,rfl,rfl,rfl⟩,?_⟩
    have h7':(Mo d own[i]).kind=7:=h7
    rw[Pg,if_neg (by simp[h7'])];exact .refl _
  rintro _ _
  generalize ha2:Pg d (Mo d own[i])=a2
  refine AW ?_
  refine Cx (σ:=Unit) (fun _=>True) (fun _=> [(4,.raw (.pointer (some ⟨b4,0,none⟩))),(6,.slice (own.map eAtm) .ro),(8,.slice (out.map eAtm) v),(9,.raw (.int .i64 i)),(10,.raw (.pointer (some ⟨b10,0,none⟩)))]) (fun _=> .box b10 125 (eAtm (Pf d a2)):: .tok v out.length 172:: .box b4 31 (eDig d)::LF) ?_ ?_
  ·refine A7 (fun h7=>?_) (fun h7=>?_)
   ·refine AW ?_
    refine⟨(),trivial,⟨rfl,rfl,rfl,rfl,rfl⟩,?_⟩
    rw[Pf,if_pos h7];exact .refl _
   ·refine AW ?_
    refine⟨(),trivial,⟨rfl,rfl,rfl,rfl,rfl⟩,?_⟩
    rw[Pf,if_neg h7];exact .refl _
  rintro _ _
  generalize ha3:Pf d a2=a3
  refine AW ?_
  refine Cx (σ:=Unit) (fun _=>True) (fun _=> [(4,.raw (.pointer (some ⟨b4,0,none⟩))),(6,.slice (own.map eAtm) .ro),(8,.slice (out.map eAtm) v),(9,.raw (.int .i64 i)),(10,.raw (.pointer (some ⟨b10,0,none⟩)))]) (fun _=> .box b10 125 (eAtm (O1 d a3)):: .tok v out.length 172:: .box b4 31 (eDig d)::LF) ?_ ?_
  ·refine A7 (fun h7=>?_) (fun h7=>?_)
   ·refine PG ?_
    refine MC [false,false,false,false,false,false,false,false,false,true,false,true] ?_ ?_
    ·decide+kernel
    refine Bu ?_
    refine⟨(),trivial,⟨rfl,rfl,rfl,rfl,rfl⟩,?_⟩
    rw[O1,if_pos h7];exact .refl _
   ·refine AW ?_
    refine⟨(),trivial,⟨rfl,rfl,rfl,rfl,rfl⟩,?_⟩
    rw[O1,if_neg h7];exact .refl _
  rintro _ _
  have hover:(O1 d a3).over=own[i].over:=by rw[←ha3,←ha2];exact Yl d own[i]
  generalize ha4:O1 d a3=a4 at hover
  have hov4:a4.over.length≤40:=by rw[hover];exact hov
  refine AW ?_
  refine AZ (σ:=Nat × List Ident × C9) (fun j=>j.1≤a4.over.length∧j.2.1=(a4.over.take j.1).foldl (fun m y=>Ik m (E9 y d)) []) (fun j=>a4.over.length - j.1) (fun j=> [(4,.raw (.pointer (some ⟨b4,0,none⟩))),(6,.slice (own.map eAtm) .ro),(8,.slice (out.map eAtm) v),(9,.raw (.int .i64 i)),(10,.raw (.pointer (some ⟨b10,0,none⟩))),(11,.slice (j.2.1.map eIdent) j.2.2),(12,.raw (.int .i64 j.1))]) (fun _=> .box b10 125 (eAtm a4):: .tok v out.length 172:: .box b4 31 (eDig d)::LF) (0,[],.nil) ⟨by simp,by simp⟩ ⟨rfl,rfl,rfl,rfl,rfl,rfl,rfl⟩ (.refl _) ?_
  rintro⟨j,m,z⟩ ⟨hj,hm⟩
  dsimp only at hj hm ⊢
  have hml:m.length≤j:=by rw[hm];exact bJ d a4.over j
  refine AW ?_
  refine A7 (fun hc2=>?_) (fun hc2=>?_)
  ·have hlt2:j < a4.over.length:=by omega
   have:Aw (m.length≤1000000):=⟨by omega⟩
   refine AW ?_
   refine⟨(j+1,Ik m (E9 a4.over[j] d),.ro),⟨by dsimp only;omega,?_⟩,by dsimp only;omega,⟨rfl,rfl,rfl,rfl,rfl,rfl,rfl⟩,.refl _⟩
   dsimp only
   rw[A6 hlt2,Bk,←hm];rfl
  ·rw[AA (by omega)]at hm
   refine H3 fun v'=>?_
   have e:Vc d own[i]= { a4 with over:=m }:=by rw[Vc,ha2,ha3,ha4,jl,jk,←hm]
   refine⟨(i+1,out++ [{ a4 with over:=m }],v'),⟨by dsimp only;omega,?_⟩,by dsimp only;omega,⟨rfl,rfl,rfl,rfl⟩,.cons _ (.refl _)⟩
   dsimp only
   rw[A6 hlt,Al,←ho,Ar,e];rfl
 ·rw[AA (by omega)]at ho
  refine AW ?_
  refine H2 ?_
  rw[ho]
  exact .tuple2 (.ro _ _) (.refl _)⟩
theorem IH {b:Bool} (h:(!b)=false): ¬b=false:=by cases b<;>simp_all
theorem Kc {b:Bool} (h:(!b)=true):b=false:=by cases b<;>simp_all
theorem GQ.great {s:List Sto} (h:GQ s) (d:Dig):E6 ((getS s d).getD Pat.zero)=false:=by
 cases hg:getS s d with
 |none=>exact U2
 |some p=>
  obtain⟨x,hx,_,rfl⟩:=Jg hg
  exact h.2 x hx
def Ig (s:List Sto) (d:Dig):List Atm:=(JA ((getS s d).getD Pat.zero)).1
def IM (s:List Sto) (x:Ident):Option Atm:=if x.n < 0∨((Ig s x.patch).length:Int)≤x.n then none else(Ig s x.patch)[x.n.toNat]?
instance vi (s:List Sto) (x:Ident) (t:C9) [hs:Aw (GQ s)]:C6 Tryz.prog 207 [.slice (s.map eSto) t,.agg (eIdent x)] (.tuple [.agg (eAtm ((IM s x).getD Atm.zero)),.raw (.bool (IM s x).isSome)]):=⟨by
 have i1:Aw (E6 ((getS s x.patch).getD Pat.zero)=false):=⟨hs.out.great _⟩
 refine Av Tryz.func207 Tryz.ntmps207 rfl (rs:= [.cell 4 125,.tmp 5]) rfl rfl fun hb LF=>?_
 refine Cz fun b3=>?_
 refine Ew fun b4=>?_
 refine Ew fun b6=>?_
 have e0:(JA ((getS s x.patch).getD Pat.zero)).1=Ig s x.patch:=rfl
 rw[e0]
 refine BM [(31,.raw (.bool (decide (x.n < 0∨((Ig s x.patch).length:Int)≤x.n)))),(3,.raw (.pointer (some ⟨b3,0,none⟩))),(4,.raw (.pointer (some ⟨b4,0,none⟩))),(8,.slice ((Ig s x.patch).map eAtm) .ro)] (.box b6 40 (Bh ((getS s x.patch).getD Pat.zero)):: .box b4 125 (eAtm Atm.zero):: .box b3 65 (eIdent x)::LF) ?_ ?_
 ·repeat' (first|(refine A7 (fun h=>?_) (fun h=>?_)<;>refine AW ?_)|(refine AR (fun h=>?_) (fun h=>?_)<;>refine AW ?_)|(refine AO (fun h=>?_) (fun h=>?_)<;>refine AW ?_)|(refine Aq (fun h=>?_) (fun h=>?_)<;>(have h2:=h;(try simp only[AB,A8,AH,AK]at h2);refine Bu ?_)))
  all_goals (refine⟨⟨Bp (by rfl) ?_,rfl,rfl,rfl⟩,.refl _⟩;first|(simp_all;done)|(simp_all;omega)|grind)
 refine AW ?_
 refine A7 (fun h=>?_) (fun h=>?_)
 ·refine AW ?_
  refine LN rfl (.of_eq ?_)
  rw[IM,if_pos h];rfl
 ·refine AW ?_
  refine LN rfl (.of_eq ?_)
  have hlt:x.n.toNat < (Ig s x.patch).length:=by omega
  rw[IM,if_neg h,AY hlt];rfl⟩
def Ea (o:Option Atm) (fits:Atm→Bool):Int:=if o.isSome=false then 7 else if fits (o.getD Atm.zero)=false then 8 else 0
def H4 (s:List Sto) (x file:Ident) (id:Dig):Int:=if FY x=false∨x=file then 0 else Ea (IM s x) (Ja (HO file id))
instance xl (s:List Sto) (x file:Ident) (id:Dig) (t:C9) [hs:Aw (GQ s)]:C6 Tryz.prog 210 [.slice (s.map eSto) t,.agg (eIdent x),.agg (eIdent file),.agg (eDig id)] (.raw (.int .i64 (H4 s x file id))):=⟨by
 refine Av Tryz.func210 Tryz.ntmps210 rfl (rs:= [.tmp 8]) rfl rfl fun hb LF=>?_
 refine Cz fun b5=>?_
 refine Ew fun b6=>?_
 refine Ew fun b7=>?_
 refine BM [(18,.raw (.bool (decide (FY x=false∨x=file)))),(0,.slice (s.map eSto) t),(5,.raw (.pointer (some ⟨b5,0,none⟩))),(6,.raw (.pointer (some ⟨b6,0,none⟩))),(7,.raw (.pointer (some ⟨b7,0,none⟩)))] (.box b7 31 (eDig id):: .box b6 65 (eIdent file):: .box b5 65 (eIdent x)::LF) ?_ ?_
 ·repeat' (first|(refine A7 (fun h=>?_) (fun h=>?_)<;>refine AW ?_)|(refine AR (fun h=>?_) (fun h=>?_)<;>refine AW ?_)|(refine AO (fun h=>?_) (fun h=>?_)<;>refine AW ?_)|(refine Aq (fun h=>?_) (fun h=>?_)<;>(have h2:=h;(try simp only[AB,A8,AH,AK]at h2);refine Bu ?_)))
  all_goals (refine⟨⟨Bp (by rfl) ?_,rfl,rfl,rfl,rfl⟩,.refl _⟩;first|(simp_all;done)|(simp_all;omega)|grind)
 refine AW ?_
 refine A7 (fun h=>?_) (fun h=>?_)
 ·refine AW ?_
  refine Ax (.of_eq ?_)
  rw[H4,if_pos h]
 rw[H4,if_neg h]
 refine Cz fun b9=>?_
 refine AO (fun h2=>?_) (fun h2=>?_)
 ·refine AW ?_
  refine Ax (.of_eq ?_)
  rw[Ea,if_pos (Kc h2)]
 refine AW ?_
 refine AO (fun h3=>?_) (fun h3=>?_)
 ·refine AW ?_
  refine Ax (.of_eq ?_)
  rw[Ea,if_neg (IH h2),if_pos (Kc h3)]
 ·refine AW ?_
  refine Ax (.of_eq ?_)
  rw[Ea,if_neg (IH h2),if_neg (IH h3)]⟩
def Jb (s:List Sto) (c:Chg):Int:=if FY c.file=true then Ea (IM s c.file) (EU c.kind)else 0
def MB (s:List Sto) (c:Chg):Int:=if FY c.parent=true then Ea (IM s c.parent) rDirectory else 0
def O3 (s:List Sto) (c:Chg) (id:Dig) (x:Ident):Int:=if FY x=false then 0 else Ea (IM s x) (HN c.kind (HO c.file id))
def LH (s:List Sto) (c:Chg) (id:Dig):Int:=
 if Jb s c≠0 then Jb s c else if MB s c≠0 then MB s c else if H4 s c.after c.file id≠0 then H4 s c.after c.file id else
 if H4 s c.before c.file id≠0 then H4 s c.before c.file id else Ay (O3 s c id) c.over
instance rV (s:List Sto) (c:Chg) (id:Dig) (t:C9) [hs:Aw (GQ s)]:C6 Tryz.prog 153 [.slice (s.map eSto) t,.agg (eChg c),.agg (eDig id)] (.raw (.int .i64 (LH s c id))):=⟨by
 refine Av Tryz.func153 Tryz.ntmps153 rfl (rs:= [.tmp 6]) rfl rfl fun hb LF=>?_
 have hlen:c.over.length≤140737488355328:=((hb (.agg (eChg c)) (by simp)).agg_at (c:= .slice (c.over.map eIdent) .ro) (by simp[eChg])).slice_map
 refine Cz fun b4=>?_
 refine Ew fun b5=>?_
 refine Cx (σ:=Unit) (fun _=>Jb s c=0) (fun _=> [(0,.slice (s.map eSto) t),(4,.raw (.pointer (some ⟨b4,0,none⟩))),(5,.raw (.pointer (some ⟨b5,0,none⟩)))]) (fun _=> .box b5 31 (eDig id):: .box b4 73 (eChg c)::LF) ?_ ?_
 ·refine AO (fun h=>?_) (fun h=>?_)
  ·have e:Jb s c=Ea (IM s c.file) (EU c.kind):=by rw[Jb,if_pos h]
   refine Cz fun b7=>?_
   refine AO (fun h2=>?_) (fun h2=>?_)
   ·refine AW ?_
    refine Ax (.of_eq ?_)
    rw[Ea,if_pos (Kc h2)]at e
    rw[LH,if_pos (by rw[e];decide),e]
   refine AW ?_
   refine AO (fun h3=>?_) (fun h3=>?_)
   ·refine AW ?_
    refine Ax (.of_eq ?_)
    rw[Ea,if_neg (IH h2),if_pos (Kc h3)]at e
    rw[LH,if_pos (by rw[e];decide),e]
   ·refine AW ?_
    rw[Ea,if_neg (IH h2),if_neg (IH h3)]at e
    exact⟨(),e,⟨rfl,rfl,rfl⟩,.cons _ (.refl _)⟩
  ·refine AW ?_
   exact⟨(),by rw[Jb,if_neg (by simp[h])],⟨rfl,rfl,rfl⟩,.refl _⟩
 rintro _ hF
 refine AW ?_
 refine Cx (σ:=Unit) (fun _=>MB s c=0) (fun _=> [(0,.slice (s.map eSto) t),(4,.raw (.pointer (some ⟨b4,0,none⟩))),(5,.raw (.pointer (some ⟨b5,0,none⟩)))]) (fun _=> .box b5 31 (eDig id):: .box b4 73 (eChg c)::LF) ?_ ?_
 ·refine AO (fun h=>?_) (fun h=>?_)
  ·have e:MB s c=Ea (IM s c.parent) rDirectory:=by rw[MB,if_pos h]
   refine Cz fun b7=>?_
   refine AO (fun h2=>?_) (fun h2=>?_)
   ·refine AW ?_
    refine Ax (.of_eq ?_)
    rw[Ea,if_pos (Kc h2)]at e
    rw[LH,if_neg (by simp[hF]),if_pos (by rw[e];decide),e]
   refine AW ?_
   refine AO (fun h3=>?_) (fun h3=>?_)
   ·refine AW ?_
    refine Ax (.of_eq ?_)
    rw[Ea,if_neg (IH h2),if_pos (Kc h3)]at e
    rw[LH,if_neg (by simp[hF]),if_pos (by rw[e];decide),e]
   ·refine AW ?_
    rw[Ea,if_neg (IH h2),if_neg (IH h3)]at e
    exact⟨(),e,⟨rfl,rfl,rfl⟩,.cons _ (.refl _)⟩
  ·refine AW ?_
   exact⟨(),by rw[MB,if_neg (by simp[h])],⟨rfl,rfl,rfl⟩,.refl _⟩
 rintro _ hP
 rw[LH,if_neg (by simp[hF]),if_neg (by simp[hP])]
 refine AW ?_
 refine AR (fun h1=>?_) (fun h1=>?_)
 ·refine AW ?_
  refine Ax (.of_eq ?_)
  rw[if_pos h1]
 rw[if_neg (by simp[h1])]
 refine AW ?_
 refine AR (fun h2=>?_) (fun h2=>?_)
 ·refine AW ?_
  refine Ax (.of_eq ?_)
  rw[if_pos h2]
 rw[if_neg (by simp[h2])]
 refine AW ?_
 refine AZ (σ:=Nat) (fun k=>k≤c.over.length∧ ∀ i (h:i < c.over.length),i < k→O3 s c id c.over[i]=0) (fun k=>c.over.length - k) (fun k=> [(0,.slice (s.map eSto) t),(4,.raw (.pointer (some ⟨b4,0,none⟩))),(5,.raw (.pointer (some ⟨b5,0,none⟩))),(13,.raw (.int .i64 k))]) (fun _=> .box b5 31 (eDig id):: .box b4 73 (eChg c)::LF) 0 ⟨by simp,by simp⟩ ⟨rfl,rfl,rfl,rfl⟩ (.refl _) ?_
 rintro k ⟨hk,he⟩
 refine AW ?_
 refine A7 (fun hc=>?_) (fun hc=>?_)
 ·have hlt:k < c.over.length:=by omega
  refine AW ?_
  refine AO (fun h=>?_) (fun h=>?_)
  ·refine AW ?_
   exact⟨k+1,⟨by omega,Dm he hlt (by rw[O3,if_pos (Kc h)])⟩,by dsimp only;omega,⟨rfl,rfl,rfl,rfl⟩,.refl _⟩
  have e:O3 s c id c.over[k]=Ea (IM s c.over[k]) (HN c.kind (HO c.file id)):=by rw[O3,if_neg (IH h)]
  refine Cz fun b14=>?_
  refine AO (fun h3=>?_) (fun h3=>?_)
  ·refine AW ?_
   refine Ax (.of_eq ?_)
   rw[Ea,if_pos (Kc h3)]at e
   rw[Cq hlt he (by rw[e];decide),e]
  refine AW ?_
  refine AO (fun h4=>?_) (fun h4=>?_)
  ·refine AW ?_
   refine Ax (.of_eq ?_)
   rw[Ea,if_neg (IH h3),if_pos (Kc h4)]at e
   rw[Cq hlt he (by rw[e];decide),e]
  ·refine AW ?_
   rw[Ea,if_neg (IH h3),if_neg (IH h4)]at e
   exact⟨k+1,⟨by omega,Dm he hlt e⟩,by dsimp only;omega,⟨rfl,rfl,rfl,rfl⟩,.cons _ (.refl _)⟩
 ·refine AW ?_
  refine Ax (.of_eq ?_)
  rw[DJ fun i h=>he i h (by omega)]⟩
def FX (s:List Sto) (p:Pat) (id:Dig):Int:=Ay (fun c=>LH s c id) p.changes
instance iC (s:List Sto) (p:Pat) (id:Dig) (t:C9) [hs:Aw (GQ s)]:C6 Tryz.prog 91 [.slice (s.map eSto) t,.agg (Bh p),.agg (eDig id)] (.raw (.int .i64 (FX s p id))):=⟨by
 refine Av Tryz.func91 Tryz.ntmps91 rfl (rs:= [.tmp 6]) rfl rfl fun hb LF=>?_
 have hlen:p.changes.length≤140737488355328:=((hb (.agg (Bh p)) (by simp)).agg_at (c:= .slice (p.changes.map eChg) .ro) (by simp[Bh])).slice_map
 refine Cz fun b4=>?_
 refine Ew fun b5=>?_
 refine AZ (σ:=Nat) (fun k=>k≤p.changes.length∧ ∀ i (h:i < p.changes.length),i < k→LH s p.changes[i] id=0) (fun k=>p.changes.length - k) (fun k=> [(0,.slice (s.map eSto) t),(4,.raw (.pointer (some ⟨b4,0,none⟩))),(5,.raw (.pointer (some ⟨b5,0,none⟩))),(7,.raw (.int .i64 k))]) (fun _=> .box b5 31 (eDig id):: .box b4 40 (Bh p)::LF) 0 ⟨by simp,by simp⟩ ⟨rfl,rfl,rfl,rfl⟩ (.refl _) ?_
 rintro k ⟨hk,he⟩
 refine AW ?_
 refine A7 (fun hc=>?_) (fun hc=>?_)
 ·have hlt:k < p.changes.length:=by omega
  refine AW ?_
  refine AR (fun h=>?_) (fun h=>?_)
  ·refine AW ?_
   refine Ax (.of_eq ?_)
   rw[FX,Cq hlt he h]
  ·refine AW ?_
   exact⟨k+1,⟨by omega,Dm (f:=fun c=>LH s c id) he hlt h⟩,by dsimp only;omega,⟨rfl,rfl,rfl,rfl⟩,.refl _⟩
 ·refine AW ?_
  refine Ax (.of_eq ?_)
  rw[FX,DJ fun i h=>he i h (by omega)]⟩
theorem oQ {b:Bool} (h:(!b)=false):b=true:=by cases b<;>simp_all
def FC (s:List Sto) (i:Nat):Int:=
 if(Ei (s.getD i Sto.zero).patch).2≠0 then(Ei (s.getD i Sto.zero).patch).2 else if(Ei (s.getD i Sto.zero).patch).1≠(s.getD i Sto.zero).id then 13 else
 if 0 < (i:Int)∧0≤EW (s.getD (i - 1) Sto.zero).id (Ei (s.getD i Sto.zero).patch).1 then 9 else 0
def JR (s:List Sto):Int:=
 if 400 < (s.length:Int)then 4 else if Ay (FC s) (List.range s.length)≠0 then Ay (FC s) (List.range s.length)else
 if s.all (fun x=>CW (ids s) (BB x.patch))=false then 19 else if((C5 s).length:Int) < s.length then 20 else Ay (fun(x:Sto)=>FX s x.patch x.id) s
instance vw (s:List Sto) (t:C9) [hs:Aw (GQ s)]:C6 Tryz.prog 34 [.slice (s.map eSto) t] (.raw (.int .i64 (JR s))):=⟨by
 obtain⟨hl8,hgr⟩:=hs.out
 refine Av Tryz.func34 Tryz.ntmps34 rfl (rs:= [.tmp 2]) rfl rfl fun hb LF=>?_
 refine AW ?_
 refine A7 (fun h1=>?_) (fun h1=>?_)
 ·omega
 rw[JR,if_neg h1]
 refine AW ?_
 refine AZ (σ:=Nat) (fun k=>k≤s.length∧ ∀ i (h:i < (List.range s.length).length),i < k→FC s (List.range s.length)[i]=0) (fun k=>s.length - k) (fun k=> [(0,.slice (s.map eSto) t),(3,.raw (.int .i64 k))]) (fun _=>LF) 0 ⟨by simp,by simp⟩ ⟨rfl,rfl⟩ (.refl _) ?_
 rintro k ⟨hk,he⟩
 refine AW ?_
 refine A7 (fun hc=>?_) (fun hc=>?_)
 ·have hlt:k < s.length:=by omega
  have hltr:k < (List.range s.length).length:=by simpa using hlt
  have ek:(List.range s.length)[k]=k:=by simp
  have e0:s.getD k Sto.zero=s[k]:=by simp[List.getD,hlt]
  have i1:Aw (E6 s[k].patch=false):=⟨hgr _ (AG hlt)⟩
  refine Cz fun b=>?_
  refine AR (fun h2=>?_) (fun h2=>?_)
  ·refine AW ?_
   refine Ax (.of_eq ?_)
   have e:FC s (List.range s.length)[k]=(Ei s[k].patch).2:=by rw[ek,FC,e0,if_pos h2]
   have f:=Cq hltr he (by rw[e];exact h2)
   rw[if_pos (by rw[f,e];exact h2),f,e]
  refine AW ?_
  refine AR (fun h3=>?_) (fun h3=>?_)
  ·refine AW ?_
   refine Ax (.of_eq ?_)
   have e:FC s (List.range s.length)[k]=13:=by rw[ek,FC,e0,if_neg (by simp[h2]),if_pos h3]
   have f:=Cq hltr he (by rw[e];decide)
   rw[if_pos (by rw[f,e];decide),f,e]
  refine AW ?_
  refine Aq (fun hp=>?_) (fun hp=>?_)
  ·have hp':0 < (k:Int):=Az hp
   refine Bu ?_
   have e1:s.getD (k - 1) Sto.zero=s[((k:Int) - 1).toNat]:=by
    have:((k:Int) - 1).toNat=k - 1:=by omega
    simp only[this]
    have h':k - 1 < s.length:=by omega
    simp[List.getD,h']
   refine A7 (fun h4=>?_) (fun h4=>?_)
   ·refine AW ?_
    refine Ax (.of_eq ?_)
    have e:FC s (List.range s.length)[k]=9:=by rw[ek,FC,e0,e1,if_neg (by simp[h2]),if_neg (by simp[h3]),if_pos ⟨hp',h4⟩]
    have f:=Cq hltr he (by rw[e];decide)
    rw[if_pos (by rw[f,e];decide),f,e]
   ·refine AW ?_
    have e:FC s (List.range s.length)[k]=0:=by rw[ek,FC,e0,e1,if_neg (by simp[h2]),if_neg (by simp[h3]),if_neg (fun h=>h4 h.2)]
    exact⟨k+1,⟨by omega,Dm he hltr e⟩,by dsimp only;omega,⟨rfl,rfl⟩,.cons _ (.refl _)⟩
  ·have hp': ¬0 < (k:Int):=Bf hp
   refine Bu ?_
   have e:FC s (List.range s.length)[k]=0:=by rw[ek,FC,e0,if_neg (by simp[h2]),if_neg (by simp[h3]),if_neg (fun h=>hp' h.1)]
   exact⟨k+1,⟨by omega,Dm he hltr e⟩,by dsimp only;omega,⟨rfl,rfl⟩,.cons _ (.refl _)⟩
 have hA:Ay (FC s) (List.range s.length)=0:=DJ fun i h=>he i h (by simp at h;omega)
 rw[if_neg (by simp[hA])]
 clear he hA hk hc
 refine AW ?_
 refine AZ (σ:=Nat) (fun k=>k≤s.length∧ ∀ i (h:i < s.length),i < k→CW (ids s) (BB s[i].patch)=true) (fun k=>s.length - k) (fun k=> [(0,.slice (s.map eSto) t),(6,.slice ((ids s).map eDig) .ro),(7,.raw (.int .i64 k))]) (fun _=>LF) 0 ⟨by simp,by simp⟩ ⟨rfl,rfl,rfl⟩ (.refl _) ?_
 rintro k ⟨hk,he⟩
 refine AW ?_
 refine A7 (fun hc=>?_) (fun hc=>?_)
 ·have hlt:k < s.length:=by omega
  have i1:Aw (E6 s[k].patch=false):=⟨hgr _ (AG hlt)⟩
  refine AW ?_
  refine AO (fun h=>?_) (fun h=>?_)
  ·refine AW ?_
   refine Ax (.of_eq ?_)
   have hx:CW (ids s) (BB s[k].patch)=false:=Kc h
   have hy:s.all (fun x=>CW (ids s) (BB x.patch))=false:=Gg hlt hx
   rw[if_pos hy]
  ·refine AW ?_
   have hx:CW (ids s) (BB s[k].patch)=true:=oQ h
   have hy: ∀ i (h:i < s.length),i < k+1→CW (ids s) (BB s[i].patch)=true:=fun i hi hik=>by
    rcases BJ i k with h'|h'
    ·exact he i hi h'
    ·have e:i=k:=by omega
     subst e;exact hx
   exact⟨k+1,⟨by omega,hy⟩,by dsimp only;omega,⟨rfl,rfl,rfl⟩,.refl _⟩
 have hB:s.all (fun x=>CW (ids s) (BB x.patch))=true:=HJ fun i h=>he i h (by omega)
 rw[if_neg (by simp[hB])]
 clear he hB hk hc
 refine AW ?_
 refine A7 (fun h=>?_) (fun h=>?_)
 ·refine AW ?_
  refine Ax (.of_eq ?_)
  rw[if_pos h]
 rw[if_neg h]
 refine AW ?_
 refine AZ (σ:=Nat) (fun k=>k≤s.length∧ ∀ i (h:i < s.length),i < k→FX s s[i].patch s[i].id=0) (fun k=>s.length - k) (fun k=> [(0,.slice (s.map eSto) t),(8,.raw (.int .i64 k))]) (fun _=>LF) 0 ⟨by simp,by simp⟩ ⟨rfl,rfl⟩ (.refl _) ?_
 rintro k ⟨hk,he⟩
 refine AW ?_
 refine A7 (fun hc=>?_) (fun hc=>?_)
 ·have hlt:k < s.length:=by omega
  refine AW ?_
  refine AR (fun h2=>?_) (fun h2=>?_)
  ·refine AW ?_
   refine Ax (.of_eq ?_)
   rw[Cq (f:=fun(x:Sto)=>FX s x.patch x.id) hlt he h2]
  ·refine AW ?_
   exact⟨k+1,⟨by omega,Dm (f:=fun(x:Sto)=>FX s x.patch x.id) he hlt h2⟩,by dsimp only;omega,⟨rfl,rfl⟩,.refl _⟩
 ·refine AW ?_
  refine Ax (.of_eq ?_)
  rw[DJ (f:=fun(x:Sto)=>FX s x.patch x.id) fun i h=>he i h (by omega)]⟩
theorem Ze {s:List Sto} (h:Fv s=false):GQ s:=by
 unfold Fv at h
 simp only[CG,A8,Bl]at h
 obtain⟨⟨h1,h2⟩,_⟩:=h
 refine⟨by omega,fun x hx=>?_⟩
 have:=h1 x (by rw[AA (by omega)];exact hx)
 exact Xq (by simpa using this)
def LG (s:List Sto):Bool:=!Fv s&&decide (JR s=0)
instance zA (s:List Sto) (t:C9):C6 Tryz.prog 9 [.slice (s.map eSto) t] (.raw (.bool (LG s))):=⟨by
 refine Av Tryz.func9 Tryz.ntmps9 rfl (rs:= [.tmp 2]) rfl rfl fun hb LF=>?_
 refine AW ?_
 refine Aq (fun hp=>?_) (fun hp=>?_)
 ·have i1:Aw (GQ s):=⟨Ze (by simpa using hp)⟩
  refine Bu ?_
  refine Ax (.of_eq ?_)
  rw[LG,hp,E5]
 ·refine Bu ?_
  refine Ax (.of_eq ?_)
  rw[LG,hp,uy]⟩
def Jd (s:List Sto) (x:Sto):List Sto:=s.takeWhile (fun y=>decide (EW y.id x.id < 0))++x::s.dropWhile (fun y=>decide (EW y.id x.id < 0))
theorem Y5 {α:Type} {q:α→Bool}: ∀ {l:List α} {k:Nat},k≤l.length→(∀ i (h:i < l.length),i < k→q l[i]=true)→(∀ h:k < l.length,q l[k]=false)→l.takeWhile q=l.take k∧l.dropWhile q=l.drop k
 | [],k,hk,_,_=>by simp
 |x::l,0,_,_,h=>by
  have:=h (by simp)
  simp only[BK]at this
  simp[this]
 |x::l,k+1,hk,h1,h2=>by
  have h0:=h1 0 (by simp) (by omega)
  simp only[BK]at h0
  have ih:=Y5 (l:=l) (k:=k) (q:=q) (by simpa using hk) (fun i h hi=>by have:=h1 (i+1) (by simpa using h) (by omega);simpa using this) (fun h=>by have:=h2 (by simpa using h);simpa using this)
  simp[h0,ih.1,ih.2]
instance zL (s:List Sto) (x:Sto) (t:C9) [hs:Aw (s.length≤1000)]:C6 Tryz.prog 106 [.slice (s.map eSto) t,.agg (eSto x)] (.slice ((Jd s x).map eSto) .ro):=⟨by
 have hlen:=hs.out
 refine Av Tryz.func106 Tryz.ntmps106 rfl (rs:= [.tmp 4]) rfl rfl fun hb LF=>?_
 refine Cz fun b=>?_
 refine AZ (σ:=Nat) (fun k=>k≤s.length∧ ∀ i (h:i < s.length),i < k→decide (EW s[i].id x.id < 0)=true) (fun k=>s.length - k) (fun k=> [(0,.slice (s.map eSto) t),(3,.raw (.pointer (some ⟨b,0,none⟩))),(5,.raw (.int .i64 k))]) (fun _=> .box b 59 (eSto x)::LF) 0 ⟨by simp,by simp⟩ ⟨rfl,rfl,rfl⟩ (.refl _) ?_
 rintro k ⟨hk,he⟩
 have fin:(∀ h:k < s.length,decide (EW s[k].id x.id < 0)=false)→Jd s x=s.take k++ [x]++s.drop k:=fun hn=>by
  obtain⟨e1,e2⟩:=Y5 (q:=fun(y:Sto)=>decide (EW y.id x.id < 0)) hk he hn
  rw[Jd,e1,e2];simp
 refine AW ?_
 refine BM [(21,.raw (.bool (decide ((k:Int) < s.length∧EW (s.getD k Sto.zero).id x.id < 0)))),(0,.slice (s.map eSto) t),(3,.raw (.pointer (some ⟨b,0,none⟩))),(5,.raw (.int .i64 k))] (.box b 59 (eSto x)::LF) ?_ ?_
 ·repeat' (first|(refine A7 (fun h=>?_) (fun h=>?_)<;>refine AW ?_)|(refine AR (fun h=>?_) (fun h=>?_)<;>refine AW ?_)|(refine AO (fun h=>?_) (fun h=>?_)<;>refine AW ?_)|(refine Aq (fun h=>?_) (fun h=>?_)<;>(have h2:=h;(try simp only[AB,A8,AH,AK]at h2);refine Bu ?_)))
  all_goals (refine⟨⟨Bp (by rfl) ?_,rfl,rfl,rfl⟩,.refl _⟩;first|(simp_all[List.getD];done)|grind)
 refine AW ?_
 refine A7 (fun h=>?_) (fun h=>?_)
 ·have hlt:k < s.length:=by omega
  have e0:s.getD k Sto.zero=s[k]:=by simp[List.getD,hlt]
  rw[e0]at h
  refine AW ?_
  exact⟨k+1,⟨by omega,KK (q:=fun(y:Sto)=>decide (EW y.id x.id < 0)) he hlt (BO h.2)⟩,by dsimp only;omega,⟨rfl,rfl,rfl⟩,.refl _⟩
 have hput:=fin (fun hlt=>by
  have e0:s.getD k Sto.zero=s[k]:=by simp[List.getD,hlt]
  rw[e0]at h
  exact Cf (fun h'=>h ⟨by omega,h'⟩))
 clear fin
 refine PG ?_
 refine fW 4 [4,7] ?_ ?_
 ·decide+kernel
 refine Bu ?_
 have tl:(s.take k).length≤1000:=by rw[Ab];omega
 have dl:(s.drop k).length≤1000:=by rw[B8];omega
 refine C4 (fuel:=4) [4,5] (by decide+kernel) (by simp) fun i hi=>?_
 simp only[AF,Aa,or_false]at hi
 rcases hi with rfl|rfl
 ·refine⟨_,rfl,?_⟩
  refine GG fun t1=>?_
  refine C4 (fuel:=3) [5] (by decide+kernel) (by simp) fun i hi=>?_
  simp only[AF,Aa,or_false]at hi
  subst hi
  refine⟨_,rfl,?_⟩
  refine Bu ?_
  refine C4 (fuel:=2) [6] (by decide+kernel) (by simp) fun i hi=>?_
  simp only[AF,Aa,or_false]at hi
  subst hi
  refine⟨_,rfl,?_⟩
  refine Bu ?_
  refine C4 (fuel:=1) [7] (by decide+kernel) (by simp) fun i hi=>?_
  simp only[AF,Aa,or_false]at hi
  subst hi
  refine⟨_,rfl,?_⟩
  refine GG fun t2=>?_
  refine C4 (fuel:=0) [8] (by decide+kernel) (by simp) fun i hi=>?_
  simp only[AF,Aa,or_false]at hi
  subst hi
  refine⟨_,rfl,?_⟩
  refine Bu ?_
  refine CR (by decide+kernel) ?_
  refine H3 fun t3=>?_
  refine Ax (.ros ?_)
  rw[hput]
 ·refine⟨_,rfl,?_⟩
  refine Bu ?_
  refine C4 (fuel:=3) [4,6] (by decide+kernel) (by simp) fun i hi=>?_
  simp only[AF,Aa,or_false]at hi
  rcases hi with rfl|rfl
  ·refine⟨_,rfl,?_⟩
   refine GG fun t1=>?_
   refine C4 (fuel:=2) [6] (by decide+kernel) (by simp) fun i hi=>?_
   simp only[AF,Aa,or_false]at hi
   subst hi
   refine⟨_,rfl,?_⟩
   refine Bu ?_
   refine C4 (fuel:=1) [7] (by decide+kernel) (by simp) fun i hi=>?_
   simp only[AF,Aa,or_false]at hi
   subst hi
   refine⟨_,rfl,?_⟩
   refine GG fun t2=>?_
   refine C4 (fuel:=0) [8] (by decide+kernel) (by simp) fun i hi=>?_
   simp only[AF,Aa,or_false]at hi
   subst hi
   refine⟨_,rfl,?_⟩
   refine Bu ?_
   refine CR (by decide+kernel) ?_
   refine H3 fun t3=>?_
   refine Ax (.ros ?_)
   rw[hput]
  ·refine⟨_,rfl,?_⟩
   refine Bu ?_
   refine C4 (fuel:=2) [4] (by decide+kernel) (by simp) fun i hi=>?_
   simp only[AF,Aa,or_false]at hi
   subst hi
   refine⟨_,rfl,?_⟩
   refine GG fun t1=>?_
   refine C4 (fuel:=1) [7] (by decide+kernel) (by simp) fun i hi=>?_
   simp only[AF,Aa,or_false]at hi
   subst hi
   refine⟨_,rfl,?_⟩
   refine GG fun t2=>?_
   refine C4 (fuel:=0) [8] (by decide+kernel) (by simp) fun i hi=>?_
   simp only[AF,Aa,or_false]at hi
   subst hi
   refine⟨_,rfl,?_⟩
   refine Bu ?_
   refine CR (by decide+kernel) ?_
   refine H3 fun t3=>?_
   refine Ax (.ros ?_)
   rw[hput]⟩
theorem H0 {P:Program} {ρ:Env} {L LF:List Res} {X:PV} {t u s T n b T':Nat} {cs:List PV} {x z:PV} [hT:Ek P T n] (h:ρ u= .raw (.pointer (some ⟨b,0,none⟩))) (hX:Le (.tuple [x,.agg cs,z]) X) (hx:ρ t=x:=by conv=>lhs;whnf) (hz:ρ s=z:=by conv=>lhs;whnf) (hm:Res.box b T' cs∈L:=by repeat(first|exact AI|apply AL)) (hn:cs.length=n:=by simp) (hs:LF.Sublist L:=by repeat(first|exact Ec _|apply List.Sublist.cons)):
  pw P [.tmp t,.cell u T,.tmp s] (fun r L'=>Le r X∧L'= []) LF .ret ρ L:=⟨trivial,_,[],.cons (.tmp t) (.cons (.cell u T h hm hT.out hn) (.cons (.tmp s) .nil)),hs,by subst hx;subst hz;exact hX,rfl⟩
def Ee (s:List Sto) (p:Pat):List Sto × Dig × Int:=
 if(Ei p).2≠0 then([],Dig.zero,(Ei p).2)else
 if(getS s (Ei p).1).isSome=true then(if p=(getS s (Ei p).1).getD Pat.zero then([],Dig.zero,6)else([],Dig.zero,14))else
 if CW (ids s) (BB p)=false then([],Dig.zero,19)else if FX s p (Ei p).1≠0 then([],Dig.zero,FX s p (Ei p).1)else
 if 400≤(s.length:Int)then([],Dig.zero,4)else(Jd s ⟨(Ei p).1,p⟩,(Ei p).1,0)
instance zn (s:List Sto) (p:Pat) (t:C9) [hg:Aw (E6 p=false)] [hs:Aw (GQ s)]:C6 Tryz.prog 43 [.slice (s.map eSto) t,.agg (Bh p)] (.tuple [.slice ((Ee s p).1.map eSto) .ro,.agg (eDig (Ee s p).2.1),.raw (.int .i64 (Ee s p).2.2)]):=⟨by
 have i1:Aw (s.length≤1000):=⟨by have:=hs.out.1;omega⟩
 refine Av Tryz.func43 Tryz.ntmps43 rfl (rs:= [.tmp 4,.cell 5 31,.tmp 6]) rfl rfl fun hb LF=>?_
 refine Cz fun b3=>?_
 refine Ew fun b5=>?_
 refine Ew fun b7=>?_
 refine AR (fun h1=>?_) (fun h1=>?_)
 ·refine AW ?_
  refine H0 rfl ?_
  rw[Ee,if_pos h1]
  exact .tuple3 (.ro _ _) (.refl _) (.refl _)
 rw[Ee,if_neg (by simp[h1])]
 refine Cz fun b9=>?_
 refine AO (fun h2=>?_) (fun h2=>?_)
 ·rw[if_pos h2]
  refine AW ?_
  refine A7 (fun h3=>?_) (fun h3=>?_)
  ·refine AW ?_
   refine H0 rfl ?_
   rw[if_pos h3]
   exact .tuple3 (.ro _ _) (.refl _) (.refl _)
  ·refine AW ?_
   refine H0 rfl ?_
   rw[if_neg h3]
   exact .tuple3 (.ro _ _) (.refl _) (.refl _)
 rw[if_neg (by simp[h2])]
 refine AW ?_
 refine AO (fun h3=>?_) (fun h3=>?_)
 ·refine AW ?_
  refine H0 rfl ?_
  rw[if_pos (Kc h3)]
  exact .tuple3 (.ro _ _) (.refl _) (.refl _)
 rw[if_neg (IH h3)]
 refine AW ?_
 refine AR (fun h4=>?_) (fun h4=>?_)
 ·refine AW ?_
  refine H0 rfl ?_
  rw[if_pos h4]
  exact .tuple3 (.ro _ _) (.refl _) (.refl _)
 rw[if_neg (fun h=>h h4)]
 refine AW ?_
 refine A7 (fun h5=>?_) (fun h5=>?_)
 ·have:=hs.out.1;omega
 rw[if_neg h5]
 refine PG ?_
 refine MC [false,false,false,false,false,false,false,true,false] ?_ ?_
 ·decide+kernel
 refine Bu ?_
 refine H0 rfl ?_
 exact .refl _⟩
end Go.Proofs
