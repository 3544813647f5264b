/- Contracts of the program: the atoms that a change makes, one by one. -/
import Derived.Test.YtaibdmankdppkaaGreatDoorVak
import Derived.Test.YtaibdmankdppkaaGreatDoorProg
import Derived.Shelf.LaysM
import Derived.Shelf.Strconv.Itoa3
import Derived.Shelf.SlSortCmp.NoneTotal
import Derived.Shelf.SlGeneric
import Derived.Ground.SlsfProg
import Derived.Test.YtaibdmankdppkaaGreatDoorVai
import Derived.Test.YtaibdmankdppkaaGreatDoorVaf
import Derived.Test.YtaibdmankdppkaaGreatDoorVaj
import Derived.Test.YtaibdmankdppkaaGreatDoorVae
set_option linter.unusedSimpArgs false
set_option linter.unusedVariables false
set_option maxHeartbeats 8000000
namespace Go.Proofs
open Go Go.Q
attribute [local irreducible] EY AU BH Fk NP
instance vL (first n:Int) [hs:Ay (0≤first∧first≤1000000000∧0≤n∧n≤100000)]:C9 Tryz.prog 150 [.raw (.int .i64 n),.pt [.raw (.int .i64 first)] 0] (.agg (eIdent ⟨Dig.zero,first+n⟩)):=⟨by
 obtain⟨h1,h2,h3,h4⟩:=hs.out
 refine Av Tryz.func150 Tryz.ntmps150 rfl (rs:= [.cell 3 65]) rfl rfl fun hb LF=>?_
 refine Y0 fun b=>?_
 exact Fi rfl (.refl _)⟩
theorem JF {c:Chg} {first:Int} {x:Atm} (e:Df c first= [x]):([]++ [x]) <+:Df c first:=by rw[e];exact⟨[],rfl⟩
theorem QI {k n:Nat} (h:k≤n):List.range k <+:List.range n:=by
 have:=List.take_prefix k (List.range n)
 rwa [List.take_range,Cp h]at this
theorem An {a b:Res} {L LF:List Res}:(a::b::(L++LF)).Perm (L++(a::b::LF)):=((BT (l₁:=L)).trans (.cons a BT)).symm
def qv (c:Chg) (first:Int):List PV:= [.pt [.raw (.int .i64 first)] 0,.pt (eChg c) 0]
def xm (a:Atm):List PV:= [.agg (eAtm a)]
theorem Rh (c:Chg) (first:Int) (hk:1≤c.kind∧c.kind≤7) (hl:c.lines.length≤2000∧0≤first∧first≤1000000000):eF Tryz.prog 149 (qv c first) xm (Df c first):=by
 intro l J Jx hY L hJ
 obtain⟨hl,hf0,hf1⟩:=hl
 have hz:Ay (0≤first∧first≤1000000000∧(0:Int)≤0∧(0:Int)≤100000):=⟨by omega⟩
 refine C8 Tryz.func149 rfl Tryz.ntmps149 (rs:= []) rfl rfl fun hb LF=>?_
 refine wn ?_
 refine A6 (fun h1=>?_) (fun h1=>?_)
 ·have e:Df c first= [{ Atm.zero with id:=⟨Dig.zero,first+0⟩,kind:=1,file:=⟨Dig.zero,first+0⟩,type:=c.type }]:=by rw[Df,if_pos h1,PF]
  refine BX 8 ?_ ?_
  ·decide+kernel
  refine wf ?_
  refine JT L LF rfl rfl rfl (.refl _) _ (hY [] _ L (JF e) hJ) fun b L' hR=>?_
  refine wf ?_
  refine⟨trivial,[],L',.nil,.refl _,?_⟩
  rcases hR with ⟨_,h⟩|⟨_,h⟩
  ·exact .inl (by rw[e];exact h)
  ·exact .inr ⟨_,h⟩
 refine wn ?_
 refine A6 (fun h2=>?_) (fun h2=>?_)
 ·have e:Df c first= [{ Atm.zero with id:=⟨Dig.zero,first+0⟩,kind:=2,file:=c.file,parent:=c.parent,name:=c.name,over:=c.over }]:=by rw[Df,if_neg h1,if_pos h2,PF]
  refine BX 12 ?_ ?_
  ·decide+kernel
  refine wf ?_
  refine JT L LF rfl rfl rfl (.refl _) _ (hY [] _ L (JF e) hJ) fun b L' hR=>?_
  refine wf ?_
  refine⟨trivial,[],L',.nil,.refl _,?_⟩
  rcases hR with ⟨_,h⟩|⟨_,h⟩
  ·exact .inl (by rw[e];exact h)
  ·exact .inr ⟨_,h⟩
 refine wn ?_
 refine A6 (fun h3=>?_) (fun h3=>?_)
 ·have e:Df c first= [{ Atm.zero with id:=⟨Dig.zero,first+0⟩,kind:=3,file:=c.file,mode:=c.mode,over:=c.over }]:=by rw[Df,if_neg h1,if_neg h2,if_pos h3,PF]
  refine BX 10 ?_ ?_
  ·decide+kernel
  refine wf ?_
  refine JT L LF rfl rfl rfl (.refl _) _ (hY [] _ L (JF e) hJ) fun b L' hR=>?_
  refine wf ?_
  refine⟨trivial,[],L',.nil,.refl _,?_⟩
  rcases hR with ⟨_,h⟩|⟨_,h⟩
  ·exact .inl (by rw[e];exact h)
  ·exact .inr ⟨_,h⟩
 refine wn ?_
 refine A6 (fun h4=>?_) (fun h4=>?_)
 ·have e:Df c first= [{ Atm.zero with id:=⟨Dig.zero,first+0⟩,kind:=4,file:=c.file,data:=c.data,over:=c.over }]:=by rw[Df,if_neg h1,if_neg h2,if_neg h3,if_pos h4,PF]
  refine BX 10 ?_ ?_
  ·decide+kernel
  refine wf ?_
  refine JT L LF rfl rfl rfl (.refl _) _ (hY [] _ L (JF e) hJ) fun b L' hR=>?_
  refine wf ?_
  refine⟨trivial,[],L',.nil,.refl _,?_⟩
  rcases hR with ⟨_,h⟩|⟨_,h⟩
  ·exact .inl (by rw[e];exact h)
  ·exact .inr ⟨_,h⟩
 refine wn ?_
 refine A6 (fun h6=>?_) (fun h6=>?_)
 ·have e:Df c first= [{ Atm.zero with id:=⟨Dig.zero,first+0⟩,kind:=6,file:=c.file,src:=c.after,dst:=c.before,over:=c.over }]:=by rw[Df,if_neg h1,if_neg h2,if_neg h3,if_neg h4,if_pos h6,PF]
  refine BX 12 ?_ ?_
  ·decide+kernel
  refine wf ?_
  refine JT L LF rfl rfl rfl (.refl _) _ (hY [] _ L (JF e) hJ) fun b L' hR=>?_
  refine wf ?_
  refine⟨trivial,[],L',.nil,.refl _,?_⟩
  rcases hR with ⟨_,h⟩|⟨_,h⟩
  ·exact .inl (by rw[e];exact h)
  ·exact .inr ⟨_,h⟩
 refine wn ?_
 refine A6 (fun h7=>?_) (fun h7=>?_)
 ·have e:Df c first= [{ Atm.zero with id:=⟨Dig.zero,first+0⟩,kind:=7,over:=c.over }]:=by rw[Df,if_neg h1,if_neg h2,if_neg h3,if_neg h4,if_neg h6,if_pos h7,PF]
  refine BX 6 ?_ ?_
  ·decide+kernel
  refine wf ?_
  refine JT L LF rfl rfl rfl (.refl _) _ (hY [] _ L (JF e) hJ) fun b L' hR=>?_
  refine wf ?_
  refine⟨trivial,[],L',.nil,.refl _,?_⟩
  rcases hR with ⟨_,h⟩|⟨_,h⟩
  ·exact .inl (by rw[e];exact h)
  ·exact .inr ⟨_,h⟩
 refine wn ?_
 refine A6 (fun h5=>?_) (fun h5=>?_)
 ·have e:Df c first=(List.range c.lines.length).map (Fe c first)++(List.range (c.lines.length+1)).map (Eu c first):=by rw[Df,if_neg h1,if_neg h2,if_neg h3,if_neg h4,if_neg h6,if_neg h7]
  have hc209: ∀ n:Nat,n≤4001→Ay (0≤first∧first≤1000000000∧(0:Int)≤n∧(n:Int)≤100000):=fun n hn=>⟨by omega⟩
  refine wf ?_
  refine AZ (σ:=Nat × List Res) (fun k=>k.1≤c.lines.length∧J ((List.range k.1).map (Fe c first)) k.2) (fun k=>c.lines.length - k.1) (fun k=> [(0,.raw (.func (.yield l) #[] #[])),(1,.pt [.raw (.int .i64 first)] 0),(2,.pt (eChg c) 0),(4,.clo 150 [.pt [.raw (.int .i64 first)] 0]),(93,.slice (c.lines.map eS) .ro),(94,.raw (.int .i64 c.lines.length)),(95,.raw (.int .i64 k.1))]) (fun k=>k.2++LF) (0,L) ⟨by simp,hJ⟩ ⟨rfl,rfl,rfl,rfl,rfl,rfl,rfl⟩ (.refl _) ?_
  rintro⟨k,L1⟩ ⟨hk,hJ1⟩
  dsimp only at hk hJ1 ⊢
  refine wn ?_
  refine A6 (fun hc=>?_) (fun hc=>?_)
  ·have hlt:k < c.lines.length:=by omega
   have hsk:=hc209 k (by omega)
   refine wn ?_
   refine BX 8 ?_ ?_
   ·decide+kernel
   refine wf ?_
   have hx:Fe c first k= { Atm.zero with id:=⟨Dig.zero,first+k⟩,kind:=5,file:=c.file,text:=c.lines[k] }:=by simp[Fe,List.getD,hlt]
   have hr:(List.range (k+1)).map (Fe c first)=(List.range k).map (Fe c first)++ [Fe c first k]:=by rw[EI,Au];rfl
   refine JT L1 LF rfl rfl rfl (.refl _) _ (hY ((List.range k).map (Fe c first)) { Atm.zero with id:=⟨Dig.zero,first+k⟩,kind:=5,file:=c.file,text:=c.lines[k] } L1 ?_ hJ1) fun b L' hR=>?_
   ·rw[←hx,←hr,e]
    exact((QI (by omega)).map _).trans (List.prefix_append _ _)
   rw[←hx,←hr]at hR
   refine wf ?_
   rcases hR with ⟨rfl,h⟩|⟨rfl,h⟩
   ·refine AO (t:=false) (fun h'=>by cases h') (fun _=>?_)
    refine wf ?_
    exact⟨(k+1,L'),⟨by dsimp only;omega,h⟩,by dsimp only;omega,⟨rfl,rfl,rfl,rfl,rfl,rfl,rfl⟩,.refl _⟩
   ·refine AO (t:=true) (fun _=>?_) (fun h'=>by cases h')
    refine wf ?_
    exact⟨trivial,[],L',.nil,.refl _,.inr ⟨_,h⟩⟩
  have hkk:k=c.lines.length:=by omega
  subst hkk
  generalize hA:(List.range c.lines.length).map (Fe c first)=A at e hJ1
  refine Y0 fun b8=>?_
  refine AZ (σ:=Nat × Ident × List Res) (fun k=>k.1≤c.lines.length+1∧(k.1≤c.lines.length→k.2.1=(if 0 < (k.1:Int)then⟨Dig.zero,first+k.1 - 1⟩else c.after))∧J (A++(List.range k.1).map (Eu c first)) k.2.2) (fun k=>c.lines.length+1 - k.1) (fun k=> [(0,.raw (.func (.yield l) #[] #[])),(1,.pt [.raw (.int .i64 first)] 0),(2,.pt (eChg c) 0),(4,.clo 150 [.pt [.raw (.int .i64 first)] 0]),(7,.raw (.int .i64 c.lines.length)),(8,.raw (.pointer (some ⟨b8,0,none⟩))),(117,.raw (.int .i64 (c.lines.length+1))),(118,.raw (.int .i64 k.1))]) (fun k=> .box b8 65 (eIdent k.2.1)::(k.2.2++LF)) (0,c.after,L1) ⟨by simp,fun _=>rfl,by simpa using hJ1⟩ ⟨rfl,rfl,rfl,rfl,rfl,rfl,rfl,rfl⟩ (.refl _) ?_
  rintro⟨k,fr,L1⟩ ⟨hk,hfr,hJ1⟩
  dsimp only at hk hfr hJ1 ⊢
  refine wf ?_
  refine A6 (fun hc=>?_) (fun hc=>?_)
  ·have hfr:=hfr (by omega)
   have hsk:=hc209 k (by omega)
   have hsk2:Ay (0≤first∧first≤1000000000∧(0:Int)≤c.lines.length+k∧(c.lines.length+k:Int)≤100000):=⟨by omega⟩
   refine Y0 fun b10=>?_
   refine Ca (σ:=Ident) (fun s=>s=if(k:Int) < c.lines.length then⟨Dig.zero,first+k⟩else c.before) (fun s=> [(0,.raw (.func (.yield l) #[] #[])),(1,.pt [.raw (.int .i64 first)] 0),(2,.pt (eChg c) 0),(4,.clo 150 [.pt [.raw (.int .i64 first)] 0]),(7,.raw (.int .i64 c.lines.length)),(8,.raw (.pointer (some ⟨b8,0,none⟩))),(9,.raw (.int .i64 k)),(10,.raw (.pointer (some ⟨b10,0,none⟩))),(117,.raw (.int .i64 (c.lines.length+1))),(118,.raw (.int .i64 k))]) (fun s=> .box b10 65 (eIdent s):: .box b8 65 (eIdent fr)::(L1++LF)) ?_ ?_
   ·refine A6 (fun h=>?_) (fun h=>?_)
    ·refine wf ?_
     exact⟨⟨Dig.zero,first+k⟩,by rw[if_pos h],⟨rfl,rfl,rfl,rfl,rfl,rfl,rfl,rfl,rfl,rfl⟩,.refl _⟩
    ·refine wf ?_
     exact⟨c.before,by rw[if_neg h],⟨rfl,rfl,rfl,rfl,rfl,rfl,rfl,rfl,rfl,rfl⟩,.refl _⟩
   rintro to hto
   refine wn ?_
   refine BX 11 ?_ ?_
   ·decide+kernel
   refine wf ?_
   have hx:Eu c first k= { Atm.zero with id:=⟨Dig.zero,first+(c.lines.length+k)⟩,kind:=6,file:=c.file,src:=fr,dst:=to }:=by rw[Eu,hfr,hto,Int.add_assoc]
   have hr:A++(List.range (k+1)).map (Eu c first)=(A++(List.range k).map (Eu c first))++ [Eu c first k]:=by rw[EI,Au,AV];rfl
   refine JT L1 (.box b10 65 (eIdent to):: .box b8 65 (eIdent fr)::LF) rfl rfl rfl An _ (hY (A++(List.range k).map (Eu c first)) { Atm.zero with id:=⟨Dig.zero,first+(c.lines.length+k)⟩,kind:=6,file:=c.file,src:=fr,dst:=to } L1 ?_ hJ1) fun b L' hR=>?_
   ·rw[←hx,←hr,e]
    exact(List.prefix_append_right_inj _).2 ((QI (by omega)).map _)
   rw[←hx,←hr]at hR
   refine wf ?_
   rcases hR with ⟨rfl,h⟩|⟨rfl,h⟩
   ·refine AO (t:=false) (fun h'=>by cases h') (fun _=>?_)
    refine EH An.symm ?_
    refine wf ?_
    refine⟨(k+1,to,L'),⟨by dsimp only;omega,?_,h⟩,by dsimp only;omega,⟨rfl,rfl,rfl,rfl,rfl,rfl,rfl,rfl⟩,.cons _ (.refl _)⟩
    intro h'
    dsimp only at h' ⊢
    rw[hto,if_pos (by omega),if_pos (by omega)]
    congr 1
    push_cast;omega
   ·refine AO (t:=true) (fun _=>?_) (fun h'=>by cases h')
    refine wf ?_
    exact⟨trivial,[],L',.nil,(EW _).append (.cons _ (.cons _ (.refl _))),.inr ⟨_,h⟩⟩
  refine wf ?_
  have hkk:k=c.lines.length+1:=by omega
  subst hkk
  exact⟨trivial,[],L1,.nil,.cons _ (.refl _),.inl (by rw[e];exact hJ1)⟩
 ·exact absurd h5 (by omega)
instance yZ (c:Chg) (first:Int):C9 Tryz.prog 84 [.agg (eChg c),.raw (.int .i64 first)] (.clo 149 (qv c first)):=⟨by
 refine Av Tryz.func84 Tryz.ntmps84 rfl (rs:= [.tmp 4]) rfl rfl fun hb LF=>?_
 refine wf ?_
 refine Aw (.of_eq ?_)
 rfl⟩
end Go.Proofs
namespace Go.Proofs
open Go.Shelf
def Tryz.laysItoa_ren:Go.Shelf.Ren:=⟨fun|171=>287|243=>302|246=>306|283=>308|284=>309|285=>310|286=>311|129=>179|317=>312|318=>313|319=>314|320=>315|337=>316|338=>317|n=>n,fun|3=>3|9=>9|2=>2|4=>4|171=>310|0=>0|53=>214|37=>159|5=>5|173=>312|212=>315|51=>212|20=>20|213=>316|46=>157|232=>30|233=>317|n=>n,fun|17=>1|18=>2|19=>3|n=>n⟩
theorem Tryz.laysItoa:Go.Proofs.LaysM.n171 Tryz.prog Tryz.laysItoa_ren:={
 mixed:=by kernel_rfl
 f129:=Tryz.func179.trans (congrArg some (by kernel_rfl))
 f171:=Tryz.func287.trans (congrArg some (by kernel_rfl))
 f243:=Tryz.func302.trans (congrArg some (by kernel_rfl))
 f246:=Tryz.func306.trans (congrArg some (by kernel_rfl))
 f283:=Tryz.func308.trans (congrArg some (by kernel_rfl))
 f284:=Tryz.func309.trans (congrArg some (by kernel_rfl))
 f285:=Tryz.func310.trans (congrArg some (by kernel_rfl))
 f286:=Tryz.func311.trans (congrArg some (by kernel_rfl))
 f317:=Tryz.func312.trans (congrArg some (by kernel_rfl))
 f318:=Tryz.func313.trans (congrArg some (by kernel_rfl))
 f319:=Tryz.func314.trans (congrArg some (by kernel_rfl))
 f320:=Tryz.func315.trans (congrArg some (by kernel_rfl))
 f337:=Tryz.func316.trans (congrArg some (by kernel_rfl))
 f338:=Tryz.func317.trans (congrArg some (by kernel_rfl))
 t0:=Tryz.underlying0
 a0:=Tryz.isAgg0
 z0:=Tryz.sizeOf0
 v0:=Tryz.zeroValue0
 t2:=Tryz.underlying2
 a2:=Tryz.isAgg2
 z2:=Tryz.sizeOf2
 v2:=Tryz.zeroValue2
 t3:=Tryz.underlying3
 a3:=Tryz.isAgg3
 z3:=Tryz.sizeOf3
 v3:=Tryz.zeroValue3
 t4:=Tryz.underlying4
 a4:=Tryz.isAgg4
 z4:=Tryz.sizeOf4
 v4:=Tryz.zeroValue4
 t5:=Tryz.underlying5
 a5:=Tryz.isAgg5
 z5:=Tryz.sizeOf5
 v5:=Tryz.zeroValue5
 t9:=Tryz.underlying9
 a9:=Tryz.isAgg9
 z9:=Tryz.sizeOf9
 v9:=Tryz.zeroValue9
 t20:=Tryz.underlying20
 a20:=Tryz.isAgg20
 z20:=Tryz.sizeOf20
 v20:=Tryz.zeroValue20
 t37:=Tryz.underlying159
 a37:=Tryz.isAgg159
 z37:=Tryz.sizeOf159
 v37:=Tryz.zeroValue159
 t46:=Tryz.underlying157
 a46:=Tryz.isAgg157
 z46:=Tryz.sizeOf157
 v46:=Tryz.zeroValue157
 t51:=Tryz.underlying212
 a51:=Tryz.isAgg212
 z51:=Tryz.sizeOf212
 v51:=Tryz.zeroValue212
 t53:=Tryz.underlying214
 a53:=Tryz.isAgg214
 z53:=Tryz.sizeOf214
 v53:=Tryz.zeroValue214
 t171:=Tryz.underlying310
 a171:=Tryz.isAgg310
 z171:=Tryz.sizeOf310
 v171:=Tryz.zeroValue310
 t173:=Tryz.underlying312
 a173:=Tryz.isAgg312
 z173:=Tryz.sizeOf312
 v173:=Tryz.zeroValue312
 t212:=Tryz.underlying315
 a212:=Tryz.isAgg315
 z212:=Tryz.sizeOf315
 v212:=Tryz.zeroValue315
 t213:=Tryz.underlying316
 a213:=Tryz.isAgg316
 z213:=Tryz.sizeOf316
 t232:=Tryz.underlying30
 a232:=Tryz.isAgg30
 z232:=Tryz.sizeOf30
 v232:=Tryz.zeroValue30
 t233:=Tryz.underlying317
 a233:=Tryz.isAgg317
 z233:=Tryz.sizeOf317
 v233:=Tryz.zeroValue317
 g17:=by kernel_rfl
 g18:=by kernel_rfl
 g19:=by kernel_rfl
 i0:=by kernel_rfl
 i2:=by kernel_rfl
 i3:=by kernel_rfl
 i4:=by kernel_rfl
 i5:=by kernel_rfl
 i9:=by kernel_rfl
 i20:=by kernel_rfl
 i37:=by kernel_rfl
 i46:=by kernel_rfl
 i51:=by kernel_rfl
 i53:=by kernel_rfl
 i171:=by kernel_rfl
 i173:=by kernel_rfl
 i212:=by kernel_rfl
 i232:=by kernel_rfl
 i233:=by kernel_rfl
 m17:=by kernel_rfl
 m18:=by kernel_rfl
 m19:=by kernel_rfl }
def Tryz.sortD_ren:Go.Shelf.Ren:=⟨fun|6=>60|15=>125|14=>124|28=>178|29=>179|20=>170|21=>171|22=>172|23=>173|24=>174|25=>175|26=>176|27=>177|46=>224|47=>225|48=>226|49=>227|50=>228|57=>283|n=>n,fun|22=>24|24=>31|25=>97|3=>3|39=>157|0=>0|53=>212|55=>214|4=>4|46=>206|45=>205|50=>134|5=>5|9=>9|66=>245|70=>249|76=>287|77=>288|n=>n,fun|n=>n⟩
theorem Tryz.sortD:Go.Proofs.SlLaysF0.n6 Tryz.prog Tryz.sortD_ren:={
 mixed:=by kernel_rfl
 f6:=⟨Tryz.f60.name,by decide,Tryz.func60.trans (congrArg some (by kernel_rfl))⟩
 f14:=⟨Tryz.f124.name,by decide,Tryz.func124.trans (congrArg some (by kernel_rfl))⟩
 f15:=Tryz.func125.trans (congrArg some (by kernel_rfl))
 f20:=⟨Tryz.f170.name,by decide,Tryz.func170.trans (congrArg some (by kernel_rfl))⟩
 f21:=⟨Tryz.f171.name,by decide,Tryz.func171.trans (congrArg some (by kernel_rfl))⟩
 f22:=⟨Tryz.f172.name,by decide,Tryz.func172.trans (congrArg some (by kernel_rfl))⟩
 f23:=⟨Tryz.f173.name,by decide,Tryz.func173.trans (congrArg some (by kernel_rfl))⟩
 f24:=⟨Tryz.f174.name,by decide,Tryz.func174.trans (congrArg some (by kernel_rfl))⟩
 f25:=⟨Tryz.f175.name,by decide,Tryz.func175.trans (congrArg some (by kernel_rfl))⟩
 f26:=⟨Tryz.f176.name,by decide,Tryz.func176.trans (congrArg some (by kernel_rfl))⟩
 f27:=⟨Tryz.f177.name,by decide,Tryz.func177.trans (congrArg some (by kernel_rfl))⟩
 f28:=Tryz.func178.trans (congrArg some (by kernel_rfl))
 f29:=Tryz.func179.trans (congrArg some (by kernel_rfl))
 f46:=⟨Tryz.f224.name,by decide,Tryz.func224.trans (congrArg some (by kernel_rfl))⟩
 f47:=Tryz.func225.trans (congrArg some (by kernel_rfl))
 f48:=Tryz.func226.trans (congrArg some (by kernel_rfl))
 f49:=⟨Tryz.f227.name,by decide,Tryz.func227.trans (congrArg some (by kernel_rfl))⟩
 f50:=⟨Tryz.f228.name,by decide,Tryz.func228.trans (congrArg some (by kernel_rfl))⟩
 f57:=⟨Tryz.f283.name,by decide,Tryz.func283.trans (congrArg some (by kernel_rfl))⟩
 t0:=Tryz.underlying0
 a0:=Tryz.isAgg0
 z0:=Tryz.sizeOf0
 v0:=Tryz.zeroValue0
 t3:=Tryz.underlying3
 a3:=Tryz.isAgg3
 z3:=Tryz.sizeOf3
 v3:=Tryz.zeroValue3
 t4:=Tryz.underlying4
 a4:=Tryz.isAgg4
 z4:=Tryz.sizeOf4
 v4:=Tryz.zeroValue4
 t5:=Tryz.underlying5
 a5:=Tryz.isAgg5
 z5:=Tryz.sizeOf5
 v5:=Tryz.zeroValue5
 t9:=Tryz.underlying9
 a9:=Tryz.isAgg9
 z9:=Tryz.sizeOf9
 v9:=Tryz.zeroValue9
 t22:=Tryz.underlying24
 a22:=Tryz.isAgg24
 z22:=Tryz.sizeOf24
 v22:=Tryz.zeroValue24
 t25:=Tryz.underlying97
 a25:=Tryz.isAgg97
 z25:=Tryz.sizeOf97
 v25:=Tryz.zeroValue97
 t39:=Tryz.underlying157
 a39:=Tryz.isAgg157
 z39:=Tryz.sizeOf157
 v39:=Tryz.zeroValue157
 t45:=Tryz.underlying205
 a45:=Tryz.isAgg205
 z45:=Tryz.sizeOf205
 v45:=Tryz.zeroValue205
 t46:=Tryz.underlying206
 a46:=Tryz.isAgg206
 z46:=Tryz.sizeOf206
 v46:=Tryz.zeroValue206
 t50:=Tryz.underlying134
 a50:=Tryz.isAgg134
 z50:=Tryz.sizeOf134
 v50:=Tryz.zeroValue134
 t53:=Tryz.underlying212
 a53:=Tryz.isAgg212
 z53:=Tryz.sizeOf212
 v53:=Tryz.zeroValue212
 t55:=Tryz.underlying214
 a55:=Tryz.isAgg214
 z55:=Tryz.sizeOf214
 v55:=Tryz.zeroValue214
 t66:=Tryz.underlying245
 a66:=Tryz.isAgg245
 z66:=Tryz.sizeOf245
 v66:=Tryz.zeroValue245
 t70:=Tryz.underlying249
 a70:=Tryz.isAgg249
 z70:=Tryz.sizeOf249
 v70:=Tryz.zeroValue249
 t76:=Tryz.underlying287
 a76:=Tryz.isAgg287
 z76:=Tryz.sizeOf287
 v76:=Tryz.zeroValue287
 t77:=Tryz.underlying288
 a77:=Tryz.isAgg288
 z77:=Tryz.sizeOf288
 v77:=Tryz.zeroValue288 }
end Go.Proofs
namespace Go.Proofs
open Go Go.Q Go.Shelf
attribute [local irreducible] EY AU BH Fk
theorem Qm (n:Nat):Lib.decDigits n=Hr n:=by
 induction n using Nat.strongRecOn with
 |_ n ih=>
  unfold Lib.decDigits
  by_cases h:n < 10
  ·rw[dif_pos h,IL h]
  ·rw[dif_neg h,MG h,ih (n / 10) (by omega)]
theorem oY (n:Int):Lib.itoa n=J9 n:=by
 unfold Lib.itoa J9
 by_cases h:n < 0
 ·rw[if_pos h,if_pos h,Qm,show n.natAbs=(-n).toNat by omega]
 ·rw[if_neg h,if_neg h,Qm]
theorem sF {w:World} {g:Gh} {L:List Res} (hi:Dt w g L):Lib.TabIs Tryz.prog w "internal/strconv.uint64pow10" .u64 Lib.pow10Tab:=by
 obtain⟨T,p,h⟩:=hi.satM _ _ hi.glob.tab
 unfold Lib.TabIs World.var?
 rw[show Tryz.prog.globalNamed "internal/strconv.uint64pow10" =some globAt by kernel_rfl]
 simp only[Hg,h]
 rfl
instance yy (n:Int) [hs:Ay (-140737488355328≤n∧n≤140737488355328)]:C9 Tryz.prog 287 [.raw (.int .i64 n)] (.str (J9 n)):=⟨tu fun vs w g LF hv hi=>by
 obtain⟨h0,h1⟩:=hs.out
 obtain⟨v,rfl⟩: ∃ v,vs= [v]:=by
  have:=hv.len
  match vs,this with
  | [v],_=>exact⟨v,rfl⟩
 rw[hv.uncons.1.raw_inv]
 refine(Any.strconv_Itoa Tryz.laysItoa n (by omega) (by omega) w (sF hi)).mono ?_
 rintro e w' ⟨rfl,k,os,rfl⟩
 refine⟨_,rfl,fun g=>by rw[oY];exact .str (by have:=Om (n:=n) ⟨h0,h1⟩;show _≤2 ^ 47;omega),rfl,rfl,rfl,lx _ _,?_,fun j hj=>?_⟩
 ·show w.heap.size≤(w.heap++os).size
  simp
 ·show(w.heap++os)[j]? =_
  rw[FE hj]⟩
def OQ (b:Nat) (p v:Value):Res:= .box b 263 [.raw p,.raw v]
def Ik (b:Nat):Value:= .pointer (some ⟨b,0,none⟩)
instance :uZ Tryz.prog 261 263 2:= .of (by kernel_rfl) (by kernel_rfl)
instance (v:Value):aJ Tryz.prog 307 [.raw v] (.raw v):=gH Tryz.func307 (by kernel_rfl) (by kernel_rfl) (by kernel_rfl) (by kernel_rfl) v
theorem Qn (b:Nat) (p v:Value) (hp:p= .pointer none∨p=Ik b):BH Tryz.prog 303 [.raw (Ik b)] [OQ b p v] (fun _ L'=>L'= [OQ b (Ik b) v]):=by
 refine C8 Tryz.func303 rfl Tryz.ntmps303 (rs:= []) rfl rfl fun hb LF=>?_
 rw[show [OQ b p v]++LF= .box b 263 [.raw p,.raw v]::LF from rfl]
 obtain⟨q,rfl,hq⟩: ∃ q,p= .pointer q∧(q=none∨q=some ⟨b,0,none⟩):=by
  rcases hp with rfl|rfl
  ·exact⟨none,rfl,.inl rfl⟩
  ·exact⟨_,rfl,.inr rfl⟩
 refine wf ?_
 refine sV rfl rfl ?_
 refine wf ?_
 rcases hq with rfl|rfl
 ·refine AO (t:=true) (fun _=>?_) (fun h=>by cases h)
  refine wf ?_
  refine ak (by kernel_rfl) (by decide) rfl AI (by simp) ?_
  refine qe (xs:= [.tmp 9]) (args:= [.raw (Ik b)]) rfl (fun i h1 h2=>by
   match i,h1,h2 with
   |0,_,_=>exact .refl _
   |m+1,h1,_=>exact absurd h1 (by simp)) rfl ?_
  refine Wi (by kernel_rfl) rfl AI (by kernel_rfl) ?_
  refine wf ?_
  refine Hl [.raw (Ik b),.raw v] rfl rfl rfl rfl (by simp) ?_
  refine wf ?_
  exact⟨trivial,[],[OQ b (Ik b) v],.nil,.refl _,rfl⟩
 ·refine AO (t:=false) (fun h=>by cases h) (fun _=>?_)
  refine wf ?_
  refine sR rfl rfl ?_
  refine wf ?_
  exact⟨trivial,[],[OQ b (Ik b) v],.nil,.refl _,rfl⟩
instance :gg Tryz.prog 159 5:= .of (by kernel_rfl) (by kernel_rfl) (by kernel_rfl)
def ru (b:Nat) (l:List UInt8) (L:List Res):Prop:= ∃ p v R,(p= .pointer none∨p=Ik b)∧LN 5 v l R∧L=OQ b p v::R
theorem Nr (b:Nat) (l s:List UInt8) (L:List Res) (hL:ru b l L) (hl:l.length+s.length≤140737488355328):BH Tryz.prog 290 [.raw (Ik b),.str s] L (fun _ L'=>ru b (l++s) L'):=by
 obtain⟨p,v,R,hp,hv,rfl⟩:=hL
 refine C8 Tryz.func290 rfl Tryz.ntmps290 (rs:= [.tmp 4,.tmp 5]) rfl rfl fun hb LF=>?_
 rw[show(OQ b p v::R)++LF= [OQ b p v]++(R++LF) from rfl]
 refine ws ?_
 refine CV (xs:= [.tmp 6]) [OQ b p v] (R++LF) (f:=303) (cs:= []) (C4 _) rfl rfl (.refl _) _ (Qn b p v hp) fun r L' e=>?_
 subst e
 refine wf ?_
 refine jT (R:=R) (LF:= .box b 263 [.raw (Ik b),.raw v]::LF) (fun R'=> .box b 263 [.raw (Ik b),.raw v]::(R'++LF)) (ay:= .str s) rfl rfl hv (BT (l₁:=R)).symm (fun R'=>BT) hl fun v' R' hv'=>?_
 refine wf ?_
 refine Hl [.raw (Ik b),.raw v'] rfl rfl hv'.one rfl (by simp) ?_
 refine wf ?_
 refine wf ?_
 exact⟨trivial,_,OQ b (Ik b) v'::R',.cons (.tmp 4) (.cons (.tmp 5) .nil),.refl _,_,v',R',.inr rfl,hv',rfl⟩
theorem Mh (b:Nat) (l:List UInt8) (c:UInt8) (L:List Res) (hL:ru b l L) (hl:l.length+1≤140737488355328):BH Tryz.prog 291 [.raw (Ik b),.raw (.int .u8 c.toNat)] L (fun _ L'=>ru b (l++ [c]) L'):=by
 obtain⟨p,v,R,hp,hv,rfl⟩:=hL
 refine C8 Tryz.func291 rfl Tryz.ntmps291 (rs:= [.tmp 4]) rfl rfl fun hb LF=>?_
 rw[show(OQ b p v::R)++LF= [OQ b p v]++(R++LF) from rfl]
 refine ws ?_
 refine CV (xs:= [.tmp 5]) [OQ b p v] (R++LF) (f:=303) (cs:= []) (C4 _) rfl rfl (.refl _) _ (Qn b p v hp) fun r L' e=>?_
 subst e
 refine wf ?_
 refine et (R:=R) (LF:= .box b 263 [.raw (Ik b),.raw v]::LF) (fun R'=> .box b 263 [.raw (Ik b),.raw v]::(R'++LF)) (t:= .ro) rfl rfl hv (BT (l₁:=R)).symm (fun R'=>BT) hl fun v' R' hv'=>?_
 refine wf ?_
 refine Hl [.raw (Ik b),.raw v'] rfl rfl hv'.one rfl (by simp) ?_
 refine wf ?_
 refine wf ?_
 exact⟨trivial,_,OQ b (Ik b) v'::R',.cons (.tmp 4) .nil,.refl _,_,v',R',.inr rfl,hv',rfl⟩
theorem eT (b:Nat) (l:List UInt8) (L:List Res) (hL:ru b l L) (h0:l≠ []) (hl:l.length≤140737488355328):BH Tryz.prog 251 [.raw (Ik b)] L (fun r L'=>r= .str l∧L'= []):=by
 obtain⟨p,v,R,hp,hv,rfl⟩:=hL
 cases hv with
 |nil=>exact absurd rfl h0
 |row h1 h2 h3=>
  rename_i r cap cur
  refine C8 Tryz.func251 rfl Tryz.ntmps251 (rs:= [.tmp 2]) rfl rfl fun hb LF=>?_
  have hcap:cap≠0:=by have:=Hb.2 h0;omega
  rw[show(OQ b p (.slice (some ⟨r,0,none⟩) l.length cap):: [.raw r (.cells cur 5 (0,0))])++LF= .box b 263 [.raw p,.raw (.slice (some ⟨r,0,none⟩) l.length cap)]:: .raw r (.cells cur 5 (0,0))::LF from rfl]
  refine wn ?_
  refine BX 10 ?_ ?_
  ·decide+kernel
  refine wf ?_
  refine YL rfl hcap ?_
  refine wf ?_
  refine IH rfl ?_
  refine wf ?_
  refine Su (E:=5) (by kernel_rfl) (by kernel_rfl) rfl rfl (.swap _ _ _) h0 (by omega) h3 hl ?_
  refine wf ?_
  exact⟨trivial,_,[],.cons (.tmp 2) .nil,.cons _ (.refl _),rfl,rfl⟩
end Go.Proofs
namespace Go.Proofs
open Go Go.Q
attribute [local irreducible] EY AU BH Fk
theorem dp: ∀ (d:Nat) (x:Sx),P5 d x→ ∀ (b:Nat) (l:List UInt8) (L:List Res),ru b l L→l.length+(Dq d x).length≤1000000000→BH Tryz.prog 250 [.raw (Ik b),.agg (eSx x)] L (fun _ L'=>ru b (l++Dq d x) L')
 |0,x,hw,_,_,_,_,_=>hw.elim
 |d+1,x,hw,b,l,L,hL,hl=>by
  have ih:=dp d
  refine C8 Tryz.func250 rfl Tryz.ntmps250 (rs:= []) rfl rfl fun hb LF=>?_
  have hlen:x.list.length≤140737488355328:=by
   have:=(hb (.agg (eSx x)) (by simp)).agg_at (c:= .slice (x.list.map eSx) .ro) (by rw[Fj];simp)
   exact this.slice_map
  refine wf ?_
  refine AO (fun h2=>?_) (fun h2=>?_)
  ·have hB:x.isList=false:=by simpa using h2
   rcases hw with ⟨_,h3,h4⟩|⟨h3,_⟩
   ·have:Ay (-140737488355328≤(x.atom.length:Int)∧(x.atom.length:Int)≤140737488355328):=⟨by omega,by omega⟩
    have e:J9 (x.atom.length:Int)=Hr x.atom.length:=by
     rw[J9,if_neg (by omega)];rfl
    have he:Dq (d+1) x=Hr x.atom.length++58::x.atom:=by simp[Dq,hB]
    rw[he]at hl ⊢
    simp only[AD,AN]at hl
    refine wf ?_
    refine CV (xs:= [.tmp 9,.tmp 13]) L LF (f:=290) (cs:= []) (C4 _) rfl rfl (.refl _) _ (Nr b l (J9 (x.atom.length:Int)) L hL (by rw[e];omega)) fun r L1 hL1=>?_
    rw[e]at hL1
    refine wf ?_
    refine wf ?_
    refine CV (xs:= [.tmp 15,.const (.int .u8 58)]) L1 LF (f:=291) (cs:= []) (C4 _) rfl rfl (.refl _) _ (Mh b (l++Hr x.atom.length) 58 L1 hL1 (by simp only[AD];omega)) fun r L2 hL2=>?_
    refine wf ?_
    refine wf ?_
    refine CV (xs:= [.tmp 17,.tmp 19]) L2 LF (f:=290) (cs:= []) (C4 _) rfl rfl (.refl _) _ (Nr b (l++Hr x.atom.length++ [58]) x.atom L2 hL2 (by simp only[AD,AN,Ae];omega)) fun r L3 hL3=>?_
    refine wf ?_
    refine wf ?_
    exact⟨trivial,_,L3,.nil,.refl _,by simpa using hL3⟩
   ·rw[hB]at h3;cases h3
  have hB:x.isList=true:=by simpa using h2
  rcases hw with ⟨h3,_⟩|⟨_,ha,hw⟩
  ·rw[hB]at h3;cases h3
  have he:Dq (d+1) x=40::(x.list.flatMap (Dq d)++ [41]):=by simp[Dq,hB]
  rw[he]at hl ⊢
  simp only[AN,AD,Ae]at hl
  refine wf ?_
  refine CV (xs:= [.tmp 21,.const (.int .u8 40)]) L LF (f:=291) (cs:= []) (C4 _) rfl rfl (.refl _) _ (Mh b l 40 L hL (by omega)) fun r L1 hL1=>?_
  refine wf ?_
  refine wf ?_
  refine AZ (σ:=Nat × List Res) (fun k=>k.1≤x.list.length∧ru b (l++40::(x.list.take k.1).flatMap (Dq d)) k.2) (fun k=>x.list.length - k.1) (fun k=> [(0,.raw (Ik b)),(24,.slice (x.list.map eSx) .ro),(25,.raw (.int .i64 x.list.length)),(26,.raw (.int .i64 k.1))]) (fun k=>k.2++LF) (0,L1) ⟨by simp,by simpa using hL1⟩ ⟨rfl,rfl,rfl,rfl⟩ (.refl _) ?_
  rintro⟨k,L2⟩ ⟨hk,hL2⟩
  dsimp only at hk hL2 ⊢
  have hsl:=JN (l:=x.list) (f:=Dq d) (k:=k)
  refine wf ?_
  refine A6 (fun hc=>?_) (fun hc=>?_)
  ·have hlt:k < x.list.length:=by omega
   have hel:=JN (l:=x.list) (f:=Dq d) (k:=k+1)
   rw[Iv hlt,AD]at hel
   refine wz fun b5=>?_
   refine B2 5 ?_
   refine wf ?_
   refine CV (xs:= [.tmp 30,.tmp 31]) L2 LF (f:=250) (cs:= []) (C4 _) rfl rfl (.refl _) _ (ih x.list[k] (hw _ (AH hlt)) b _ L2 hL2 (by simp only[AD,AN];omega)) fun r L3 hL3=>?_
   refine wf ?_
   refine wf ?_
   refine⟨(k+1,L3),⟨by dsimp only;omega,?_⟩,by dsimp only;omega,⟨rfl,rfl,rfl,rfl⟩,.refl _⟩
   dsimp only
   rw[Iv hlt]
   simpa using hL3
  ·rw[AB (by omega)]at hL2
   refine wf ?_
   refine CV (xs:= [.tmp 34,.const (.int .u8 41)]) L2 LF (f:=291) (cs:= []) (C4 _) rfl rfl (.refl _) _ (Mh b _ 41 L2 hL2 (by simp only[AD,AN];omega)) fun r L3 hL3=>?_
   refine wf ?_
   refine wf ?_
   exact⟨trivial,_,L3,.nil,.refl _,by simpa using hL3⟩
def Tu (b:Nat) (n:Int):Res:= .box b 293 [.raw (.int .i64 n),.raw (.bool false)]
theorem eD: ∀ (d:Nat) (x:Sx),P5 d x→ ∀ (b:Nat) (n lv:Int),0≤n→n+Ic d x≤20000→1≤lv→lv+d≤13→BH Tryz.prog 288 [.raw (Ik b),.agg (eSx x),.raw (.int .i64 lv)] [Tu b n] (fun _ L'=>L'= [Tu b (n+Ic d x)])
 |0,x,hw,_,_,_,_,_,_,_=>hw.elim
 |d+1,x,hw,b,n,lv,hn0,hn,hl0,hl=>by
  have ih:=eD d
  have hpos:1≤Ic (d+1) x:=by unfold Ic;split<;>omega
  refine C8 Tryz.func288 rfl Tryz.ntmps288 (rs:= []) rfl rfl fun hb LF=>?_
  have hlen:x.list.length≤140737488355328:=by
   have:=(hb (.agg (eSx x)) (by simp)).agg_at (c:= .slice (x.list.map eSx) .ro) (by rw[Fj];simp)
   exact this.slice_map
  rw[show [Tu b n]++LF= .box b 293 [.raw (.int .i64 n),.raw (.bool false)]::LF from rfl]
  refine wf ?_
  refine Hl [.raw (.int .i64 (n+1)),.raw (.bool false)] rfl rfl rfl rfl (by simp) ?_
  refine wf ?_
  refine wf ?_
  refine Ao (fun hp=>?_) (fun hp=>?_)
  ·have:=BP hp;omega
  refine wf ?_
  refine A6 (fun h1=>?_) (fun h1=>?_)
  ·omega
  refine wf ?_
  refine AO (fun h2=>?_) (fun h2=>?_)
  ·refine wf ?_
   have:x.isList=false:=by simpa using h2
   exact⟨trivial,_,[Tu b (n+1)],.nil,.refl _,by simp[Ic,this]⟩
  have hB:x.isList=true:=by simpa using h2
  rcases hw with ⟨h3,_⟩|⟨_,_,hw⟩
  ·rw[hB]at h3;cases h3
  have hnd:Ic (d+1) x=1+(x.list.map (Ic d)).sum:=by simp[Ic,hB]
  rw[hnd]at hn ⊢
  refine wf ?_
  refine AZ (σ:=Nat) (fun k=>k≤x.list.length) (fun k=>x.list.length - k) (fun k=> [(0,.raw (Ik b)),(2,.raw (.int .i64 lv)),(31,.slice (x.list.map eSx) .ro),(32,.raw (.int .i64 x.list.length)),(33,.raw (.int .i64 k))]) (fun k=>Tu b (n+(1+((x.list.map (Ic d)).take k).sum:Nat))::LF) 0 (by simp) ⟨rfl,rfl,rfl,rfl,rfl⟩ (by simp;exact .refl _) ?_
  intro k hk
  have hsk:=L5 (l:=x.list.map (Ic d)) (k:=k)
  have hsk1:=L5 (l:=x.list.map (Ic d)) (k:=k+1)
  refine wf ?_
  refine A6 (fun hc=>?_) (fun hc=>?_)
  ·have hlt:k < x.list.length:=by omega
   have e:((x.list.map (Ic d)).take (k+1)).sum=((x.list.map (Ic d)).take k).sum+Ic d x.list[k]:=by
    rw[A7 (by simpa using hlt),FH];simp
   refine wz fun b7=>?_
   refine B2 7 ?_
   rw[show Tu b (n+(1+((x.list.map (Ic d)).take k).sum:Nat))::LF= .box b 293 [.raw (.int .i64 (n+(1+((x.list.map (Ic d)).take k).sum:Nat))),.raw (.bool false)]::LF from rfl]
   refine wf ?_
   refine CV (xs:= [.tmp 41,.tmp 42,.tmp 44]) [Tu b (n+(1+((x.list.map (Ic d)).take k).sum:Nat))] LF (f:=288) (cs:= []) (C4 _) rfl rfl (.refl _) _ (ih x.list[k] (hw _ (AH hlt)) b _ (lv+1) (by omega) (by omega) (by omega) (by omega)) fun r L3 hL3=>?_
   subst hL3
   refine wf ?_
   refine wf ?_
   refine⟨k+1,by omega,by dsimp only;omega,⟨rfl,rfl,rfl,rfl,rfl⟩,?_⟩
   show(Tu b (n+((1+((x.list.map (Ic d)).take (k+1)).sum:Nat):Int))::LF).Sublist _
   rw[e,show n+((1+(((x.list.map (Ic d)).take k).sum+Ic d x.list[k]):Nat):Int)=n+((1+((x.list.map (Ic d)).take k).sum:Nat):Int)+(Ic d x.list[k]:Int) by omega]
   exact .refl _
  ·refine wf ?_
   rw[AB (by simp;omega)]
   exact⟨trivial,_,[Tu b (n+(1+(x.list.map (Ic d)).sum:Nat))],.nil,.refl _,rfl⟩
theorem VJ: ∀ (d:Nat) (x:Sx),P5 d x→Q.Fn Tryz.prog 289 [.agg (eSx x)] (.raw (.int .i64 0))
 |0,x,hw=>hw.elim
 |d+1,x,hw=>by
  have ih: ∀ (y:Sx),[Ay (P5 d y)]→C9 Tryz.prog 289 [.agg (eSx y)] (.raw (.int .i64 0)):=fun y h=>⟨VJ d y h.out⟩
  refine Av Tryz.func289 Tryz.ntmps289 rfl (rs:= [.tmp 2]) rfl rfl fun hb LF=>?_
  have hlen:x.list.length≤140737488355328:=by
   have:=(hb (.agg (eSx x)) (by simp)).agg_at (c:= .slice (x.list.map eSx) .ro) (by rw[Fj];simp)
   exact this.slice_map
  have hsh:(x.isList=true→x.atom= [])∧(x.isList=false→x.list= [])∧x.atom.length≤65536∧ ∀ y∈x.list,P5 d y:=by
   rcases hw with ⟨h1,h2,h3⟩|⟨h1,h2,h3⟩
   ·exact⟨fun h=>(by rw[h1]at h;cases h),fun _=>h2,h3,fun y hy=>(by rw[h2]at hy;cases hy)⟩
   ·exact⟨fun _=>h2,fun h=>(by rw[h1]at h;cases h),by rw[h2];simp,h3⟩
  refine wf ?_
  refine BG [(6,.raw (.bool (false))),(1,.pt (eSx x) 0)] (LF) ?_ ?_
  ·repeat' (first|(refine A6 (fun h=>?_) (fun h=>?_)<;>refine wf ?_)|(refine AR (fun h=>?_) (fun h=>?_)<;>refine wf ?_)|(refine AO (fun h=>?_) (fun h=>?_)<;>refine wf ?_)|(refine Ao (fun h=>?_) (fun h=>?_)<;>(have h2:=h;(try simp only[AA,A8,AF,AJ]at h2);refine wf ?_)))
   all_goals (refine⟨⟨Bh (by rfl) ?_,rfl⟩,.refl _⟩;(have:=hsh.1;have:=hsh.2.1;cases hB:x.isList<;>simp_all))
  refine wf ?_
  refine A6 (fun h5=>?_) (fun h5=>?_)
  ·have:=hsh.2.2.1;omega
  refine wf ?_
  refine AZ (σ:=Nat) (fun k=>k≤x.list.length) (fun k=>x.list.length - k) (fun k=> [(31,.slice (x.list.map eSx) .ro),(32,.raw (.int .i64 x.list.length)),(33,.raw (.int .i64 k))]) (fun _=>LF) 0 (by simp) ⟨rfl,rfl,rfl⟩ (.refl _) ?_
  intro k hk
  refine wf ?_
  refine A6 (fun hc=>?_) (fun hc=>?_)
  ·have hlt:k < x.list.length:=by omega
   have:Ay (P5 d x.list[k]):=⟨hsh.2.2.2 _ (AH hlt)⟩
   refine wz fun b4=>?_
   refine B2 4 ?_
   refine wf ?_
   exact⟨k+1,by omega,by dsimp only;omega,⟨rfl,rfl,rfl⟩,.refl _⟩
  ·refine wf ?_
   exact Aw (.refl _)
instance :Ck Tryz.prog 293 [.raw (.int .i64 0),.raw (.bool false)]:=Ck.of (us:= [PV.raw (.int .i64 0),.raw (.bool false)].map zv) (by kernel_rfl) (by kernel_rfl)
instance uk (x:Sx) [hs:Ay (oD x)]:C9 Tryz.prog 249 [.agg (eSx x)] (.raw (.int .i64 0)):=⟨by
 obtain⟨h1,h2⟩:=hs.out
 have i2:C9 Tryz.prog 289 [.agg (eSx x)] (.raw (.int .i64 0)):=⟨VJ 8 x h1⟩
 refine Av Tryz.func249 Tryz.ntmps249 rfl (rs:= [.tmp 2]) rfl rfl fun hb LF=>?_
 refine s7 fun b1=>?_
 refine s7 fun b5=>?_
 refine CV (xs:= [.tmp 6,.tmp 7,.const (.int .i64 1)]) [Tu b5 0] (.box b1 196 (eSx x)::LF) (f:=288) (cs:= []) (C4 _) rfl rfl (.refl _) _ (eD 8 x h1 b5 0 1 (by omega) (by omega) (by omega) (by omega)) fun r L3 hL3=>?_
 subst hL3
 rw[show [Tu b5 (0+Ic 8 x)]++(.box b1 196 (eSx x)::LF)= .box b5 293 [.raw (.int .i64 (0+Ic 8 x)),.raw (.bool false)]:: .box b1 196 (eSx x)::LF from rfl]
 refine wk ?_
 refine wk ?_
 exact Aw (.refl _)⟩
instance :Ck Tryz.prog 263 [.raw (.pointer none),.raw (.slice none 0 0)]:=Ck.of (us:= [PV.raw (.pointer none),.raw (.slice none 0 0)].map zv) (by kernel_rfl) (by kernel_rfl)
theorem pC {d:Nat} {x:Sx} (h:P5 d x):Dq d x≠ []:=by
 cases d with
 |zero=>exact h.elim
 |succ d=>unfold Dq;split<;>simp
instance rp (x:Sx) [hs:Ay (oD x∧(Dq 8 x).length≤1000000000)]:C9 Tryz.prog 200 [.agg (eSx x)] (.tuple [.str (Dq 8 x),.raw (.int .i64 0)]):=⟨by
 obtain⟨h1,h2⟩:=hs.out
 have:Ay (oD x):=⟨h1⟩
 refine Av Tryz.func200 Tryz.ntmps200 rfl (rs:= [.tmp 2,.tmp 3]) rfl rfl fun hb LF=>?_
 refine Y0 fun b=>?_
 rw[show Res.box b 263 [.raw (.pointer none),.raw (.slice none 0 0)]::LF= [OQ b (.pointer none) (.slice none 0 0)]++LF from rfl]
 refine CV (xs:= [.tmp 5,.tmp 11]) [OQ b (.pointer none) (.slice none 0 0)] LF (f:=250) (cs:= []) (C4 _) rfl rfl (.refl _) _ (dp 8 x h1.1 b [] _ ⟨.pointer none,.slice none 0 0,[],.inl rfl,.nil,rfl⟩ (by simpa using h2)) fun r L1 hL1=>?_
 rw[BB]at hL1
 refine wf ?_
 refine wf ?_
 refine CV (xs:= [.tmp 5]) L1 LF (f:=251) (cs:= []) (C4 _) rfl rfl (.refl _) _ (eT b (Dq 8 x) L1 hL1 (pC h1.1) (by omega)) fun r L2 ⟨hr,hL2⟩=>?_
 subst hr
 subst hL2
 refine wf ?_
 refine wf ?_
 refine HD ?_
 exact .refl _⟩
instance yz (n:Int):C9 Tryz.prog 248 [.raw (.int .i64 n)] (.tuple [.agg (eSx (RP n).1),.raw (.int .i64 (RP n).2)]):=⟨by
 refine Av Tryz.func248 Tryz.ntmps248 rfl (rs:= [.cell 2 196,.tmp 3]) rfl rfl fun hb LF=>?_
 refine Y0 fun b=>?_
 refine BG [(9,.raw (.bool (decide (n < -1099511627776∨1099511627776 < n)))),(0,.raw (.int .i64 n)),(2,.raw (.pointer (some ⟨b,0,none⟩)))] (.box b 196 (eSx Sx.zero)::LF) ?_ ?_
 ·repeat' (first|(refine A6 (fun h=>?_) (fun h=>?_)<;>refine wf ?_)|(refine AR (fun h=>?_) (fun h=>?_)<;>refine wf ?_)|(refine AO (fun h=>?_) (fun h=>?_)<;>refine wf ?_)|(refine Ao (fun h=>?_) (fun h=>?_)<;>(have h2:=h;(try simp only[AA,A8,AF,AJ]at h2);refine wf ?_)))
  all_goals (refine⟨⟨Bh (by rfl) ?_,rfl,rfl⟩,.refl _⟩;first|(simp_all;done)|grind)
 refine wf ?_
 refine A6 (fun h=>?_) (fun h=>?_)
 ·refine wf ?_
  refine LK rfl (.of_eq ?_)
  rw[RP,if_pos h]
 ·have:Ay (-140737488355328≤n∧n≤140737488355328):=⟨by omega⟩
  refine wf ?_
  refine LK rfl (.of_eq ?_)
  rw[RP,if_neg h];rfl⟩
instance xr (s:Str):C9 Tryz.prog 197 [.str s] (.agg (eSx (Cj s))):=⟨by
 refine Av Tryz.func197 Tryz.ntmps197 rfl (rs:= [.cell 2 196]) rfl rfl fun hb LF=>?_
 refine Y0 fun b=>?_
 refine Fi rfl (.of_eq ?_)
 rfl⟩
@[reducible] def SN (l:List Sx) (t:CD):List PV:= [.raw (.bool true),.str [],.slice (l.map eSx) t]
theorem kL (l:List Sx):SN l .ro=eSx (E6 l):=by rw[Fj];rfl
theorem bT (l:List Sx) (t:CD):Le (.agg (SN l t)) (.agg (eSx (E6 l))):=fun g v hv=>by
 obtain⟨vs,rfl,h⟩:=hv.agg_inv
 match vs,h with
 | [a,b,c],h=>
   rw[←kL]
   exact E7.agg (.cons h.uncons.1 (.cons h.uncons.2.uncons.1 (.cons h.uncons.2.uncons.2.uncons.1.ro (.nil g))))
 | [],h=>have:=h.len;simp at this
 | [_],h=>have:=h.len;simp at this
 | [_,_],h=>have:=h.len;simp at this
 |_::_::_::_::_,h=>have:=h.len;simp at this
instance (l:List Sx) (t:CD):Fw (.agg (SN l t)) eSx (E6 l):=⟨fun g v hv=>Cw.agg _ g v (bT l t g v hv)⟩
instance {x y z:PV}:At [x,y,z] 2 z:=⟨rfl⟩
instance (c:Sx) (l:List Sx) (t:CD):Eg (eSx c) 0 (SN l t) (SN l t):=⟨by rw[Fj];simp⟩
instance (l:List Sx) (t:CD):Cx (SN l t) 3:=⟨rfl⟩
instance (l:List Sx) (t:CD):Di (SN l t):=by unfold SN;infer_instance
theorem Tz (l:List Sx) (t:CD):Q.Fn Tryz.prog 196 [.slice (l.map eSx) t] (.agg (SN l t)):=by
 refine Av Tryz.func196 Tryz.ntmps196 rfl (rs:= [.cell 2 196]) rfl rfl fun hb LF=>?_
 refine DT ?_
 refine CK (by kernel_rfl) ?_
 refine CA fun b=>?_
 refine AE ?_
 refine DT ?_
 refine CK (by kernel_rfl) ?_
 refine KC (by(conv=>lhs;whnf);done) ?_
 refine Ya (z:=eSx Sx.zero) (c0:= [.raw (.bool true)]) (c1:= [.slice (l.map eSx) t]) (r1:=SN l t) (hP0:=⟨rfl,by simp⟩) (hP1:=⟨rfl,by simp⟩) ?_ ?_ rfl rfl ?_
 ·exact Cw.one (c:= .raw (.bool true)) Di.out
 ·exact Cw.one (c:= .slice (l.map eSx) t) Di.out
 refine wf ?_
 exact Fi rfl (.refl _)
instance xN (l:List Sx):C9 Tryz.prog 196 [.slice (l.map eSx) .ro] (.agg (eSx (E6 l))):=⟨kL l ▸ Tz l .ro⟩
instance (priority:=low) xL (l:List Sx) (t:CD):C9 Tryz.prog 196 [.slice (l.map eSx) t] (.agg (SN l t)):=⟨Tz l t⟩
instance xO:C9 Tryz.prog 196 [.slice [] .nil] (.agg (SN [] .nil)):=⟨Tz [] .nil⟩
instance tQ (n:Int):C9 Tryz.prog 199 [.raw (.int .i64 n)] (.agg (eSx (GG n))):=⟨by
 refine Av Tryz.func199 Tryz.ntmps199 rfl (rs:= [.cell 2 196]) rfl rfl fun hb LF=>?_
 refine Y0 fun b=>?_
 refine Y0 fun b2=>?_
 refine Fi rfl (.of_eq ?_)
 rfl⟩
instance pB (x:Ident):C9 Tryz.prog 240 [.agg (eIdent x)] (.agg (eSx (GF x))):=⟨by
 refine Av Tryz.func240 Tryz.ntmps240 rfl (rs:= [.cell 2 196]) rfl rfl fun hb LF=>?_
 refine wf ?_
 refine CA fun b=>?_
 refine wn ?_
 refine A6 (fun h=>?_) (fun h=>?_)
 ·refine wn ?_
  refine BX 6 ?_ ?_
  ·decide+kernel
  refine wf ?_
  refine Fi rfl (.of_eq ?_)
  rw[GF,KD,if_pos h]
 ·refine wn ?_
  refine BX 9 ?_ ?_
  ·decide+kernel
  refine wf ?_
  refine Fi rfl (.of_eq ?_)
  rw[GF,KD,if_neg h]⟩
instance x9 (l:List Ident) (t:CD) [hs:Ay (l.length≤1000000)]:C9 Tryz.prog 241 [.slice (l.map eIdent) t] (.agg (eSx (J7 l))):=⟨by
 refine Av Tryz.func241 Tryz.ntmps241 rfl (rs:= [.cell 2 196]) rfl rfl fun hb LF=>?_
 have hlen:=hs.out
 refine Y0 fun b=>?_
 refine Y0 fun b3=>?_
 refine EC 3 ?_
 refine AZ (σ:=Nat × CD × List Sx) (fun k=>k.1≤l.length∧k.2.2=(l.take k.1).map GF) (fun k=>l.length - k.1) (fun k=> [(2,.raw (.pointer (some ⟨b,0,none⟩))),(3,.raw (.pointer (some ⟨b3,0,none⟩))),(7,.slice (l.map eIdent) t),(8,.raw (.int .i64 l.length)),(9,.raw (.int .i64 k.1))]) (fun k=> .tok k.2.1 k.2.2.length 3:: .box b3 196 (SN k.2.2 k.2.1):: .box b 196 (eSx Sx.zero)::LF) (0,.nil,[]) ⟨by simp,by simp⟩ ⟨rfl,rfl,rfl,rfl,rfl⟩ (.refl _) ?_
 rintro⟨k,v,out⟩ ⟨hk,he⟩
 dsimp only at hk he
 have hol:out.length=k:=by rw[he];simp;omega
 refine wf ?_
 refine A6 (fun hc=>?_) (fun hc=>?_)
 ·have hlt:k < l.length:=by omega
  have ee:(l.take (k+1)).map GF=out++ [GF l[k]]:=by rw[A7 hlt,Au,he];rfl
  refine wz fun b5=>?_
  refine B2 5 ?_
  refine wn ?_
  refine BX 5 ?_ ?_
  ·decide+kernel
  refine aO fun v'=>?_
  refine Fp (ay:= .slice ((out++ [GF l[k]]).map eSx) v') (SN (out++ [GF l[k]]) v') rfl rfl Di.out rfl (by simp) ?_
  refine wf ?_
  refine wf ?_
  exact⟨(k+1,v',out++ [GF l[k]]),⟨by dsimp only;omega,ee.symm⟩,by dsimp only;omega,⟨rfl,rfl,rfl,rfl,rfl⟩,.refl _⟩
 ·rw[AB (by omega)]at he
  refine wf ?_
  refine Fi rfl ?_
  rw[J7,←he]
  exact bT _ _⟩
instance iH (l:List Str) (t:CD) [hs:Ay (l.length≤1000000)]:C9 Tryz.prog 245 [.slice (l.map eS) t] (.agg (eSx (E6 (l.map Cj)))):=⟨by
 refine Av Tryz.func245 Tryz.ntmps245 rfl (rs:= [.cell 2 196]) rfl rfl fun hb LF=>?_
 have hlen:=hs.out
 refine Y0 fun b=>?_
 refine Y0 fun b3=>?_
 refine EC 3 ?_
 refine AZ (σ:=Nat × CD × List Sx) (fun k=>k.1≤l.length∧k.2.2=(l.take k.1).map Cj) (fun k=>l.length - k.1) (fun k=> [(2,.raw (.pointer (some ⟨b,0,none⟩))),(3,.raw (.pointer (some ⟨b3,0,none⟩))),(7,.slice (l.map eS) t),(8,.raw (.int .i64 l.length)),(9,.raw (.int .i64 k.1))]) (fun k=> .tok k.2.1 k.2.2.length 3:: .box b3 196 (SN k.2.2 k.2.1):: .box b 196 (eSx Sx.zero)::LF) (0,.nil,[]) ⟨by simp,by simp⟩ ⟨rfl,rfl,rfl,rfl,rfl⟩ (.refl _) ?_
 rintro⟨k,v,out⟩ ⟨hk,he⟩
 dsimp only at hk he
 have hol:out.length=k:=by rw[he];simp;omega
 refine wf ?_
 refine A6 (fun hc=>?_) (fun hc=>?_)
 ·have hlt:k < l.length:=by omega
  have ee:(l.take (k+1)).map Cj=out++ [Cj l[k]]:=by rw[A7 hlt,Au,he];rfl
  refine wn ?_
  refine BX 5 ?_ ?_
  ·decide+kernel
  refine aO fun v'=>?_
  refine Fp (ay:= .slice ((out++ [Cj l[k]]).map eSx) v') (SN (out++ [Cj l[k]]) v') rfl rfl Di.out rfl (by simp) ?_
  refine wf ?_
  refine wf ?_
  exact⟨(k+1,v',out++ [Cj l[k]]),⟨by dsimp only;omega,ee.symm⟩,by dsimp only;omega,⟨rfl,rfl,rfl,rfl,rfl⟩,.refl _⟩
 ·rw[AB (by omega)]at he
  refine wf ?_
  refine Fi rfl ?_
  rw[←he]
  exact bT _ _⟩
def yk (c:Chg):List Sx:= [GG c.type]
def yj (c:Chg):List Sx:= [GF c.file,GF c.parent,Cj c.name,J7 c.over]
def yi (c:Chg):List Sx:= [GF c.file,GG c.mode,J7 c.over]
def yh (c:Chg):List Sx:= [GF c.file,Cj c.data,J7 c.over]
def yg (c:Chg):List Sx:= [GF c.file,GF c.after,GF c.before,E6 (c.lines.map Cj)]
def yf (c:Chg):List Sx:= [GF c.file,GF c.after,GF c.before,J7 c.over]
def ye (c:Chg):List Sx:= [J7 c.over]
instance uA (c:Chg) [hs:Ay (c.lines.length≤100000∧c.over.length≤100000)]:C9 Tryz.prog 238 [.agg (eChg c)] (.slice ((yk c).map eSx) .ro):=⟨by
 obtain⟨h1,h2⟩:=hs.out
 have i1:Ay (c.over.length≤1000000):=⟨by omega⟩
 have i2:Ay (c.lines.length≤1000000):=⟨by omega⟩
 refine Av Tryz.func238 Tryz.ntmps238 rfl (rs:= [.tmp 2]) rfl rfl fun hb LF=>?_
 refine wf ?_
 refine Aw (.of_eq ?_)
 rfl⟩
instance u9 (c:Chg) [hs:Ay (c.lines.length≤100000∧c.over.length≤100000)]:C9 Tryz.prog 239 [.agg (eChg c)] (.slice ((yj c).map eSx) .ro):=⟨by
 obtain⟨h1,h2⟩:=hs.out
 have i1:Ay (c.over.length≤1000000):=⟨by omega⟩
 have i2:Ay (c.lines.length≤1000000):=⟨by omega⟩
 refine Av Tryz.func239 Tryz.ntmps239 rfl (rs:= [.tmp 2]) rfl rfl fun hb LF=>?_
 refine wn ?_
 refine BX 14 ?_ ?_
 ·decide+kernel
 refine wf ?_
 refine Aw (.of_eq ?_)
 rfl⟩
instance u7 (c:Chg) [hs:Ay (c.lines.length≤100000∧c.over.length≤100000)]:C9 Tryz.prog 242 [.agg (eChg c)] (.slice ((yi c).map eSx) .ro):=⟨by
 obtain⟨h1,h2⟩:=hs.out
 have i1:Ay (c.over.length≤1000000):=⟨by omega⟩
 have i2:Ay (c.lines.length≤1000000):=⟨by omega⟩
 refine Av Tryz.func242 Tryz.ntmps242 rfl (rs:= [.tmp 2]) rfl rfl fun hb LF=>?_
 refine wn ?_
 refine BX 11 ?_ ?_
 ·decide+kernel
 refine wf ?_
 refine Aw (.of_eq ?_)
 rfl⟩
instance u6 (c:Chg) [hs:Ay (c.lines.length≤100000∧c.over.length≤100000)]:C9 Tryz.prog 243 [.agg (eChg c)] (.slice ((yh c).map eSx) .ro):=⟨by
 obtain⟨h1,h2⟩:=hs.out
 have i1:Ay (c.over.length≤1000000):=⟨by omega⟩
 have i2:Ay (c.lines.length≤1000000):=⟨by omega⟩
 refine Av Tryz.func243 Tryz.ntmps243 rfl (rs:= [.tmp 2]) rfl rfl fun hb LF=>?_
 refine wn ?_
 refine BX 11 ?_ ?_
 ·decide+kernel
 refine wf ?_
 refine Aw (.of_eq ?_)
 rfl⟩
instance u5 (c:Chg) [hs:Ay (c.lines.length≤100000∧c.over.length≤100000)]:C9 Tryz.prog 244 [.agg (eChg c)] (.slice ((yg c).map eSx) .ro):=⟨by
 obtain⟨h1,h2⟩:=hs.out
 have i1:Ay (c.over.length≤1000000):=⟨by omega⟩
 have i2:Ay (c.lines.length≤1000000):=⟨by omega⟩
 refine Av Tryz.func244 Tryz.ntmps244 rfl (rs:= [.tmp 2]) rfl rfl fun hb LF=>?_
 refine wn ?_
 refine BX 14 ?_ ?_
 ·decide+kernel
 refine wf ?_
 refine Aw (.of_eq ?_)
 rfl⟩
instance u4 (c:Chg) [hs:Ay (c.lines.length≤100000∧c.over.length≤100000)]:C9 Tryz.prog 246 [.agg (eChg c)] (.slice ((yf c).map eSx) .ro):=⟨by
 obtain⟨h1,h2⟩:=hs.out
 have i1:Ay (c.over.length≤1000000):=⟨by omega⟩
 have i2:Ay (c.lines.length≤1000000):=⟨by omega⟩
 refine Av Tryz.func246 Tryz.ntmps246 rfl (rs:= [.tmp 2]) rfl rfl fun hb LF=>?_
 refine wn ?_
 refine BX 14 ?_ ?_
 ·decide+kernel
 refine wf ?_
 refine Aw (.of_eq ?_)
 rfl⟩
instance tz (c:Chg) [hs:Ay (c.lines.length≤100000∧c.over.length≤100000)]:C9 Tryz.prog 247 [.agg (eChg c)] (.slice ((ye c).map eSx) .ro):=⟨by
 obtain⟨h1,h2⟩:=hs.out
 have i1:Ay (c.over.length≤1000000):=⟨by omega⟩
 have i2:Ay (c.lines.length≤1000000):=⟨by omega⟩
 refine Av Tryz.func247 Tryz.ntmps247 rfl (rs:= [.tmp 2]) rfl rfl fun hb LF=>?_
 refine wf ?_
 refine Aw (.of_eq ?_)
 rfl⟩
def gG:List (Int × PV):= [(1,.raw (.func (.func 238) #[] #[])),(2,.raw (.func (.func 239) #[] #[])),(3,.raw (.func (.func 242) #[] #[])),(4,.raw (.func (.func 243) #[] #[])),(5,.raw (.func (.func 244) #[] #[])),(6,.raw (.func (.func 246) #[] #[])),(7,.raw (.func (.func 247) #[] #[]))]
theorem Xf:BH Tryz.prog 198 [] [] (fun r L'=> ∃ b,r= .raw (.map (some b))∧L'= [.map b (Bb kInt vId gG)]):=by
 refine C8 Tryz.func198 rfl Tryz.ntmps198 (rs:= [.tmp 0]) rfl rfl fun hb LF=>?_
 rw[BB]
 refine zC fun b=>?_
 exact⟨trivial,_,[.map b (Bb kInt vId gG)],.cons (.tmp 0) .nil,.refl _,b,rfl,rfl⟩
def vV (k:Int):Nat:=if k=1 then 238 else if k=2 then 239 else if k=3 then 242 else if k=4 then 243 else if k=5 then 244 else if k=6 then 246 else 247
def Zs (c:Chg):List Sx:=if c.kind=1 then yk c else if c.kind=2 then yj c else if c.kind=3 then yi c else if c.kind=4 then yh c else if c.kind=5 then yg c else if c.kind=6 then yf c else ye c
theorem ks (c:Chg):(Zs c).length≤4:=by
 unfold Zs
 repeat' split
 all_goals simp[yk,yj,yi,yh,yg,yf,ye]
theorem kinds {k:Int} (h:1≤k∧k≤7):k=1∨k=2∨k=3∨k=4∨k=5∨k=6∨k=7:=by omega
theorem kt {k:Int} (h:1≤k∧k≤7):vId ((CY k gG).getD (.raw .nilFunc))= .raw (.func (.func (vV k)) #[] #[]):=by
 rcases kinds h with h|h|h|h|h|h|h<;>(subst h;rfl)
theorem ox {k:Int} (h:1≤k∧k≤7):B1 Tryz.prog (vV k):=by
 rcases kinds h with h|h|h|h|h|h|h<;>(subst h;simp only[vV];first|exact(inferInstance:B1 Tryz.prog 238)|exact(inferInstance:B1 Tryz.prog 239)|exact(inferInstance:B1 Tryz.prog 242)|exact(inferInstance:B1 Tryz.prog 243)|exact(inferInstance:B1 Tryz.prog 244)|exact(inferInstance:B1 Tryz.prog 246)|exact(inferInstance:B1 Tryz.prog 247))
theorem oq (c:Chg) (h:1≤c.kind∧c.kind≤7) [hs:Ay (c.lines.length≤100000∧c.over.length≤100000)]:Q.Fn Tryz.prog (vV c.kind) [.agg (eChg c)] (.slice ((Zs c).map eSx) .ro):=by
 unfold vV Zs
 by_cases h1:c.kind=1
 ·rw[if_pos h1,if_pos h1];exact(uA c).out
 by_cases h2:c.kind=2
 ·rw[if_neg h1,if_neg h1,if_pos h2,if_pos h2];exact(u9 c).out
 by_cases h3:c.kind=3
 ·rw[if_neg h1,if_neg h1,if_neg h2,if_neg h2,if_pos h3,if_pos h3];exact(u7 c).out
 by_cases h4:c.kind=4
 ·rw[if_neg h1,if_neg h1,if_neg h2,if_neg h2,if_neg h3,if_neg h3,if_pos h4,if_pos h4];exact(u6 c).out
 by_cases h5:c.kind=5
 ·rw[if_neg h1,if_neg h1,if_neg h2,if_neg h2,if_neg h3,if_neg h3,if_neg h4,if_neg h4,if_pos h5,if_pos h5];exact(u5 c).out
 by_cases h6:c.kind=6
 ·rw[if_neg h1,if_neg h1,if_neg h2,if_neg h2,if_neg h3,if_neg h3,if_neg h4,if_neg h4,if_neg h5,if_neg h5,if_pos h6,if_pos h6];exact(u4 c).out
 rw[if_neg h1,if_neg h1,if_neg h2,if_neg h2,if_neg h3,if_neg h3,if_neg h4,if_neg h4,if_neg h5,if_neg h5,if_neg h6,if_neg h6];exact(tz c).out
def PK (c:Chg):Sx:=E6 ([GG c.kind]++Zs c)
def jX (p:Pat):Sx:=E6 [Cj [113,117,105,108,116,49],Cj p.author,Cj p.message,GG p.time,E6 (p.deps.map fun d=>Cj d.bs),E6 (p.changes.map PK)]
theorem jZ {c:Chg} (h:1≤c.kind∧c.kind≤7):PK c=Ku c:=by
 unfold PK Ku K3 IW L7 Zs
 rcases kinds h with h|h|h|h|h|h|h<;>simp[h,yk,yj,yi,yh,yg,yf,ye]
theorem jW {p:Pat} (hd: ∀ d∈p.deps,d≠Dig.zero) (hk: ∀ c∈p.changes,1≤c.kind∧c.kind≤7):jX p=Wx p:=by
 unfold jX Wx
 rw[DF (f:=fun d:Dig=>Cj d.bs) (g:=KD) (fun d h=>by rw[KD,if_neg (hd d h)]),DF (f:=PK) (g:=Ku) (fun c h=>jZ (hk c h))]
structure bu (p:Pat):Prop where
 ok:W0 p
 deps: ∀ d∈p.deps,d≠Dig.zero
 kinds: ∀ c∈p.changes,1≤c.kind∧c.kind≤7
instance rJ (p:Pat) [hs:Ay (bu p)]:C9 Tryz.prog 144 [.agg (Ba p)] (.tuple [.str (Ni p),.raw (.int .i64 0)]):=⟨by
 refine Av Tryz.func144 Tryz.ntmps144 rfl (rs:= [.tmp 2,.tmp 3]) rfl rfl fun hb LF=>?_
 have hd:=hs.out.ok.deps
 have hch:=hs.out.ok.chgs
 refine Y0 fun b4=>?_
 refine CA fun b5=>?_
 refine wf ?_
 refine EC 3 ?_
 refine AZ (σ:=Nat × CD × List Sx) (fun k=>k.1≤p.deps.length∧k.2.2=(p.deps.take k.1).map fun d=>Cj d.bs) (fun k=>p.deps.length - k.1) (fun k=> [(1,.pt (Ba p) 0),(4,.raw (.pointer (some ⟨b4,0,none⟩))),(5,.raw (.pointer (some ⟨b5,0,none⟩))),(15,.slice (p.deps.map eDig) .ro),(16,.raw (.int .i64 p.deps.length)),(17,.raw (.int .i64 k.1))]) (fun k=> .tok k.2.1 k.2.2.length 3:: .box b5 196 (SN [] .nil):: .box b4 196 (SN k.2.2 k.2.1)::LF) (0,.nil,[]) ⟨by simp,by simp⟩ ⟨rfl,rfl,rfl,rfl,rfl,rfl⟩ (.refl _) ?_
 rintro⟨k,v,l⟩ ⟨hk,he⟩
 dsimp only at hk he
 have hll:l.length=k:=by rw[he];simp;omega
 refine wf ?_
 refine A6 (fun hc=>?_) (fun hc=>?_)
 ·have hlt:k < p.deps.length:=by omega
  have ee:(p.deps.take (k+1)).map (fun d=>Cj d.bs)=l++ [Cj p.deps[k].bs]:=by rw[A7 hlt,Au,he];rfl
  refine wz fun b7=>?_
  refine B2 7 ?_
  refine wn ?_
  refine BX 6 ?_ ?_
  ·decide+kernel
  refine aO fun v'=>?_
  refine Fp (ay:= .slice ((l++ [Cj p.deps[k].bs]).map eSx) v') (SN (l++ [Cj p.deps[k].bs]) v') rfl rfl Di.out rfl (by simp) ?_
  refine wf ?_
  refine wf ?_
  exact⟨(k+1,v',l++ [Cj p.deps[k].bs]),⟨by dsimp only;omega,ee.symm⟩,by dsimp only;omega,⟨rfl,rfl,rfl,rfl,rfl,rfl⟩,.refl _⟩
 rw[AB (by omega)]at he
 clear hll
 refine wf ?_
 refine CV (xs:= []) [] (.tok v l.length 3:: .box b5 196 (SN [] .nil):: .box b4 196 (SN l v)::LF) (f:=198) (cs:= []) (C4 _) rfl rfl (.refl _) _ Xf fun r L1 ⟨bm,hr,hL1⟩=>?_
 subst hr
 subst hL1
 refine wo ?_
 refine AE ?_
 refine O9 [(1,.pt (Ba p) 0),(4,.raw (.pointer (some ⟨b4,0,none⟩))),(5,.raw (.pointer (some ⟨b5,0,none⟩))),(8,.fmap (Bb kInt vId gG))] ⟨.inl rfl,.inl rfl,.inl rfl,.inr ⟨rfl,rfl⟩⟩ (.refl _) ?_
 refine wf ?_
 refine EC 3 ?_
 refine AZ (σ:=Nat × CD × List Sx) (fun k=>k.1≤p.changes.length∧k.2.2=(p.changes.take k.1).map PK) (fun k=>p.changes.length - k.1) (fun k=> [(1,.pt (Ba p) 0),(4,.raw (.pointer (some ⟨b4,0,none⟩))),(5,.raw (.pointer (some ⟨b5,0,none⟩))),(8,.fmap (Bb kInt vId gG)),(32,.slice (p.changes.map eChg) .ro),(33,.raw (.int .i64 p.changes.length)),(34,.raw (.int .i64 k.1))]) (fun k=> .tok k.2.1 k.2.2.length 3:: .box b5 196 (SN k.2.2 k.2.1):: .box b4 196 (SN l v)::LF) (0,.nil,[]) ⟨by simp,by simp⟩ ⟨rfl,rfl,rfl,rfl,rfl,rfl,rfl⟩ (.cons_cons _ (.cons _ (.refl _))) ?_
 rintro⟨k,u,m⟩ ⟨hk,hm⟩
 dsimp only at hk hm
 have hml:m.length=k:=by rw[hm];simp;omega
 refine wf ?_
 refine A6 (fun hc=>?_) (fun hc=>?_)
 ·have hlt:k < p.changes.length:=by omega
  have ee:(p.changes.take (k+1)).map PK=m++ [PK p.changes[k]]:=by rw[A7 hlt,Au,hm];rfl
  have hcc:=hs.out.ok.chg _ (AH hlt)
  have hkc:=hs.out.kinds _ (AH hlt)
  have:Ay (p.changes[k].lines.length≤100000∧p.changes[k].over.length≤100000):=⟨hcc⟩
  have hfun:=ox hkc
  have hfl:=ks p.changes[k]
  refine wz fun b10=>?_
  refine B2 10 ?_
  refine DT ?_
  refine CK (by kernel_rfl) ?_
  refine ao (by rfl) (hr:=(by first|infer_instance|fail)) ?_
  refine cZ (by rfl) rfl ?_
  refine XI (by(conv=>lhs;whnf);done) (hN0:=(by first|infer_instance|fail)) (hc:=(by first|infer_instance|fail)) ?_
  refine jS (by(conv=>lhs;whnf);done) (hC0:=(by first|infer_instance|fail)) (hf:=(by first|infer_instance|fail)) (by decide) fun t=>?_
  refine wz fun b11=>?_
  refine wn ?_
  refine BX 8 ?_ ?_
  ·decide+kernel
  refine wf ?_
  refine Wu (xs:= [.tmp 49]) (f:=vV p.changes[k].kind) (cs:= []) (by show Le (vId ((CY p.changes[k].kind gG).getD (.raw .nilFunc))) _;rw[kt hkc];exact C4 _) rfl rfl (oq p.changes[k] hkc) ?_
  refine aO fun v'=>?_
  refine Fp (ay:= .slice (([GG p.changes[k].kind]++Zs p.changes[k]).map eSx) v') (SN ([GG p.changes[k].kind]++Zs p.changes[k]) v') rfl rfl Di.out rfl (by simp) ?_
  refine wf ?_
  refine aO fun u'=>?_
  refine Fp (ay:= .slice ((m++ [PK p.changes[k]]).map eSx) u') (SN (m++ [PK p.changes[k]]) u') rfl rfl Di.out rfl (by simp) ?_
  refine wf ?_
  exact⟨(k+1,u',m++ [PK p.changes[k]]),⟨by dsimp only;omega,ee.symm⟩,by dsimp only;omega,⟨rfl,rfl,rfl,rfl,rfl,rfl,rfl⟩,by dsimp only;repeat(first|exact EW _|apply List.Sublist.cons_cons|apply List.Sublist.cons)⟩
 rw[AB (by omega)]at hm
 have e:Wx p=E6 [Cj [113,117,105,108,116,49],Cj p.author,Cj p.message,GG p.time,E6 l,E6 m]:=by rw[←jW hs.out.deps hs.out.kinds,jX,←he,←hm]
 have i1:Ay (oD (E6 [Cj [113,117,105,108,116,49],Cj p.author,Cj p.message,GG p.time,E6 l,E6 m])∧(Dq 8 (E6 [Cj [113,117,105,108,116,49],Cj p.author,Cj p.message,GG p.time,E6 l,E6 m])).length≤1000000000):=by
  rw[←e];exact⟨hs.out.ok.ok,hs.out.ok.len⟩
 refine wf ?_
 refine HD ?_
 rw[Ni,e]
 exact .refl _⟩
instance y8 (p:Pat) [hs:Ay (E4 p=false)]:C9 Tryz.prog 260 [.agg (Ba p)] (.tuple [.slice ((JH p).1.map eAtm) .ro,.raw (.int .i64 (JH p).2)]):=⟨by
 obtain⟨hal,hao⟩:=EG hs.out
 refine Av Tryz.func260 Tryz.ntmps260 rfl (rs:= [.tmp 2,.tmp 3]) rfl rfl fun hb LF=>?_
 refine Cy fun b1=>?_
 refine Et fun b4=>?_
 refine AR (fun h=>?_) (fun h=>?_)
 ·refine AX ?_
  refine HD ?_
  rw[JH,if_pos h]
  exact .tuple2 (.ro _ _) (.refl _)
 rw[JH,if_neg (by simp[h])]
 refine AX ?_
 generalize (Ew p).1=d
 generalize (CF p).1=own at hal hao
 refine EC 172 ?_
 refine AZ (σ:=Nat × List Atm × CD) (fun k=>k.1≤own.length∧k.2.1=(own.take k.1).map (VZ d)) (fun k=>own.length - k.1) (fun k=> [(4,.raw (.pointer (some ⟨b4,0,none⟩))),(6,.slice (own.map eAtm) .ro),(8,.slice (k.2.1.map eAtm) k.2.2),(9,.raw (.int .i64 k.1))]) (fun k=> .tok k.2.2 k.2.1.length 172:: .box b4 31 (eDig d)::LF) (0,[],.nil) ⟨by simp,by simp⟩ ⟨rfl,rfl,rfl,rfl⟩ (.cons_cons _ (.cons_cons _ (.cons _ (.refl _)))) ?_
 rintro⟨i,out,v⟩ ⟨hi,ho⟩
 dsimp only at hi ho ⊢
 have hol:out.length=i:=by rw[ho];simp;omega
 refine AX ?_
 refine A6 (fun hc=>?_) (fun hc=>?_)
 ·have hlt:i < own.length:=by omega
  have hov:=hao _ (AH hlt)
  refine Cy fun b10=>?_
  refine Ca (σ:=Unit) (fun _=>True) (fun _=> [(4,.raw (.pointer (some ⟨b4,0,none⟩))),(6,.slice (own.map eAtm) .ro),(8,.slice (out.map eAtm) v),(9,.raw (.int .i64 i)),(10,.raw (.pointer (some ⟨b10,0,none⟩)))]) (fun _=> .box b10 125 (eAtm (Pf d (Mx d own[i]))):: .tok v out.length 172:: .box b4 31 (eDig d)::LF) ?_ ?_
  ·refine AR (fun h7=>?_) (fun h7=>?_)
   ·refine AX ?_
    refine⟨(),trivial,⟨rfl,rfl,rfl,rfl,rfl⟩,?_⟩
    have h7':(Mx d own[i]).kind≠7:=h7
    rw[Pf,if_pos h7'];exact .refl _
   ·refine AX ?_
    refine⟨(),trivial,⟨rfl,rfl,rfl,rfl,rfl⟩,?_⟩
    have h7':(Mx d own[i]).kind=7:=h7
    rw[Pf,if_neg (by simp[h7'])];exact .refl _
  rintro _ _
  generalize ha2:Pf d (Mx d own[i])=a2
  refine AX ?_
  refine Ca (σ:=Unit) (fun _=>True) (fun _=> [(4,.raw (.pointer (some ⟨b4,0,none⟩))),(6,.slice (own.map eAtm) .ro),(8,.slice (out.map eAtm) v),(9,.raw (.int .i64 i)),(10,.raw (.pointer (some ⟨b10,0,none⟩)))]) (fun _=> .box b10 125 (eAtm (Pe d a2)):: .tok v out.length 172:: .box b4 31 (eDig d)::LF) ?_ ?_
  ·refine A6 (fun h7=>?_) (fun h7=>?_)
   ·refine AX ?_
    refine⟨(),trivial,⟨rfl,rfl,rfl,rfl,rfl⟩,?_⟩
    rw[Pe,if_pos h7];exact .refl _
   ·refine AX ?_
    refine⟨(),trivial,⟨rfl,rfl,rfl,rfl,rfl⟩,?_⟩
    rw[Pe,if_neg h7];exact .refl _
  rintro _ _
  generalize ha3:Pe d a2=a3
  refine AX ?_
  refine Ca (σ:=Unit) (fun _=>True) (fun _=> [(4,.raw (.pointer (some ⟨b4,0,none⟩))),(6,.slice (own.map eAtm) .ro),(8,.slice (out.map eAtm) v),(9,.raw (.int .i64 i)),(10,.raw (.pointer (some ⟨b10,0,none⟩)))]) (fun _=> .box b10 125 (eAtm (O5 d a3)):: .tok v out.length 172:: .box b4 31 (eDig d)::LF) ?_ ?_
  ·refine A6 (fun h7=>?_) (fun h7=>?_)
   ·refine PH ?_
    refine OA [false,false,false,false,false,false,false,false,false,true,false,true] ?_ ?_
    ·decide+kernel
    refine Bq ?_
    refine⟨(),trivial,⟨rfl,rfl,rfl,rfl,rfl⟩,?_⟩
    rw[O5,if_pos h7];exact .refl _
   ·refine AX ?_
    refine⟨(),trivial,⟨rfl,rfl,rfl,rfl,rfl⟩,?_⟩
    rw[O5,if_neg h7];exact .refl _
  rintro _ _
  have hover:(O5 d a3).over=own[i].over:=by rw[←ha3,←ha2];exact Yk d own[i]
  generalize ha4:O5 d a3=a4 at hover
  have hov4:a4.over.length≤40:=by rw[hover];exact hov
  refine AX ?_
  refine AZ (σ:=Nat × List Ident × CD) (fun j=>j.1≤a4.over.length∧j.2.1=(a4.over.take j.1).foldl (fun m y=>IR m (E0 y d)) []) (fun j=>a4.over.length - j.1) (fun j=> [(4,.raw (.pointer (some ⟨b4,0,none⟩))),(6,.slice (own.map eAtm) .ro),(8,.slice (out.map eAtm) v),(9,.raw (.int .i64 i)),(10,.raw (.pointer (some ⟨b10,0,none⟩))),(11,.slice (j.2.1.map eIdent) j.2.2),(12,.raw (.int .i64 j.1))]) (fun _=> .box b10 125 (eAtm a4):: .tok v out.length 172:: .box b4 31 (eDig d)::LF) (0,[],.nil) ⟨by simp,by simp⟩ ⟨rfl,rfl,rfl,rfl,rfl,rfl,rfl⟩ (.refl _) ?_
  rintro⟨j,m,z⟩ ⟨hj,hm⟩
  dsimp only at hj hm ⊢
  have hml:m.length≤j:=by rw[hm];exact bC d a4.over j
  refine AX ?_
  refine A6 (fun hc2=>?_) (fun hc2=>?_)
  ·have hlt2:j < a4.over.length:=by omega
   have:Ay (m.length≤1000000):=⟨by omega⟩
   refine AX ?_
   refine⟨(j+1,IR m (E0 a4.over[j] d),.ro),⟨by dsimp only;omega,?_⟩,by dsimp only;omega,⟨rfl,rfl,rfl,rfl,rfl,rfl,rfl⟩,.refl _⟩
   dsimp only
   rw[A7 hlt2,CB,←hm];rfl
  ·rw[AB (by omega)]at hm
   refine Gu fun v'=>?_
   have e:VZ d own[i]= { a4 with over:=m }:=by rw[VZ,ha2,ha3,ha4,jg,jf,←hm]
   refine⟨(i+1,out++ [{ a4 with over:=m }],v'),⟨by dsimp only;omega,?_⟩,by dsimp only;omega,⟨rfl,rfl,rfl,rfl⟩,.cons _ (.refl _)⟩
   dsimp only
   rw[A7 hlt,Au,←ho,Aq,e];rfl
 ·rw[AB (by omega)]at ho
  refine AX ?_
  refine HD ?_
  rw[ho]
  exact .tuple2 (.ro _ _) (.refl _)⟩
theorem IM {b:Bool} (h:(!b)=false): ¬b=false:=by cases b<;>simp_all
theorem LH {b:Bool} (h:(!b)=true):b=false:=by cases b<;>simp_all
theorem Gw.great {s:List Sto} (h:Gw s) (d:Dig):E4 ((getS s d).getD Pat.zero)=false:=by
 cases hg:getS s d with
 |none=>exact bf
 |some p=>
  obtain⟨x,hx,_,rfl⟩:=Kj hg
  exact h.2 x hx
def Iq (s:List Sto) (d:Dig):List Atm:=(JH ((getS s d).getD Pat.zero)).1
def IY (s:List Sto) (x:Ident):Option Atm:=if x.n < 0∨((Iq s x.patch).length:Int)≤x.n then none else(Iq s x.patch)[x.n.toNat]?
instance ve (s:List Sto) (x:Ident) (t:CD) [hs:Ay (Gw s)]:C9 Tryz.prog 207 [.slice (s.map eSto) t,.agg (eIdent x)] (.tuple [.agg (eAtm ((IY s x).getD Atm.zero)),.raw (.bool (IY s x).isSome)]):=⟨by
 have i1:Ay (E4 ((getS s x.patch).getD Pat.zero)=false):=⟨hs.out.great _⟩
 refine Av Tryz.func207 Tryz.ntmps207 rfl (rs:= [.cell 4 125,.tmp 5]) rfl rfl fun hb LF=>?_
 refine Cy fun b3=>?_
 refine Et fun b4=>?_
 refine Et fun b6=>?_
 have e0:(JH ((getS s x.patch).getD Pat.zero)).1=Iq s x.patch:=rfl
 rw[e0]
 refine BG [(31,.raw (.bool (decide (x.n < 0∨((Iq s x.patch).length:Int)≤x.n)))),(3,.raw (.pointer (some ⟨b3,0,none⟩))),(4,.raw (.pointer (some ⟨b4,0,none⟩))),(8,.slice ((Iq s x.patch).map eAtm) .ro)] (.box b6 40 (Ba ((getS s x.patch).getD Pat.zero)):: .box b4 125 (eAtm Atm.zero):: .box b3 65 (eIdent x)::LF) ?_ ?_
 ·repeat' (first|(refine A6 (fun h=>?_) (fun h=>?_)<;>refine AX ?_)|(refine AR (fun h=>?_) (fun h=>?_)<;>refine AX ?_)|(refine AO (fun h=>?_) (fun h=>?_)<;>refine AX ?_)|(refine Ao (fun h=>?_) (fun h=>?_)<;>(have h2:=h;(try simp only[AA,A8,AF,AJ]at h2);refine Bq ?_)))
  all_goals (refine⟨⟨Bh (by rfl) ?_,rfl,rfl,rfl⟩,.refl _⟩;first|(simp_all;done)|(simp_all;omega)|grind)
 refine AX ?_
 refine A6 (fun h=>?_) (fun h=>?_)
 ·refine AX ?_
  refine LK rfl (.of_eq ?_)
  rw[IY,if_pos h];rfl
 ·refine AX ?_
  refine LK rfl (.of_eq ?_)
  have hlt:x.n.toNat < (Iq s x.patch).length:=by omega
  rw[IY,if_neg h,AW hlt];rfl⟩
def EP (o:Option Atm) (fits:Atm→Bool):Int:=if o.isSome=false then 7 else if fits (o.getD Atm.zero)=false then 8 else 0
def Gv (s:List Sto) (x file:Ident) (id:Dig):Int:=if FT x=false∨x=file then 0 else EP (IY s x) (Jf (HJ file id))
instance xj (s:List Sto) (x file:Ident) (id:Dig) (t:CD) [hs:Ay (Gw s)]:C9 Tryz.prog 210 [.slice (s.map eSto) t,.agg (eIdent x),.agg (eIdent file),.agg (eDig id)] (.raw (.int .i64 (Gv s x file id))):=⟨by
 refine Av Tryz.func210 Tryz.ntmps210 rfl (rs:= [.tmp 8]) rfl rfl fun hb LF=>?_
 refine Cy fun b5=>?_
 refine Et fun b6=>?_
 refine Et fun b7=>?_
 refine BG [(18,.raw (.bool (decide (FT x=false∨x=file)))),(0,.slice (s.map eSto) t),(5,.raw (.pointer (some ⟨b5,0,none⟩))),(6,.raw (.pointer (some ⟨b6,0,none⟩))),(7,.raw (.pointer (some ⟨b7,0,none⟩)))] (.box b7 31 (eDig id):: .box b6 65 (eIdent file):: .box b5 65 (eIdent x)::LF) ?_ ?_
 ·repeat' (first|(refine A6 (fun h=>?_) (fun h=>?_)<;>refine AX ?_)|(refine AR (fun h=>?_) (fun h=>?_)<;>refine AX ?_)|(refine AO (fun h=>?_) (fun h=>?_)<;>refine AX ?_)|(refine Ao (fun h=>?_) (fun h=>?_)<;>(have h2:=h;(try simp only[AA,A8,AF,AJ]at h2);refine Bq ?_)))
  all_goals (refine⟨⟨Bh (by rfl) ?_,rfl,rfl,rfl,rfl⟩,.refl _⟩;first|(simp_all;done)|(simp_all;omega)|grind)
 refine AX ?_
 refine A6 (fun h=>?_) (fun h=>?_)
 ·refine AX ?_
  refine Aw (.of_eq ?_)
  rw[Gv,if_pos h]
 rw[Gv,if_neg h]
 refine Cy fun b9=>?_
 refine AO (fun h2=>?_) (fun h2=>?_)
 ·refine AX ?_
  refine Aw (.of_eq ?_)
  rw[EP,if_pos (LH h2)]
 refine AX ?_
 refine AO (fun h3=>?_) (fun h3=>?_)
 ·refine AX ?_
  refine Aw (.of_eq ?_)
  rw[EP,if_neg (IM h2),if_pos (LH h3)]
 ·refine AX ?_
  refine Aw (.of_eq ?_)
  rw[EP,if_neg (IM h2),if_neg (IM h3)]⟩
def Jg (s:List Sto) (c:Chg):Int:=if FT c.file=true then EP (IY s c.file) (EK c.kind)else 0
def MH (s:List Sto) (c:Chg):Int:=if FT c.parent=true then EP (IY s c.parent) rDirectory else 0
def O7 (s:List Sto) (c:Chg) (id:Dig) (x:Ident):Int:=if FT x=false then 0 else EP (IY s x) (HH c.kind (HJ c.file id))
def LB (s:List Sto) (c:Chg) (id:Dig):Int:=
 if Jg s c≠0 then Jg s c else if MH s c≠0 then MH s c else if Gv s c.after c.file id≠0 then Gv s c.after c.file id else
 if Gv s c.before c.file id≠0 then Gv s c.before c.file id else Az (O7 s c id) c.over
instance rN (s:List Sto) (c:Chg) (id:Dig) (t:CD) [hs:Ay (Gw s)]:C9 Tryz.prog 153 [.slice (s.map eSto) t,.agg (eChg c),.agg (eDig id)] (.raw (.int .i64 (LB s c id))):=⟨by
 refine Av Tryz.func153 Tryz.ntmps153 rfl (rs:= [.tmp 6]) rfl rfl fun hb LF=>?_
 have hlen:c.over.length≤140737488355328:=((hb (.agg (eChg c)) (by simp)).agg_at (c:= .slice (c.over.map eIdent) .ro) (by simp[eChg])).slice_map
 refine Cy fun b4=>?_
 refine Et fun b5=>?_
 refine Ca (σ:=Unit) (fun _=>Jg s c=0) (fun _=> [(0,.slice (s.map eSto) t),(4,.raw (.pointer (some ⟨b4,0,none⟩))),(5,.raw (.pointer (some ⟨b5,0,none⟩)))]) (fun _=> .box b5 31 (eDig id):: .box b4 73 (eChg c)::LF) ?_ ?_
 ·refine AO (fun h=>?_) (fun h=>?_)
  ·have e:Jg s c=EP (IY s c.file) (EK c.kind):=by rw[Jg,if_pos h]
   refine Cy fun b7=>?_
   refine AO (fun h2=>?_) (fun h2=>?_)
   ·refine AX ?_
    refine Aw (.of_eq ?_)
    rw[EP,if_pos (LH h2)]at e
    rw[LB,if_pos (by rw[e];decide),e]
   refine AX ?_
   refine AO (fun h3=>?_) (fun h3=>?_)
   ·refine AX ?_
    refine Aw (.of_eq ?_)
    rw[EP,if_neg (IM h2),if_pos (LH h3)]at e
    rw[LB,if_pos (by rw[e];decide),e]
   ·refine AX ?_
    rw[EP,if_neg (IM h2),if_neg (IM h3)]at e
    exact⟨(),e,⟨rfl,rfl,rfl⟩,.cons _ (.refl _)⟩
  ·refine AX ?_
   exact⟨(),by rw[Jg,if_neg (by simp[h])],⟨rfl,rfl,rfl⟩,.refl _⟩
 rintro _ hF
 refine AX ?_
 refine Ca (σ:=Unit) (fun _=>MH s c=0) (fun _=> [(0,.slice (s.map eSto) t),(4,.raw (.pointer (some ⟨b4,0,none⟩))),(5,.raw (.pointer (some ⟨b5,0,none⟩)))]) (fun _=> .box b5 31 (eDig id):: .box b4 73 (eChg c)::LF) ?_ ?_
 ·refine AO (fun h=>?_) (fun h=>?_)
  ·have e:MH s c=EP (IY s c.parent) rDirectory:=by rw[MH,if_pos h]
   refine Cy fun b7=>?_
   refine AO (fun h2=>?_) (fun h2=>?_)
   ·refine AX ?_
    refine Aw (.of_eq ?_)
    rw[EP,if_pos (LH h2)]at e
    rw[LB,if_neg (by simp[hF]),if_pos (by rw[e];decide),e]
   refine AX ?_
   refine AO (fun h3=>?_) (fun h3=>?_)
   ·refine AX ?_
    refine Aw (.of_eq ?_)
    rw[EP,if_neg (IM h2),if_pos (LH h3)]at e
    rw[LB,if_neg (by simp[hF]),if_pos (by rw[e];decide),e]
   ·refine AX ?_
    rw[EP,if_neg (IM h2),if_neg (IM h3)]at e
    exact⟨(),e,⟨rfl,rfl,rfl⟩,.cons _ (.refl _)⟩
  ·refine AX ?_
   exact⟨(),by rw[MH,if_neg (by simp[h])],⟨rfl,rfl,rfl⟩,.refl _⟩
 rintro _ hP
 rw[LB,if_neg (by simp[hF]),if_neg (by simp[hP])]
 refine AX ?_
 refine AR (fun h1=>?_) (fun h1=>?_)
 ·refine AX ?_
  refine Aw (.of_eq ?_)
  rw[if_pos h1]
 rw[if_neg (by simp[h1])]
 refine AX ?_
 refine AR (fun h2=>?_) (fun h2=>?_)
 ·refine AX ?_
  refine Aw (.of_eq ?_)
  rw[if_pos h2]
 rw[if_neg (by simp[h2])]
 refine AX ?_
 refine AZ (σ:=Nat) (fun k=>k≤c.over.length∧ ∀ i (h:i < c.over.length),i < k→O7 s c id c.over[i]=0) (fun k=>c.over.length - k) (fun k=> [(0,.slice (s.map eSto) t),(4,.raw (.pointer (some ⟨b4,0,none⟩))),(5,.raw (.pointer (some ⟨b5,0,none⟩))),(13,.raw (.int .i64 k))]) (fun _=> .box b5 31 (eDig id):: .box b4 73 (eChg c)::LF) 0 ⟨by simp,by simp⟩ ⟨rfl,rfl,rfl,rfl⟩ (.refl _) ?_
 rintro k ⟨hk,he⟩
 refine AX ?_
 refine A6 (fun hc=>?_) (fun hc=>?_)
 ·have hlt:k < c.over.length:=by omega
  refine AX ?_
  refine AO (fun h=>?_) (fun h=>?_)
  ·refine AX ?_
   exact⟨k+1,⟨by omega,E9 he hlt (by rw[O7,if_pos (LH h)])⟩,by dsimp only;omega,⟨rfl,rfl,rfl,rfl⟩,.refl _⟩
  have e:O7 s c id c.over[k]=EP (IY s c.over[k]) (HH c.kind (HJ c.file id)):=by rw[O7,if_neg (IM h)]
  refine Cy fun b14=>?_
  refine AO (fun h3=>?_) (fun h3=>?_)
  ·refine AX ?_
   refine Aw (.of_eq ?_)
   rw[EP,if_pos (LH h3)]at e
   rw[DW hlt he (by rw[e];decide),e]
  refine AX ?_
  refine AO (fun h4=>?_) (fun h4=>?_)
  ·refine AX ?_
   refine Aw (.of_eq ?_)
   rw[EP,if_neg (IM h3),if_pos (LH h4)]at e
   rw[DW hlt he (by rw[e];decide),e]
  ·refine AX ?_
   rw[EP,if_neg (IM h3),if_neg (IM h4)]at e
   exact⟨k+1,⟨by omega,E9 he hlt e⟩,by dsimp only;omega,⟨rfl,rfl,rfl,rfl⟩,.cons _ (.refl _)⟩
 ·refine AX ?_
  refine Aw (.of_eq ?_)
  rw[E3 fun i h=>he i h (by omega)]⟩
def GV (s:List Sto) (p:Pat) (id:Dig):Int:=Az (fun c=>LB s c id) p.changes
instance gx (s:List Sto) (p:Pat) (id:Dig) (t:CD) [hs:Ay (Gw s)]:C9 Tryz.prog 91 [.slice (s.map eSto) t,.agg (Ba p),.agg (eDig id)] (.raw (.int .i64 (GV s p id))):=⟨by
 refine Av Tryz.func91 Tryz.ntmps91 rfl (rs:= [.tmp 6]) rfl rfl fun hb LF=>?_
 have hlen:p.changes.length≤140737488355328:=((hb (.agg (Ba p)) (by simp)).agg_at (c:= .slice (p.changes.map eChg) .ro) (by simp[Ba])).slice_map
 refine Cy fun b4=>?_
 refine Et fun b5=>?_
 refine AZ (σ:=Nat) (fun k=>k≤p.changes.length∧ ∀ i (h:i < p.changes.length),i < k→LB s p.changes[i] id=0) (fun k=>p.changes.length - k) (fun k=> [(0,.slice (s.map eSto) t),(4,.raw (.pointer (some ⟨b4,0,none⟩))),(5,.raw (.pointer (some ⟨b5,0,none⟩))),(7,.raw (.int .i64 k))]) (fun _=> .box b5 31 (eDig id):: .box b4 40 (Ba p)::LF) 0 ⟨by simp,by simp⟩ ⟨rfl,rfl,rfl,rfl⟩ (.refl _) ?_
 rintro k ⟨hk,he⟩
 refine AX ?_
 refine A6 (fun hc=>?_) (fun hc=>?_)
 ·have hlt:k < p.changes.length:=by omega
  refine AX ?_
  refine AR (fun h=>?_) (fun h=>?_)
  ·refine AX ?_
   refine Aw (.of_eq ?_)
   rw[GV,DW hlt he h]
  ·refine AX ?_
   exact⟨k+1,⟨by omega,E9 (f:=fun c=>LB s c id) he hlt h⟩,by dsimp only;omega,⟨rfl,rfl,rfl,rfl⟩,.refl _⟩
 ·refine AX ?_
  refine Aw (.of_eq ?_)
  rw[GV,E3 fun i h=>he i h (by omega)]⟩
theorem tS {b:Bool} (h:(!b)=false):b=true:=by cases b<;>simp_all
def K5 (s:List Sto) (i:Nat):Int:=
 if(Ew (s.getD i Sto.zero).patch).2≠0 then(Ew (s.getD i Sto.zero).patch).2 else if(Ew (s.getD i Sto.zero).patch).1≠(s.getD i Sto.zero).id then 13 else
 if 0 < (i:Int)∧0≤ER (s.getD (i - 1) Sto.zero).id (Ew (s.getD i Sto.zero).patch).1 then 9 else 0
def QP (s:List Sto):Int:=
 if 400 < (s.length:Int)then 4 else if Az (K5 s) (List.range s.length)≠0 then Az (K5 s) (List.range s.length)else
 if s.all (fun x=>Da (ids s) (BL x.patch))=false then 19 else if((DR s).length:Int) < s.length then 20 else Az (fun(x:Sto)=>GV s x.patch x.id) s
instance vt (s:List Sto) (t:CD) [hs:Ay (Gw s)]:C9 Tryz.prog 34 [.slice (s.map eSto) t] (.raw (.int .i64 (QP s))):=⟨by
 obtain⟨hl8,hgr⟩:=hs.out
 refine Av Tryz.func34 Tryz.ntmps34 rfl (rs:= [.tmp 2]) rfl rfl fun hb LF=>?_
 refine AX ?_
 refine A6 (fun h1=>?_) (fun h1=>?_)
 ·omega
 rw[QP,if_neg h1]
 refine AX ?_
 refine AZ (σ:=Nat) (fun k=>k≤s.length∧ ∀ i (h:i < (List.range s.length).length),i < k→K5 s (List.range s.length)[i]=0) (fun k=>s.length - k) (fun k=> [(0,.slice (s.map eSto) t),(3,.raw (.int .i64 k))]) (fun _=>LF) 0 ⟨by simp,by simp⟩ ⟨rfl,rfl⟩ (.refl _) ?_
 rintro k ⟨hk,he⟩
 refine AX ?_
 refine A6 (fun hc=>?_) (fun hc=>?_)
 ·have hlt:k < s.length:=by omega
  have hltr:k < (List.range s.length).length:=by simpa using hlt
  have ek:(List.range s.length)[k]=k:=by simp
  have e0:s.getD k Sto.zero=s[k]:=by simp[List.getD,hlt]
  have i1:Ay (E4 s[k].patch=false):=⟨hgr _ (AH hlt)⟩
  refine Cy fun b=>?_
  refine AR (fun h2=>?_) (fun h2=>?_)
  ·refine AX ?_
   refine Aw (.of_eq ?_)
   have e:K5 s (List.range s.length)[k]=(Ew s[k].patch).2:=by rw[ek,K5,e0,if_pos h2]
   have f:=DW hltr he (by rw[e];exact h2)
   rw[if_pos (by rw[f,e];exact h2),f,e]
  refine AX ?_
  refine AR (fun h3=>?_) (fun h3=>?_)
  ·refine AX ?_
   refine Aw (.of_eq ?_)
   have e:K5 s (List.range s.length)[k]=13:=by rw[ek,K5,e0,if_neg (by simp[h2]),if_pos h3]
   have f:=DW hltr he (by rw[e];decide)
   rw[if_pos (by rw[f,e];decide),f,e]
  refine AX ?_
  refine Ao (fun hp=>?_) (fun hp=>?_)
  ·have hp':0 < (k:Int):=BP hp
   refine Bq ?_
   have e1:s.getD (k - 1) Sto.zero=s[((k:Int) - 1).toNat]:=by
    have:((k:Int) - 1).toNat=k - 1:=by omega
    simp only[this]
    have h':k - 1 < s.length:=by omega
    simp[List.getD,h']
   refine A6 (fun h4=>?_) (fun h4=>?_)
   ·refine AX ?_
    refine Aw (.of_eq ?_)
    have e:K5 s (List.range s.length)[k]=9:=by rw[ek,K5,e0,e1,if_neg (by simp[h2]),if_neg (by simp[h3]),if_pos ⟨hp',h4⟩]
    have f:=DW hltr he (by rw[e];decide)
    rw[if_pos (by rw[f,e];decide),f,e]
   ·refine AX ?_
    have e:K5 s (List.range s.length)[k]=0:=by rw[ek,K5,e0,e1,if_neg (by simp[h2]),if_neg (by simp[h3]),if_neg (fun h=>h4 h.2)]
    exact⟨k+1,⟨by omega,E9 he hltr e⟩,by dsimp only;omega,⟨rfl,rfl⟩,.cons _ (.refl _)⟩
  ·have hp': ¬0 < (k:Int):=Bl hp
   refine Bq ?_
   have e:K5 s (List.range s.length)[k]=0:=by rw[ek,K5,e0,if_neg (by simp[h2]),if_neg (by simp[h3]),if_neg (fun h=>hp' h.1)]
   exact⟨k+1,⟨by omega,E9 he hltr e⟩,by dsimp only;omega,⟨rfl,rfl⟩,.cons _ (.refl _)⟩
 have hA:Az (K5 s) (List.range s.length)=0:=E3 fun i h=>he i h (by simp at h;omega)
 rw[if_neg (by simp[hA])]
 clear he hA hk hc
 refine AX ?_
 refine AZ (σ:=Nat) (fun k=>k≤s.length∧ ∀ i (h:i < s.length),i < k→Da (ids s) (BL s[i].patch)=true) (fun k=>s.length - k) (fun k=> [(0,.slice (s.map eSto) t),(6,.slice ((ids s).map eDig) .ro),(7,.raw (.int .i64 k))]) (fun _=>LF) 0 ⟨by simp,by simp⟩ ⟨rfl,rfl,rfl⟩ (.refl _) ?_
 rintro k ⟨hk,he⟩
 refine AX ?_
 refine A6 (fun hc=>?_) (fun hc=>?_)
 ·have hlt:k < s.length:=by omega
  have i1:Ay (E4 s[k].patch=false):=⟨hgr _ (AH hlt)⟩
  refine AX ?_
  refine AO (fun h=>?_) (fun h=>?_)
  ·refine AX ?_
   refine Aw (.of_eq ?_)
   have hx:Da (ids s) (BL s[k].patch)=false:=LH h
   have hy:s.all (fun x=>Da (ids s) (BL x.patch))=false:=HT hlt hx
   rw[if_pos hy]
  ·refine AX ?_
   have hx:Da (ids s) (BL s[k].patch)=true:=tS h
   have hy: ∀ i (h:i < s.length),i < k+1→Da (ids s) (BL s[i].patch)=true:=fun i hi hik=>by
    rcases BN i k with h'|h'
    ·exact he i hi h'
    ·have e:i=k:=by omega
     subst e;exact hx
   exact⟨k+1,⟨by omega,hy⟩,by dsimp only;omega,⟨rfl,rfl,rfl⟩,.refl _⟩
 have hB:s.all (fun x=>Da (ids s) (BL x.patch))=true:=Ih fun i h=>he i h (by omega)
 rw[if_neg (by simp[hB])]
 clear he hB hk hc
 refine AX ?_
 refine A6 (fun h=>?_) (fun h=>?_)
 ·refine AX ?_
  refine Aw (.of_eq ?_)
  rw[if_pos h]
 rw[if_neg h]
 refine AX ?_
 refine AZ (σ:=Nat) (fun k=>k≤s.length∧ ∀ i (h:i < s.length),i < k→GV s s[i].patch s[i].id=0) (fun k=>s.length - k) (fun k=> [(0,.slice (s.map eSto) t),(8,.raw (.int .i64 k))]) (fun _=>LF) 0 ⟨by simp,by simp⟩ ⟨rfl,rfl⟩ (.refl _) ?_
 rintro k ⟨hk,he⟩
 refine AX ?_
 refine A6 (fun hc=>?_) (fun hc=>?_)
 ·have hlt:k < s.length:=by omega
  refine AX ?_
  refine AR (fun h2=>?_) (fun h2=>?_)
  ·refine AX ?_
   refine Aw (.of_eq ?_)
   rw[DW (f:=fun(x:Sto)=>GV s x.patch x.id) hlt he h2]
  ·refine AX ?_
   exact⟨k+1,⟨by omega,E9 (f:=fun(x:Sto)=>GV s x.patch x.id) he hlt h2⟩,by dsimp only;omega,⟨rfl,rfl⟩,.refl _⟩
 ·refine AX ?_
  refine Aw (.of_eq ?_)
  rw[E3 (f:=fun(x:Sto)=>GV s x.patch x.id) fun i h=>he i h (by omega)]⟩
theorem Ze {s:List Sto} (h:GK s=false):Gw s:=by
 unfold GK at h
 simp only[CH,A8,Bc]at h
 obtain⟨⟨h1,h2⟩,_⟩:=h
 refine⟨by omega,fun x hx=>?_⟩
 have:=h1 x (by rw[AB (by omega)];exact hx)
 exact Xo (by simpa using this)
def MF (s:List Sto):Bool:=!GK s&&decide (QP s=0)
instance z7 (s:List Sto) (t:CD):C9 Tryz.prog 9 [.slice (s.map eSto) t] (.raw (.bool (MF s))):=⟨by
 refine Av Tryz.func9 Tryz.ntmps9 rfl (rs:= [.tmp 2]) rfl rfl fun hb LF=>?_
 refine AX ?_
 refine Ao (fun hp=>?_) (fun hp=>?_)
 ·have i1:Ay (Gw s):=⟨Ze (by simpa using hp)⟩
  refine Bq ?_
  refine Aw (.of_eq ?_)
  rw[MF,hp,EJ]
 ·refine Bq ?_
  refine Aw (.of_eq ?_)
  rw[MF,hp,Xy]⟩
def Ke (s:List Sto) (x:Sto):List Sto:=s.takeWhile (fun y=>decide (ER y.id x.id < 0))++x::s.dropWhile (fun y=>decide (ER y.id x.id < 0))
theorem Y3 {α:Type} {q:α→Bool}: ∀ {l:List α} {k:Nat},k≤l.length→(∀ i (h:i < l.length),i < k→q l[i]=true)→(∀ h:k < l.length,q l[k]=false)→l.takeWhile q=l.take k∧l.dropWhile q=l.drop k
 | [],k,hk,_,_=>by simp
 |x::l,0,_,_,h=>by
  have:=h (by simp)
  simp only[BK]at this
  simp[this]
 |x::l,k+1,hk,h1,h2=>by
  have h0:=h1 0 (by simp) (by omega)
  simp only[BK]at h0
  have ih:=Y3 (l:=l) (k:=k) (q:=q) (by simpa using hk) (fun i h hi=>by have:=h1 (i+1) (by simpa using h) (by omega);simpa using this) (fun h=>by have:=h2 (by simpa using h);simpa using this)
  simp[h0,ih.1,ih.2]
instance zJ (s:List Sto) (x:Sto) (t:CD) [hs:Ay (s.length≤1000)]:C9 Tryz.prog 106 [.slice (s.map eSto) t,.agg (eSto x)] (.slice ((Ke s x).map eSto) .ro):=⟨by
 have hlen:=hs.out
 refine Av Tryz.func106 Tryz.ntmps106 rfl (rs:= [.tmp 4]) rfl rfl fun hb LF=>?_
 refine Cy fun b=>?_
 refine AZ (σ:=Nat) (fun k=>k≤s.length∧ ∀ i (h:i < s.length),i < k→decide (ER s[i].id x.id < 0)=true) (fun k=>s.length - k) (fun k=> [(0,.slice (s.map eSto) t),(3,.raw (.pointer (some ⟨b,0,none⟩))),(5,.raw (.int .i64 k))]) (fun _=> .box b 59 (eSto x)::LF) 0 ⟨by simp,by simp⟩ ⟨rfl,rfl,rfl⟩ (.refl _) ?_
 rintro k ⟨hk,he⟩
 have fin:(∀ h:k < s.length,decide (ER s[k].id x.id < 0)=false)→Ke s x=s.take k++ [x]++s.drop k:=fun hn=>by
  obtain⟨e1,e2⟩:=Y3 (q:=fun(y:Sto)=>decide (ER y.id x.id < 0)) hk he hn
  rw[Ke,e1,e2];simp
 refine AX ?_
 refine BG [(21,.raw (.bool (decide ((k:Int) < s.length∧ER (s.getD k Sto.zero).id x.id < 0)))),(0,.slice (s.map eSto) t),(3,.raw (.pointer (some ⟨b,0,none⟩))),(5,.raw (.int .i64 k))] (.box b 59 (eSto x)::LF) ?_ ?_
 ·repeat' (first|(refine A6 (fun h=>?_) (fun h=>?_)<;>refine AX ?_)|(refine AR (fun h=>?_) (fun h=>?_)<;>refine AX ?_)|(refine AO (fun h=>?_) (fun h=>?_)<;>refine AX ?_)|(refine Ao (fun h=>?_) (fun h=>?_)<;>(have h2:=h;(try simp only[AA,A8,AF,AJ]at h2);refine Bq ?_)))
  all_goals (refine⟨⟨Bh (by rfl) ?_,rfl,rfl,rfl⟩,.refl _⟩;first|(simp_all[List.getD];done)|grind)
 refine AX ?_
 refine A6 (fun h=>?_) (fun h=>?_)
 ·have hlt:k < s.length:=by omega
  have e0:s.getD k Sto.zero=s[k]:=by simp[List.getD,hlt]
  rw[e0]at h
  refine AX ?_
  exact⟨k+1,⟨by omega,KM (q:=fun(y:Sto)=>decide (ER y.id x.id < 0)) he hlt (BC h.2)⟩,by dsimp only;omega,⟨rfl,rfl,rfl⟩,.refl _⟩
 have hput:=fin (fun hlt=>by
  have e0:s.getD k Sto.zero=s[k]:=by simp[List.getD,hlt]
  rw[e0]at h
  exact CG (fun h'=>h ⟨by omega,h'⟩))
 clear fin
 refine PH ?_
 refine fF 4 [4,7] ?_ ?_
 ·decide+kernel
 refine Bq ?_
 have tl:(s.take k).length≤1000:=by rw[Ab];omega
 have dl:(s.drop k).length≤1000:=by rw[B4];omega
 refine C3 (fuel:=4) [4,5] (by decide+kernel) (by simp) fun i hi=>?_
 simp only[AG,Aa,or_false]at hi
 rcases hi with rfl|rfl
 ·refine⟨_,rfl,?_⟩
  refine GD fun t1=>?_
  refine C3 (fuel:=3) [5] (by decide+kernel) (by simp) fun i hi=>?_
  simp only[AG,Aa,or_false]at hi
  subst hi
  refine⟨_,rfl,?_⟩
  refine Bq ?_
  refine C3 (fuel:=2) [6] (by decide+kernel) (by simp) fun i hi=>?_
  simp only[AG,Aa,or_false]at hi
  subst hi
  refine⟨_,rfl,?_⟩
  refine Bq ?_
  refine C3 (fuel:=1) [7] (by decide+kernel) (by simp) fun i hi=>?_
  simp only[AG,Aa,or_false]at hi
  subst hi
  refine⟨_,rfl,?_⟩
  refine GD fun t2=>?_
  refine C3 (fuel:=0) [8] (by decide+kernel) (by simp) fun i hi=>?_
  simp only[AG,Aa,or_false]at hi
  subst hi
  refine⟨_,rfl,?_⟩
  refine Bq ?_
  refine CN (by decide+kernel) ?_
  refine Gu fun t3=>?_
  refine Aw (.ros ?_)
  rw[hput]
 ·refine⟨_,rfl,?_⟩
  refine Bq ?_
  refine C3 (fuel:=3) [4,6] (by decide+kernel) (by simp) fun i hi=>?_
  simp only[AG,Aa,or_false]at hi
  rcases hi with rfl|rfl
  ·refine⟨_,rfl,?_⟩
   refine GD fun t1=>?_
   refine C3 (fuel:=2) [6] (by decide+kernel) (by simp) fun i hi=>?_
   simp only[AG,Aa,or_false]at hi
   subst hi
   refine⟨_,rfl,?_⟩
   refine Bq ?_
   refine C3 (fuel:=1) [7] (by decide+kernel) (by simp) fun i hi=>?_
   simp only[AG,Aa,or_false]at hi
   subst hi
   refine⟨_,rfl,?_⟩
   refine GD fun t2=>?_
   refine C3 (fuel:=0) [8] (by decide+kernel) (by simp) fun i hi=>?_
   simp only[AG,Aa,or_false]at hi
   subst hi
   refine⟨_,rfl,?_⟩
   refine Bq ?_
   refine CN (by decide+kernel) ?_
   refine Gu fun t3=>?_
   refine Aw (.ros ?_)
   rw[hput]
  ·refine⟨_,rfl,?_⟩
   refine Bq ?_
   refine C3 (fuel:=2) [4] (by decide+kernel) (by simp) fun i hi=>?_
   simp only[AG,Aa,or_false]at hi
   subst hi
   refine⟨_,rfl,?_⟩
   refine GD fun t1=>?_
   refine C3 (fuel:=1) [7] (by decide+kernel) (by simp) fun i hi=>?_
   simp only[AG,Aa,or_false]at hi
   subst hi
   refine⟨_,rfl,?_⟩
   refine GD fun t2=>?_
   refine C3 (fuel:=0) [8] (by decide+kernel) (by simp) fun i hi=>?_
   simp only[AG,Aa,or_false]at hi
   subst hi
   refine⟨_,rfl,?_⟩
   refine Bq ?_
   refine CN (by decide+kernel) ?_
   refine Gu fun t3=>?_
   refine Aw (.ros ?_)
   rw[hput]⟩
theorem Iy {P:Program} {ρ:Env} {L LF:List Res} {X:PV} {t u s T n b T':Nat} {cs:List PV} {x z:PV} [hT:Ea P T n] (h:ρ u= .raw (.pointer (some ⟨b,0,none⟩))) (hX:Le (.tuple [x,.agg cs,z]) X) (hx:ρ t=x:=by conv=>lhs;whnf) (hz:ρ s=z:=by conv=>lhs;whnf) (hm:Res.box b T' cs∈L:=by repeat(first|exact AI|apply AL)) (hn:cs.length=n:=by simp) (hs:LF.Sublist L:=by repeat(first|exact EW _|apply List.Sublist.cons)):
  pq P [.tmp t,.cell u T,.tmp s] (fun r L'=>Le r X∧L'= []) LF .ret ρ L:=⟨trivial,_,[],.cons (.tmp t) (.cons (.cell u T h hm hT.out hn) (.cons (.tmp s) .nil)),hs,by subst hx;subst hz;exact hX,rfl⟩
def Ec (s:List Sto) (p:Pat):List Sto × Dig × Int:=
 if(Ew p).2≠0 then([],Dig.zero,(Ew p).2)else
 if(getS s (Ew p).1).isSome=true then(if p=(getS s (Ew p).1).getD Pat.zero then([],Dig.zero,6)else([],Dig.zero,14))else
 if Da (ids s) (BL p)=false then([],Dig.zero,19)else if GV s p (Ew p).1≠0 then([],Dig.zero,GV s p (Ew p).1)else
 if 400≤(s.length:Int)then([],Dig.zero,4)else(Ke s ⟨(Ew p).1,p⟩,(Ew p).1,0)
instance uo (s:List Sto) (p:Pat) (t:CD) [hg:Ay (E4 p=false)] [hs:Ay (Gw s)]:C9 Tryz.prog 43 [.slice (s.map eSto) t,.agg (Ba p)] (.tuple [.slice ((Ec s p).1.map eSto) .ro,.agg (eDig (Ec s p).2.1),.raw (.int .i64 (Ec s p).2.2)]):=⟨by
 have i1:Ay (s.length≤1000):=⟨by have:=hs.out.1;omega⟩
 refine Av Tryz.func43 Tryz.ntmps43 rfl (rs:= [.tmp 4,.cell 5 31,.tmp 6]) rfl rfl fun hb LF=>?_
 refine Cy fun b3=>?_
 refine Et fun b5=>?_
 refine Et fun b7=>?_
 refine AR (fun h1=>?_) (fun h1=>?_)
 ·refine AX ?_
  refine Iy rfl ?_
  rw[Ec,if_pos h1]
  exact .tuple3 (.ro _ _) (.refl _) (.refl _)
 rw[Ec,if_neg (by simp[h1])]
 refine Cy fun b9=>?_
 refine AO (fun h2=>?_) (fun h2=>?_)
 ·rw[if_pos h2]
  refine AX ?_
  refine A6 (fun h3=>?_) (fun h3=>?_)
  ·refine AX ?_
   refine Iy rfl ?_
   rw[if_pos h3]
   exact .tuple3 (.ro _ _) (.refl _) (.refl _)
  ·refine AX ?_
   refine Iy rfl ?_
   rw[if_neg h3]
   exact .tuple3 (.ro _ _) (.refl _) (.refl _)
 rw[if_neg (by simp[h2])]
 refine AX ?_
 refine AO (fun h3=>?_) (fun h3=>?_)
 ·refine AX ?_
  refine Iy rfl ?_
  rw[if_pos (LH h3)]
  exact .tuple3 (.ro _ _) (.refl _) (.refl _)
 rw[if_neg (IM h3)]
 refine AX ?_
 refine AR (fun h4=>?_) (fun h4=>?_)
 ·refine AX ?_
  refine Iy rfl ?_
  rw[if_pos h4]
  exact .tuple3 (.ro _ _) (.refl _) (.refl _)
 rw[if_neg (fun h=>h h4)]
 refine AX ?_
 refine A6 (fun h5=>?_) (fun h5=>?_)
 ·have:=hs.out.1;omega
 rw[if_neg h5]
 refine PH ?_
 refine OA [false,false,false,false,false,false,false,true,false] ?_ ?_
 ·decide+kernel
 refine Bq ?_
 refine Iy rfl ?_
 exact .refl _⟩
end Go.Proofs
