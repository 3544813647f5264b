/- Contracts of the program: the atoms that a change makes, one by one. -/
import Derived.Test.YtaibdmankdppkaaGreatDoorXak
import Derived.Test.YtaibdmankdppkaaGreatDoorProg
import Derived.Shelf.LaysM
import Derived.Shelf.Strconv.Itoa3
import Derived.Shelf.SlSortCmp.NoneTotal
import Derived.Shelf.SlGeneric
import Derived.Ground.SlsfProg
import Derived.Test.YtaibdmankdppkaaGreatDoorXai
import Derived.Test.YtaibdmankdppkaaGreatDoorXaf
import Derived.Test.YtaibdmankdppkaaGreatDoorXaj
import Derived.Test.YtaibdmankdppkaaGreatDoorXae
set_option linter.unusedSimpArgs false
set_option linter.unusedVariables false
set_option maxHeartbeats 8000000
namespace Go.Proofs
open Go Go.Q
attribute [local irreducible] ER AQ BG Fu NC
instance uD (first n:Int) [hs:B4 (0≤first∧first≤1000000000∧0≤n∧n≤100000)]:C9 Tryz.prog 150 [.raw (.int .i64 n),.pt [.raw (.int .i64 first)] 0] (.agg (eIdent ⟨Dig.zero,first+n⟩)):=⟨by
 obtain⟨h1,h2,h3,h4⟩:=hs.out
 refine Au Tryz.func150 Tryz.ntmps150 rfl (rs:= [.cell 3 65]) rfl rfl fun hb LF=>?_
 refine XY fun b=>?_
 exact Fq rfl (.refl _)⟩
theorem JD {c:Chg} {first:Int} {x:Atm} (e:DZ c first= [x]):([]++ [x]) <+:DZ c first:=by rw[e];exact⟨[],rfl⟩
theorem QA {k n:Nat} (h:k≤n):List.range k <+:List.range n:=by
 have:=List.take_prefix k (List.range n)
 rwa [List.take_range,Cy h]at this
theorem Ao {a b:Res} {L LF:List Res}:(a::b::(L++LF)).Perm (L++(a::b::LF)):=((Bg (l₁:=L)).trans (.cons a Bg)).symm
def qE (c:Chg) (first:Int):List PV:= [.pt [.raw (.int .i64 first)] 0,.pt (eChg c) 0]
def wX (a:Atm):List PV:= [.agg (eAtm a)]
theorem RK (c:Chg) (first:Int) (hk:1≤c.kind∧c.kind≤7) (hl:c.lines.length≤2000∧0≤first∧first≤1000000000):dT Tryz.prog 149 (qE c first) wX (DZ c first):=by
 intro l J Jx hY L hJ
 obtain⟨hl,hf0,hf1⟩:=hl
 have hz:B4 (0≤first∧first≤1000000000∧(0:Int)≤0∧(0:Int)≤100000):=⟨by omega⟩
 refine CA Tryz.func149 rfl Tryz.ntmps149 (rs:= []) rfl rfl fun hb LF=>?_
 refine wn ?_
 refine A6 (fun h1=>?_) (fun h1=>?_)
 ·have e:DZ c first= [{ Atm.zero with id:=⟨Dig.zero,first+0⟩,kind:=1,file:=⟨Dig.zero,first+0⟩,type:=c.type }]:=by rw[DZ,if_pos h1,Oz]
  refine Bp 8 ?_ ?_
  ·decide+kernel
  refine wf ?_
  refine JQ L LF rfl rfl rfl (.refl _) _ (hY [] _ L (JD e) hJ) fun b L' hR=>?_
  refine wf ?_
  refine⟨trivial,[],L',.nil,.refl _,?_⟩
  rcases hR with ⟨_,h⟩|⟨_,h⟩
  ·exact .inl (by rw[e];exact h)
  ·exact .inr ⟨_,h⟩
 refine wn ?_
 refine A6 (fun h2=>?_) (fun h2=>?_)
 ·have e:DZ c first= [{ Atm.zero with id:=⟨Dig.zero,first+0⟩,kind:=2,file:=c.file,parent:=c.parent,name:=c.name,over:=c.over }]:=by rw[DZ,if_neg h1,if_pos h2,Oz]
  refine Bp 12 ?_ ?_
  ·decide+kernel
  refine wf ?_
  refine JQ L LF rfl rfl rfl (.refl _) _ (hY [] _ L (JD e) hJ) fun b L' hR=>?_
  refine wf ?_
  refine⟨trivial,[],L',.nil,.refl _,?_⟩
  rcases hR with ⟨_,h⟩|⟨_,h⟩
  ·exact .inl (by rw[e];exact h)
  ·exact .inr ⟨_,h⟩
 refine wn ?_
 refine A6 (fun h3=>?_) (fun h3=>?_)
 ·have e:DZ c first= [{ Atm.zero with id:=⟨Dig.zero,first+0⟩,kind:=3,file:=c.file,mode:=c.mode,over:=c.over }]:=by rw[DZ,if_neg h1,if_neg h2,if_pos h3,Oz]
  refine Bp 10 ?_ ?_
  ·decide+kernel
  refine wf ?_
  refine JQ L LF rfl rfl rfl (.refl _) _ (hY [] _ L (JD e) hJ) fun b L' hR=>?_
  refine wf ?_
  refine⟨trivial,[],L',.nil,.refl _,?_⟩
  rcases hR with ⟨_,h⟩|⟨_,h⟩
  ·exact .inl (by rw[e];exact h)
  ·exact .inr ⟨_,h⟩
 refine wn ?_
 refine A6 (fun h4=>?_) (fun h4=>?_)
 ·have e:DZ c first= [{ Atm.zero with id:=⟨Dig.zero,first+0⟩,kind:=4,file:=c.file,data:=c.data,over:=c.over }]:=by rw[DZ,if_neg h1,if_neg h2,if_neg h3,if_pos h4,Oz]
  refine Bp 10 ?_ ?_
  ·decide+kernel
  refine wf ?_
  refine JQ L LF rfl rfl rfl (.refl _) _ (hY [] _ L (JD e) hJ) fun b L' hR=>?_
  refine wf ?_
  refine⟨trivial,[],L',.nil,.refl _,?_⟩
  rcases hR with ⟨_,h⟩|⟨_,h⟩
  ·exact .inl (by rw[e];exact h)
  ·exact .inr ⟨_,h⟩
 refine wn ?_
 refine A6 (fun h6=>?_) (fun h6=>?_)
 ·have e:DZ c first= [{ Atm.zero with id:=⟨Dig.zero,first+0⟩,kind:=6,file:=c.file,src:=c.after,dst:=c.before,over:=c.over }]:=by rw[DZ,if_neg h1,if_neg h2,if_neg h3,if_neg h4,if_pos h6,Oz]
  refine Bp 12 ?_ ?_
  ·decide+kernel
  refine wf ?_
  refine JQ L LF rfl rfl rfl (.refl _) _ (hY [] _ L (JD e) hJ) fun b L' hR=>?_
  refine wf ?_
  refine⟨trivial,[],L',.nil,.refl _,?_⟩
  rcases hR with ⟨_,h⟩|⟨_,h⟩
  ·exact .inl (by rw[e];exact h)
  ·exact .inr ⟨_,h⟩
 refine wn ?_
 refine A6 (fun h7=>?_) (fun h7=>?_)
 ·have e:DZ c first= [{ Atm.zero with id:=⟨Dig.zero,first+0⟩,kind:=7,over:=c.over }]:=by rw[DZ,if_neg h1,if_neg h2,if_neg h3,if_neg h4,if_neg h6,if_pos h7,Oz]
  refine Bp 6 ?_ ?_
  ·decide+kernel
  refine wf ?_
  refine JQ L LF rfl rfl rfl (.refl _) _ (hY [] _ L (JD e) hJ) fun b L' hR=>?_
  refine wf ?_
  refine⟨trivial,[],L',.nil,.refl _,?_⟩
  rcases hR with ⟨_,h⟩|⟨_,h⟩
  ·exact .inl (by rw[e];exact h)
  ·exact .inr ⟨_,h⟩
 refine wn ?_
 refine A6 (fun h5=>?_) (fun h5=>?_)
 ·have e:DZ c first=(List.range c.lines.length).map (Fk c first)++(List.range (c.lines.length+1)).map (Et c first):=by rw[DZ,if_neg h1,if_neg h2,if_neg h3,if_neg h4,if_neg h6,if_neg h7]
  have hc209: ∀ n:Nat,n≤4001→B4 (0≤first∧first≤1000000000∧(0:Int)≤n∧(n:Int)≤100000):=fun n hn=>⟨by omega⟩
  refine wf ?_
  refine Ab (σ:=Nat × List Res) (fun k=>k.1≤c.lines.length∧J ((List.range k.1).map (Fk c first)) k.2) (fun k=>c.lines.length - k.1) (fun k=> [(0,.raw (.func (.yield l) #[] #[])),(1,.pt [.raw (.int .i64 first)] 0),(2,.pt (eChg c) 0),(4,.clo 150 [.pt [.raw (.int .i64 first)] 0]),(93,.slice (c.lines.map eS) .ro),(94,.raw (.int .i64 c.lines.length)),(95,.raw (.int .i64 k.1))]) (fun k=>k.2++LF) (0,L) ⟨by simp,hJ⟩ ⟨rfl,rfl,rfl,rfl,rfl,rfl,rfl⟩ (.refl _) ?_
  rintro⟨k,L1⟩ ⟨hk,hJ1⟩
  dsimp only at hk hJ1 ⊢
  refine wn ?_
  refine A6 (fun hc=>?_) (fun hc=>?_)
  ·have hlt:k < c.lines.length:=by omega
   have hsk:=hc209 k (by omega)
   refine wn ?_
   refine Bp 8 ?_ ?_
   ·decide+kernel
   refine wf ?_
   have hx:Fk c first k= { Atm.zero with id:=⟨Dig.zero,first+k⟩,kind:=5,file:=c.file,text:=c.lines[k] }:=by simp[Fk,List.getD,hlt]
   have hr:(List.range (k+1)).map (Fk c first)=(List.range k).map (Fk c first)++ [Fk c first k]:=by rw[E8,An];rfl
   refine JQ L1 LF rfl rfl rfl (.refl _) _ (hY ((List.range k).map (Fk c first)) { Atm.zero with id:=⟨Dig.zero,first+k⟩,kind:=5,file:=c.file,text:=c.lines[k] } L1 ?_ hJ1) fun b L' hR=>?_
   ·rw[←hx,←hr,e]
    exact((QA (by omega)).map _).trans (List.prefix_append _ _)
   rw[←hx,←hr]at hR
   refine wf ?_
   rcases hR with ⟨rfl,h⟩|⟨rfl,h⟩
   ·refine AU (t:=false) (fun h'=>by cases h') (fun _=>?_)
    refine wf ?_
    exact⟨(k+1,L'),⟨by dsimp only;omega,h⟩,by dsimp only;omega,⟨rfl,rfl,rfl,rfl,rfl,rfl,rfl⟩,.refl _⟩
   ·refine AU (t:=true) (fun _=>?_) (fun h'=>by cases h')
    refine wf ?_
    exact⟨trivial,[],L',.nil,.refl _,.inr ⟨_,h⟩⟩
  have hkk:k=c.lines.length:=by omega
  subst hkk
  generalize hA:(List.range c.lines.length).map (Fk c first)=A at e hJ1
  refine XY fun b8=>?_
  refine Ab (σ:=Nat × Ident × List Res) (fun k=>k.1≤c.lines.length+1∧(k.1≤c.lines.length→k.2.1=(if 0 < (k.1:Int)then⟨Dig.zero,first+k.1 - 1⟩else c.after))∧J (A++(List.range k.1).map (Et c first)) k.2.2) (fun k=>c.lines.length+1 - k.1) (fun k=> [(0,.raw (.func (.yield l) #[] #[])),(1,.pt [.raw (.int .i64 first)] 0),(2,.pt (eChg c) 0),(4,.clo 150 [.pt [.raw (.int .i64 first)] 0]),(7,.raw (.int .i64 c.lines.length)),(8,.raw (.pointer (some ⟨b8,0,none⟩))),(117,.raw (.int .i64 (c.lines.length+1))),(118,.raw (.int .i64 k.1))]) (fun k=> .box b8 65 (eIdent k.2.1)::(k.2.2++LF)) (0,c.after,L1) ⟨by simp,fun _=>rfl,by simpa using hJ1⟩ ⟨rfl,rfl,rfl,rfl,rfl,rfl,rfl,rfl⟩ (.refl _) ?_
  rintro⟨k,fr,L1⟩ ⟨hk,hfr,hJ1⟩
  dsimp only at hk hfr hJ1 ⊢
  refine wf ?_
  refine A6 (fun hc=>?_) (fun hc=>?_)
  ·have hfr:=hfr (by omega)
   have hsk:=hc209 k (by omega)
   have hsk2:B4 (0≤first∧first≤1000000000∧(0:Int)≤c.lines.length+k∧(c.lines.length+k:Int)≤100000):=⟨by omega⟩
   refine XY fun b10=>?_
   refine Cp (σ:=Ident) (fun s=>s=if(k:Int) < c.lines.length then⟨Dig.zero,first+k⟩else c.before) (fun s=> [(0,.raw (.func (.yield l) #[] #[])),(1,.pt [.raw (.int .i64 first)] 0),(2,.pt (eChg c) 0),(4,.clo 150 [.pt [.raw (.int .i64 first)] 0]),(7,.raw (.int .i64 c.lines.length)),(8,.raw (.pointer (some ⟨b8,0,none⟩))),(9,.raw (.int .i64 k)),(10,.raw (.pointer (some ⟨b10,0,none⟩))),(117,.raw (.int .i64 (c.lines.length+1))),(118,.raw (.int .i64 k))]) (fun s=> .box b10 65 (eIdent s):: .box b8 65 (eIdent fr)::(L1++LF)) ?_ ?_
   ·refine A6 (fun h=>?_) (fun h=>?_)
    ·refine wf ?_
     exact⟨⟨Dig.zero,first+k⟩,by rw[if_pos h],⟨rfl,rfl,rfl,rfl,rfl,rfl,rfl,rfl,rfl,rfl⟩,.refl _⟩
    ·refine wf ?_
     exact⟨c.before,by rw[if_neg h],⟨rfl,rfl,rfl,rfl,rfl,rfl,rfl,rfl,rfl,rfl⟩,.refl _⟩
   rintro to hto
   refine wn ?_
   refine Bp 11 ?_ ?_
   ·decide+kernel
   refine wf ?_
   have hx:Et c first k= { Atm.zero with id:=⟨Dig.zero,first+(c.lines.length+k)⟩,kind:=6,file:=c.file,src:=fr,dst:=to }:=by rw[Et,hfr,hto,Int.add_assoc]
   have hr:A++(List.range (k+1)).map (Et c first)=(A++(List.range k).map (Et c first))++ [Et c first k]:=by rw[E8,An,AV];rfl
   refine JQ L1 (.box b10 65 (eIdent to):: .box b8 65 (eIdent fr)::LF) rfl rfl rfl Ao _ (hY (A++(List.range k).map (Et c first)) { Atm.zero with id:=⟨Dig.zero,first+(c.lines.length+k)⟩,kind:=6,file:=c.file,src:=fr,dst:=to } L1 ?_ hJ1) fun b L' hR=>?_
   ·rw[←hx,←hr,e]
    exact(List.prefix_append_right_inj _).2 ((QA (by omega)).map _)
   rw[←hx,←hr]at hR
   refine wf ?_
   rcases hR with ⟨rfl,h⟩|⟨rfl,h⟩
   ·refine AU (t:=false) (fun h'=>by cases h') (fun _=>?_)
    refine EP Ao.symm ?_
    refine wf ?_
    refine⟨(k+1,to,L'),⟨by dsimp only;omega,?_,h⟩,by dsimp only;omega,⟨rfl,rfl,rfl,rfl,rfl,rfl,rfl,rfl⟩,.cons _ (.refl _)⟩
    intro h'
    dsimp only at h' ⊢
    rw[hto,if_pos (by omega),if_pos (by omega)]
    congr 1
    push_cast;omega
   ·refine AU (t:=true) (fun _=>?_) (fun h'=>by cases h')
    refine wf ?_
    exact⟨trivial,[],L',.nil,(Dz _).append (.cons _ (.cons _ (.refl _))),.inr ⟨_,h⟩⟩
  refine wf ?_
  have hkk:k=c.lines.length+1:=by omega
  subst hkk
  exact⟨trivial,[],L1,.nil,.cons _ (.refl _),.inl (by rw[e];exact hJ1)⟩
 ·exact absurd h5 (by omega)
instance xc (c:Chg) (first:Int):C9 Tryz.prog 84 [.agg (eChg c),.raw (.int .i64 first)] (.clo 149 (qE c first)):=⟨by
 refine Au Tryz.func84 Tryz.ntmps84 rfl (rs:= [.tmp 4]) rfl rfl fun hb LF=>?_
 refine wf ?_
 refine Az (.of_eq ?_)
 rfl⟩
end Go.Proofs
namespace Go.Proofs
open Go.Shelf
def Tryz.laysItoa_ren:Go.Shelf.Ren:=⟨fun|171=>287|243=>302|246=>306|283=>308|284=>309|285=>310|286=>311|129=>179|317=>312|318=>313|319=>314|320=>315|337=>316|338=>317|n=>n,fun|3=>3|9=>9|2=>2|4=>4|171=>310|0=>0|53=>214|37=>159|5=>5|173=>312|212=>315|51=>212|20=>20|213=>316|46=>157|232=>30|233=>317|n=>n,fun|17=>1|18=>2|19=>3|n=>n⟩
theorem Tryz.laysItoa:Go.Proofs.LaysM.n171 Tryz.prog Tryz.laysItoa_ren:={
 mixed:=by kernel_rfl
 f129:=Tryz.func179.trans (congrArg some (by kernel_rfl))
 f171:=Tryz.func287.trans (congrArg some (by kernel_rfl))
 f243:=Tryz.func302.trans (congrArg some (by kernel_rfl))
 f246:=Tryz.func306.trans (congrArg some (by kernel_rfl))
 f283:=Tryz.func308.trans (congrArg some (by kernel_rfl))
 f284:=Tryz.func309.trans (congrArg some (by kernel_rfl))
 f285:=Tryz.func310.trans (congrArg some (by kernel_rfl))
 f286:=Tryz.func311.trans (congrArg some (by kernel_rfl))
 f317:=Tryz.func312.trans (congrArg some (by kernel_rfl))
 f318:=Tryz.func313.trans (congrArg some (by kernel_rfl))
 f319:=Tryz.func314.trans (congrArg some (by kernel_rfl))
 f320:=Tryz.func315.trans (congrArg some (by kernel_rfl))
 f337:=Tryz.func316.trans (congrArg some (by kernel_rfl))
 f338:=Tryz.func317.trans (congrArg some (by kernel_rfl))
 t0:=Tryz.underlying0
 a0:=Tryz.isAgg0
 z0:=Tryz.sizeOf0
 v0:=Tryz.zeroValue0
 t2:=Tryz.underlying2
 a2:=Tryz.isAgg2
 z2:=Tryz.sizeOf2
 v2:=Tryz.zeroValue2
 t3:=Tryz.underlying3
 a3:=Tryz.isAgg3
 z3:=Tryz.sizeOf3
 v3:=Tryz.zeroValue3
 t4:=Tryz.underlying4
 a4:=Tryz.isAgg4
 z4:=Tryz.sizeOf4
 v4:=Tryz.zeroValue4
 t5:=Tryz.underlying5
 a5:=Tryz.isAgg5
 z5:=Tryz.sizeOf5
 v5:=Tryz.zeroValue5
 t9:=Tryz.underlying9
 a9:=Tryz.isAgg9
 z9:=Tryz.sizeOf9
 v9:=Tryz.zeroValue9
 t20:=Tryz.underlying20
 a20:=Tryz.isAgg20
 z20:=Tryz.sizeOf20
 v20:=Tryz.zeroValue20
 t37:=Tryz.underlying159
 a37:=Tryz.isAgg159
 z37:=Tryz.sizeOf159
 v37:=Tryz.zeroValue159
 t46:=Tryz.underlying157
 a46:=Tryz.isAgg157
 z46:=Tryz.sizeOf157
 v46:=Tryz.zeroValue157
 t51:=Tryz.underlying212
 a51:=Tryz.isAgg212
 z51:=Tryz.sizeOf212
 v51:=Tryz.zeroValue212
 t53:=Tryz.underlying214
 a53:=Tryz.isAgg214
 z53:=Tryz.sizeOf214
 v53:=Tryz.zeroValue214
 t171:=Tryz.underlying310
 a171:=Tryz.isAgg310
 z171:=Tryz.sizeOf310
 v171:=Tryz.zeroValue310
 t173:=Tryz.underlying312
 a173:=Tryz.isAgg312
 z173:=Tryz.sizeOf312
 v173:=Tryz.zeroValue312
 t212:=Tryz.underlying315
 a212:=Tryz.isAgg315
 z212:=Tryz.sizeOf315
 v212:=Tryz.zeroValue315
 t213:=Tryz.underlying316
 a213:=Tryz.isAgg316
 z213:=Tryz.sizeOf316
 t232:=Tryz.underlying30
 a232:=Tryz.isAgg30
 z232:=Tryz.sizeOf30
 v232:=Tryz.zeroValue30
 t233:=Tryz.underlying317
 a233:=Tryz.isAgg317
 z233:=Tryz.sizeOf317
 v233:=Tryz.zeroValue317
 g17:=by kernel_rfl
 g18:=by kernel_rfl
 g19:=by kernel_rfl
 i0:=by kernel_rfl
 i2:=by kernel_rfl
 i3:=by kernel_rfl
 i4:=by kernel_rfl
 i5:=by kernel_rfl
 i9:=by kernel_rfl
 i20:=by kernel_rfl
 i37:=by kernel_rfl
 i46:=by kernel_rfl
 i51:=by kernel_rfl
 i53:=by kernel_rfl
 i171:=by kernel_rfl
 i173:=by kernel_rfl
 i212:=by kernel_rfl
 i232:=by kernel_rfl
 i233:=by kernel_rfl
 m17:=by kernel_rfl
 m18:=by kernel_rfl
 m19:=by kernel_rfl }
def Tryz.sortD_ren:Go.Shelf.Ren:=⟨fun|6=>60|15=>125|14=>124|28=>178|29=>179|20=>170|21=>171|22=>172|23=>173|24=>174|25=>175|26=>176|27=>177|46=>224|47=>225|48=>226|49=>227|50=>228|57=>283|n=>n,fun|22=>24|24=>31|25=>97|3=>3|39=>157|0=>0|53=>212|55=>214|4=>4|46=>206|45=>205|50=>134|5=>5|9=>9|66=>245|70=>249|76=>287|77=>288|n=>n,fun|n=>n⟩
theorem Tryz.sortD:Go.Proofs.SlLaysF0.n6 Tryz.prog Tryz.sortD_ren:={
 mixed:=by kernel_rfl
 f6:=⟨Tryz.f60.name,by decide,Tryz.func60.trans (congrArg some (by kernel_rfl))⟩
 f14:=⟨Tryz.f124.name,by decide,Tryz.func124.trans (congrArg some (by kernel_rfl))⟩
 f15:=Tryz.func125.trans (congrArg some (by kernel_rfl))
 f20:=⟨Tryz.f170.name,by decide,Tryz.func170.trans (congrArg some (by kernel_rfl))⟩
 f21:=⟨Tryz.f171.name,by decide,Tryz.func171.trans (congrArg some (by kernel_rfl))⟩
 f22:=⟨Tryz.f172.name,by decide,Tryz.func172.trans (congrArg some (by kernel_rfl))⟩
 f23:=⟨Tryz.f173.name,by decide,Tryz.func173.trans (congrArg some (by kernel_rfl))⟩
 f24:=⟨Tryz.f174.name,by decide,Tryz.func174.trans (congrArg some (by kernel_rfl))⟩
 f25:=⟨Tryz.f175.name,by decide,Tryz.func175.trans (congrArg some (by kernel_rfl))⟩
 f26:=⟨Tryz.f176.name,by decide,Tryz.func176.trans (congrArg some (by kernel_rfl))⟩
 f27:=⟨Tryz.f177.name,by decide,Tryz.func177.trans (congrArg some (by kernel_rfl))⟩
 f28:=Tryz.func178.trans (congrArg some (by kernel_rfl))
 f29:=Tryz.func179.trans (congrArg some (by kernel_rfl))
 f46:=⟨Tryz.f224.name,by decide,Tryz.func224.trans (congrArg some (by kernel_rfl))⟩
 f47:=Tryz.func225.trans (congrArg some (by kernel_rfl))
 f48:=Tryz.func226.trans (congrArg some (by kernel_rfl))
 f49:=⟨Tryz.f227.name,by decide,Tryz.func227.trans (congrArg some (by kernel_rfl))⟩
 f50:=⟨Tryz.f228.name,by decide,Tryz.func228.trans (congrArg some (by kernel_rfl))⟩
 f57:=⟨Tryz.f283.name,by decide,Tryz.func283.trans (congrArg some (by kernel_rfl))⟩
 t0:=Tryz.underlying0
 a0:=Tryz.isAgg0
 z0:=Tryz.sizeOf0
 v0:=Tryz.zeroValue0
 t3:=Tryz.underlying3
 a3:=Tryz.isAgg3
 z3:=Tryz.sizeOf3
 v3:=Tryz.zeroValue3
 t4:=Tryz.underlying4
 a4:=Tryz.isAgg4
 z4:=Tryz.sizeOf4
 v4:=Tryz.zeroValue4
 t5:=Tryz.underlying5
 a5:=Tryz.isAgg5
 z5:=Tryz.sizeOf5
 v5:=Tryz.zeroValue5
 t9:=Tryz.underlying9
 a9:=Tryz.isAgg9
 z9:=Tryz.sizeOf9
 v9:=Tryz.zeroValue9
 t22:=Tryz.underlying24
 a22:=Tryz.isAgg24
 z22:=Tryz.sizeOf24
 v22:=Tryz.zeroValue24
 t25:=Tryz.underlying97
 a25:=Tryz.isAgg97
 z25:=Tryz.sizeOf97
 v25:=Tryz.zeroValue97
 t39:=Tryz.underlying157
 a39:=Tryz.isAgg157
 z39:=Tryz.sizeOf157
 v39:=Tryz.zeroValue157
 t45:=Tryz.underlying205
 a45:=Tryz.isAgg205
 z45:=Tryz.sizeOf205
 v45:=Tryz.zeroValue205
 t46:=Tryz.underlying206
 a46:=Tryz.isAgg206
 z46:=Tryz.sizeOf206
 v46:=Tryz.zeroValue206
 t50:=Tryz.underlying134
 a50:=Tryz.isAgg134
 z50:=Tryz.sizeOf134
 v50:=Tryz.zeroValue134
 t53:=Tryz.underlying212
 a53:=Tryz.isAgg212
 z53:=Tryz.sizeOf212
 v53:=Tryz.zeroValue212
 t55:=Tryz.underlying214
 a55:=Tryz.isAgg214
 z55:=Tryz.sizeOf214
 v55:=Tryz.zeroValue214
 t66:=Tryz.underlying245
 a66:=Tryz.isAgg245
 z66:=Tryz.sizeOf245
 v66:=Tryz.zeroValue245
 t70:=Tryz.underlying249
 a70:=Tryz.isAgg249
 z70:=Tryz.sizeOf249
 v70:=Tryz.zeroValue249
 t76:=Tryz.underlying287
 a76:=Tryz.isAgg287
 z76:=Tryz.sizeOf287
 v76:=Tryz.zeroValue287
 t77:=Tryz.underlying288
 a77:=Tryz.isAgg288
 z77:=Tryz.sizeOf288
 v77:=Tryz.zeroValue288 }
end Go.Proofs
namespace Go.Proofs
open Go Go.Q Go.Shelf
attribute [local irreducible] ER AQ BG Fu
theorem Qe (n:Nat):Lib.decDigits n=Hs n:=by
 induction n using Nat.strongRecOn with
 |_ n ih=>
  unfold Lib.decDigits
  by_cases h:n < 10
  ·rw[dif_pos h,IQ h]
  ·rw[dif_neg h,Lr h,ih (n / 10) (by omega)]
theorem ni (n:Int):Lib.itoa n=J8 n:=by
 unfold Lib.itoa J8
 by_cases h:n < 0
 ·rw[if_pos h,if_pos h,Qe,show n.natAbs=(-n).toNat by omega]
 ·rw[if_neg h,if_neg h,Qe]
theorem r9 {w:World} {g:Gh} {L:List Res} (hi:Du w g L):Lib.TabIs Tryz.prog w "internal/strconv.uint64pow10" .u64 Lib.pow10Tab:=by
 obtain⟨T,p,h⟩:=hi.satM _ _ hi.glob.tab
 unfold Lib.TabIs World.var?
 rw[show Tryz.prog.globalNamed "internal/strconv.uint64pow10" =some globAt by kernel_rfl]
 simp only[Hg,h]
 rfl
instance y5 (n:Int) [hs:B4 (-140737488355328≤n∧n≤140737488355328)]:C9 Tryz.prog 287 [.raw (.int .i64 n)] (.str (J8 n)):=⟨sf fun vs w g LF hv hi=>by
 obtain⟨h0,h1⟩:=hs.out
 obtain⟨v,rfl⟩: ∃ v,vs= [v]:=by
  have:=hv.len
  match vs,this with
  | [v],_=>exact⟨v,rfl⟩
 rw[hv.uncons.1.raw_inv]
 refine(Any.strconv_Itoa Tryz.laysItoa n (by omega) (by omega) w (r9 hi)).mono ?_
 rintro e w' ⟨rfl,k,os,rfl⟩
 refine⟨_,rfl,fun g=>by rw[ni];exact .str (by have:=OW (n:=n) ⟨h0,h1⟩;show _≤2 ^ 47;omega),rfl,rfl,rfl,l7 _ _,?_,fun j hj=>?_⟩
 ·show w.heap.size≤(w.heap++os).size
  simp
 ·show(w.heap++os)[j]? =_
  rw[FI hj]⟩
def O8 (b:Nat) (p v:Value):Res:= .box b 263 [.raw p,.raw v]
def Ih (b:Nat):Value:= .pointer (some ⟨b,0,none⟩)
instance :tR Tryz.prog 261 263 2:= .of (by kernel_rfl) (by kernel_rfl)
instance (v:Value):ZY Tryz.prog 307 [.raw v] (.raw v):=fR Tryz.func307 (by kernel_rfl) (by kernel_rfl) (by kernel_rfl) (by kernel_rfl) v
theorem Qf (b:Nat) (p v:Value) (hp:p= .pointer none∨p=Ih b):BG Tryz.prog 303 [.raw (Ih b)] [O8 b p v] (fun _ L'=>L'= [O8 b (Ih b) v]):=by
 refine CA Tryz.func303 rfl Tryz.ntmps303 (rs:= []) rfl rfl fun hb LF=>?_
 rw[show [O8 b p v]++LF= .box b 263 [.raw p,.raw v]::LF from rfl]
 obtain⟨q,rfl,hq⟩: ∃ q,p= .pointer q∧(q=none∨q=some ⟨b,0,none⟩):=by
  rcases hp with rfl|rfl
  ·exact⟨none,rfl,.inl rfl⟩
  ·exact⟨_,rfl,.inr rfl⟩
 refine wf ?_
 refine rU rfl rfl ?_
 refine wf ?_
 rcases hq with rfl|rfl
 ·refine AU (t:=true) (fun _=>?_) (fun h=>by cases h)
  refine wf ?_
  refine Zt (by kernel_rfl) (by decide) rfl AF (by simp) ?_
  refine pk (xs:= [.tmp 9]) (args:= [.raw (Ih b)]) rfl (fun i h1 h2=>by
   match i,h1,h2 with
   |0,_,_=>exact .refl _
   |m+1,h1,_=>exact absurd h1 (by simp)) rfl ?_
  refine W3 (by kernel_rfl) rfl AF (by kernel_rfl) ?_
  refine wf ?_
  refine Ho [.raw (Ih b),.raw v] rfl rfl rfl rfl (by simp) ?_
  refine wf ?_
  exact⟨trivial,[],[O8 b (Ih b) v],.nil,.refl _,rfl⟩
 ·refine AU (t:=false) (fun h=>by cases h) (fun _=>?_)
  refine wf ?_
  refine rQ rfl rfl ?_
  refine wf ?_
  exact⟨trivial,[],[O8 b (Ih b) v],.nil,.refl _,rfl⟩
instance :fj Tryz.prog 159 5:= .of (by kernel_rfl) (by kernel_rfl) (by kernel_rfl)
def qt (b:Nat) (l:List UInt8) (L:List Res):Prop:= ∃ p v R,(p= .pointer none∨p=Ih b)∧L7 5 v l R∧L=O8 b p v::R
theorem Na (b:Nat) (l s:List UInt8) (L:List Res) (hL:qt b l L) (hl:l.length+s.length≤140737488355328):BG Tryz.prog 290 [.raw (Ih b),.str s] L (fun _ L'=>qt b (l++s) L'):=by
 obtain⟨p,v,R,hp,hv,rfl⟩:=hL
 refine CA Tryz.func290 rfl Tryz.ntmps290 (rs:= [.tmp 4,.tmp 5]) rfl rfl fun hb LF=>?_
 rw[show(O8 b p v::R)++LF= [O8 b p v]++(R++LF) from rfl]
 refine ws ?_
 refine CV (xs:= [.tmp 6]) [O8 b p v] (R++LF) (f:=303) (cs:= []) (C5 _) rfl rfl (.refl _) _ (Qf b p v hp) fun r L' e=>?_
 subst e
 refine wf ?_
 refine ib (R:=R) (LF:= .box b 263 [.raw (Ih b),.raw v]::LF) (fun R'=> .box b 263 [.raw (Ih b),.raw v]::(R'++LF)) (ay:= .str s) rfl rfl hv (Bg (l₁:=R)).symm (fun R'=>Bg) hl fun v' R' hv'=>?_
 refine wf ?_
 refine Ho [.raw (Ih b),.raw v'] rfl rfl hv'.one rfl (by simp) ?_
 refine wf ?_
 refine wf ?_
 exact⟨trivial,_,O8 b (Ih b) v'::R',.cons (.tmp 4) (.cons (.tmp 5) .nil),.refl _,_,v',R',.inr rfl,hv',rfl⟩
theorem MX (b:Nat) (l:List UInt8) (c:UInt8) (L:List Res) (hL:qt b l L) (hl:l.length+1≤140737488355328):BG Tryz.prog 291 [.raw (Ih b),.raw (.int .u8 c.toNat)] L (fun _ L'=>qt b (l++ [c]) L'):=by
 obtain⟨p,v,R,hp,hv,rfl⟩:=hL
 refine CA Tryz.func291 rfl Tryz.ntmps291 (rs:= [.tmp 4]) rfl rfl fun hb LF=>?_
 rw[show(O8 b p v::R)++LF= [O8 b p v]++(R++LF) from rfl]
 refine ws ?_
 refine CV (xs:= [.tmp 5]) [O8 b p v] (R++LF) (f:=303) (cs:= []) (C5 _) rfl rfl (.refl _) _ (Qf b p v hp) fun r L' e=>?_
 subst e
 refine wf ?_
 refine dw (R:=R) (LF:= .box b 263 [.raw (Ih b),.raw v]::LF) (fun R'=> .box b 263 [.raw (Ih b),.raw v]::(R'++LF)) (t:= .ro) rfl rfl hv (Bg (l₁:=R)).symm (fun R'=>Bg) hl fun v' R' hv'=>?_
 refine wf ?_
 refine Ho [.raw (Ih b),.raw v'] rfl rfl hv'.one rfl (by simp) ?_
 refine wf ?_
 refine wf ?_
 exact⟨trivial,_,O8 b (Ih b) v'::R',.cons (.tmp 4) .nil,.refl _,_,v',R',.inr rfl,hv',rfl⟩
theorem di (b:Nat) (l:List UInt8) (L:List Res) (hL:qt b l L) (h0:l≠ []) (hl:l.length≤140737488355328):BG Tryz.prog 251 [.raw (Ih b)] L (fun r L'=>r= .str l∧L'= []):=by
 obtain⟨p,v,R,hp,hv,rfl⟩:=hL
 cases hv with
 |nil=>exact absurd rfl h0
 |row h1 h2 h3=>
  rename_i r cap cur
  refine CA Tryz.func251 rfl Tryz.ntmps251 (rs:= [.tmp 2]) rfl rfl fun hb LF=>?_
  have hcap:cap≠0:=by have:=Oj.2 h0;omega
  rw[show(O8 b p (.slice (some ⟨r,0,none⟩) l.length cap):: [.raw r (.cells cur 5 (0,0))])++LF= .box b 263 [.raw p,.raw (.slice (some ⟨r,0,none⟩) l.length cap)]:: .raw r (.cells cur 5 (0,0))::LF from rfl]
  refine wn ?_
  refine Bp 10 ?_ ?_
  ·decide+kernel
  refine wf ?_
  refine Xo rfl hcap ?_
  refine wf ?_
  refine KP rfl ?_
  refine wf ?_
  refine Se (E:=5) (by kernel_rfl) (by kernel_rfl) rfl rfl (.swap _ _ _) h0 (by omega) h3 hl ?_
  refine wf ?_
  exact⟨trivial,_,[],.cons (.tmp 2) .nil,.cons _ (.refl _),rfl,rfl⟩
end Go.Proofs
namespace Go.Proofs
open Go Go.Q
attribute [local irreducible] ER AQ BG Fu
theorem dB: ∀ (d:Nat) (x:Sx),Oq d x→ ∀ (b:Nat) (l:List UInt8) (L:List Res),qt b l L→l.length+(Dp d x).length≤1000000000→BG Tryz.prog 250 [.raw (Ih b),.agg (eSx x)] L (fun _ L'=>qt b (l++Dp d x) L')
 |0,x,hw,_,_,_,_,_=>hw.elim
 |d+1,x,hw,b,l,L,hL,hl=>by
  have ih:=dB d
  refine CA Tryz.func250 rfl Tryz.ntmps250 (rs:= []) rfl rfl fun hb LF=>?_
  have hlen:x.list.length≤140737488355328:=by
   have:=(hb (.agg (eSx x)) (by simp)).agg_at (c:= .slice (x.list.map eSx) .ro) (by rw[Ft];simp)
   exact this.slice_map
  refine wf ?_
  refine AU (fun h2=>?_) (fun h2=>?_)
  ·have hB:x.isList=false:=by simpa using h2
   rcases hw with ⟨_,h3,h4⟩|⟨h3,_⟩
   ·have:B4 (-140737488355328≤(x.atom.length:Int)∧(x.atom.length:Int)≤140737488355328):=⟨by omega,by omega⟩
    have e:J8 (x.atom.length:Int)=Hs x.atom.length:=by
     rw[J8,if_neg (by omega)];rfl
    have he:Dp (d+1) x=Hs x.atom.length++58::x.atom:=by simp[Dp,hB]
    rw[he]at hl ⊢
    simp only[AA,AN]at hl
    refine wf ?_
    refine CV (xs:= [.tmp 9,.tmp 13]) L LF (f:=290) (cs:= []) (C5 _) rfl rfl (.refl _) _ (Na b l (J8 (x.atom.length:Int)) L hL (by rw[e];omega)) fun r L1 hL1=>?_
    rw[e]at hL1
    refine wf ?_
    refine wf ?_
    refine CV (xs:= [.tmp 15,.const (.int .u8 58)]) L1 LF (f:=291) (cs:= []) (C5 _) rfl rfl (.refl _) _ (MX b (l++Hs x.atom.length) 58 L1 hL1 (by simp only[AA];omega)) fun r L2 hL2=>?_
    refine wf ?_
    refine wf ?_
    refine CV (xs:= [.tmp 17,.tmp 19]) L2 LF (f:=290) (cs:= []) (C5 _) rfl rfl (.refl _) _ (Na b (l++Hs x.atom.length++ [58]) x.atom L2 hL2 (by simp only[AA,AN,Af];omega)) fun r L3 hL3=>?_
    refine wf ?_
    refine wf ?_
    exact⟨trivial,_,L3,.nil,.refl _,by simpa using hL3⟩
   ·rw[hB]at h3;cases h3
  have hB:x.isList=true:=by simpa using h2
  rcases hw with ⟨h3,_⟩|⟨_,ha,hw⟩
  ·rw[hB]at h3;cases h3
  have he:Dp (d+1) x=40::(x.list.flatMap (Dp d)++ [41]):=by simp[Dp,hB]
  rw[he]at hl ⊢
  simp only[AN,AA,Af]at hl
  refine wf ?_
  refine CV (xs:= [.tmp 21,.const (.int .u8 40)]) L LF (f:=291) (cs:= []) (C5 _) rfl rfl (.refl _) _ (MX b l 40 L hL (by omega)) fun r L1 hL1=>?_
  refine wf ?_
  refine wf ?_
  refine Ab (σ:=Nat × List Res) (fun k=>k.1≤x.list.length∧qt b (l++40::(x.list.take k.1).flatMap (Dp d)) k.2) (fun k=>x.list.length - k.1) (fun k=> [(0,.raw (Ih b)),(24,.slice (x.list.map eSx) .ro),(25,.raw (.int .i64 x.list.length)),(26,.raw (.int .i64 k.1))]) (fun k=>k.2++LF) (0,L1) ⟨by simp,by simpa using hL1⟩ ⟨rfl,rfl,rfl,rfl⟩ (.refl _) ?_
  rintro⟨k,L2⟩ ⟨hk,hL2⟩
  dsimp only at hk hL2 ⊢
  have hsl:=JL (l:=x.list) (f:=Dp d) (k:=k)
  refine wf ?_
  refine A6 (fun hc=>?_) (fun hc=>?_)
  ·have hlt:k < x.list.length:=by omega
   have hel:=JL (l:=x.list) (f:=Dp d) (k:=k+1)
   rw[Iv hlt,AA]at hel
   refine wz fun b5=>?_
   refine Ay 5 ?_
   refine wf ?_
   refine CV (xs:= [.tmp 30,.tmp 31]) L2 LF (f:=250) (cs:= []) (C5 _) rfl rfl (.refl _) _ (ih x.list[k] (hw _ (AJ hlt)) b _ L2 hL2 (by simp only[AA,AN];omega)) fun r L3 hL3=>?_
   refine wf ?_
   refine wf ?_
   refine⟨(k+1,L3),⟨by dsimp only;omega,?_⟩,by dsimp only;omega,⟨rfl,rfl,rfl,rfl⟩,.refl _⟩
   dsimp only
   rw[Iv hlt]
   simpa using hL3
  ·rw[AE (by omega)]at hL2
   refine wf ?_
   refine CV (xs:= [.tmp 34,.const (.int .u8 41)]) L2 LF (f:=291) (cs:= []) (C5 _) rfl rfl (.refl _) _ (MX b _ 41 L2 hL2 (by simp only[AA,AN];omega)) fun r L3 hL3=>?_
   refine wf ?_
   refine wf ?_
   exact⟨trivial,_,L3,.nil,.refl _,by simpa using hL3⟩
def TV (b:Nat) (n:Int):Res:= .box b 293 [.raw (.int .i64 n),.raw (.bool false)]
theorem dQ: ∀ (d:Nat) (x:Sx),Oq d x→ ∀ (b:Nat) (n lv:Int),0≤n→n+Ib d x≤20000→1≤lv→lv+d≤13→BG Tryz.prog 288 [.raw (Ih b),.agg (eSx x),.raw (.int .i64 lv)] [TV b n] (fun _ L'=>L'= [TV b (n+Ib d x)])
 |0,x,hw,_,_,_,_,_,_,_=>hw.elim
 |d+1,x,hw,b,n,lv,hn0,hn,hl0,hl=>by
  have ih:=dQ d
  have hpos:1≤Ib (d+1) x:=by unfold Ib;split<;>omega
  refine CA Tryz.func288 rfl Tryz.ntmps288 (rs:= []) rfl rfl fun hb LF=>?_
  have hlen:x.list.length≤140737488355328:=by
   have:=(hb (.agg (eSx x)) (by simp)).agg_at (c:= .slice (x.list.map eSx) .ro) (by rw[Ft];simp)
   exact this.slice_map
  rw[show [TV b n]++LF= .box b 293 [.raw (.int .i64 n),.raw (.bool false)]::LF from rfl]
  refine wf ?_
  refine Ho [.raw (.int .i64 (n+1)),.raw (.bool false)] rfl rfl rfl rfl (by simp) ?_
  refine wf ?_
  refine wf ?_
  refine Ar (fun hp=>?_) (fun hp=>?_)
  ·have:=BF hp;omega
  refine wf ?_
  refine A6 (fun h1=>?_) (fun h1=>?_)
  ·omega
  refine wf ?_
  refine AU (fun h2=>?_) (fun h2=>?_)
  ·refine wf ?_
   have:x.isList=false:=by simpa using h2
   exact⟨trivial,_,[TV b (n+1)],.nil,.refl _,by simp[Ib,this]⟩
  have hB:x.isList=true:=by simpa using h2
  rcases hw with ⟨h3,_⟩|⟨_,_,hw⟩
  ·rw[hB]at h3;cases h3
  have hnd:Ib (d+1) x=1+(x.list.map (Ib d)).sum:=by simp[Ib,hB]
  rw[hnd]at hn ⊢
  refine wf ?_
  refine Ab (σ:=Nat) (fun k=>k≤x.list.length) (fun k=>x.list.length - k) (fun k=> [(0,.raw (Ih b)),(2,.raw (.int .i64 lv)),(31,.slice (x.list.map eSx) .ro),(32,.raw (.int .i64 x.list.length)),(33,.raw (.int .i64 k))]) (fun k=>TV b (n+(1+((x.list.map (Ib d)).take k).sum:Nat))::LF) 0 (by simp) ⟨rfl,rfl,rfl,rfl,rfl⟩ (by simp;exact .refl _) ?_
  intro k hk
  have hsk:=Kt (l:=x.list.map (Ib d)) (k:=k)
  have hsk1:=Kt (l:=x.list.map (Ib d)) (k:=k+1)
  refine wf ?_
  refine A6 (fun hc=>?_) (fun hc=>?_)
  ·have hlt:k < x.list.length:=by omega
   have e:((x.list.map (Ib d)).take (k+1)).sum=((x.list.map (Ib d)).take k).sum+Ib d x.list[k]:=by
    rw[A7 (by simpa using hlt),DX];simp
   refine wz fun b7=>?_
   refine Ay 7 ?_
   rw[show TV b (n+(1+((x.list.map (Ib d)).take k).sum:Nat))::LF= .box b 293 [.raw (.int .i64 (n+(1+((x.list.map (Ib d)).take k).sum:Nat))),.raw (.bool false)]::LF from rfl]
   refine wf ?_
   refine CV (xs:= [.tmp 41,.tmp 42,.tmp 44]) [TV b (n+(1+((x.list.map (Ib d)).take k).sum:Nat))] LF (f:=288) (cs:= []) (C5 _) rfl rfl (.refl _) _ (ih x.list[k] (hw _ (AJ hlt)) b _ (lv+1) (by omega) (by omega) (by omega) (by omega)) fun r L3 hL3=>?_
   subst hL3
   refine wf ?_
   refine wf ?_
   refine⟨k+1,by omega,by dsimp only;omega,⟨rfl,rfl,rfl,rfl,rfl⟩,?_⟩
   show(TV b (n+((1+((x.list.map (Ib d)).take (k+1)).sum:Nat):Int))::LF).Sublist _
   rw[e,show n+((1+(((x.list.map (Ib d)).take k).sum+Ib d x.list[k]):Nat):Int)=n+((1+((x.list.map (Ib d)).take k).sum:Nat):Int)+(Ib d x.list[k]:Int) by omega]
   exact .refl _
  ·refine wf ?_
   rw[AE (by simp;omega)]
   exact⟨trivial,_,[TV b (n+(1+(x.list.map (Ib d)).sum:Nat))],.nil,.refl _,rfl⟩
theorem Uc: ∀ (d:Nat) (x:Sx),Oq d x→Q.Fn Tryz.prog 289 [.agg (eSx x)] (.raw (.int .i64 0))
 |0,x,hw=>hw.elim
 |d+1,x,hw=>by
  have ih: ∀ (y:Sx),[B4 (Oq d y)]→C9 Tryz.prog 289 [.agg (eSx y)] (.raw (.int .i64 0)):=fun y h=>⟨Uc d y h.out⟩
  refine Au Tryz.func289 Tryz.ntmps289 rfl (rs:= [.tmp 2]) rfl rfl fun hb LF=>?_
  have hlen:x.list.length≤140737488355328:=by
   have:=(hb (.agg (eSx x)) (by simp)).agg_at (c:= .slice (x.list.map eSx) .ro) (by rw[Ft];simp)
   exact this.slice_map
  have hsh:(x.isList=true→x.atom= [])∧(x.isList=false→x.list= [])∧x.atom.length≤65536∧ ∀ y∈x.list,Oq d y:=by
   rcases hw with ⟨h1,h2,h3⟩|⟨h1,h2,h3⟩
   ·exact⟨fun h=>(by rw[h1]at h;cases h),fun _=>h2,h3,fun y hy=>(by rw[h2]at hy;cases hy)⟩
   ·exact⟨fun _=>h2,fun h=>(by rw[h1]at h;cases h),by rw[h2];simp,h3⟩
  refine wf ?_
  refine BR [(6,.raw (.bool (false))),(1,.pt (eSx x) 0)] (LF) ?_ ?_
  ·repeat' (first|(refine A6 (fun h=>?_) (fun h=>?_)<;>refine wf ?_)|(refine AX (fun h=>?_) (fun h=>?_)<;>refine wf ?_)|(refine AU (fun h=>?_) (fun h=>?_)<;>refine wf ?_)|(refine Ar (fun h=>?_) (fun h=>?_)<;>(have h2:=h;(try simp only[AB,A8,AG,AL]at h2);refine wf ?_)))
   all_goals (refine⟨⟨C4 (by rfl) ?_,rfl⟩,.refl _⟩;(have:=hsh.1;have:=hsh.2.1;cases hB:x.isList<;>simp_all))
  refine wf ?_
  refine A6 (fun h5=>?_) (fun h5=>?_)
  ·have:=hsh.2.2.1;omega
  refine wf ?_
  refine Ab (σ:=Nat) (fun k=>k≤x.list.length) (fun k=>x.list.length - k) (fun k=> [(31,.slice (x.list.map eSx) .ro),(32,.raw (.int .i64 x.list.length)),(33,.raw (.int .i64 k))]) (fun _=>LF) 0 (by simp) ⟨rfl,rfl,rfl⟩ (.refl _) ?_
  intro k hk
  refine wf ?_
  refine A6 (fun hc=>?_) (fun hc=>?_)
  ·have hlt:k < x.list.length:=by omega
   have:B4 (Oq d x.list[k]):=⟨hsh.2.2.2 _ (AJ hlt)⟩
   refine wz fun b4=>?_
   refine Ay 4 ?_
   refine wf ?_
   exact⟨k+1,by omega,by dsimp only;omega,⟨rfl,rfl,rfl⟩,.refl _⟩
  ·refine wf ?_
   exact Az (.refl _)
instance :Cq Tryz.prog 293 [.raw (.int .i64 0),.raw (.bool false)]:=Cq.of (us:= [PV.raw (.int .i64 0),.raw (.bool false)].map zv) (by kernel_rfl) (by kernel_rfl)
instance tc (x:Sx) [hs:B4 (nN x)]:C9 Tryz.prog 249 [.agg (eSx x)] (.raw (.int .i64 0)):=⟨by
 obtain⟨h1,h2⟩:=hs.out
 have i2:C9 Tryz.prog 289 [.agg (eSx x)] (.raw (.int .i64 0)):=⟨Uc 8 x h1⟩
 refine Au Tryz.func249 Tryz.ntmps249 rfl (rs:= [.tmp 2]) rfl rfl fun hb LF=>?_
 refine tj fun b1=>?_
 refine tj fun b5=>?_
 refine CV (xs:= [.tmp 6,.tmp 7,.const (.int .i64 1)]) [TV b5 0] (.box b1 196 (eSx x)::LF) (f:=288) (cs:= []) (C5 _) rfl rfl (.refl _) _ (dQ 8 x h1 b5 0 1 (by omega) (by omega) (by omega) (by omega)) fun r L3 hL3=>?_
 subst hL3
 rw[show [TV b5 (0+Ib 8 x)]++(.box b1 196 (eSx x)::LF)= .box b5 293 [.raw (.int .i64 (0+Ib 8 x)),.raw (.bool false)]:: .box b1 196 (eSx x)::LF from rfl]
 refine wk ?_
 refine wk ?_
 exact Az (.refl _)⟩
instance :Cq Tryz.prog 263 [.raw (.pointer none),.raw (.slice none 0 0)]:=Cq.of (us:= [PV.raw (.pointer none),.raw (.slice none 0 0)].map zv) (by kernel_rfl) (by kernel_rfl)
theorem oA {d:Nat} {x:Sx} (h:Oq d x):Dp d x≠ []:=by
 cases d with
 |zero=>exact h.elim
 |succ d=>unfold Dp;split<;>simp
instance qo (x:Sx) [hs:B4 (nN x∧(Dp 8 x).length≤1000000000)]:C9 Tryz.prog 200 [.agg (eSx x)] (.tuple [.str (Dp 8 x),.raw (.int .i64 0)]):=⟨by
 obtain⟨h1,h2⟩:=hs.out
 have:B4 (nN x):=⟨h1⟩
 refine Au Tryz.func200 Tryz.ntmps200 rfl (rs:= [.tmp 2,.tmp 3]) rfl rfl fun hb LF=>?_
 refine XY fun b=>?_
 rw[show Res.box b 263 [.raw (.pointer none),.raw (.slice none 0 0)]::LF= [O8 b (.pointer none) (.slice none 0 0)]++LF from rfl]
 refine CV (xs:= [.tmp 5,.tmp 11]) [O8 b (.pointer none) (.slice none 0 0)] LF (f:=250) (cs:= []) (C5 _) rfl rfl (.refl _) _ (dB 8 x h1.1 b [] _ ⟨.pointer none,.slice none 0 0,[],.inl rfl,.nil,rfl⟩ (by simpa using h2)) fun r L1 hL1=>?_
 rw[B9]at hL1
 refine wf ?_
 refine wf ?_
 refine CV (xs:= [.tmp 5]) L1 LF (f:=251) (cs:= []) (C5 _) rfl rfl (.refl _) _ (di b (Dp 8 x) L1 hL1 (oA h1.1) (by omega)) fun r L2 ⟨hr,hL2⟩=>?_
 subst hr
 subst hL2
 refine wf ?_
 refine wf ?_
 refine HD ?_
 exact .refl _⟩
instance y6 (n:Int):C9 Tryz.prog 248 [.raw (.int .i64 n)] (.tuple [.agg (eSx (R7 n).1),.raw (.int .i64 (R7 n).2)]):=⟨by
 refine Au Tryz.func248 Tryz.ntmps248 rfl (rs:= [.cell 2 196,.tmp 3]) rfl rfl fun hb LF=>?_
 refine XY fun b=>?_
 refine BR [(9,.raw (.bool (decide (n < -1099511627776∨1099511627776 < n)))),(0,.raw (.int .i64 n)),(2,.raw (.pointer (some ⟨b,0,none⟩)))] (.box b 196 (eSx Sx.zero)::LF) ?_ ?_
 ·repeat' (first|(refine A6 (fun h=>?_) (fun h=>?_)<;>refine wf ?_)|(refine AX (fun h=>?_) (fun h=>?_)<;>refine wf ?_)|(refine AU (fun h=>?_) (fun h=>?_)<;>refine wf ?_)|(refine Ar (fun h=>?_) (fun h=>?_)<;>(have h2:=h;(try simp only[AB,A8,AG,AL]at h2);refine wf ?_)))
  all_goals (refine⟨⟨C4 (by rfl) ?_,rfl,rfl⟩,.refl _⟩;first|(simp_all;done)|grind)
 refine wf ?_
 refine A6 (fun h=>?_) (fun h=>?_)
 ·refine wf ?_
  refine L6 rfl (.of_eq ?_)
  rw[R7,if_pos h]
 ·have:B4 (-140737488355328≤n∧n≤140737488355328):=⟨by omega⟩
  refine wf ?_
  refine L6 rfl (.of_eq ?_)
  rw[R7,if_neg h];rfl⟩
instance we (s:Str):C9 Tryz.prog 197 [.str s] (.agg (eSx (Cb s))):=⟨by
 refine Au Tryz.func197 Tryz.ntmps197 rfl (rs:= [.cell 2 196]) rfl rfl fun hb LF=>?_
 refine XY fun b=>?_
 refine Fq rfl (.of_eq ?_)
 rfl⟩
@[reducible] def SC (l:List Sx) (t:CN):List PV:= [.raw (.bool true),.str [],.slice (l.map eSx) t]
theorem jd (l:List Sx):SC l .ro=eSx (E7 l):=by rw[Ft];rfl
theorem ab (l:List Sx) (t:CN):Le (.agg (SC l t)) (.agg (eSx (E7 l))):=fun g v hv=>by
 obtain⟨vs,rfl,h⟩:=hv.agg_inv
 match vs,h with
 | [a,b,c],h=>
   rw[←jd]
   exact EB.agg (.cons h.uncons.1 (.cons h.uncons.2.uncons.1 (.cons h.uncons.2.uncons.2.uncons.1.ro (.nil g))))
 | [],h=>have:=h.len;simp at this
 | [_],h=>have:=h.len;simp at this
 | [_,_],h=>have:=h.len;simp at this
 |_::_::_::_::_,h=>have:=h.len;simp at this
instance (l:List Sx) (t:CN):GI (.agg (SC l t)) eSx (E7 l):=⟨fun g v hv=>Dm.agg _ g v (ab l t g v hv)⟩
instance {x y z:PV}:At [x,y,z] 2 z:=⟨rfl⟩
instance (c:Sx) (l:List Sx) (t:CN):FB (eSx c) 0 (SC l t) (SC l t):=⟨by rw[Ft];simp⟩
instance (l:List Sx) (t:CN):Cx (SC l t) 3:=⟨rfl⟩
instance (l:List Sx) (t:CN):E3 (SC l t):=by unfold SC;infer_instance
theorem Ta (l:List Sx) (t:CN):Q.Fn Tryz.prog 196 [.slice (l.map eSx) t] (.agg (SC l t)):=by
 refine Au Tryz.func196 Tryz.ntmps196 rfl (rs:= [.cell 2 196]) rfl rfl fun hb LF=>?_
 refine Da ?_
 refine CR (by kernel_rfl) ?_
 refine CC fun b=>?_
 refine AD ?_
 refine Da ?_
 refine CR (by kernel_rfl) ?_
 refine K7 (by(conv=>lhs;whnf);done) ?_
 refine Y2 (z:=eSx Sx.zero) (c0:= [.raw (.bool true)]) (c1:= [.slice (l.map eSx) t]) (r1:=SC l t) (hP0:=⟨rfl,by simp⟩) (hP1:=⟨rfl,by simp⟩) ?_ ?_ rfl rfl ?_
 ·exact Dm.one (c:= .raw (.bool true)) E3.out
 ·exact Dm.one (c:= .slice (l.map eSx) t) E3.out
 refine wf ?_
 exact Fq rfl (.refl _)
instance vp (l:List Sx):C9 Tryz.prog 196 [.slice (l.map eSx) .ro] (.agg (eSx (E7 l))):=⟨jd l ▸ Ta l .ro⟩
instance (priority:=low) vm (l:List Sx) (t:CN):C9 Tryz.prog 196 [.slice (l.map eSx) t] (.agg (SC l t)):=⟨Ta l t⟩
instance vq:C9 Tryz.prog 196 [.slice [] .nil] (.agg (SC [] .nil)):=⟨Ta [] .nil⟩
instance sO (n:Int):C9 Tryz.prog 199 [.raw (.int .i64 n)] (.agg (eSx (GD n))):=⟨by
 refine Au Tryz.func199 Tryz.ntmps199 rfl (rs:= [.cell 2 196]) rfl rfl fun hb LF=>?_
 refine XY fun b=>?_
 refine XY fun b2=>?_
 refine Fq rfl (.of_eq ?_)
 rfl⟩
instance o9 (x:Ident):C9 Tryz.prog 240 [.agg (eIdent x)] (.agg (eSx (GB x))):=⟨by
 refine Au Tryz.func240 Tryz.ntmps240 rfl (rs:= [.cell 2 196]) rfl rfl fun hb LF=>?_
 refine wf ?_
 refine CC fun b=>?_
 refine wn ?_
 refine A6 (fun h=>?_) (fun h=>?_)
 ·refine wn ?_
  refine Bp 6 ?_ ?_
  ·decide+kernel
  refine wf ?_
  refine Fq rfl (.of_eq ?_)
  rw[GB,K8,if_pos h]
 ·refine wn ?_
  refine Bp 9 ?_ ?_
  ·decide+kernel
  refine wf ?_
  refine Fq rfl (.of_eq ?_)
  rw[GB,K8,if_neg h]⟩
instance vb (l:List Ident) (t:CN) [hs:B4 (l.length≤1000000)]:C9 Tryz.prog 241 [.slice (l.map eIdent) t] (.agg (eSx (J6 l))):=⟨by
 refine Au Tryz.func241 Tryz.ntmps241 rfl (rs:= [.cell 2 196]) rfl rfl fun hb LF=>?_
 have hlen:=hs.out
 refine XY fun b=>?_
 refine XY fun b3=>?_
 refine EL 3 ?_
 refine Ab (σ:=Nat × CN × List Sx) (fun k=>k.1≤l.length∧k.2.2=(l.take k.1).map GB) (fun k=>l.length - k.1) (fun k=> [(2,.raw (.pointer (some ⟨b,0,none⟩))),(3,.raw (.pointer (some ⟨b3,0,none⟩))),(7,.slice (l.map eIdent) t),(8,.raw (.int .i64 l.length)),(9,.raw (.int .i64 k.1))]) (fun k=> .tok k.2.1 k.2.2.length 3:: .box b3 196 (SC k.2.2 k.2.1):: .box b 196 (eSx Sx.zero)::LF) (0,.nil,[]) ⟨by simp,by simp⟩ ⟨rfl,rfl,rfl,rfl,rfl⟩ (.refl _) ?_
 rintro⟨k,v,out⟩ ⟨hk,he⟩
 dsimp only at hk he
 have hol:out.length=k:=by rw[he];simp;omega
 refine wf ?_
 refine A6 (fun hc=>?_) (fun hc=>?_)
 ·have hlt:k < l.length:=by omega
  have ee:(l.take (k+1)).map GB=out++ [GB l[k]]:=by rw[A7 hlt,An,he];rfl
  refine wz fun b5=>?_
  refine Ay 5 ?_
  refine wn ?_
  refine Bp 5 ?_ ?_
  ·decide+kernel
  refine bW fun v'=>?_
  refine GJ (ay:= .slice ((out++ [GB l[k]]).map eSx) v') (SC (out++ [GB l[k]]) v') rfl rfl E3.out rfl (by simp) ?_
  refine wf ?_
  refine wf ?_
  exact⟨(k+1,v',out++ [GB l[k]]),⟨by dsimp only;omega,ee.symm⟩,by dsimp only;omega,⟨rfl,rfl,rfl,rfl,rfl⟩,.refl _⟩
 ·rw[AE (by omega)]at he
  refine wf ?_
  refine Fq rfl ?_
  rw[J6,←he]
  exact ab _ _⟩
instance gD (l:List Str) (t:CN) [hs:B4 (l.length≤1000000)]:C9 Tryz.prog 245 [.slice (l.map eS) t] (.agg (eSx (E7 (l.map Cb)))):=⟨by
 refine Au Tryz.func245 Tryz.ntmps245 rfl (rs:= [.cell 2 196]) rfl rfl fun hb LF=>?_
 have hlen:=hs.out
 refine XY fun b=>?_
 refine XY fun b3=>?_
 refine EL 3 ?_
 refine Ab (σ:=Nat × CN × List Sx) (fun k=>k.1≤l.length∧k.2.2=(l.take k.1).map Cb) (fun k=>l.length - k.1) (fun k=> [(2,.raw (.pointer (some ⟨b,0,none⟩))),(3,.raw (.pointer (some ⟨b3,0,none⟩))),(7,.slice (l.map eS) t),(8,.raw (.int .i64 l.length)),(9,.raw (.int .i64 k.1))]) (fun k=> .tok k.2.1 k.2.2.length 3:: .box b3 196 (SC k.2.2 k.2.1):: .box b 196 (eSx Sx.zero)::LF) (0,.nil,[]) ⟨by simp,by simp⟩ ⟨rfl,rfl,rfl,rfl,rfl⟩ (.refl _) ?_
 rintro⟨k,v,out⟩ ⟨hk,he⟩
 dsimp only at hk he
 have hol:out.length=k:=by rw[he];simp;omega
 refine wf ?_
 refine A6 (fun hc=>?_) (fun hc=>?_)
 ·have hlt:k < l.length:=by omega
  have ee:(l.take (k+1)).map Cb=out++ [Cb l[k]]:=by rw[A7 hlt,An,he];rfl
  refine wn ?_
  refine Bp 5 ?_ ?_
  ·decide+kernel
  refine bW fun v'=>?_
  refine GJ (ay:= .slice ((out++ [Cb l[k]]).map eSx) v') (SC (out++ [Cb l[k]]) v') rfl rfl E3.out rfl (by simp) ?_
  refine wf ?_
  refine wf ?_
  exact⟨(k+1,v',out++ [Cb l[k]]),⟨by dsimp only;omega,ee.symm⟩,by dsimp only;omega,⟨rfl,rfl,rfl,rfl,rfl⟩,.refl _⟩
 ·rw[AE (by omega)]at he
  refine wf ?_
  refine Fq rfl ?_
  rw[←he]
  exact ab _ _⟩
def xn (c:Chg):List Sx:= [GD c.type]
def xm (c:Chg):List Sx:= [GB c.file,GB c.parent,Cb c.name,J6 c.over]
def xl (c:Chg):List Sx:= [GB c.file,GD c.mode,J6 c.over]
def xk (c:Chg):List Sx:= [GB c.file,Cb c.data,J6 c.over]
def xj (c:Chg):List Sx:= [GB c.file,GB c.after,GB c.before,E7 (c.lines.map Cb)]
def xi (c:Chg):List Sx:= [GB c.file,GB c.after,GB c.before,J6 c.over]
def xh (c:Chg):List Sx:= [J6 c.over]
instance su (c:Chg) [hs:B4 (c.lines.length≤100000∧c.over.length≤100000)]:C9 Tryz.prog 238 [.agg (eChg c)] (.slice ((xn c).map eSx) .ro):=⟨by
 obtain⟨h1,h2⟩:=hs.out
 have i1:B4 (c.over.length≤1000000):=⟨by omega⟩
 have i2:B4 (c.lines.length≤1000000):=⟨by omega⟩
 refine Au Tryz.func238 Tryz.ntmps238 rfl (rs:= [.tmp 2]) rfl rfl fun hb LF=>?_
 refine wf ?_
 refine Az (.of_eq ?_)
 rfl⟩
instance sr (c:Chg) [hs:B4 (c.lines.length≤100000∧c.over.length≤100000)]:C9 Tryz.prog 239 [.agg (eChg c)] (.slice ((xm c).map eSx) .ro):=⟨by
 obtain⟨h1,h2⟩:=hs.out
 have i1:B4 (c.over.length≤1000000):=⟨by omega⟩
 have i2:B4 (c.lines.length≤1000000):=⟨by omega⟩
 refine Au Tryz.func239 Tryz.ntmps239 rfl (rs:= [.tmp 2]) rfl rfl fun hb LF=>?_
 refine wn ?_
 refine Bp 14 ?_ ?_
 ·decide+kernel
 refine wf ?_
 refine Az (.of_eq ?_)
 rfl⟩
instance sq (c:Chg) [hs:B4 (c.lines.length≤100000∧c.over.length≤100000)]:C9 Tryz.prog 242 [.agg (eChg c)] (.slice ((xl c).map eSx) .ro):=⟨by
 obtain⟨h1,h2⟩:=hs.out
 have i1:B4 (c.over.length≤1000000):=⟨by omega⟩
 have i2:B4 (c.lines.length≤1000000):=⟨by omega⟩
 refine Au Tryz.func242 Tryz.ntmps242 rfl (rs:= [.tmp 2]) rfl rfl fun hb LF=>?_
 refine wn ?_
 refine Bp 11 ?_ ?_
 ·decide+kernel
 refine wf ?_
 refine Az (.of_eq ?_)
 rfl⟩
instance so (c:Chg) [hs:B4 (c.lines.length≤100000∧c.over.length≤100000)]:C9 Tryz.prog 243 [.agg (eChg c)] (.slice ((xk c).map eSx) .ro):=⟨by
 obtain⟨h1,h2⟩:=hs.out
 have i1:B4 (c.over.length≤1000000):=⟨by omega⟩
 have i2:B4 (c.lines.length≤1000000):=⟨by omega⟩
 refine Au Tryz.func243 Tryz.ntmps243 rfl (rs:= [.tmp 2]) rfl rfl fun hb LF=>?_
 refine wn ?_
 refine Bp 11 ?_ ?_
 ·decide+kernel
 refine wf ?_
 refine Az (.of_eq ?_)
 rfl⟩
instance sl (c:Chg) [hs:B4 (c.lines.length≤100000∧c.over.length≤100000)]:C9 Tryz.prog 244 [.agg (eChg c)] (.slice ((xj c).map eSx) .ro):=⟨by
 obtain⟨h1,h2⟩:=hs.out
 have i1:B4 (c.over.length≤1000000):=⟨by omega⟩
 have i2:B4 (c.lines.length≤1000000):=⟨by omega⟩
 refine Au Tryz.func244 Tryz.ntmps244 rfl (rs:= [.tmp 2]) rfl rfl fun hb LF=>?_
 refine wn ?_
 refine Bp 14 ?_ ?_
 ·decide+kernel
 refine wf ?_
 refine Az (.of_eq ?_)
 rfl⟩
instance sk (c:Chg) [hs:B4 (c.lines.length≤100000∧c.over.length≤100000)]:C9 Tryz.prog 246 [.agg (eChg c)] (.slice ((xi c).map eSx) .ro):=⟨by
 obtain⟨h1,h2⟩:=hs.out
 have i1:B4 (c.over.length≤1000000):=⟨by omega⟩
 have i2:B4 (c.lines.length≤1000000):=⟨by omega⟩
 refine Au Tryz.func246 Tryz.ntmps246 rfl (rs:= [.tmp 2]) rfl rfl fun hb LF=>?_
 refine wn ?_
 refine Bp 14 ?_ ?_
 ·decide+kernel
 refine wf ?_
 refine Az (.of_eq ?_)
 rfl⟩
instance sj (c:Chg) [hs:B4 (c.lines.length≤100000∧c.over.length≤100000)]:C9 Tryz.prog 247 [.agg (eChg c)] (.slice ((xh c).map eSx) .ro):=⟨by
 obtain⟨h1,h2⟩:=hs.out
 have i1:B4 (c.over.length≤1000000):=⟨by omega⟩
 have i2:B4 (c.lines.length≤1000000):=⟨by omega⟩
 refine Au Tryz.func247 Tryz.ntmps247 rfl (rs:= [.tmp 2]) rfl rfl fun hb LF=>?_
 refine wf ?_
 refine Az (.of_eq ?_)
 rfl⟩
def fO:List (Int × PV):= [(1,.raw (.func (.func 238) #[] #[])),(2,.raw (.func (.func 239) #[] #[])),(3,.raw (.func (.func 242) #[] #[])),(4,.raw (.func (.func 243) #[] #[])),(5,.raw (.func (.func 244) #[] #[])),(6,.raw (.func (.func 246) #[] #[])),(7,.raw (.func (.func 247) #[] #[]))]
theorem XC:BG Tryz.prog 198 [] [] (fun r L'=> ∃ b,r= .raw (.map (some b))∧L'= [.map b (Bb kInt vId fO)]):=by
 refine CA Tryz.func198 rfl Tryz.ntmps198 (rs:= [.tmp 0]) rfl rfl fun hb LF=>?_
 rw[B9]
 refine yD fun b=>?_
 exact⟨trivial,_,[.map b (Bb kInt vId fO)],.cons (.tmp 0) .nil,.refl _,b,rfl,rfl⟩
def uK (k:Int):Nat:=if k=1 then 238 else if k=2 then 239 else if k=3 then 242 else if k=4 then 243 else if k=5 then 244 else if k=6 then 246 else 247
def ZG (c:Chg):List Sx:=if c.kind=1 then xn c else if c.kind=2 then xm c else if c.kind=3 then xl c else if c.kind=4 then xk c else if c.kind=5 then xj c else if c.kind=6 then xi c else xh c
theorem kI (c:Chg):(ZG c).length≤4:=by
 unfold ZG
 repeat' split
 all_goals simp[xn,xm,xl,xk,xj,xi,xh]
theorem kinds {k:Int} (h:1≤k∧k≤7):k=1∨k=2∨k=3∨k=4∨k=5∨k=6∨k=7:=by omega
theorem kJ {k:Int} (h:1≤k∧k≤7):vId ((CU k fO).getD (.raw .nilFunc))= .raw (.func (.func (uK k)) #[] #[]):=by
 rcases kinds h with h|h|h|h|h|h|h<;>(subst h;rfl)
theorem o8 {k:Int} (h:1≤k∧k≤7):B5 Tryz.prog (uK k):=by
 rcases kinds h with h|h|h|h|h|h|h<;>(subst h;simp only[uK];first|exact(inferInstance:B5 Tryz.prog 238)|exact(inferInstance:B5 Tryz.prog 239)|exact(inferInstance:B5 Tryz.prog 242)|exact(inferInstance:B5 Tryz.prog 243)|exact(inferInstance:B5 Tryz.prog 244)|exact(inferInstance:B5 Tryz.prog 246)|exact(inferInstance:B5 Tryz.prog 247))
theorem nu (c:Chg) (h:1≤c.kind∧c.kind≤7) [hs:B4 (c.lines.length≤100000∧c.over.length≤100000)]:Q.Fn Tryz.prog (uK c.kind) [.agg (eChg c)] (.slice ((ZG c).map eSx) .ro):=by
 unfold uK ZG
 by_cases h1:c.kind=1
 ·rw[if_pos h1,if_pos h1];exact(su c).out
 by_cases h2:c.kind=2
 ·rw[if_neg h1,if_neg h1,if_pos h2,if_pos h2];exact(sr c).out
 by_cases h3:c.kind=3
 ·rw[if_neg h1,if_neg h1,if_neg h2,if_neg h2,if_pos h3,if_pos h3];exact(sq c).out
 by_cases h4:c.kind=4
 ·rw[if_neg h1,if_neg h1,if_neg h2,if_neg h2,if_neg h3,if_neg h3,if_pos h4,if_pos h4];exact(so c).out
 by_cases h5:c.kind=5
 ·rw[if_neg h1,if_neg h1,if_neg h2,if_neg h2,if_neg h3,if_neg h3,if_neg h4,if_neg h4,if_pos h5,if_pos h5];exact(sl c).out
 by_cases h6:c.kind=6
 ·rw[if_neg h1,if_neg h1,if_neg h2,if_neg h2,if_neg h3,if_neg h3,if_neg h4,if_neg h4,if_neg h5,if_neg h5,if_pos h6,if_pos h6];exact(sk c).out
 rw[if_neg h1,if_neg h1,if_neg h2,if_neg h2,if_neg h3,if_neg h3,if_neg h4,if_neg h4,if_neg h5,if_neg h5,if_neg h6,if_neg h6];exact(sj c).out
def P3 (c:Chg):Sx:=E7 ([GD c.kind]++ZG c)
def il (p:Pat):Sx:=E7 [Cb [113,117,105,108,116,49],Cb p.author,Cb p.message,GD p.time,E7 (p.deps.map fun d=>Cb d.bs),E7 (p.changes.map P3)]
theorem iq {c:Chg} (h:1≤c.kind∧c.kind≤7):P3 c=Kn c:=by
 unfold P3 Kn Jw IV Ku ZG
 rcases kinds h with h|h|h|h|h|h|h<;>simp[h,xn,xm,xl,xk,xj,xi,xh]
theorem ij {p:Pat} (hd: ∀ d∈p.deps,d≠Dig.zero) (hk: ∀ c∈p.changes,1≤c.kind∧c.kind≤7):il p=W8 p:=by
 unfold il W8
 rw[C6 (f:=fun d:Dig=>Cb d.bs) (g:=K8) (fun d h=>by rw[K8,if_neg (hd d h)]),C6 (f:=P3) (g:=Kn) (fun c h=>iq (hk c h))]
structure bB (p:Pat):Prop where
 ok:VX p
 deps: ∀ d∈p.deps,d≠Dig.zero
 kinds: ∀ c∈p.changes,1≤c.kind∧c.kind≤7
instance qQ (p:Pat) [hs:B4 (bB p)]:C9 Tryz.prog 144 [.agg (Ba p)] (.tuple [.str (NS p),.raw (.int .i64 0)]):=⟨by
 refine Au Tryz.func144 Tryz.ntmps144 rfl (rs:= [.tmp 2,.tmp 3]) rfl rfl fun hb LF=>?_
 have hd:=hs.out.ok.deps
 have hch:=hs.out.ok.chgs
 refine XY fun b4=>?_
 refine CC fun b5=>?_
 refine wf ?_
 refine EL 3 ?_
 refine Ab (σ:=Nat × CN × List Sx) (fun k=>k.1≤p.deps.length∧k.2.2=(p.deps.take k.1).map fun d=>Cb d.bs) (fun k=>p.deps.length - k.1) (fun k=> [(1,.pt (Ba p) 0),(4,.raw (.pointer (some ⟨b4,0,none⟩))),(5,.raw (.pointer (some ⟨b5,0,none⟩))),(15,.slice (p.deps.map eDig) .ro),(16,.raw (.int .i64 p.deps.length)),(17,.raw (.int .i64 k.1))]) (fun k=> .tok k.2.1 k.2.2.length 3:: .box b5 196 (SC [] .nil):: .box b4 196 (SC k.2.2 k.2.1)::LF) (0,.nil,[]) ⟨by simp,by simp⟩ ⟨rfl,rfl,rfl,rfl,rfl,rfl⟩ (.refl _) ?_
 rintro⟨k,v,l⟩ ⟨hk,he⟩
 dsimp only at hk he
 have hll:l.length=k:=by rw[he];simp;omega
 refine wf ?_
 refine A6 (fun hc=>?_) (fun hc=>?_)
 ·have hlt:k < p.deps.length:=by omega
  have ee:(p.deps.take (k+1)).map (fun d=>Cb d.bs)=l++ [Cb p.deps[k].bs]:=by rw[A7 hlt,An,he];rfl
  refine wz fun b7=>?_
  refine Ay 7 ?_
  refine wn ?_
  refine Bp 6 ?_ ?_
  ·decide+kernel
  refine bW fun v'=>?_
  refine GJ (ay:= .slice ((l++ [Cb p.deps[k].bs]).map eSx) v') (SC (l++ [Cb p.deps[k].bs]) v') rfl rfl E3.out rfl (by simp) ?_
  refine wf ?_
  refine wf ?_
  exact⟨(k+1,v',l++ [Cb p.deps[k].bs]),⟨by dsimp only;omega,ee.symm⟩,by dsimp only;omega,⟨rfl,rfl,rfl,rfl,rfl,rfl⟩,.refl _⟩
 rw[AE (by omega)]at he
 clear hll
 refine wf ?_
 refine CV (xs:= []) [] (.tok v l.length 3:: .box b5 196 (SC [] .nil):: .box b4 196 (SC l v)::LF) (f:=198) (cs:= []) (C5 _) rfl rfl (.refl _) _ XC fun r L1 ⟨bm,hr,hL1⟩=>?_
 subst hr
 subst hL1
 refine wo ?_
 refine AD ?_
 refine Nt [(1,.pt (Ba p) 0),(4,.raw (.pointer (some ⟨b4,0,none⟩))),(5,.raw (.pointer (some ⟨b5,0,none⟩))),(8,.fmap (Bb kInt vId fO))] ⟨.inl rfl,.inl rfl,.inl rfl,.inr ⟨rfl,rfl⟩⟩ (.refl _) ?_
 refine wf ?_
 refine EL 3 ?_
 refine Ab (σ:=Nat × CN × List Sx) (fun k=>k.1≤p.changes.length∧k.2.2=(p.changes.take k.1).map P3) (fun k=>p.changes.length - k.1) (fun k=> [(1,.pt (Ba p) 0),(4,.raw (.pointer (some ⟨b4,0,none⟩))),(5,.raw (.pointer (some ⟨b5,0,none⟩))),(8,.fmap (Bb kInt vId fO)),(32,.slice (p.changes.map eChg) .ro),(33,.raw (.int .i64 p.changes.length)),(34,.raw (.int .i64 k.1))]) (fun k=> .tok k.2.1 k.2.2.length 3:: .box b5 196 (SC k.2.2 k.2.1):: .box b4 196 (SC l v)::LF) (0,.nil,[]) ⟨by simp,by simp⟩ ⟨rfl,rfl,rfl,rfl,rfl,rfl,rfl⟩ (.cons_cons _ (.cons _ (.refl _))) ?_
 rintro⟨k,u,m⟩ ⟨hk,hm⟩
 dsimp only at hk hm
 have hml:m.length=k:=by rw[hm];simp;omega
 refine wf ?_
 refine A6 (fun hc=>?_) (fun hc=>?_)
 ·have hlt:k < p.changes.length:=by omega
  have ee:(p.changes.take (k+1)).map P3=m++ [P3 p.changes[k]]:=by rw[A7 hlt,An,hm];rfl
  have hcc:=hs.out.ok.chg _ (AJ hlt)
  have hkc:=hs.out.kinds _ (AJ hlt)
  have:B4 (p.changes[k].lines.length≤100000∧p.changes[k].over.length≤100000):=⟨hcc⟩
  have hfun:=o8 hkc
  have hfl:=kI p.changes[k]
  refine wz fun b10=>?_
  refine Ay 10 ?_
  refine Da ?_
  refine CR (by kernel_rfl) ?_
  refine Zx (by rfl) (hr:=(by first|infer_instance|fail)) ?_
  refine bl (by rfl) rfl ?_
  refine We (by(conv=>lhs;whnf);done) (hN0:=(by first|infer_instance|fail)) (hc:=(by first|infer_instance|fail)) ?_
  refine ia (by(conv=>lhs;whnf);done) (hC0:=(by first|infer_instance|fail)) (hf:=(by first|infer_instance|fail)) (by decide) fun t=>?_
  refine wz fun b11=>?_
  refine wn ?_
  refine Bp 8 ?_ ?_
  ·decide+kernel
  refine wf ?_
  refine W7 (xs:= [.tmp 49]) (f:=uK p.changes[k].kind) (cs:= []) (by show Le (vId ((CU p.changes[k].kind fO).getD (.raw .nilFunc))) _;rw[kJ hkc];exact C5 _) rfl rfl (nu p.changes[k] hkc) ?_
  refine bW fun v'=>?_
  refine GJ (ay:= .slice (([GD p.changes[k].kind]++ZG p.changes[k]).map eSx) v') (SC ([GD p.changes[k].kind]++ZG p.changes[k]) v') rfl rfl E3.out rfl (by simp) ?_
  refine wf ?_
  refine bW fun u'=>?_
  refine GJ (ay:= .slice ((m++ [P3 p.changes[k]]).map eSx) u') (SC (m++ [P3 p.changes[k]]) u') rfl rfl E3.out rfl (by simp) ?_
  refine wf ?_
  exact⟨(k+1,u',m++ [P3 p.changes[k]]),⟨by dsimp only;omega,ee.symm⟩,by dsimp only;omega,⟨rfl,rfl,rfl,rfl,rfl,rfl,rfl⟩,by dsimp only;repeat(first|exact Dz _|apply List.Sublist.cons_cons|apply List.Sublist.cons)⟩
 rw[AE (by omega)]at hm
 have e:W8 p=E7 [Cb [113,117,105,108,116,49],Cb p.author,Cb p.message,GD p.time,E7 l,E7 m]:=by rw[←ij hs.out.deps hs.out.kinds,il,←he,←hm]
 have i1:B4 (nN (E7 [Cb [113,117,105,108,116,49],Cb p.author,Cb p.message,GD p.time,E7 l,E7 m])∧(Dp 8 (E7 [Cb [113,117,105,108,116,49],Cb p.author,Cb p.message,GD p.time,E7 l,E7 m])).length≤1000000000):=by
  rw[←e];exact⟨hs.out.ok.ok,hs.out.ok.len⟩
 refine wf ?_
 refine HD ?_
 rw[NS,e]
 exact .refl _⟩
instance xA (p:Pat) [hs:B4 (E5 p=false)]:C9 Tryz.prog 260 [.agg (Ba p)] (.tuple [.slice ((Iq p).1.map eAtm) .ro,.raw (.int .i64 (Iq p).2)]):=⟨by
 obtain⟨hal,hao⟩:=Ej hs.out
 refine Au Tryz.func260 Tryz.ntmps260 rfl (rs:= [.tmp 2,.tmp 3]) rfl rfl fun hb LF=>?_
 refine DC fun b1=>?_
 refine FK fun b4=>?_
 refine AX (fun h=>?_) (fun h=>?_)
 ·refine AY ?_
  refine HD ?_
  rw[Iq,if_pos h]
  exact .tuple2 (.ro _ _) (.refl _)
 rw[Iq,if_neg (by simp[h])]
 refine AY ?_
 generalize (EW p).1=d
 generalize (Bo p).1=own at hal hao
 refine EL 172 ?_
 refine Ab (σ:=Nat × List Atm × CN) (fun k=>k.1≤own.length∧k.2.1=(own.take k.1).map (QH d)) (fun k=>own.length - k.1) (fun k=> [(4,.raw (.pointer (some ⟨b4,0,none⟩))),(6,.slice (own.map eAtm) .ro),(8,.slice (k.2.1.map eAtm) k.2.2),(9,.raw (.int .i64 k.1))]) (fun k=> .tok k.2.2 k.2.1.length 172:: .box b4 31 (eDig d)::LF) (0,[],.nil) ⟨by simp,by simp⟩ ⟨rfl,rfl,rfl,rfl⟩ (.cons_cons _ (.cons_cons _ (.cons _ (.refl _)))) ?_
 rintro⟨i,out,v⟩ ⟨hi,ho⟩
 dsimp only at hi ho ⊢
 have hol:out.length=i:=by rw[ho];simp;omega
 refine AY ?_
 refine A6 (fun hc=>?_) (fun hc=>?_)
 ·have hlt:i < own.length:=by omega
  have hov:=hao _ (AJ hlt)
  refine DC fun b10=>?_
  refine Cp (σ:=Unit) (fun _=>True) (fun _=> [(4,.raw (.pointer (some ⟨b4,0,none⟩))),(6,.slice (own.map eAtm) .ro),(8,.slice (out.map eAtm) v),(9,.raw (.int .i64 i)),(10,.raw (.pointer (some ⟨b10,0,none⟩)))]) (fun _=> .box b10 125 (eAtm (Nq d (LH d own[i]))):: .tok v out.length 172:: .box b4 31 (eDig d)::LF) ?_ ?_
  ·refine AX (fun h7=>?_) (fun h7=>?_)
   ·refine AY ?_
    refine⟨(),trivial,⟨rfl,rfl,rfl,rfl,rfl⟩,?_⟩
    have h7':(LH d own[i]).kind≠7:=h7
    rw[Nq,if_pos h7'];exact .refl _
   ·refine AY ?_
    refine⟨(),trivial,⟨rfl,rfl,rfl,rfl,rfl⟩,?_⟩
    have h7':(LH d own[i]).kind=7:=h7
    rw[Nq,if_neg (by simp[h7'])];exact .refl _
  rintro _ _
  generalize ha2:Nq d (LH d own[i])=a2
  refine AY ?_
  refine Cp (σ:=Unit) (fun _=>True) (fun _=> [(4,.raw (.pointer (some ⟨b4,0,none⟩))),(6,.slice (own.map eAtm) .ro),(8,.slice (out.map eAtm) v),(9,.raw (.int .i64 i)),(10,.raw (.pointer (some ⟨b10,0,none⟩)))]) (fun _=> .box b10 125 (eAtm (Np d a2)):: .tok v out.length 172:: .box b4 31 (eDig d)::LF) ?_ ?_
  ·refine A6 (fun h7=>?_) (fun h7=>?_)
   ·refine AY ?_
    refine⟨(),trivial,⟨rfl,rfl,rfl,rfl,rfl⟩,?_⟩
    rw[Np,if_pos h7];exact .refl _
   ·refine AY ?_
    refine⟨(),trivial,⟨rfl,rfl,rfl,rfl,rfl⟩,?_⟩
    rw[Np,if_neg h7];exact .refl _
  rintro _ _
  generalize ha3:Np d a2=a3
  refine AY ?_
  refine Cp (σ:=Unit) (fun _=>True) (fun _=> [(4,.raw (.pointer (some ⟨b4,0,none⟩))),(6,.slice (own.map eAtm) .ro),(8,.slice (out.map eAtm) v),(9,.raw (.int .i64 i)),(10,.raw (.pointer (some ⟨b10,0,none⟩)))]) (fun _=> .box b10 125 (eAtm (Mi d a3)):: .tok v out.length 172:: .box b4 31 (eDig d)::LF) ?_ ?_
  ·refine A6 (fun h7=>?_) (fun h7=>?_)
   ·refine Rl ?_
    refine QL [false,false,false,false,false,false,false,false,false,true,false,true] ?_ ?_
    ·decide+kernel
    refine C8 ?_
    refine⟨(),trivial,⟨rfl,rfl,rfl,rfl,rfl⟩,?_⟩
    rw[Mi,if_pos h7];exact .refl _
   ·refine AY ?_
    refine⟨(),trivial,⟨rfl,rfl,rfl,rfl,rfl⟩,?_⟩
    rw[Mi,if_neg h7];exact .refl _
  rintro _ _
  have hover:(Mi d a3).over=own[i].over:=by rw[←ha3,←ha2];exact YA d own[i]
  generalize ha4:Mi d a3=a4 at hover
  have hov4:a4.over.length≤40:=by rw[hover];exact hov
  refine AY ?_
  refine Ab (σ:=Nat × List Ident × CN) (fun j=>j.1≤a4.over.length∧j.2.1=(a4.over.take j.1).foldl (fun m y=>Jq m (Dw y d)) []) (fun j=>a4.over.length - j.1) (fun j=> [(4,.raw (.pointer (some ⟨b4,0,none⟩))),(6,.slice (own.map eAtm) .ro),(8,.slice (out.map eAtm) v),(9,.raw (.int .i64 i)),(10,.raw (.pointer (some ⟨b10,0,none⟩))),(11,.slice (j.2.1.map eIdent) j.2.2),(12,.raw (.int .i64 j.1))]) (fun _=> .box b10 125 (eAtm a4):: .tok v out.length 172:: .box b4 31 (eDig d)::LF) (0,[],.nil) ⟨by simp,by simp⟩ ⟨rfl,rfl,rfl,rfl,rfl,rfl,rfl⟩ (.refl _) ?_
  rintro⟨j,m,z⟩ ⟨hj,hm⟩
  dsimp only at hj hm ⊢
  have hml:m.length≤j:=by rw[hm];exact aF d a4.over j
  refine AY ?_
  refine A6 (fun hc2=>?_) (fun hc2=>?_)
  ·have hlt2:j < a4.over.length:=by omega
   have:B4 (m.length≤1000000):=⟨by omega⟩
   refine AY ?_
   refine⟨(j+1,Jq m (Dw a4.over[j] d),.ro),⟨by dsimp only;omega,?_⟩,by dsimp only;omega,⟨rfl,rfl,rfl,rfl,rfl,rfl,rfl⟩,.refl _⟩
   dsimp only
   rw[A7 hlt2,CH,←hm];rfl
  ·rw[AE (by omega)]at hm
   refine Hn fun v'=>?_
   have e:QH d own[i]= { a4 with over:=m }:=by rw[QH,ha2,ha3,ha4,aI,iz,←hm]
   refine⟨(i+1,out++ [{ a4 with over:=m }],v'),⟨by dsimp only;omega,?_⟩,by dsimp only;omega,⟨rfl,rfl,rfl,rfl⟩,.cons _ (.refl _)⟩
   dsimp only
   rw[A7 hlt,An,←ho,Aq,e];rfl
 ·rw[AE (by omega)]at ho
  refine AY ?_
  refine HD ?_
  rw[ho]
  exact .tuple2 (.ro _ _) (.refl _)⟩
theorem Ir {b:Bool} (h:(!b)=false): ¬b=false:=by cases b<;>simp_all
theorem Lx {b:Bool} (h:(!b)=true):b=false:=by cases b<;>simp_all
theorem HY.great {s:List Sto} (h:HY s) (d:Dig):E5 ((getS s d).getD Pat.zero)=false:=by
 cases hg:getS s d with
 |none=>exact al
 |some p=>
  obtain⟨x,hx,_,rfl⟩:=Ke hg
  exact h.2 x hx
def Ht (s:List Sto) (d:Dig):List Atm:=(Iq ((getS s d).getD Pat.zero)).1
def HT (s:List Sto) (x:Ident):Option Atm:=if x.n < 0∨((Ht s x.patch).length:Int)≤x.n then none else(Ht s x.patch)[x.n.toNat]?
instance uW (s:List Sto) (x:Ident) (t:CN) [hs:B4 (HY s)]:C9 Tryz.prog 207 [.slice (s.map eSto) t,.agg (eIdent x)] (.tuple [.agg (eAtm ((HT s x).getD Atm.zero)),.raw (.bool (HT s x).isSome)]):=⟨by
 have i1:B4 (E5 ((getS s x.patch).getD Pat.zero)=false):=⟨hs.out.great _⟩
 refine Au Tryz.func207 Tryz.ntmps207 rfl (rs:= [.cell 4 125,.tmp 5]) rfl rfl fun hb LF=>?_
 refine DC fun b3=>?_
 refine FK fun b4=>?_
 refine FK fun b6=>?_
 have e0:(Iq ((getS s x.patch).getD Pat.zero)).1=Ht s x.patch:=rfl
 rw[e0]
 refine BR [(31,.raw (.bool (decide (x.n < 0∨((Ht s x.patch).length:Int)≤x.n)))),(3,.raw (.pointer (some ⟨b3,0,none⟩))),(4,.raw (.pointer (some ⟨b4,0,none⟩))),(8,.slice ((Ht s x.patch).map eAtm) .ro)] (.box b6 40 (Ba ((getS s x.patch).getD Pat.zero)):: .box b4 125 (eAtm Atm.zero):: .box b3 65 (eIdent x)::LF) ?_ ?_
 ·repeat' (first|(refine A6 (fun h=>?_) (fun h=>?_)<;>refine AY ?_)|(refine AX (fun h=>?_) (fun h=>?_)<;>refine AY ?_)|(refine AU (fun h=>?_) (fun h=>?_)<;>refine AY ?_)|(refine Ar (fun h=>?_) (fun h=>?_)<;>(have h2:=h;(try simp only[AB,A8,AG,AL]at h2);refine C8 ?_)))
  all_goals (refine⟨⟨C4 (by rfl) ?_,rfl,rfl,rfl⟩,.refl _⟩;first|(simp_all;done)|(simp_all;omega)|grind)
 refine AY ?_
 refine A6 (fun h=>?_) (fun h=>?_)
 ·refine AY ?_
  refine L6 rfl (.of_eq ?_)
  rw[HT,if_pos h];rfl
 ·refine AY ?_
  refine L6 rfl (.of_eq ?_)
  have hlt:x.n.toNat < (Ht s x.patch).length:=by omega
  rw[HT,if_neg h,AW hlt];rfl⟩
def EG (o:Option Atm) (fits:Atm→Bool):Int:=if o.isSome=false then 7 else if fits (o.getD Atm.zero)=false then 8 else 0
def GL (s:List Sto) (x file:Ident) (id:Dig):Int:=if EH x=false∨x=file then 0 else EG (HT s x) (Im (FA file id))
instance wM (s:List Sto) (x file:Ident) (id:Dig) (t:CN) [hs:B4 (HY s)]:C9 Tryz.prog 210 [.slice (s.map eSto) t,.agg (eIdent x),.agg (eIdent file),.agg (eDig id)] (.raw (.int .i64 (GL s x file id))):=⟨by
 refine Au Tryz.func210 Tryz.ntmps210 rfl (rs:= [.tmp 8]) rfl rfl fun hb LF=>?_
 refine DC fun b5=>?_
 refine FK fun b6=>?_
 refine FK fun b7=>?_
 refine BR [(18,.raw (.bool (decide (EH x=false∨x=file)))),(0,.slice (s.map eSto) t),(5,.raw (.pointer (some ⟨b5,0,none⟩))),(6,.raw (.pointer (some ⟨b6,0,none⟩))),(7,.raw (.pointer (some ⟨b7,0,none⟩)))] (.box b7 31 (eDig id):: .box b6 65 (eIdent file):: .box b5 65 (eIdent x)::LF) ?_ ?_
 ·repeat' (first|(refine A6 (fun h=>?_) (fun h=>?_)<;>refine AY ?_)|(refine AX (fun h=>?_) (fun h=>?_)<;>refine AY ?_)|(refine AU (fun h=>?_) (fun h=>?_)<;>refine AY ?_)|(refine Ar (fun h=>?_) (fun h=>?_)<;>(have h2:=h;(try simp only[AB,A8,AG,AL]at h2);refine C8 ?_)))
  all_goals (refine⟨⟨C4 (by rfl) ?_,rfl,rfl,rfl,rfl⟩,.refl _⟩;first|(simp_all;done)|(simp_all;omega)|grind)
 refine AY ?_
 refine A6 (fun h=>?_) (fun h=>?_)
 ·refine AY ?_
  refine Az (.of_eq ?_)
  rw[GL,if_pos h]
 rw[GL,if_neg h]
 refine DC fun b9=>?_
 refine AU (fun h2=>?_) (fun h2=>?_)
 ·refine AY ?_
  refine Az (.of_eq ?_)
  rw[EG,if_pos (Lx h2)]
 refine AY ?_
 refine AU (fun h3=>?_) (fun h3=>?_)
 ·refine AY ?_
  refine Az (.of_eq ?_)
  rw[EG,if_neg (Ir h2),if_pos (Lx h3)]
 ·refine AY ?_
  refine Az (.of_eq ?_)
  rw[EG,if_neg (Ir h2),if_neg (Ir h3)]⟩
def Jd (s:List Sto) (c:Chg):Int:=if EH c.file=true then EG (HT s c.file) (EK c.kind)else 0
def Lu (s:List Sto) (c:Chg):Int:=if EH c.parent=true then EG (HT s c.parent) rDirectory else 0
def Ky (s:List Sto) (c:Chg) (id:Dig) (x:Ident):Int:=if EH x=false then 0 else EG (HT s x) (GK c.kind (FA c.file id))
def KU (s:List Sto) (c:Chg) (id:Dig):Int:=
 if Jd s c≠0 then Jd s c else if Lu s c≠0 then Lu s c else if GL s c.after c.file id≠0 then GL s c.after c.file id else
 if GL s c.before c.file id≠0 then GL s c.before c.file id else Av (Ky s c id) c.over
instance qU (s:List Sto) (c:Chg) (id:Dig) (t:CN) [hs:B4 (HY s)]:C9 Tryz.prog 153 [.slice (s.map eSto) t,.agg (eChg c),.agg (eDig id)] (.raw (.int .i64 (KU s c id))):=⟨by
 refine Au Tryz.func153 Tryz.ntmps153 rfl (rs:= [.tmp 6]) rfl rfl fun hb LF=>?_
 have hlen:c.over.length≤140737488355328:=((hb (.agg (eChg c)) (by simp)).agg_at (c:= .slice (c.over.map eIdent) .ro) (by simp[eChg])).slice_map
 refine DC fun b4=>?_
 refine FK fun b5=>?_
 refine Cp (σ:=Unit) (fun _=>Jd s c=0) (fun _=> [(0,.slice (s.map eSto) t),(4,.raw (.pointer (some ⟨b4,0,none⟩))),(5,.raw (.pointer (some ⟨b5,0,none⟩)))]) (fun _=> .box b5 31 (eDig id):: .box b4 73 (eChg c)::LF) ?_ ?_
 ·refine AU (fun h=>?_) (fun h=>?_)
  ·have e:Jd s c=EG (HT s c.file) (EK c.kind):=by rw[Jd,if_pos h]
   refine DC fun b7=>?_
   refine AU (fun h2=>?_) (fun h2=>?_)
   ·refine AY ?_
    refine Az (.of_eq ?_)
    rw[EG,if_pos (Lx h2)]at e
    rw[KU,if_pos (by rw[e];decide),e]
   refine AY ?_
   refine AU (fun h3=>?_) (fun h3=>?_)
   ·refine AY ?_
    refine Az (.of_eq ?_)
    rw[EG,if_neg (Ir h2),if_pos (Lx h3)]at e
    rw[KU,if_pos (by rw[e];decide),e]
   ·refine AY ?_
    rw[EG,if_neg (Ir h2),if_neg (Ir h3)]at e
    exact⟨(),e,⟨rfl,rfl,rfl⟩,.cons _ (.refl _)⟩
  ·refine AY ?_
   exact⟨(),by rw[Jd,if_neg (by simp[h])],⟨rfl,rfl,rfl⟩,.refl _⟩
 rintro _ hF
 refine AY ?_
 refine Cp (σ:=Unit) (fun _=>Lu s c=0) (fun _=> [(0,.slice (s.map eSto) t),(4,.raw (.pointer (some ⟨b4,0,none⟩))),(5,.raw (.pointer (some ⟨b5,0,none⟩)))]) (fun _=> .box b5 31 (eDig id):: .box b4 73 (eChg c)::LF) ?_ ?_
 ·refine AU (fun h=>?_) (fun h=>?_)
  ·have e:Lu s c=EG (HT s c.parent) rDirectory:=by rw[Lu,if_pos h]
   refine DC fun b7=>?_
   refine AU (fun h2=>?_) (fun h2=>?_)
   ·refine AY ?_
    refine Az (.of_eq ?_)
    rw[EG,if_pos (Lx h2)]at e
    rw[KU,if_neg (by simp[hF]),if_pos (by rw[e];decide),e]
   refine AY ?_
   refine AU (fun h3=>?_) (fun h3=>?_)
   ·refine AY ?_
    refine Az (.of_eq ?_)
    rw[EG,if_neg (Ir h2),if_pos (Lx h3)]at e
    rw[KU,if_neg (by simp[hF]),if_pos (by rw[e];decide),e]
   ·refine AY ?_
    rw[EG,if_neg (Ir h2),if_neg (Ir h3)]at e
    exact⟨(),e,⟨rfl,rfl,rfl⟩,.cons _ (.refl _)⟩
  ·refine AY ?_
   exact⟨(),by rw[Lu,if_neg (by simp[h])],⟨rfl,rfl,rfl⟩,.refl _⟩
 rintro _ hP
 rw[KU,if_neg (by simp[hF]),if_neg (by simp[hP])]
 refine AY ?_
 refine AX (fun h1=>?_) (fun h1=>?_)
 ·refine AY ?_
  refine Az (.of_eq ?_)
  rw[if_pos h1]
 rw[if_neg (by simp[h1])]
 refine AY ?_
 refine AX (fun h2=>?_) (fun h2=>?_)
 ·refine AY ?_
  refine Az (.of_eq ?_)
  rw[if_pos h2]
 rw[if_neg (by simp[h2])]
 refine AY ?_
 refine Ab (σ:=Nat) (fun k=>k≤c.over.length∧ ∀ i (h:i < c.over.length),i < k→Ky s c id c.over[i]=0) (fun k=>c.over.length - k) (fun k=> [(0,.slice (s.map eSto) t),(4,.raw (.pointer (some ⟨b4,0,none⟩))),(5,.raw (.pointer (some ⟨b5,0,none⟩))),(13,.raw (.int .i64 k))]) (fun _=> .box b5 31 (eDig id):: .box b4 73 (eChg c)::LF) 0 ⟨by simp,by simp⟩ ⟨rfl,rfl,rfl,rfl⟩ (.refl _) ?_
 rintro k ⟨hk,he⟩
 refine AY ?_
 refine A6 (fun hc=>?_) (fun hc=>?_)
 ·have hlt:k < c.over.length:=by omega
  refine AY ?_
  refine AU (fun h=>?_) (fun h=>?_)
  ·refine AY ?_
   exact⟨k+1,⟨by omega,EC he hlt (by rw[Ky,if_pos (Lx h)])⟩,by dsimp only;omega,⟨rfl,rfl,rfl,rfl⟩,.refl _⟩
  have e:Ky s c id c.over[k]=EG (HT s c.over[k]) (GK c.kind (FA c.file id)):=by rw[Ky,if_neg (Ir h)]
  refine DC fun b14=>?_
  refine AU (fun h3=>?_) (fun h3=>?_)
  ·refine AY ?_
   refine Az (.of_eq ?_)
   rw[EG,if_pos (Lx h3)]at e
   rw[DQ hlt he (by rw[e];decide),e]
  refine AY ?_
  refine AU (fun h4=>?_) (fun h4=>?_)
  ·refine AY ?_
   refine Az (.of_eq ?_)
   rw[EG,if_neg (Ir h3),if_pos (Lx h4)]at e
   rw[DQ hlt he (by rw[e];decide),e]
  ·refine AY ?_
   rw[EG,if_neg (Ir h3),if_neg (Ir h4)]at e
   exact⟨k+1,⟨by omega,EC he hlt e⟩,by dsimp only;omega,⟨rfl,rfl,rfl,rfl⟩,.cons _ (.refl _)⟩
 ·refine AY ?_
  refine Az (.of_eq ?_)
  rw[Db fun i h=>he i h (by omega)]⟩
def GF (s:List Sto) (p:Pat) (id:Dig):Int:=Av (fun c=>KU s c id) p.changes
instance fv (s:List Sto) (p:Pat) (id:Dig) (t:CN) [hs:B4 (HY s)]:C9 Tryz.prog 91 [.slice (s.map eSto) t,.agg (Ba p),.agg (eDig id)] (.raw (.int .i64 (GF s p id))):=⟨by
 refine Au Tryz.func91 Tryz.ntmps91 rfl (rs:= [.tmp 6]) rfl rfl fun hb LF=>?_
 have hlen:p.changes.length≤140737488355328:=((hb (.agg (Ba p)) (by simp)).agg_at (c:= .slice (p.changes.map eChg) .ro) (by simp[Ba])).slice_map
 refine DC fun b4=>?_
 refine FK fun b5=>?_
 refine Ab (σ:=Nat) (fun k=>k≤p.changes.length∧ ∀ i (h:i < p.changes.length),i < k→KU s p.changes[i] id=0) (fun k=>p.changes.length - k) (fun k=> [(0,.slice (s.map eSto) t),(4,.raw (.pointer (some ⟨b4,0,none⟩))),(5,.raw (.pointer (some ⟨b5,0,none⟩))),(7,.raw (.int .i64 k))]) (fun _=> .box b5 31 (eDig id):: .box b4 40 (Ba p)::LF) 0 ⟨by simp,by simp⟩ ⟨rfl,rfl,rfl,rfl⟩ (.refl _) ?_
 rintro k ⟨hk,he⟩
 refine AY ?_
 refine A6 (fun hc=>?_) (fun hc=>?_)
 ·have hlt:k < p.changes.length:=by omega
  refine AY ?_
  refine AX (fun h=>?_) (fun h=>?_)
  ·refine AY ?_
   refine Az (.of_eq ?_)
   rw[GF,DQ hlt he h]
  ·refine AY ?_
   exact⟨k+1,⟨by omega,EC (f:=fun c=>KU s c id) he hlt h⟩,by dsimp only;omega,⟨rfl,rfl,rfl,rfl⟩,.refl _⟩
 ·refine AY ?_
  refine Az (.of_eq ?_)
  rw[GF,Db fun i h=>he i h (by omega)]⟩
theorem sP {b:Bool} (h:(!b)=false):b=true:=by cases b<;>simp_all
def Jz (s:List Sto) (i:Nat):Int:=
 if(EW (s.getD i Sto.zero).patch).2≠0 then(EW (s.getD i Sto.zero).patch).2 else if(EW (s.getD i Sto.zero).patch).1≠(s.getD i Sto.zero).id then 13 else
 if 0 < (i:Int)∧0≤Ea (s.getD (i - 1) Sto.zero).id (EW (s.getD i Sto.zero).patch).1 then 9 else 0
def QJ (s:List Sto):Int:=
 if 400 < (s.length:Int)then 4 else if Av (Jz s) (List.range s.length)≠0 then Av (Jz s) (List.range s.length)else
 if s.all (fun x=>DM (ids s) (Ax x.patch))=false then 19 else if((Cg s).length:Int) < s.length then 20 else Av (fun(x:Sto)=>GF s x.patch x.id) s
instance uf (s:List Sto) (t:CN) [hs:B4 (HY s)]:C9 Tryz.prog 34 [.slice (s.map eSto) t] (.raw (.int .i64 (QJ s))):=⟨by
 obtain⟨hl8,hgr⟩:=hs.out
 refine Au Tryz.func34 Tryz.ntmps34 rfl (rs:= [.tmp 2]) rfl rfl fun hb LF=>?_
 refine AY ?_
 refine A6 (fun h1=>?_) (fun h1=>?_)
 ·omega
 rw[QJ,if_neg h1]
 refine AY ?_
 refine Ab (σ:=Nat) (fun k=>k≤s.length∧ ∀ i (h:i < (List.range s.length).length),i < k→Jz s (List.range s.length)[i]=0) (fun k=>s.length - k) (fun k=> [(0,.slice (s.map eSto) t),(3,.raw (.int .i64 k))]) (fun _=>LF) 0 ⟨by simp,by simp⟩ ⟨rfl,rfl⟩ (.refl _) ?_
 rintro k ⟨hk,he⟩
 refine AY ?_
 refine A6 (fun hc=>?_) (fun hc=>?_)
 ·have hlt:k < s.length:=by omega
  have hltr:k < (List.range s.length).length:=by simpa using hlt
  have ek:(List.range s.length)[k]=k:=by simp
  have e0:s.getD k Sto.zero=s[k]:=by simp[List.getD,hlt]
  have i1:B4 (E5 s[k].patch=false):=⟨hgr _ (AJ hlt)⟩
  refine DC fun b=>?_
  refine AX (fun h2=>?_) (fun h2=>?_)
  ·refine AY ?_
   refine Az (.of_eq ?_)
   have e:Jz s (List.range s.length)[k]=(EW s[k].patch).2:=by rw[ek,Jz,e0,if_pos h2]
   have f:=DQ hltr he (by rw[e];exact h2)
   rw[if_pos (by rw[f,e];exact h2),f,e]
  refine AY ?_
  refine AX (fun h3=>?_) (fun h3=>?_)
  ·refine AY ?_
   refine Az (.of_eq ?_)
   have e:Jz s (List.range s.length)[k]=13:=by rw[ek,Jz,e0,if_neg (by simp[h2]),if_pos h3]
   have f:=DQ hltr he (by rw[e];decide)
   rw[if_pos (by rw[f,e];decide),f,e]
  refine AY ?_
  refine Ar (fun hp=>?_) (fun hp=>?_)
  ·have hp':0 < (k:Int):=BF hp
   refine C8 ?_
   have e1:s.getD (k - 1) Sto.zero=s[((k:Int) - 1).toNat]:=by
    have:((k:Int) - 1).toNat=k - 1:=by omega
    simp only[this]
    have h':k - 1 < s.length:=by omega
    simp[List.getD,h']
   refine A6 (fun h4=>?_) (fun h4=>?_)
   ·refine AY ?_
    refine Az (.of_eq ?_)
    have e:Jz s (List.range s.length)[k]=9:=by rw[ek,Jz,e0,e1,if_neg (by simp[h2]),if_neg (by simp[h3]),if_pos ⟨hp',h4⟩]
    have f:=DQ hltr he (by rw[e];decide)
    rw[if_pos (by rw[f,e];decide),f,e]
   ·refine AY ?_
    have e:Jz s (List.range s.length)[k]=0:=by rw[ek,Jz,e0,e1,if_neg (by simp[h2]),if_neg (by simp[h3]),if_neg (fun h=>h4 h.2)]
    exact⟨k+1,⟨by omega,EC he hltr e⟩,by dsimp only;omega,⟨rfl,rfl⟩,.cons _ (.refl _)⟩
  ·have hp': ¬0 < (k:Int):=Bm hp
   refine C8 ?_
   have e:Jz s (List.range s.length)[k]=0:=by rw[ek,Jz,e0,if_neg (by simp[h2]),if_neg (by simp[h3]),if_neg (fun h=>hp' h.1)]
   exact⟨k+1,⟨by omega,EC he hltr e⟩,by dsimp only;omega,⟨rfl,rfl⟩,.cons _ (.refl _)⟩
 have hA:Av (Jz s) (List.range s.length)=0:=Db fun i h=>he i h (by simp at h;omega)
 rw[if_neg (by simp[hA])]
 clear he hA hk hc
 refine AY ?_
 refine Ab (σ:=Nat) (fun k=>k≤s.length∧ ∀ i (h:i < s.length),i < k→DM (ids s) (Ax s[i].patch)=true) (fun k=>s.length - k) (fun k=> [(0,.slice (s.map eSto) t),(6,.slice ((ids s).map eDig) .ro),(7,.raw (.int .i64 k))]) (fun _=>LF) 0 ⟨by simp,by simp⟩ ⟨rfl,rfl,rfl⟩ (.refl _) ?_
 rintro k ⟨hk,he⟩
 refine AY ?_
 refine A6 (fun hc=>?_) (fun hc=>?_)
 ·have hlt:k < s.length:=by omega
  have i1:B4 (E5 s[k].patch=false):=⟨hgr _ (AJ hlt)⟩
  refine AY ?_
  refine AU (fun h=>?_) (fun h=>?_)
  ·refine AY ?_
   refine Az (.of_eq ?_)
   have hx:DM (ids s) (Ax s[k].patch)=false:=Lx h
   have hy:s.all (fun x=>DM (ids s) (Ax x.patch))=false:=HQ hlt hx
   rw[if_pos hy]
  ·refine AY ?_
   have hx:DM (ids s) (Ax s[k].patch)=true:=sP h
   have hy: ∀ i (h:i < s.length),i < k+1→DM (ids s) (Ax s[i].patch)=true:=fun i hi hik=>by
    rcases BP i k with h'|h'
    ·exact he i hi h'
    ·have e:i=k:=by omega
     subst e;exact hx
   exact⟨k+1,⟨by omega,hy⟩,by dsimp only;omega,⟨rfl,rfl,rfl⟩,.refl _⟩
 have hB:s.all (fun x=>DM (ids s) (Ax x.patch))=true:=Ie fun i h=>he i h (by omega)
 rw[if_neg (by simp[hB])]
 clear he hB hk hc
 refine AY ?_
 refine A6 (fun h=>?_) (fun h=>?_)
 ·refine AY ?_
  refine Az (.of_eq ?_)
  rw[if_pos h]
 rw[if_neg h]
 refine AY ?_
 refine Ab (σ:=Nat) (fun k=>k≤s.length∧ ∀ i (h:i < s.length),i < k→GF s s[i].patch s[i].id=0) (fun k=>s.length - k) (fun k=> [(0,.slice (s.map eSto) t),(8,.raw (.int .i64 k))]) (fun _=>LF) 0 ⟨by simp,by simp⟩ ⟨rfl,rfl⟩ (.refl _) ?_
 rintro k ⟨hk,he⟩
 refine AY ?_
 refine A6 (fun hc=>?_) (fun hc=>?_)
 ·have hlt:k < s.length:=by omega
  refine AY ?_
  refine AX (fun h2=>?_) (fun h2=>?_)
  ·refine AY ?_
   refine Az (.of_eq ?_)
   rw[DQ (f:=fun(x:Sto)=>GF s x.patch x.id) hlt he h2]
  ·refine AY ?_
   exact⟨k+1,⟨by omega,EC (f:=fun(x:Sto)=>GF s x.patch x.id) he hlt h2⟩,by dsimp only;omega,⟨rfl,rfl⟩,.refl _⟩
 ·refine AY ?_
  refine Az (.of_eq ?_)
  rw[Db (f:=fun(x:Sto)=>GF s x.patch x.id) fun i h=>he i h (by omega)]⟩
theorem Yw {s:List Sto} (h:Ez s=false):HY s:=by
 unfold Ez at h
 simp only[CJ,A8,Bf]at h
 obtain⟨⟨h1,h2⟩,_⟩:=h
 refine⟨by omega,fun x hx=>?_⟩
 have:=h1 x (by rw[AE (by omega)];exact hx)
 exact XL (by simpa using this)
def Lq (s:List Sto):Bool:=!Ez s&&decide (QJ s=0)
instance y8 (s:List Sto) (t:CN):C9 Tryz.prog 9 [.slice (s.map eSto) t] (.raw (.bool (Lq s))):=⟨by
 refine Au Tryz.func9 Tryz.ntmps9 rfl (rs:= [.tmp 2]) rfl rfl fun hb LF=>?_
 refine AY ?_
 refine Ar (fun hp=>?_) (fun hp=>?_)
 ·have i1:B4 (HY s):=⟨Yw (by simpa using hp)⟩
  refine C8 ?_
  refine Az (.of_eq ?_)
  rw[Lq,hp,Fh]
 ·refine C8 ?_
  refine Az (.of_eq ?_)
  rw[Lq,hp,th]⟩
def KY (s:List Sto) (x:Sto):List Sto:=s.takeWhile (fun y=>decide (Ea y.id x.id < 0))++x::s.dropWhile (fun y=>decide (Ea y.id x.id < 0))
theorem O1 {P:Program} {ρ:Env} {L LF:List Res} {X:PV} {t u s T n b T':Nat} {cs:List PV} {x z:PV} [hT:FE P T n] (h:ρ u= .raw (.pointer (some ⟨b,0,none⟩))) (hX:Le (.tuple [x,.agg cs,z]) X) (hx:ρ t=x:=by conv=>lhs;whnf) (hz:ρ s=z:=by conv=>lhs;whnf) (hm:Res.box b T' cs∈L:=by repeat(first|exact AF|apply AI)) (hn:cs.length=n:=by simp) (hs:LF.Sublist L:=by repeat(first|exact Dz _|apply List.Sublist.cons)):
  oo P [.tmp t,.cell u T,.tmp s] (fun r L'=>Le r X∧L'= []) LF .ret ρ L:=⟨trivial,_,[],.cons (.tmp t) (.cons (.cell u T h hm hT.out hn) (.cons (.tmp s) .nil)),hs,by subst hx;subst hz;exact hX,rfl⟩
def FJ (s:List Sto) (p:Pat):List Sto × Dig × Int:=
 if(EW p).2≠0 then([],Dig.zero,(EW p).2)else
 if(getS s (EW p).1).isSome=true then(if p=(getS s (EW p).1).getD Pat.zero then([],Dig.zero,6)else([],Dig.zero,14))else
 if DM (ids s) (Ax p)=false then([],Dig.zero,19)else if GF s p (EW p).1≠0 then([],Dig.zero,GF s p (EW p).1)else
 if 400≤(s.length:Int)then([],Dig.zero,4)else(KY s ⟨(EW p).1,p⟩,(EW p).1,0)
end Go.Proofs
