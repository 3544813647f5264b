/- PickTwins' and PickPick's contracts: they answer true, whatever the sets and identities. -/
import Derived.Test.YtjmpmjmobbofgaaGreatDoorUas
import Derived.Test.YtjmpmjmobbofgaaGreatDoorUah
import Derived.Test.YtjmpmjmobbofgaaGreatDoorUar
set_option linter.unusedSimpArgs false
set_option linter.unusedVariables false
namespace Go.Proofs
open Go Go.Q
attribute [local irreducible] pwp pops pAny PCalls OpN
set_option maxHeartbeats 2000000 in
theorem pickTwins_fn (a:List Sto) (t:Tag):FnC Tryz.prog 6 [.slice (a.map eSto) t] (.raw (.bool true)):=⟨by
 refine fn_of Tryz.func6 Tryz.ntmps6 rfl (rs:= [.tmp 2]) rfl rfl fun hb LF=>?_
 by_cases hf:rFine a=true
 ·have v:=valid_of hf
  have hl:=fine_len hf
  have c1:=fun t=>twinsP_fn a t v (by omega)
  have c2:=fun t=>twins37R_fn a t (by omega)
  generalize rTwins a=x at c1 c2
  have c3:=fun t u=>sameGroups_ct x x t u
  rw[decide_eq_true (rfl:x=x)]at c3
  have c4: ∀ t,FnC Tryz.prog 31 [.slice ([(a,Tag.ro)].map eSS) t] (.raw (.bool true)):=fun t=>by
   have:=fine37_ct [(a,Tag.ro)] t
   rw[show([(a,Tag.ro)].all fun x=>rFine x.1)=true by simp[hf]]at this
   exact this
  refine wf ?_
  exact end1 (.refl _)
 ·have hf':rFine a=false:=by simpa using hf
  have c4: ∀ t,FnC Tryz.prog 31 [.slice ([(a,Tag.ro)].map eSS) t] (.raw (.bool false)):=fun t=>by
   have:=fine37_ct [(a,Tag.ro)] t
   rw[show([(a,Tag.ro)].all fun x=>rFine x.1)=false by simp[hf']]at this
   exact this
  refine wf ?_
  exact end1 (.refl _)⟩
theorem fine2_fn (a b:List Sto) (r:Bool) (h:(rFine a&&rFine b)=r) (t:Tag):FnC Tryz.prog 31 [.slice ([(a,Tag.ro),(b,Tag.ro)].map eSS) t] (.raw (.bool r)):=by
 have:=fine37_ct [(a,Tag.ro),(b,Tag.ro)] t
 rw[show([(a,Tag.ro),(b,Tag.ro)].all fun x=>rFine x.1)=r by simp[←h]]at this
 exact this
set_option maxHeartbeats 2000000 in
theorem pickPick_fn (a:List Sto) (t:Tag) (b:List Sto) (u:Tag) (l:List Dig) (y:Tag):FnC Tryz.prog 8 [.slice (a.map eSto) t,.slice (b.map eSto) u,.slice (l.map eDig) y] (.raw (.bool true)):=⟨by
 refine fn_of Tryz.func8 Tryz.ntmps8 rfl (rs:= [.tmp 6]) rfl rfl fun hb LF=>?_
 cases hab:(rFine a&&rFine b)with
 |false=>
  have c4:=fine2_fn a b _ hab
  refine wf ?_
  exact end1 (.refl _)
 |true=>
  have c4:=fine2_fn a b _ hab
  rw[Bool.and_eq_true]at hab
  obtain⟨hfa,hfb⟩:=hab
  have va:=valid_of hfa
  have vb:=valid_of hfb
  have ha:=fine_len hfa
  have hb':=fine_len hfb
  refine wf ?_
  refine pwp_condD (fun h=>?_) (fun h=>?_)
  ·refine wf ?_
   exact end1 (.refl _)
  have hl:l.length≤10:=by omega
  have c1:=fun t u y=>pickP_fn a b t u l y va vb (by omega) (by omega)
  have c2:=fun t u y=>take37_fn a b t u l y va vb (by omega)
  generalize rTake a b l=r at c1 c2
  obtain⟨r1,r2,r3⟩:=r
  dsimp only at c1 c2
  have c5:=fun t u=>missingF_fn a b t u va vb.asc
  have c6:=fun t u=>missing37_fn a b t u va.close.1
  generalize rMissing a b=m at c5 c6
  have i1:Small (a.length≤1000000):=⟨by omega⟩
  have c7:=fun t u=>commonP_fn a b t u vb.asc (by omega)
  have c8:=fun t u=>common37_ct a b t u
  generalize keepS a (ids b)=k at c7 c8
  have g1:decide (m=m)=true:=decide_eq_true rfl
  have g2:decide (r1=r1)=true:=decide_eq_true rfl
  have g3:decide (r2=r2)=true:=decide_eq_true rfl
  have g4:decide (r3=r3)=true:=decide_eq_true rfl
  have g5:decide (k=k)=true:=decide_eq_true rfl
  refine wf ?_
  exact end1 (.refl _)⟩
end Go.Proofs
namespace Go.Proofs
open Go Go.Q
attribute [local irreducible] pwp pops pAny PCalls OpN
set_option maxHeartbeats 4000000 in
theorem pickAll_fn (a:List Sto) (t:Tag) (b:List Sto) (u:Tag):FnC Tryz.prog 9 [.slice (a.map eSto) t,.slice (b.map eSto) u] (.raw (.bool true)):=⟨by
 refine fn_of Tryz.func9 Tryz.ntmps9 rfl (rs:= [.tmp 4]) rfl rfl fun hb LF=>?_
 cases hab:(rFine a&&rFine b)with
 |false=>
  have c4:=fine2_fn a b _ hab
  refine wf ?_
  exact end1 (.refl _)
 |true=>
  have c4:=fine2_fn a b _ hab
  rw[Bool.and_eq_true]at hab
  obtain⟨hfa,hfb⟩:=hab
  have va:=valid_of hfa
  have vb:=valid_of hfb
  have ha:=fine_len hfa
  have hb':=fine_len hfb
  have c1:=fun t u y=>pickP_fn a b t u (ids a) y va vb (by rw[ids_len];omega) (by omega)
  have c2:=fun t u=>unionP_fn a b t u va vb (by omega)
  have e0:=clo_all va
  rcases union_pair va.asc vb.asc (by omega)with ⟨x,e1,e2,i,hc⟩|⟨hc,e1,e2⟩
  ·have et:rTake a b (ids a)=(x,rMissing a b,0):=by
    have:=take_ok (b:=b) (u:=x) e0.1 (by rw[keep_all];exact e2)
    rw[keep_all]at this;exact this
   rw[et]at c1
   rw[e1]at c2
   dsimp only at c1 c2
   have vx:=va.union vb i (by omega)
   have hxl:=i.len
   have c5:=fun t u=>missingF_fn a b t u va vb.asc
   have c6:=fun t u=>missingF_fn a x t u va vx.asc
   rw[missing_nil va fun d hd=>i.sub.2 (.inl hd)]at c6
   have c7:=fun t u=>missingF_fn x a t u vx va.asc
   have c8:=fun t u=>commonP_fn a b t u vb.asc (by omega)
   have hlb:=len_back va vb vx i.symm
   have hcl:(keepS a (ids b)).length≤a.length:=List.length_filter_le _ _
   have hle:=len_common (b:=a) vb
   have hcl2:(keepS a (ids b)).length≤b.length:=by
    have h3:=len_of_same (l:=ids (keepS a (ids b))) (m:=ids (keepS b (ids a))) (va.asc.nodup.sublist (ids_keep_sub a _)) (vb.asc.nodup.sublist (ids_keep_sub b _)) fun d=>by
     rw[mem_ids_keep,mem_ids_keep,and_comm]
    rw[ids_len,ids_len]at h3
    omega
   generalize rMissing a b=m at*
   generalize rMissing x a=n at*
   generalize keepS a (ids b)=k at*
   have g1:decide (x=x)=true:=decide_eq_true rfl
   have g2:decide (m=m)=true:=decide_eq_true rfl
   have g3:decide ((n.length:Int)=(b.length:Int) - (k.length:Int))=true:=decide_eq_true (by omega)
   refine wf ?_
   exact end1 (.refl _)
  ·have hcb: ¬Coh b (keepS a (ids a)):=by rw[keep_all];exact fun h=>hc h.symm
   have et:=take_bad (b:=b) e0.1 vb.asc hcb
   rw[et]at c1
   rw[e1]at c2
   dsimp only at c1 c2
   refine wf ?_
   exact end1 (.refl _)⟩
set_option maxHeartbeats 4000000 in
theorem pickCommon_fn (a:List Sto) (t:Tag) (b:List Sto) (u:Tag):FnC Tryz.prog 12 [.slice (a.map eSto) t,.slice (b.map eSto) u] (.raw (.bool true)):=⟨by
 refine fn_of Tryz.func12 Tryz.ntmps12 rfl (rs:= [.tmp 4]) rfl rfl fun hb LF=>?_
 cases hab:(rFine a&&rFine b)with
 |false=>
  have c4:=fine2_fn a b _ hab
  refine wf ?_
  exact end1 (.refl _)
 |true=>
  have c4:=fine2_fn a b _ hab
  rw[Bool.and_eq_true]at hab
  obtain⟨hfa,hfb⟩:=hab
  have va:=valid_of hfa
  have vb:=valid_of hfb
  have ha:=fine_len hfa
  have hb':=fine_len hfb
  have c1:=fun t u=>commonP_fn a b t u vb.asc (by omega)
  have c2:=fun t u=>missingF_fn a b t u va vb.asc
  have c3:=fun t u=>unionP_fn a b t u va vb (by omega)
  have hlc:=len_common (b:=b) va
  have hkl:(keepS a (ids b)).length≤a.length:=List.length_filter_le _ _
  have hin: ∀ x∈keepS a (ids b),(getS b x.id).isSome=true:=fun x hx=>by
   rw[getS_isSome vb.asc,decide_eq_true_eq];exact(mem_keepS.1 hx).2
  have hcs:=common_sym va.asc vb.asc
  have hcv:=common_valid va vb
  have c5:=fun t u=>commonP_fn b a t u va.asc (by omega)
  have c6:=fun t u=>commonP_fn a a t u va.asc (by omega)
  rw[keep_all]at c6
  have c7:=fun t u=>missingF_fn a a t u va va.asc
  rw[missing_nil va fun d hd=>hd]at c7
  generalize keepS a (ids b)=k at*
  generalize rMissing a b=m at*
  refine wf ?_
  refine pwp_loopS (σ:=Nat) (fun i=>i≤k.length) (fun i=>k.length - i) (fun i=> [(0,.slice (a.map eSto) t),(1,.slice (b.map eSto) u),(5,.slice (k.map eSto) .ro),(22,.slice (k.map eSto) .ro),(23,.raw (.int .i64 k.length)),(24,.raw (.int .i64 i))]) (fun _=>LF) 0 (by omega) ⟨rfl,rfl,rfl,rfl,rfl,rfl⟩ (.refl _) ?_
  rintro i hi
  refine wf ?_
  refine pwp_condD (fun hc=>?_) (fun hc=>?_)
  ·have hlt:i < k.length:=by omega
   have hh:=hin _ (List.getElem_mem hlt)
   refine wz fun b7=>?_
   refine pwp_freezeD 7 ?_
   refine wz fun b8=>?_
   refine pwp_freezeD 8 ?_
   generalize (getS b k[i].id).isSome=iB at hh ⊢
   subst hh
   refine wf ?_
   exact⟨i+1,by dsimp only;omega,by dsimp only;omega,⟨rfl,rfl,rfl,rfl,rfl,rfl⟩,.refl _⟩
  ·refine wf ?_
   refine pwp_condN (fun h=>?_) (fun h=>?_)
   ·exfalso;omega
   by_cases hc:Coh a b
   ·obtain⟨x,e1,i1⟩:=rUnion_ok va.asc vb.asc (by omega) hc
    rw[e1]at c3
    dsimp only at c3
    have vk:=hcv hc
    have hs1:Small (goodS k):=⟨vk.close.1⟩
    have ck:=fun t=>CheckPS_ct k t
    rw[check_of_valid vk]at ck
    rw[←hcs hc]at c5
    have g1:decide (k=k)=true:=decide_eq_true rfl
    have g2:decide (a=a)=true:=decide_eq_true rfl
    refine wf ?_
    exact end1 (.refl _)
   ·rw[rUnion_bad va.asc hc]at c3
    dsimp only at c3
    refine wf ?_
    exact end1 (.refl _)⟩
end Go.Proofs
namespace Go.Q
open Go
theorem opens_two {P:Program} {t e sz:Nat} {α:Type} {f:α→List PV} (ht:P.underlying t=some (.array 2 e)) (hc:P.cellsOf t=2*sz) (hce:P.cellsOf e=sz) (hf: ∀ a,(f a).length=sz) (h:Opens P e (fun xs=> ∃ a,xs=f a)):Opens P t (fun xs=> ∃ x:α × α,xs=f x.1++f x.2):=fun H enc w g hg base held fuel cs x hx hw=>by
 obtain⟨xs,m,rfl,rfl,k1,k2,k3⟩:=DataW.trod_array ht hx
 rw[hc]at k1
 have each: ∀ i (hi:i < 2),∃ a,VRl g ((cs.drop (i*sz)).take sz) (f a):=fun i hi=>by
  have h3:=k3 i hi
  have hlt:i < xs.length:=by omega
  rw[List.getElem?_eq_getElem hlt,hce]at h3
  obtain⟨ys,⟨a,rfl⟩,h2⟩:=h H enc w g hg base held m _ _ h3 (fun n hn=>hw n (by
   simp only[DataW.weights,ht]
   exact weights_each (d:=xs[i].1) (List.mem_map.2 ⟨xs[i],List.getElem_mem hlt,rfl⟩) n hn))
  exact⟨a,h2⟩
 obtain⟨a,ha⟩:=each 0 (by decide)
 obtain⟨b,hb⟩:=each 1 (by decide)
 refine⟨_,⟨(a,b),rfl⟩,?_⟩
 have:=ha.append hb
 rw[Nat.zero_mul,List.drop_zero,Nat.one_mul,List.take_of_length_le (l:=cs.drop sz) (by rw[List.length_drop];omega),List.take_append_drop]at this
 exact this
theorem opens_u8 {P:Program} {t:Nat} (ht:P.underlying t=some (.int .u8)):Opens P t (fun xs=> ∃ b:UInt8,xs= [eU8 b]):=Opens.to (opens_int ht) fun xs ⟨n,hwf,h⟩=>by
 simp[Lit.wf,IntKind.min,IntKind.max,IntKind.signed,IntKind.bits]at hwf
 refine⟨n.toNat.toUInt8,?_⟩
 rw[h]
 simp only[eU8,u8]
 congr 3
 simp
 omega
end Go.Q
namespace Go.Proofs
open Go Go.Q Go.ChangeShapes Go.WideShapes Go.ChangeAt Go.WideMaps Go.WideElems Go.RowKit
theorem o_u8:Opens Tryz.prog 5 (fun xs=> ∃ b:UInt8,xs= [eU8 b]):=opens_u8 (by kernel_rfl)
set_option maxRecDepth 20000 in
theorem arg_u8 {t:Nat} {W:World} {base:Nat} {v:Value} {g:Gh} {b:UInt8} (ht:Tryz.prog.underlying t=some (.int .u8)) (hv:Value.okWide Tryz.prog W .any base t v) (h:VRl g v.cells.toList [eU8 b]):VR g v (eU8 b):=by
 have:v.cells= #[v]:=by
  unfold Value.okWide at hv
  rw[ht]at hv
  simp only[Cell.okWide,ht]at hv
  cases v<;>simp[Cell.ok,ht]at hv<;>rfl
 rw[this]at h
 exact h.uncons.1
end Go.Proofs
namespace Go.Proofs
open Go Go.Q
attribute [local irreducible] pwp pops pAny PCalls OpN
def eSt1 (s:List Sto):List PV:= [.slice (s.map eSto) .ro]
@[simp] theorem len_eSt1 (s:List Sto):(eSt1 s).length=1:=rfl
def eTwoS (x:List Sto × List Sto):List PV:=eSt1 x.1++eSt1 x.2
set_option maxHeartbeats 8000000 in
theorem pickTwice_fn (two:List Sto × List Sto) (l:List Dig) (y:Tag) (at_:UInt8):FnC Tryz.prog 7 [.agg (eTwoS two),.slice (l.map eDig) y,eU8 at_] (.raw (.bool true)):=⟨by
 obtain⟨a,b⟩:=two
 refine fn_of Tryz.func7 Tryz.ntmps7 rfl (rs:= [.tmp 6]) rfl rfl fun hb LF=>?_
 refine wf ?_
 refine s_ixArr (r:=eSt1 a) 0 rfl rfl (by decide) ⟨by simp[eTwoS,eSt1],by simp[eTwoS]⟩ ?_
 refine wf ?_
 refine s_ixArr (r:=eSt1 b) 1 rfl rfl (by decide) ⟨by simp[eTwoS,eSt1],by simp[eTwoS]⟩ ?_
 cases hab:(rFine a&&rFine b)with
 |false=>
  have c4:=fine2_fn a b _ hab
  refine wf ?_
  exact end1 (.refl _)
 |true=>
  have c4:=fine2_fn a b _ hab
  rw[Bool.and_eq_true]at hab
  obtain⟨hfa,hfb⟩:=hab
  have va:=valid_of hfa
  have vb:=valid_of hfb
  have ha:=fine_len hfa
  have hb':=fine_len hfb
  refine wf ?_
  refine pwp_condD (fun h=>?_) (fun h=>?_)
  ·refine wf ?_
   exact end1 (.refl _)
  have hl:l.length≤10:=by omega
  have c1:=fun t u y=>pickP_fn a b t u l y va vb (by omega) (by omega)
  rcases pick_cases va vb (by omega) l with ⟨hA,e1⟩|⟨L,e1,hL,hc,e2⟩|⟨L,w,h⟩
  ·rw[e1]at c1
   dsimp only at c1
   refine wf ?_
   exact end1 (.refl _)
  ·rw[e2]at c1
   dsimp only at c1
   refine wf ?_
   exact end1 (.refl _)
  ·rw[h.eq]at c1
   dsimp only at c1
   have hil:=h.isU.len
   have hkl:(keepS a L).length≤a.length:=List.length_filter_le _ _
   have c2:=fun t u y=>pickP_fn a w t u l y va h.val (by omega) (by omega)
   rw[h.again va vb (by omega)]at c2
   dsimp only at c2
   have hk:at_.toNat % (l.length+1) < l.length+1:=Nat.mod_lt _ (by omega)
   have hsp: ∀ d,d∈l↔d∈l.take (at_.toNat % (l.length+1))∨d∈l.drop (at_.toNat % (l.length+1)):=fun d=>by
    rw[←List.mem_append,List.take_append_drop]
   obtain⟨v1,m1,n1,e1,vv1,hv1,e2,hs1⟩:=h.steps va vb (by omega) hsp
   obtain⟨v2,m2,n2,e3,vv2,hv2,e4,hs2⟩:=h.steps va vb (by omega) fun d=>(hsp d).trans or_comm
   refine wf ?_
   refine s_convI (k₀:= .u8) (n:=(at_.toNat:Int)) rfl (IntWalk.i64_in _ (by have:=at_.toNat_lt;omega)) ?_
   refine wf ?_
   refine s_rem (m:=at_.toNat) (n:=l.length+1) rfl rfl (by omega) ?_
   generalize at_.toNat % (l.length+1)=k at*
   have c3:=fun t u y=>pickP_fn a b t u (l.take k) y va vb (by rw[List.length_take];omega) (by omega)
   rw[e1]at c3
   have c5:=fun t u y=>pickP_fn a v1 t u (l.drop k) y va vv1 (by rw[List.length_drop];omega) (by omega)
   rw[e2]at c5
   have c6:=fun t u y=>pickP_fn a b t u (l.drop k) y va vb (by rw[List.length_drop];omega) (by omega)
   rw[e3]at c6
   have c7:=fun t u y=>pickP_fn a v2 t u (l.take k) y va vv2 (by rw[List.length_take];omega) (by omega)
   rw[e4]at c7
   dsimp only at c3 c5 c6 c7
   have hwl:w.length≤16:=by omega
   have g1:decide (w=w)=true:=decide_eq_true rfl
   have g2:decide ((m1.length:Int)+(n1.length:Int)=(w.length:Int) - (b.length:Int))=true:=decide_eq_true (by omega)
   refine wf ?_
   exact end1 (.refl _)⟩
end Go.Proofs
namespace Go.Proofs
open Go Go.Q
attribute [local irreducible] pwp pops pAny PCalls OpN
structure Mta where
 author:Str
 message:Str
 time:Int
def eMta (m:Mta):List PV:= [.str m.author]++([.str m.message]++ [.raw (.int .i64 m.time)])
@[simp] theorem len_eMta (m:Mta):(eMta m).length=3:=rfl
instance fld_Mta_author (m:Mta):Fld (eMta m) 0 [.str m.author]:=by unfold eMta;exact fld_here
instance fld_Mta_message (m:Mta):Fld (eMta m) 1 [.str m.message]:=by unfold eMta;exact fld_skip (n:=1) (off:=0) (by simp) fld_here
instance fld_Mta_time (m:Mta):Fld (eMta m) 2 [.raw (.int .i64 m.time)]:=by unfold eMta;exact fld_skip (n:=1) (off:=1) (by simp) (fld_skip (n:=1) (off:=0) (by simp) fld_last)
def again (p:Pat) (m:Mta):Pat:=⟨m.author,m.message,m.time,p.deps,p.changes⟩
theorem again_big {s:List Sto} (hf:rFine s=true) {x:Sto} (hx:x∈s) {m:Mta} (h1:m.author.length≤60) (h2:m.message.length≤60):rBig (again x.patch m)=false:=by
 have hl:=fine_len hf
 unfold rFine at hf
 simp only[Bool.and_eq_true,Bool.not_eq_true',decide_eq_true_eq]at hf
 have hg:=hf.1
 unfold rGreatS at hg
 simp only[Bool.or_eq_false_iff,decide_eq_false_iff_not,List.any_eq_false]at hg
 have hgx:rGreat x.patch=false:=by
  have:=hg.1.1 x (by rw[List.take_of_length_le (by omega)];exact hx)
  simpa using this
 have hb:=big_of hgx
 unfold rBig at hb ⊢
 unfold rGreat at hgx
 simp only[Bool.or_eq_false_iff,decide_eq_false_iff_not]at hb hgx ⊢
 obtain⟨⟨⟨⟨g1,g2⟩,g3⟩,g4⟩,g5⟩:=hb
 have k2:=hgx.1.1.2
 refine⟨⟨⟨⟨g1,?_⟩,g3⟩,g4⟩,g5⟩
 have e1:rTot x.patch=x.patch.author.length+x.patch.message.length+(x.patch.changes.map rTotC).sum:=rfl
 have e2:rTot (again x.patch m)=m.author.length+m.message.length+(x.patch.changes.map rTotC).sum:=rfl
 omega
theorem pCount_fn (p:Pat) (hs:rBig p=false):FnC Tryz.prog 43 [.agg (ePat p)] (.raw (.int .i64 (rEx p).1.length)):=⟨by
 have i1:Small (rBig p=false):=⟨hs⟩
 refine fn_of Tryz.func43 Tryz.ntmps43 rfl (rs:= [.tmp 2]) rfl rfl fun hb LF=>?_
 refine wf ?_
 exact end1 (.refl _)⟩
theorem ex_changes {p:Pat} (h:(rId p).2=0):(rEx p).1=(rChanges p.changes []).1:=by
 have h0:(rEx p).2.2=0:=by rw[rEx_id];exact h
 obtain⟨e1,e2⟩:=rEx_own h0
 rw[e1]
 rw[checkP_head]at e2 ⊢
 by_cases h1:rHead p≠0
 ·rw[if_pos h1]at e2;exact absurd e2 h1
 ·rw[if_neg h1]
theorem grp_facts {T:List Sto} (v:Valid T) {l:List Dig} (h:l∈rTwins T):1 < l.length∧ ∃ ch n,ch≠ []∧ ∀ d∈l,∃ q,getS T d=some q∧q.changes=ch∧rBig q=false∧(rEx q).1.length=n:=by
 obtain⟨h1,ch,hc⟩:=twin_same h
 have hin: ∀ d∈l,∃ q,getS T d=some q∧q.changes=ch∧rBig q=false∧(rEx q).1.length=(rChanges ch []).1.length∧ch≠ []:=fun d hd=>by
  obtain⟨y,hy,e1,e2⟩:=hc d hd
  have hid:=(v.id y hy).1
  refine⟨y.patch,by rw[←e1];exact getS_in v.asc hy,e2,v.close.1.2 y hy,by rw[ex_changes hid,e2],?_⟩
  rw[←e2]
  exact(head_facts (rId_ok hid).1).2.2.1
 refine⟨h1,ch,(rChanges ch []).1.length,?_,fun d hd=>?_⟩
 ·obtain⟨q,hq⟩:=hin (l[0]'(by omega)) (List.getElem_mem _)
  exact hq.2.2.2.2
 ·obtain⟨q,a,b,c,e,_⟩:=hin d hd
  exact⟨q,a,b,c,e⟩
theorem met_new {G:List (List Dig)} (h1: ∀ l∈G,l.Nodup) (h2:G.Pairwise fun a b=> ∀ d∈a,d∉b) {j i:Nat} (hj:j < G.length) (hi:i < G[j].length):G[j][i]∉(G.take j).flatten++G[j].take i:=fun hm=>by
 rcases List.mem_append.1 hm with hm|hm
 ·obtain⟨l,hl,hd⟩:=List.mem_flatten.1 hm
  obtain⟨k,hk,e⟩:=List.mem_take_iff_getElem.1 hl
  have hp:=List.pairwise_iff_getElem.1 h2 k j (by omega) hj (by omega)
  rw[e]at hp
  exact hp _ hd (List.getElem_mem hi)
 ·exact nodup_take (h1 _ (List.getElem_mem hj)) hi hm
theorem flat_len {G:List (List Dig)} {B:Nat} (h: ∀ l∈G,l.length≤B):G.flatten.length≤G.length*B:=by
 induction G with
 |nil=>simp
 |cons a G ih=>
  have h1:=h a (by simp)
  have h2:=ih fun l hl=>h l (by simp[hl])
  simp only[List.flatten_cons,List.length_append,List.length_cons,Nat.add_mul]
  omega
def tgt (G:List (List Dig)) (x y:Dig) (j:Nat):Bool:=(G.take j).any fun l=>decide (x∈l)&&decide (y∈l)
theorem tgt_succ {G:List (List Dig)} {x y:Dig} {j:Nat} (h:j < G.length):tgt G x y (j+1)=(tgt G x y j||(decide (x∈G[j])&&decide (y∈G[j]))):=by
 unfold tgt
 rw[List.take_succ_eq_append_getElem h,List.any_append]
 simp
theorem flat_succ {G:List (List Dig)} {j:Nat} (h:j < G.length):(G.take (j+1)).flatten=(G.take j).flatten++G[j]:=by
 rw[List.take_succ_eq_append_getElem h,List.flatten_append]
 simp
theorem tgt_all {T:List Sto} (v:Valid T) {x y:Sto} (hx:x∈T) (hy:y∈T) (hne:x.id≠y.id) (hc:x.patch.changes=y.patch.changes):tgt (rTwins T) x.id y.id (rTwins T).length=true:=by
 obtain⟨l,hl,h1,h2⟩:=groups_together (fun x=>x.patch.changes) v.asc hx hy hne hc
 unfold tgt
 rw[List.take_length,List.any_eq_true]
 exact⟨l,hl,by simp[h1,h2]⟩
theorem twins_len2 {T:List Sto} {l:List Dig} (h:l∈rTwins T):l.length≤T.length:=by
 obtain⟨⟨key,_,rfl⟩,_⟩:=(mem_groups _).1 h
 unfold grK
 rw[ids_len]
 refine Nat.le_trans (List.length_filter_le _ _) ?_
 rw[List.length_take];omega
theorem twins_len {T:List Sto}:(rTwins T).length≤T.length:=by
 unfold rTwins groupsK
 refine Nat.le_trans (List.length_filter_le _ _) ?_
 rw[List.length_map]
 unfold ordK
 rw[List.length_map]
 refine Nat.le_trans (List.length_filter_le _ _) ?_
 rw[List.length_range];exact Nat.le_refl _
end Go.Proofs
namespace Go.Proofs
open Go Go.Q Go.ChangeShapes Go.WideShapes Go.ChangeAt Go.WideMaps Go.WideElems Go.RowKit
theorem o_twoS:Opens Tryz.prog 59 (fun xs=> ∃ x:List Sto × List Sto,xs=eTwoS x):=opens_two (sz:=1) (by kernel_rfl) (by kernel_rfl) (by kernel_rfl) (fun _=>rfl) o_set
theorem o_meta:Opens Tryz.prog 67 (fun xs=> ∃ x:Mta,xs=eMta x):=
 Opens.to (opens_struct (n:=3) (r:= [(9,0),(9,1),(3,2)]) (by kernel_rfl) (by kernel_rfl) (.cons 1 (by kernel_rfl) o_str (.cons 1 (by kernel_rfl) o_str (.cons 1 (by kernel_rfl) o_int (.nil _)))))
  fun xs ⟨_,.cons ⟨a0,e0⟩ (.cons ⟨a1,e1⟩ (.cons ⟨a2,_,e2⟩ .nil)),e⟩=>⟨⟨a0,a1,a2⟩,by subst e0 e1 e2 e;simp[eMta,eS]⟩
end Go.Proofs
namespace Go.Proofs
open Go Go.Q
attribute [local irreducible] pwp pops pAny PCalls OpN
theorem fine1_fn (a:List Sto) (r:Bool) (h:rFine a=r) (t:Tag):FnC Tryz.prog 31 [.slice ([(a,Tag.ro)].map eSS) t] (.raw (.bool r)):=by
 have:=fine37_ct [(a,Tag.ro)] t
 rw[show([(a,Tag.ro)].all fun x=>rFine x.1)=r by simp[←h]]at this
 exact this
set_option maxHeartbeats 8000000 in
theorem pickAgain_fn (s:List Sto) (t:Tag) (at_:UInt8) (m:Mta):FnC Tryz.prog 10 [.slice (s.map eSto) t,eU8 at_,.agg (eMta m)] (.raw (.bool true)):=⟨by
 refine fn_of Tryz.func10 Tryz.ntmps10 rfl (rs:= [.tmp 6]) rfl rfl fun hb LF=>?_
 cases hf:rFine s with
 |false=>
  have c4:=fine1_fn s false hf
  refine wf ?_
  exact end1 (.refl _)
 |true=>
  have c4:=fine1_fn s true hf
  refine wf ?_
  refine pops_cutE [(42,.raw (.bool ((decide ((s.length:Int)=0)||decide (60 < (m.author.length:Int)))||decide (60 < (m.message.length:Int))))),(0,.slice (s.map eSto) t),(1,eU8 at_),(5,.pt (eMta m) 0)] (LF) ?_ ?_
  ·repeat' (first|(refine pwp_condD (fun h=>?_) (fun h=>?_)<;>refine wf ?_)|(refine pwp_condN (fun h=>?_) (fun h=>?_)<;>refine wf ?_)|(refine pwp_condB (fun h=>?_) (fun h=>?_)<;>refine wf ?_)|(refine pops_if (fun h=>?_) (fun h=>?_)<;>(have h2:=h;(try simp only[decide_eq_true_eq,decide_eq_false_iff_not,Bool.not_eq_true',Bool.not_eq_false']at h2);refine wf ?_)))
   all_goals (refine⟨⟨holdsB (by rfl) ?_,rfl,rfl,rfl⟩,.refl _⟩;first|(simp_all;done)|(simp_all;omega)|grind)
  refine wf ?_
  refine pwp_condB (fun h=>?_) (fun h=>?_)
  ·refine wf ?_
   exact end1 (.refl _)
  simp only[Bool.or_eq_false_iff,decide_eq_false_iff_not]at h
  obtain⟨⟨h0,h1⟩,h2⟩:=h
  have v:=valid_of hf
  have hl:=fine_len hf
  have hk:at_.toNat % s.length < s.length:=Nat.mod_lt _ (by omega)
  refine wf ?_
  refine s_convI (k₀:= .u8) (n:=(at_.toNat:Int)) rfl (IntWalk.i64_in _ (by have:=at_.toNat_lt;omega)) ?_
  refine wf ?_
  generalize at_.toNat % s.length=k at*
  have hx:=List.getElem_mem hk
  refine s_alloc fun b7=>?_
  refine wo ?_
  refine pops_nil ?_
  refine pwp_freezeD 7 ?_
  generalize s[k]=x at hx ⊢
  have hg:=again_big hf hx (m:=m) (by omega) (by omega)
  refine wz fun b8=>?_
  refine wn ?_
  refine pwp_drawA [7,9,11] (by decide+kernel) ?_
  refine pAny_quiet 0 rfl (by decide+kernel) rfl (fun L'=>q_of_pops (N:=167) rfl rfl (by refine wo ?_;refine pops_nil ?_;exact⟨upd_self _ _ _,rfl⟩)) ?_
  refine pAny_quiet 1 rfl (by decide+kernel) rfl (fun L'=>q_of_pops (N:=167) rfl rfl (by refine wo ?_;refine pops_nil ?_;exact⟨upd_self _ _ _,rfl⟩)) ?_
  refine pAny_quiet 2 rfl (by decide+kernel) rfl (fun L'=>q_of_pops (N:=167) rfl rfl (by refine wo ?_;refine pops_nil ?_;exact⟨upd_self _ _ _,rfl⟩)) ?_
  refine pAny_quiet 3 rfl (by decide+kernel) rfl (fun L'=>q_of_pops (N:=167) rfl rfl (by refine wo ?_;refine pops_nil ?_;exact⟨upd_self _ _ _,rfl⟩)) ?_
  refine pAny_quiet 4 rfl (by decide+kernel) rfl (fun L'=>q_of_pops (N:=167) rfl rfl (by refine wo ?_;refine pops_nil ?_;exact⟨upd_self _ _ _,rfl⟩)) ?_
  refine pAny_quiet 5 rfl (by decide+kernel) rfl (fun L'=>q_of_pops (N:=167) rfl rfl (by refine wo ?_;refine pops_nil ?_;exact⟨upd_self _ _ _,rfl⟩)) ?_
  refine pAny_quiet 6 rfl (by decide+kernel) rfl (fun L'=>q_of_pops (N:=167) rfl rfl (by refine wo ?_;refine pops_nil ?_;exact⟨upd_self _ _ _,rfl⟩)) ?_
  refine pAny_next (fuel:=4) [7] (by decide+kernel) (by simp) fun i hi=>?_
  simp only[List.mem_cons,List.not_mem_nil,or_false]at hi
  subst hi
  refine⟨_,rfl,?_⟩
  refine wf ?_
  refine pAny_quiet 8 rfl (by decide+kernel) rfl (fun L'=>q_of_pops (N:=167) rfl rfl (by refine wo ?_;refine pops_nil ?_;exact⟨upd_self _ _ _,rfl⟩)) ?_
  refine pAny_next (fuel:=2) [9] (by decide+kernel) (by simp) fun i hi=>?_
  simp only[List.mem_cons,List.not_mem_nil,or_false]at hi
  subst hi
  refine⟨_,rfl,?_⟩
  refine wf ?_
  refine pAny_quiet 10 rfl (by decide+kernel) rfl (fun L'=>q_of_pops (N:=167) rfl rfl (by refine wo ?_;refine pops_nil ?_;exact⟨upd_self _ _ _,rfl⟩)) ?_
  refine pAny_next (fuel:=0) [11] (by decide+kernel) (by simp) fun i hi=>?_
  simp only[List.mem_cons,List.not_mem_nil,or_false]at hi
  subst hi
  refine⟨_,rfl,?_⟩
  refine wf ?_
  refine pAny_end (by decide+kernel) ?_
  obtain⟨p,hp⟩: ∃ p,p=again x.patch m:=⟨_,rfl⟩
  refine pwp_env (L':= .box b8 32 (ePat p)::LF) [(0,.slice (s.map eSto) t),(7,.pt (eSto x) 0),(8,.raw (.pointer (some ⟨b8,0,none⟩)))] ⟨rfl,rfl,rfl⟩ (by subst hp;exact .refl _) ?_
  rw[←hp]at hg
  have hch:p.changes=x.patch.changes:=by rw[hp];rfl
  have i1:Small (Valid s):=⟨v⟩
  have i2:Small (rBig p=false):=⟨hg⟩
  have a1:=fun t=>AddP_ct s p t
  generalize hA:rAdd s p=A at a1
  refine wf ?_
  refine s_alloc fun b10=>?_
  refine wo ?_
  refine pops_nil ?_
  refine pwp_freezeD 10 ?_
  refine wf ?_
  refine pwp_joinG (σ:=List Sto × Tag) (fun z=>Valid z.1∧z.1.length≤9∧(A.2.2=0→tgt (rTwins z.1) x.id A.2.1 (rTwins z.1).length=true)) (fun z=> [(7,.pt (eSto x) 0),(9,.slice (z.1.map eSto) z.2),(10,.pt (eDig A.2.1) 0),(11,.raw (.int .i64 A.2.2))]) (fun _=>LF) ?_ ?_
  ·refine pwp_condN (fun h=>?_) (fun h=>?_)
   ·refine wf ?_
    exact⟨(s,t),⟨v,by dsimp only;omega,fun e=>absurd e h⟩,⟨rfl,rfl,rfl,rfl⟩,.cons _ (.refl _)⟩
   ·obtain⟨F,hA'⟩:=v.rAdd_ok hg (by rw[hA];exact h)
    have eA:=hA.symm.trans hA'
    have vT:=v.put F (by omega)
    have hpl:=putS_len s ⟨(rId p).1,p⟩
    have hxs:x.id∈ids s:=List.mem_map.2 ⟨x,hx,rfl⟩
    have hne:x.id≠(rId p).1:=fun e=>F.new (e ▸ hxs)
    have htg:=tgt_all vT (x:=x) (y:=⟨(rId p).1,p⟩) (mem_putS.2 (.inr hx)) (mem_putS.2 (.inl rfl)) hne hch.symm
    refine wf ?_
    exact⟨(A.1,.ro),⟨by rw[eA];exact vT,by rw[eA];dsimp only;omega,fun _=>by rw[eA];exact htg⟩,⟨rfl,rfl,rfl,rfl⟩,.cons _ (.refl _)⟩
  rintro⟨T,u⟩ ⟨vT,hTl,htg⟩
  dsimp only at vT hTl htg ⊢
  have tw:=twinsP_fn T u vT (by omega)
  have hgl:=twins_len (T:=T)
  have hfacts:=fun l (h:l∈rTwins T)=>grp_facts vT h
  have hnd:=fun l (h:l∈rTwins T)=>(twin_nodup vT.asc h).nodup
  have hl2:=fun l (h:l∈rTwins T)=>twins_len2 h
  have hpw:(rTwins T).Pairwise fun a b=> ∀ d∈a,d∉b:=groups_pw _ vT.asc
  generalize rTwins T=G at*
  generalize A.2.1=id at*
  generalize A.2.2=er at*
  refine wf ?_
  refine pwp_tok 32 ?_
  refine pwp_loopS (σ:=Nat × Tag) (fun z=>z.1≤G.length) (fun z=>G.length - z.1) (fun z=> [(7,.pt (eSto x) 0),(9,.slice (T.map eSto) u),(10,.pt (eDig id) 0),(11,.raw (.int .i64 er)),(12,.raw (.bool (tgt G x.id id z.1))),(13,.slice ((G.take z.1).flatten.map eDig) z.2),(74,.slice (G.map eG) .ro),(75,.raw (.int .i64 G.length)),(76,.raw (.int .i64 z.1))]) (fun z=> .tok z.2 (G.take z.1).flatten.length 32::LF) (0,.nil) (by simp) ⟨rfl,rfl,rfl,rfl,rfl,rfl,rfl,rfl,rfl⟩ (.refl _) ?_
  rintro⟨j,mt⟩ hj
  dsimp only at hj ⊢
  refine wf ?_
  refine pwp_condD (fun hc=>?_) (fun hc=>?_)
  ·have hlt:j < G.length:=by omega
   have hG:=List.getElem_mem hlt
   obtain⟨hl1,ch,n,hchn,hmem⟩:=hfacts _ hG
   have hln:=hl2 _ hG
   have hts:=tgt_succ (x:=x.id) (y:=id) hlt
   have hfs:=flat_succ hlt
   have hnew:=fun i hi=>met_new hnd hpw hlt (i:=i) hi
   have hfl:(G.take j).flatten.length≤81:=by
    have h1:=flat_len (G:=G.take j) (B:=9) fun l hl=>by
     have:=hl2 l (List.mem_of_mem_take hl);omega
    rw[List.length_take]at h1
    have:min j G.length≤9:=by omega
    omega
   have hq: ∀ i (h:i < G[j].length),(getS T G[j][i]).isSome=true∧rBig ((getS T G[j][i]).getD Pat.zero)=false∧((getS T G[j][i]).getD Pat.zero).changes=ch∧(rEx ((getS T G[j][i]).getD Pat.zero)).1.length=n:=fun i h=>by
    obtain⟨q,e1,e2,e3,e4⟩:=hmem G[j][i] (List.getElem_mem h)
    rw[e1];exact⟨rfl,e3,e2,e4⟩
   clear hmem
   refine wf ?_
   generalize G[j]=l at*
   generalize (G.take j).flatten=F at*
   generalize tgt G x.id id j=tb at*
   refine pwp_condD (fun h=>?_) (fun h=>?_)
   ·exfalso;omega
   have p1:0 < l.length:=by omega
   refine wz fun b16=>?_
   refine pwp_freezeD 16 ?_
   obtain⟨_,f2,f3,f4⟩:=hq 0 p1
   generalize (getS T l[0]).getD Pat.zero=q0 at*
   refine wf ?_
   have e00:F++l.take 0=F:=by simp
   refine pwp_loopS (σ:=Nat × Tag) (fun z=>z.1≤l.length) (fun z=>l.length - z.1) (fun z=> [(7,.pt (eSto x) 0),(9,.slice (T.map eSto) u),(10,.pt (eDig id) 0),(11,.raw (.int .i64 er)),(12,.raw (.bool tb)),(13,.slice ((F++l.take z.1).map eDig) z.2),(15,.slice (l.map eDig) .ro),(16,.pt (ePat q0) 0),(74,.slice (G.map eG) .ro),(75,.raw (.int .i64 G.length)),(76,.raw (.int .i64 j)),(91,.slice (l.map eDig) .ro),(92,.raw (.int .i64 l.length)),(93,.raw (.int .i64 z.1))]) (fun z=> .tok z.2 (F++l.take z.1).length 32::LF) (0,mt) (by simp) ⟨rfl,rfl,rfl,rfl,rfl,by rw[e00];rfl,rfl,rfl,rfl,rfl,rfl,rfl,rfl,rfl⟩ (by rw[e00];exact .refl _) ?_
   rintro⟨i,mu⟩ hi
   dsimp only at hi ⊢
   refine wf ?_
   refine pwp_condD (fun hc2=>?_) (fun hc2=>?_)
   ·have hlti:i < l.length:=by omega
    obtain⟨k1,k2,k3,k4⟩:=hq i hlti
    have g1:decide (l[i]∈F++l.take i)=false:=decide_eq_false (hnew i hlti)
    have hts2:F++l.take (i+1)=(F++l.take i)++ [l[i]]:=by rw[List.take_succ_eq_append_getElem hlti,List.append_assoc]
    have hml:(F++l.take i).length≤100:=by rw[List.length_append,List.length_take];omega
    generalize F++l.take i=M at*
    refine wz fun b19=>?_
    refine pwp_freezeD 19 ?_
    refine wz fun b20=>?_
    refine pwp_freezeD 20 ?_
    generalize (getS T l[i]).isSome=iB at k1 ⊢
    subst k1
    generalize (getS T l[i]).getD Pat.zero=q at*
    have p2:0 < q.changes.length:=by rw[k3];exact List.length_pos_iff.2 hchn
    have p3:0 < q0.changes.length:=by rw[f3];exact List.length_pos_iff.2 hchn
    have c5:=pCount_fn q k2
    have c6:=pCount_fn q0 f2
    rw[k4]at c5
    rw[f4]at c6
    have g2:(!decide ((n:Int)=(n:Int)))=false:=by simp
    have g3:decide ((q.changes.length:Int)=0)=false:=decide_eq_false (by omega)
    have g4:decide ((q0.changes.length:Int)=0)=false:=decide_eq_false (by omega)
    have c7:=SameChange_ct q.changes[0] q0.changes[0]
    rw[decide_eq_true (by have e:=k3.trans f3.symm;exact List.getElem_of_eq e p2:q.changes[0]=q0.changes[0])]at c7
    refine wf ?_
    refine wfa fun mu2=>?_
    rw[←hts2]
    exact⟨(i+1,mu2),by dsimp only;omega,by dsimp only;omega,⟨rfl,rfl,rfl,rfl,rfl,rfl,rfl,rfl,rfl,rfl,rfl,rfl,rfl,rfl⟩,.refl _⟩
   ·have hii:i=l.length:=by omega
    subst hii
    rw[List.take_length]
    refine wf ?_
    refine pops_cutE [(12,.raw (.bool (tb||(decide (x.id∈l)&&decide (id∈l))))),(7,.pt (eSto x) 0),(9,.slice (T.map eSto) u),(10,.pt (eDig id) 0),(11,.raw (.int .i64 er)),(13,.slice ((F++l).map eDig) mu),(74,.slice (G.map eG) .ro),(75,.raw (.int .i64 G.length)),(76,.raw (.int .i64 j))] (.tok mu (F++l).length 32::LF) ?_ ?_
    ·repeat' (first|(refine pwp_condD (fun h=>?_) (fun h=>?_)<;>refine wf ?_)|(refine pwp_condN (fun h=>?_) (fun h=>?_)<;>refine wf ?_)|(refine pwp_condB (fun h=>?_) (fun h=>?_)<;>refine wf ?_)|(refine pops_if (fun h=>?_) (fun h=>?_)<;>(have h2:=h;(try simp only[decide_eq_true_eq,decide_eq_false_iff_not,Bool.not_eq_true',Bool.not_eq_false']at h2);refine wf ?_)))
     all_goals (refine⟨⟨holdsB (by rfl) ?_,rfl,rfl,rfl,rfl,rfl,rfl,rfl,rfl⟩,.refl _⟩;first|(simp_all;done)|(simp_all;omega)|grind)
    refine wf ?_
    rw[←hts,←hfs]
    refine wf ?_
    exact⟨(j+1,mu),by dsimp only;omega,by dsimp only;omega,⟨rfl,rfl,rfl,rfl,rfl,rfl,rfl,rfl,rfl⟩,.refl _⟩
  ·have hjj:j=G.length:=by omega
   subst hjj
   by_cases he:er=0
   ·have ht:=htg he
    generalize tgt G x.id id G.length=tb at*
    subst ht
    have g1:(!decide (er=0))=false:=by simp[he]
    refine wf ?_
    exact end1 (.refl _)
   ·have g1:(!decide (er=0))=true:=by simp[he]
    refine wf ?_
    exact end1 (.refl _)⟩
end Go.Proofs
