/- PickTwins' and PickPick's contracts: they answer true, whatever the sets and identities. -/
import Derived.Test.YtjmpmjmobbofgaaGreatDoorUas
set_option linter.unusedSimpArgs false
set_option linter.unusedVariables false
namespace Go.Proofs
open Go Go.Q
attribute [local irreducible] pwp pops pAny PCalls OpN
set_option maxHeartbeats 2000000 in
theorem pickTwins_fn (a:List Sto) (t:Tag):FnC Tryz.prog 6 [.slice (a.map eSto) t] (.raw (.bool true)):=⟨by
 refine fn_of Tryz.func6 Tryz.ntmps6 rfl (rs:= [.tmp 2]) rfl rfl fun hb LF=>?_
 by_cases hf:rFine a=true
 ·have v:=valid_of hf
  have hl:=fine_len hf
  have c1:=fun t=>twinsP_fn a t v (by omega)
  have c2:=fun t=>twins37R_fn a t (by omega)
  generalize rTwins a=x at c1 c2
  have c3:=fun t u=>sameGroups_ct x x t u
  rw[decide_eq_true (rfl:x=x)]at c3
  have c4: ∀ t,FnC Tryz.prog 31 [.slice ([(a,Tag.ro)].map eSS) t] (.raw (.bool true)):=fun t=>by
   have:=fine37_ct [(a,Tag.ro)] t
   rw[show([(a,Tag.ro)].all fun x=>rFine x.1)=true by simp[hf]]at this
   exact this
  refine wf ?_
  exact end1 (.refl _)
 ·have hf':rFine a=false:=by simpa using hf
  have c4: ∀ t,FnC Tryz.prog 31 [.slice ([(a,Tag.ro)].map eSS) t] (.raw (.bool false)):=fun t=>by
   have:=fine37_ct [(a,Tag.ro)] t
   rw[show([(a,Tag.ro)].all fun x=>rFine x.1)=false by simp[hf']]at this
   exact this
  refine wf ?_
  exact end1 (.refl _)⟩
theorem fine2_fn (a b:List Sto) (r:Bool) (h:(rFine a&&rFine b)=r) (t:Tag):FnC Tryz.prog 31 [.slice ([(a,Tag.ro),(b,Tag.ro)].map eSS) t] (.raw (.bool r)):=by
 have:=fine37_ct [(a,Tag.ro),(b,Tag.ro)] t
 rw[show([(a,Tag.ro),(b,Tag.ro)].all fun x=>rFine x.1)=r by simp[←h]]at this
 exact this
set_option maxHeartbeats 2000000 in
theorem pickPick_fn (a:List Sto) (t:Tag) (b:List Sto) (u:Tag) (l:List Dig) (y:Tag):FnC Tryz.prog 8 [.slice (a.map eSto) t,.slice (b.map eSto) u,.slice (l.map eDig) y] (.raw (.bool true)):=⟨by
 refine fn_of Tryz.func8 Tryz.ntmps8 rfl (rs:= [.tmp 6]) rfl rfl fun hb LF=>?_
 cases hab:(rFine a&&rFine b)with
 |false=>
  have c4:=fine2_fn a b _ hab
  refine wf ?_
  exact end1 (.refl _)
 |true=>
  have c4:=fine2_fn a b _ hab
  rw[Bool.and_eq_true]at hab
  obtain⟨hfa,hfb⟩:=hab
  have va:=valid_of hfa
  have vb:=valid_of hfb
  have ha:=fine_len hfa
  have hb':=fine_len hfb
  refine wf ?_
  refine pwp_condD (fun h=>?_) (fun h=>?_)
  ·refine wf ?_
   exact end1 (.refl _)
  have hl:l.length≤10:=by omega
  have c1:=fun t u y=>pickP_fn a b t u l y va vb (by omega) (by omega)
  have c2:=fun t u y=>take37_fn a b t u l y va vb (by omega)
  generalize rTake a b l=r at c1 c2
  obtain⟨r1,r2,r3⟩:=r
  dsimp only at c1 c2
  have c5:=fun t u=>missingF_fn a b t u va vb.asc
  have c6:=fun t u=>missing37_fn a b t u va.close.1
  generalize rMissing a b=m at c5 c6
  have i1:Small (a.length≤1000000):=⟨by omega⟩
  have c7:=fun t u=>commonP_fn a b t u vb.asc (by omega)
  have c8:=fun t u=>common37_ct a b t u
  generalize keepS a (ids b)=k at c7 c8
  have g1:decide (m=m)=true:=decide_eq_true rfl
  have g2:decide (r1=r1)=true:=decide_eq_true rfl
  have g3:decide (r2=r2)=true:=decide_eq_true rfl
  have g4:decide (r3=r3)=true:=decide_eq_true rfl
  have g5:decide (k=k)=true:=decide_eq_true rfl
  refine wf ?_
  exact end1 (.refl _)⟩
end Go.Proofs
