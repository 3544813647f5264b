/- PickTwins' and PickPick's contracts: they answer true, whatever the sets and identities. -/
import Derived.Test.YtjmpmjmobbofgaaGreatDoorUas
import Derived.Test.YtjmpmjmobbofgaaGreatDoorUar
set_option linter.unusedSimpArgs false
set_option linter.unusedVariables false
namespace Go.Proofs
open Go Go.Q
attribute [local irreducible] pwp pops pAny PCalls OpN
set_option maxHeartbeats 2000000 in
theorem pickTwins_fn (a:List Sto) (t:Tag):FnC Tryz.prog 6 [.slice (a.map eSto) t] (.raw (.bool true)):=⟨by
 refine fn_of Tryz.func6 Tryz.ntmps6 rfl (rs:= [.tmp 2]) rfl rfl fun hb LF=>?_
 by_cases hf:rFine a=true
 ·have v:=valid_of hf
  have hl:=fine_len hf
  have c1:=fun t=>twinsP_fn a t v (by omega)
  have c2:=fun t=>twins37R_fn a t (by omega)
  generalize rTwins a=x at c1 c2
  have c3:=fun t u=>sameGroups_ct x x t u
  rw[decide_eq_true (rfl:x=x)]at c3
  have c4: ∀ t,FnC Tryz.prog 31 [.slice ([(a,Tag.ro)].map eSS) t] (.raw (.bool true)):=fun t=>by
   have:=fine37_ct [(a,Tag.ro)] t
   rw[show([(a,Tag.ro)].all fun x=>rFine x.1)=true by simp[hf]]at this
   exact this
  refine wf ?_
  exact end1 (.refl _)
 ·have hf':rFine a=false:=by simpa using hf
  have c4: ∀ t,FnC Tryz.prog 31 [.slice ([(a,Tag.ro)].map eSS) t] (.raw (.bool false)):=fun t=>by
   have:=fine37_ct [(a,Tag.ro)] t
   rw[show([(a,Tag.ro)].all fun x=>rFine x.1)=false by simp[hf']]at this
   exact this
  refine wf ?_
  exact end1 (.refl _)⟩
theorem fine2_fn (a b:List Sto) (r:Bool) (h:(rFine a&&rFine b)=r) (t:Tag):FnC Tryz.prog 31 [.slice ([(a,Tag.ro),(b,Tag.ro)].map eSS) t] (.raw (.bool r)):=by
 have:=fine37_ct [(a,Tag.ro),(b,Tag.ro)] t
 rw[show([(a,Tag.ro),(b,Tag.ro)].all fun x=>rFine x.1)=r by simp[←h]]at this
 exact this
set_option maxHeartbeats 2000000 in
theorem pickPick_fn (a:List Sto) (t:Tag) (b:List Sto) (u:Tag) (l:List Dig) (y:Tag):FnC Tryz.prog 8 [.slice (a.map eSto) t,.slice (b.map eSto) u,.slice (l.map eDig) y] (.raw (.bool true)):=⟨by
 refine fn_of Tryz.func8 Tryz.ntmps8 rfl (rs:= [.tmp 6]) rfl rfl fun hb LF=>?_
 cases hab:(rFine a&&rFine b)with
 |false=>
  have c4:=fine2_fn a b _ hab
  refine wf ?_
  exact end1 (.refl _)
 |true=>
  have c4:=fine2_fn a b _ hab
  rw[Bool.and_eq_true]at hab
  obtain⟨hfa,hfb⟩:=hab
  have va:=valid_of hfa
  have vb:=valid_of hfb
  have ha:=fine_len hfa
  have hb':=fine_len hfb
  refine wf ?_
  refine pwp_condD (fun h=>?_) (fun h=>?_)
  ·refine wf ?_
   exact end1 (.refl _)
  have hl:l.length≤10:=by omega
  have c1:=fun t u y=>pickP_fn a b t u l y va vb (by omega) (by omega)
  have c2:=fun t u y=>take37_fn a b t u l y va vb (by omega)
  generalize rTake a b l=r at c1 c2
  obtain⟨r1,r2,r3⟩:=r
  dsimp only at c1 c2
  have c5:=fun t u=>missingF_fn a b t u va vb.asc
  have c6:=fun t u=>missing37_fn a b t u va.close.1
  generalize rMissing a b=m at c5 c6
  have i1:Small (a.length≤1000000):=⟨by omega⟩
  have c7:=fun t u=>commonP_fn a b t u vb.asc (by omega)
  have c8:=fun t u=>common37_ct a b t u
  generalize keepS a (ids b)=k at c7 c8
  have g1:decide (m=m)=true:=decide_eq_true rfl
  have g2:decide (r1=r1)=true:=decide_eq_true rfl
  have g3:decide (r2=r2)=true:=decide_eq_true rfl
  have g4:decide (r3=r3)=true:=decide_eq_true rfl
  have g5:decide (k=k)=true:=decide_eq_true rfl
  refine wf ?_
  exact end1 (.refl _)⟩
end Go.Proofs
namespace Go.Proofs
open Go Go.Q
attribute [local irreducible] pwp pops pAny PCalls OpN
set_option maxHeartbeats 4000000 in
theorem pickAll_fn (a:List Sto) (t:Tag) (b:List Sto) (u:Tag):FnC Tryz.prog 9 [.slice (a.map eSto) t,.slice (b.map eSto) u] (.raw (.bool true)):=⟨by
 refine fn_of Tryz.func9 Tryz.ntmps9 rfl (rs:= [.tmp 4]) rfl rfl fun hb LF=>?_
 cases hab:(rFine a&&rFine b)with
 |false=>
  have c4:=fine2_fn a b _ hab
  refine wf ?_
  exact end1 (.refl _)
 |true=>
  have c4:=fine2_fn a b _ hab
  rw[Bool.and_eq_true]at hab
  obtain⟨hfa,hfb⟩:=hab
  have va:=valid_of hfa
  have vb:=valid_of hfb
  have ha:=fine_len hfa
  have hb':=fine_len hfb
  have c1:=fun t u y=>pickP_fn a b t u (ids a) y va vb (by rw[ids_len];omega) (by omega)
  have c2:=fun t u=>unionP_fn a b t u va vb (by omega)
  have e0:=clo_all va
  rcases union_pair va.asc vb.asc (by omega)with ⟨x,e1,e2,i,hc⟩|⟨hc,e1,e2⟩
  ·have et:rTake a b (ids a)=(x,rMissing a b,0):=by
    have:=take_ok (b:=b) (u:=x) e0.1 (by rw[keep_all];exact e2)
    rw[keep_all]at this;exact this
   rw[et]at c1
   rw[e1]at c2
   dsimp only at c1 c2
   have vx:=va.union vb i (by omega)
   have hxl:=i.len
   have c5:=fun t u=>missingF_fn a b t u va vb.asc
   have c6:=fun t u=>missingF_fn a x t u va vx.asc
   rw[missing_nil va fun d hd=>i.sub.2 (.inl hd)]at c6
   have c7:=fun t u=>missingF_fn x a t u vx va.asc
   have c8:=fun t u=>commonP_fn a b t u vb.asc (by omega)
   have hlb:=len_back va vb vx i.symm
   have hcl:(keepS a (ids b)).length≤a.length:=List.length_filter_le _ _
   have hle:=len_common (b:=a) vb
   have hcl2:(keepS a (ids b)).length≤b.length:=by
    have h3:=len_of_same (l:=ids (keepS a (ids b))) (m:=ids (keepS b (ids a))) (va.asc.nodup.sublist (ids_keep_sub a _)) (vb.asc.nodup.sublist (ids_keep_sub b _)) fun d=>by
     rw[mem_ids_keep,mem_ids_keep,and_comm]
    rw[ids_len,ids_len]at h3
    omega
   generalize rMissing a b=m at*
   generalize rMissing x a=n at*
   generalize keepS a (ids b)=k at*
   have g1:decide (x=x)=true:=decide_eq_true rfl
   have g2:decide (m=m)=true:=decide_eq_true rfl
   have g3:decide ((n.length:Int)=(b.length:Int) - (k.length:Int))=true:=decide_eq_true (by omega)
   refine wf ?_
   exact end1 (.refl _)
  ·have hcb: ¬Coh b (keepS a (ids a)):=by rw[keep_all];exact fun h=>hc h.symm
   have et:=take_bad (b:=b) e0.1 vb.asc hcb
   rw[et]at c1
   rw[e1]at c2
   dsimp only at c1 c2
   refine wf ?_
   exact end1 (.refl _)⟩
set_option maxHeartbeats 4000000 in
theorem pickCommon_fn (a:List Sto) (t:Tag) (b:List Sto) (u:Tag):FnC Tryz.prog 12 [.slice (a.map eSto) t,.slice (b.map eSto) u] (.raw (.bool true)):=⟨by
 refine fn_of Tryz.func12 Tryz.ntmps12 rfl (rs:= [.tmp 4]) rfl rfl fun hb LF=>?_
 cases hab:(rFine a&&rFine b)with
 |false=>
  have c4:=fine2_fn a b _ hab
  refine wf ?_
  exact end1 (.refl _)
 |true=>
  have c4:=fine2_fn a b _ hab
  rw[Bool.and_eq_true]at hab
  obtain⟨hfa,hfb⟩:=hab
  have va:=valid_of hfa
  have vb:=valid_of hfb
  have ha:=fine_len hfa
  have hb':=fine_len hfb
  have c1:=fun t u=>commonP_fn a b t u vb.asc (by omega)
  have c2:=fun t u=>missingF_fn a b t u va vb.asc
  have c3:=fun t u=>unionP_fn a b t u va vb (by omega)
  have hlc:=len_common (b:=b) va
  have hkl:(keepS a (ids b)).length≤a.length:=List.length_filter_le _ _
  have hin: ∀ x∈keepS a (ids b),(getS b x.id).isSome=true:=fun x hx=>by
   rw[getS_isSome vb.asc,decide_eq_true_eq];exact(mem_keepS.1 hx).2
  have hcs:=common_sym va.asc vb.asc
  have hcv:=common_valid va vb
  have c5:=fun t u=>commonP_fn b a t u va.asc (by omega)
  have c6:=fun t u=>commonP_fn a a t u va.asc (by omega)
  rw[keep_all]at c6
  have c7:=fun t u=>missingF_fn a a t u va va.asc
  rw[missing_nil va fun d hd=>hd]at c7
  generalize keepS a (ids b)=k at*
  generalize rMissing a b=m at*
  refine wf ?_
  refine pwp_loopS (σ:=Nat) (fun i=>i≤k.length) (fun i=>k.length - i) (fun i=> [(0,.slice (a.map eSto) t),(1,.slice (b.map eSto) u),(5,.slice (k.map eSto) .ro),(22,.slice (k.map eSto) .ro),(23,.raw (.int .i64 k.length)),(24,.raw (.int .i64 i))]) (fun _=>LF) 0 (by omega) ⟨rfl,rfl,rfl,rfl,rfl,rfl⟩ (.refl _) ?_
  rintro i hi
  refine wf ?_
  refine pwp_condD (fun hc=>?_) (fun hc=>?_)
  ·have hlt:i < k.length:=by omega
   have hh:=hin _ (List.getElem_mem hlt)
   refine wz fun b7=>?_
   refine pwp_freezeD 7 ?_
   refine wz fun b8=>?_
   refine pwp_freezeD 8 ?_
   generalize (getS b k[i].id).isSome=iB at hh ⊢
   subst hh
   refine wf ?_
   exact⟨i+1,by dsimp only;omega,by dsimp only;omega,⟨rfl,rfl,rfl,rfl,rfl,rfl⟩,.refl _⟩
  ·refine wf ?_
   refine pwp_condN (fun h=>?_) (fun h=>?_)
   ·exfalso;omega
   by_cases hc:Coh a b
   ·obtain⟨x,e1,i1⟩:=rUnion_ok va.asc vb.asc (by omega) hc
    rw[e1]at c3
    dsimp only at c3
    have vk:=hcv hc
    have hs1:Small (goodS k):=⟨vk.close.1⟩
    have ck:=fun t=>CheckPS_ct k t
    rw[check_of_valid vk]at ck
    rw[←hcs hc]at c5
    have g1:decide (k=k)=true:=decide_eq_true rfl
    have g2:decide (a=a)=true:=decide_eq_true rfl
    refine wf ?_
    exact end1 (.refl _)
   ·rw[rUnion_bad va.asc hc]at c3
    dsimp only at c3
    refine wf ?_
    exact end1 (.refl _)⟩
end Go.Proofs
namespace Go.Proofs
open Go Go.Q
attribute [local irreducible] pwp pops pAny PCalls OpN
theorem idx_later {m:List Dig} {q:Pat} {i:Nat} (h: ∀ (k:Nat) (hik:i < k) (hk:k < m.length),m[k]∉rNeeds q) {d:Dig} (hd:d∈rNeeds q): ¬(i:Int) < idxD m d:=by
 intro h1
 unfold idxD at h1
 split at h1
 ·rename_i hm
  have hk:m.idxOf d < m.length:=List.idxOf_lt_length_iff.2 hm
  refine h (m.idxOf d) (by omega) hk ?_
  rw[List.getElem_idxOf hk];exact hd
 ·omega
set_option maxHeartbeats 8000000 in
theorem pickSets_fn (a:List Sto) (t:Tag) (b:List Sto) (u:Tag) (l:List Dig) (y:Tag):FnC Tryz.prog 11 [.slice (a.map eSto) t,.slice (b.map eSto) u,.slice (l.map eDig) y] (.raw (.bool true)):=⟨by
 refine fn_of Tryz.func11 Tryz.ntmps11 rfl (rs:= [.tmp 6]) rfl rfl fun hb LF=>?_
 cases hab:(rFine a&&rFine b)with
 |false=>
  have c4:=fine2_fn a b _ hab
  refine wf ?_
  exact end1 (.refl _)
 |true=>
  have c4:=fine2_fn a b _ hab
  rw[Bool.and_eq_true]at hab
  obtain⟨hfa,hfb⟩:=hab
  have va:=valid_of hfa
  have vb:=valid_of hfb
  have ha:=fine_len hfa
  have hb':=fine_len hfb
  refine wf ?_
  refine pwp_condD (fun h=>?_) (fun h=>?_)
  ·refine wf ?_
   exact end1 (.refl _)
  have hl:l.length≤10:=by omega
  have c1:=fun t u y=>pickP_fn a b t u l y va vb (by omega) (by omega)
  have i1:Small (Valid a):=⟨va⟩
  have i2:Small (l.length≤400):=⟨by omega⟩
  have k1:=fun t u=>ClosureP_ct a l t u
  rcases pick_cases va vb (by omega) l with ⟨hA,e1⟩|⟨L,e1,hL,hc,e2⟩|⟨L,w,h⟩
  ·rw[e1]at c1
   rw[closure_bad hA]at k1
   dsimp only at c1 k1
   obtain⟨z1,hz1⟩: ∃ z:List Sto,z= []:=⟨_,rfl⟩
   obtain⟨z2,hz2⟩: ∃ z:List Dig,z= []:=⟨_,rfl⟩
   rw[←hz1,←hz2]at c1
   have q1:z1.length=0:=by rw[hz1];rfl
   have q2:z2.length=0:=by rw[hz2];rfl
   have g1:decide ((z1.length:Int)+(z2.length:Int)=0)=true:=decide_eq_true (by omega)
   clear hz1 hz2
   refine wf ?_
   exact end1 (.refl _)
  ·rw[e2]at c1
   rw[e1]at k1
   dsimp only at c1 k1
   obtain⟨z1,hz1⟩: ∃ z:List Sto,z= []:=⟨_,rfl⟩
   obtain⟨z2,hz2⟩: ∃ z:List Dig,z= []:=⟨_,rfl⟩
   rw[←hz1,←hz2]at c1
   have q1:z1.length=0:=by rw[hz1];rfl
   have q2:z2.length=0:=by rw[hz2];rfl
   have g1:decide ((z1.length:Int)+(z2.length:Int)=0)=true:=decide_eq_true (by omega)
   clear hz1 hz2
   refine wf ?_
   exact end1 (.refl _)
  ·rw[h.eq]at c1
   rw[h.clo]at k1
   dsimp only at c1 k1
   have i3:Small (goodS w):=⟨h.val.close.1⟩
   have hwl:=h.len
   have hil:=h.isU.len
   have hkl:(keepS a L).length≤a.length:=List.length_filter_le _ _
   have hwa:w.length≤16:=by omega
   have i4:Small (w.length≤1000000):=⟨by omega⟩
   have i5:Small (a.length≤1000000):=⟨by omega⟩
   have ck:=fun t=>CheckPS_ct w t
   rw[check_of_valid h.val]at ck
   have kp1:=fun t u=>KeepP_ct w (ids b) t u
   rw[h.isU.keep vb.asc]at kp1
   have kp2:=fun t u=>KeepP_ct w L t u
   rw[h.keepL va]at kp2
   have kp3:=fun t u=>KeepP_ct a L t u
   have hadd:=fun {d}=>h.added va vb (d:=d)
   have hnd:=missing_nodup (keepS a L) b
   obtain⟨m,hm⟩: ∃ m,m=rMissing (keepS a L) b:=⟨_,rfl⟩
   have hlat: ∀ (i k:Nat) (hik:i < k) (hk:k < m.length),m[k]∉rNeeds ((getS w (m[i]'(by omega))).getD Pat.zero):=by
    subst hm
    exact fun i k hik hk=>h.later va hik hk
   rw[←hm]at c1 hwl hadd hnd
   clear hm
   generalize keepS a L=kk at*
   have n1:(!decide ((w.length:Int)=(b.length:Int)+(m.length:Int)))=false:=by rw[decide_eq_true (by omega)];rfl
   have n2:(!decide (b=b))=false:=by rw[decide_eq_true rfl];rfl
   refine wf ?_
   refine pwp_condN (fun h=>absurd rfl h) (fun _=>?_)
   refine wf ?_
   refine pwp_loopS (σ:=Nat) (fun i=>i≤m.length) (fun i=>m.length - i) (fun i=> [(1,.slice (b.map eSto) u),(7,.slice (w.map eSto) .ro),(8,.slice (m.map eDig) .ro),(10,.slice (L.map eDig) .ro),(106,.slice (m.map eDig) .ro),(107,.raw (.int .i64 m.length)),(108,.raw (.int .i64 i))]) (fun _=>LF) 0 (by omega) ⟨rfl,rfl,rfl,rfl,rfl,rfl,rfl⟩ (.refl _) ?_
   rintro i hi
   refine wf ?_
   refine pwp_condD (fun hc=>?_) (fun hc=>?_)
   ·have hlt:i < m.length:=by omega
    obtain⟨h1,h2,h3⟩:=hadd (List.getElem_mem hlt)
    have hl2: ∀ k,i < k→(hk:k < m.length)→m[k]∉rNeeds ((getS w m[i]).getD Pat.zero):=fun k hik hk=>hlat i k hik hk
    have hnt:=nodup_take hnd hlt
    have hgr:rBig ((getS w m[i]).getD Pat.zero)=false:=h.val.close.great _
    have hnl:(rNeeds ((getS w m[i]).getD Pat.zero)).length≤40:=by
     obtain⟨p,hp⟩:=Option.isSome_iff_exists.1 h1
     rw[hp]
     exact needs_len h.val (getS_mem' hp)
    have g1:(!decide (m[i]∈L))=false:=by rw[decide_eq_true h3];rfl
    have i6:Small (rBig ((getS w m[i]).getD Pat.zero)=false):=⟨hgr⟩
    refine wz fun b13=>?_
    refine pwp_freezeD 13 ?_
    refine wz fun b14=>?_
    refine pwp_freezeD 14 ?_
    refine wz fun b16=>?_
    refine pwp_freezeD 16 ?_
    generalize hd:m[i]=d at*
    generalize (getS w d).isSome=iw at h1 ⊢
    generalize (getS b d).isSome=ib at h2 ⊢
    subst h1 h2
    generalize (getS w d).getD Pat.zero=q at*
    refine wf ?_
    refine pwp_condD (fun h=>absurd h hnt) (fun _=>?_)
    refine wf ?_
    have hlater:=fun {e}=>idx_later (m:=m) (q:=q) (i:=i) (fun k hik hk=>hl2 k hik hk) (d:=e)
    generalize rNeeds q=nq at*
    refine pwp_loopS (σ:=Nat) (fun j=>j≤nq.length) (fun j=>nq.length - j) (fun j=> [(1,.slice (b.map eSto) u),(7,.slice (w.map eSto) .ro),(8,.slice (m.map eDig) .ro),(10,.slice (L.map eDig) .ro),(12,.raw (.int .i64 i)),(106,.slice (m.map eDig) .ro),(107,.raw (.int .i64 m.length)),(108,.raw (.int .i64 i)),(144,.slice (nq.map eDig) .ro),(145,.raw (.int .i64 nq.length)),(146,.raw (.int .i64 j))]) (fun _=>LF) 0 (by omega) ⟨rfl,rfl,rfl,rfl,rfl,rfl,rfl,rfl,rfl,rfl,rfl⟩ (.refl _) ?_
    rintro j hj
    refine wf ?_
    refine pwp_condD (fun hc2=>?_) (fun hc2=>?_)
    ·have hltj:j < nq.length:=by omega
     have hno:=hlater (List.getElem_mem hltj)
     refine wz fun b19=>?_
     refine pwp_freezeD 19 ?_
     refine wf ?_
     refine pwp_condD (fun h=>absurd h (by omega)) (fun _=>?_)
     refine wf ?_
     exact⟨j+1,by dsimp only;omega,by dsimp only;omega,⟨rfl,rfl,rfl,rfl,rfl,rfl,rfl,rfl,rfl,rfl,rfl⟩,.refl _⟩
    ·refine wf ?_
     exact⟨i+1,by dsimp only;omega,by dsimp only;omega,⟨rfl,rfl,rfl,rfl,rfl,rfl,rfl⟩,.refl _⟩
   ·refine wf ?_
    exact end1 (.refl _)⟩
end Go.Proofs
