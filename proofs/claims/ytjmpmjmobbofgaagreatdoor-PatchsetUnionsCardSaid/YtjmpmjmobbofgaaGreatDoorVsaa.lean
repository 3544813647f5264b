/- Contracts: the reference's union of two sets; the statements' own. -/
import Derived.Test.YtjmpmjmobbofgaaGreatDoorVar
import Derived.Test.YtjmpmjmobbofgaaGreatDoorVal
import Derived.Test.YtjmpmjmobbofgaaGreatDoorVaq
import Derived.Test.YtjmpmjmobbofgaaGreatDoorVai
import Derived.Test.YtjmpmjmobbofgaaGreatDoorVap
import Derived.Test.YtjmpmjmobbofgaaGreatDoorVam
set_option linter.unusedSimpArgs false
set_option linter.unusedVariables false
namespace Go.Proofs
open Go Go.Q
attribute [local irreducible] pwp pops pAny PCalls OpN
set_option maxHeartbeats 2000000 in
theorem union17_fn (a b:List Sto) (t u:Tag) (hl:a.length+b.length≤400):FnC Tryz.prog 26 [.slice (a.map eSto) t,.slice (b.map eSto) u] (.tuple [.slice ((rUnion a b).1.map eSto) .ro,.raw (.int .i64 (rUnion a b).2)]):=⟨by
 refine fn_of Tryz.func26 Tryz.ntmps26 rfl (rs:= [.tmp 4,.tmp 5]) rfl rfl fun hb LF=>?_
 refine wf ?_
 refine s_append0 (by rfl) (by rfl) (by omega) (by omega) fun v=>?_
 refine wf ?_
 refine pwp_loopS (σ:=Nat × List Sto × Tag) (fun k=>k.1≤b.length∧uniG a a b=uniG a k.2.1 (b.drop k.1)∧k.2.1.length≤a.length+k.1) (fun k=>b.length - k.1) (fun k=> [(0,.slice (a.map eSto) t),(1,.slice (b.map eSto) u),(6,.slice (k.2.1.map eSto) k.2.2),(7,.raw (.int .i64 k.1))]) (fun _=>LF) (0,a,v) ⟨by simp,by simp,by simp⟩ ⟨rfl,rfl,rfl,rfl⟩ (.cons _ (.refl _)) ?_
 rintro⟨i,out,w⟩ ⟨hi,he,ho⟩
 dsimp only at hi he ho ⊢
 refine wf ?_
 refine pwp_condD (fun hc=>?_) (fun hc=>?_)
 ·have hlt:i < b.length:=by omega
  rw[List.drop_eq_getElem_cons hlt,uniG]at he
  have c1:=fun t=>Get_ct a b[i].id t
  have i1:Small (out.length≤1000):=⟨by omega⟩
  cases hg:getS a b[i].id with
  |some p=>
   rw[hg]at c1 he
   simp only at he
   refine wz fun b8=>?_
   refine pwp_freezeD 8 ?_
   refine wf ?_
   refine pwp_condN (fun h=>?_) (fun h=>?_)
   ·rw[if_neg (show ¬p=b[i].patch from h)]at he
    have e:rUnion a b=([],14):=by rw[rUnion,he]
    rw[show(rUnion a b).1= [] by rw[e],show(rUnion a b).2=14 by rw[e],List.map_nil]
    refine wf ?_
    exact end2 (.tuple2 (.ro _ _) (.refl _))
   ·have h':p=b[i].patch:=by simpa using h
    rw[if_pos h']at he
    refine wf ?_
    exact⟨(i+1,out,w),⟨by dsimp only;omega,he,by dsimp only;omega⟩,by dsimp only;omega,⟨rfl,rfl,rfl,rfl⟩,.refl _⟩
  |none=>
   rw[hg]at c1 he
   simp only at he
   refine wz fun b8=>?_
   refine pwp_freezeD 8 ?_
   refine wf ?_
   refine⟨(i+1,putS out b[i],.ro),⟨by dsimp only;omega,he,by dsimp only;rw[putS_len];omega⟩,by dsimp only;omega,⟨rfl,rfl,rfl,rfl⟩,.refl _⟩
 ·rw[List.drop_eq_nil_of_le (by omega),uniG]at he
  refine wf ?_
  refine pwp_condD (fun h=>?_) (fun h=>?_)
  ·omega
  ·have e:rUnion a b=(out,0):=by
    rw[rUnion,he];simp only;rw[if_neg (by omega)]
   refine wf ?_
   rw[e]
   exact end2 (.tuple2 (.ro _ _) (.refl _))⟩
theorem fine_len {s:List Sto} (h:rFine s=true):s.length≤8:=by
 unfold rFine rGreatS at h
 simp only[Bool.and_eq_true,Bool.not_eq_true',Bool.or_eq_false_iff,decide_eq_false_iff_not]at h
 omega
theorem unionL_fn (a b:List Sto) (t u:Tag) (va:Valid a) (vb:Valid b) (hl:a.length+b.length≤400):FnC Tryz.prog 28 [.slice (a.map eSto) t,.slice (b.map eSto) u] (.tuple [.slice ((rUnion a b).1.map eSto) .ro,.raw (.bool (decide ((rUnion a b).2=0)))]):=⟨by
 refine fn_of Tryz.func28 Tryz.ntmps28 rfl (rs:= [.tmp 4,.tmp 5]) rfl rfl fun hb LF=>?_
 have c1:=fun t u=>unionP_fn a b t u va vb hl
 refine wf ?_
 exact end2 (.tuple2 (.ro _ _) (.refl _))⟩
set_option maxHeartbeats 2000000 in
theorem patchsetUnion_fn (a:List Sto) (t:Tag) (b:List Sto) (u:Tag):FnC Tryz.prog 4 [.slice (a.map eSto) t,.slice (b.map eSto) u] (.raw (.bool true)):=⟨by
 refine fn_of Tryz.func4 Tryz.ntmps4 rfl (rs:= [.tmp 4]) rfl rfl fun hb LF=>?_
 refine wf ?_
 refine pops_cutE [(16,.raw (.bool (decide (rFine a=true→ ¬rFine b=true)))),(0,.slice (a.map eSto) t),(1,.slice (b.map eSto) u)] (LF) ?_ ?_
 ·repeat' (first|(refine pwp_condD (fun h=>?_) (fun h=>?_)<;>refine wf ?_)|(refine pwp_condN (fun h=>?_) (fun h=>?_)<;>refine wf ?_)|(refine pwp_condB (fun h=>?_) (fun h=>?_)<;>refine wf ?_)|(refine pops_if (fun h=>?_) (fun h=>?_)<;>(have h2:=h;(try simp only[decide_eq_true_eq,decide_eq_false_iff_not,Bool.not_eq_true',Bool.not_eq_false']at h2);refine wf ?_)))
  all_goals (refine⟨⟨holdsB (by rfl) ?_,rfl,rfl⟩,.refl _⟩;first|(simp_all;done)|grind)
 refine wf ?_
 refine pwp_condD (fun h=>?_) (fun h=>?_)
 ·refine wf ?_
  exact end1 (.refl _)
 have hfa:rFine a=true:=Classical.byContradiction fun h2=>h fun h3=>absurd h3 h2
 have hfb:rFine b=true:=Classical.byContradiction fun h2=>h fun _=>h2
 have va:=valid_of hfa
 have vb:=valid_of hfb
 have ha:=va.close.1.1
 have hb':=vb.close.1.1
 have c1:=fun t u=>unionP_fn a b t u va vb (by omega)
 have c2:=fun t u=>union17_fn a b t u (by omega)
 generalize (rUnion a b).1=x at c1 c2
 generalize (rUnion a b).2=e at c1 c2
 have g1:decide (x=x)=true:=decide_eq_true rfl
 have g2:decide (e=e)=true:=decide_eq_true rfl
 refine wf ?_
 exact end1 (.refl _)⟩
end Go.Proofs
namespace Go.Proofs
open Go Go.Q
attribute [local irreducible] pwp pops pAny PCalls OpN
set_option maxHeartbeats 4000000 in
theorem patchsetUnions_fn (a:List Sto) (t:Tag) (b:List Sto) (u:Tag) (c:List Sto) (x:Tag):FnC Tryz.prog 5 [.slice (a.map eSto) t,.slice (b.map eSto) u,.slice (c.map eSto) x] (.raw (.bool true)):=⟨by
 refine fn_of Tryz.func5 Tryz.ntmps5 rfl (rs:= [.tmp 6]) rfl rfl fun hb LF=>?_
 refine wf ?_
 refine pops_cutE [(37,.raw (.bool (decide (rFine a=true→rFine b=true→ ¬rFine c=true)))),(0,.slice (a.map eSto) t),(1,.slice (b.map eSto) u),(2,.slice (c.map eSto) x)] (LF) ?_ ?_
 ·repeat' (first|(refine pwp_condD (fun h=>?_) (fun h=>?_)<;>refine wf ?_)|(refine pwp_condN (fun h=>?_) (fun h=>?_)<;>refine wf ?_)|(refine pwp_condB (fun h=>?_) (fun h=>?_)<;>refine wf ?_)|(refine pops_if (fun h=>?_) (fun h=>?_)<;>(have h2:=h;(try simp only[decide_eq_true_eq,decide_eq_false_iff_not,Bool.not_eq_true',Bool.not_eq_false']at h2);refine wf ?_)))
  all_goals (refine⟨⟨holdsB (by rfl) ?_,rfl,rfl,rfl⟩,.refl _⟩;first|(simp_all;done)|grind)
 refine wf ?_
 refine pwp_condD (fun h=>?_) (fun h=>?_)
 ·refine wf ?_
  exact end1 (.refl _)
 have hfa:rFine a=true:=Classical.byContradiction fun h2=>h fun h3=>absurd h3 h2
 have hfb:rFine b=true:=Classical.byContradiction fun h2=>h fun _ h3=>absurd h3 h2
 have hfc:rFine c=true:=Classical.byContradiction fun h2=>h fun _ _=>h2
 have va:=valid_of hfa
 have vb:=valid_of hfb
 have vc:=valid_of hfc
 have la:=fine_len hfa
 have lb:=fine_len hfb
 have lc:=fine_len hfc
 have u1:=fun t u=>unionL_fn a b t u va vb (by omega)
 have u2:=fun t u=>unionL_fn b a t u vb va (by omega)
 have u3:=fun t u=>unionL_fn b c t u vb vc (by omega)
 have u4:=fun t u=>unionL_fn a a t u va va (by omega)
 replace u4: ∀ t u,FnC Tryz.prog 28 [.slice (a.map eSto) t,.slice (a.map eSto) u] (.tuple [.slice (a.map eSto) .ro,.raw (.bool true)]):=fun t u=>by have h:=u4 t u;rw[union_self va.asc (by omega)]at h;exact h
 have g0:decide (a=a)=true:=decide_eq_true rfl
 have g1:decide (b=b)=true:=decide_eq_true rfl
 have n0:(!decide (a=a))=false:=by simp
 rcases union_pair va.asc vb.asc (by omega)with ⟨ab,e1,e2,h1,k1⟩|⟨_,e1,e2⟩
 ·replace u1: ∀ t u,FnC Tryz.prog 28 [.slice (a.map eSto) t,.slice (b.map eSto) u] (.tuple [.slice (ab.map eSto) .ro,.raw (.bool true)]):=fun t u=>by have h:=u1 t u;rw[e1]at h;exact h
  replace u2: ∀ t u,FnC Tryz.prog 28 [.slice (b.map eSto) t,.slice (a.map eSto) u] (.tuple [.slice (ab.map eSto) .ro,.raw (.bool true)]):=fun t u=>by have h:=u2 t u;rw[e2]at h;exact h
  have vab:=va.union vb h1 (by omega)
  have lab:=h1.len
  have g2:decide (ab=ab)=true:=decide_eq_true rfl
  have n2:(!decide (ab=ab))=false:=by simp
  rcases union_pair vb.asc vc.asc (by omega)with ⟨bc,e3,_,h3,k3⟩|⟨_,e3,_⟩
  ·replace u3: ∀ t u,FnC Tryz.prog 28 [.slice (b.map eSto) t,.slice (c.map eSto) u] (.tuple [.slice (bc.map eSto) .ro,.raw (.bool true)]):=fun t u=>by have h:=u3 t u;rw[e3]at h;exact h
   have vbc:=vb.union vc h3 (by omega)
   have lbc:=h3.len
   have u5:=fun t u=>unionL_fn ab c t u vab vc (by omega)
   have u6:=fun t u=>unionL_fn a bc t u va vbc (by omega)
   have hgood:Small (goodS ab):=⟨vab.close.1⟩
   have s1:Small (ab.length≤1000000):=⟨by omega⟩
   have ck:=fun t=>CheckPS_ct ab t
   rw[check_of_valid vab]at ck
   have kp1:=fun t u=>KeepP_ct ab (ids a) t u
   rw[h1.keep va.asc]at kp1
   have kp2:=fun t u=>KeepP_ct ab (ids b) t u
   rw[h1.symm.keep vb.asc]at kp2
   rcases union_assoc va.asc vc.asc h1 h3 k1 k3 (by omega)with ⟨y,e5,e6⟩|⟨e5,e6⟩
   ·replace u5: ∀ t u,FnC Tryz.prog 28 [.slice (ab.map eSto) t,.slice (c.map eSto) u] (.tuple [.slice (y.map eSto) .ro,.raw (.bool true)]):=fun t u=>by have h:=u5 t u;rw[e5]at h;exact h
    replace u6: ∀ t u,FnC Tryz.prog 28 [.slice (a.map eSto) t,.slice (bc.map eSto) u] (.tuple [.slice (y.map eSto) .ro,.raw (.bool true)]):=fun t u=>by have h:=u6 t u;rw[e6]at h;exact h
    have g3:decide (y=y)=true:=decide_eq_true rfl
    have n3:(!decide (y=y))=false:=by simp
    refine wf ?_
    refine pwp_condN (fun h=>absurd rfl h) (fun _=>?_)
    refine wf ?_
    refine pwp_condN (fun h=>absurd rfl h) (fun _=>?_)
    refine wf ?_
    have hbl:ab.length≤1000000:=by omega
    refine pwp_loopS (σ:=Nat) (fun i=>i≤ab.length) (fun i=>ab.length - i) (fun i=> [(0,.slice (a.map eSto) t),(1,.slice (b.map eSto) u),(7,.slice (ab.map eSto) .ro),(113,.slice (ab.map eSto) .ro),(114,.raw (.int .i64 ab.length)),(115,.raw (.int .i64 i))]) (fun _=>LF) 0 (by omega) ⟨rfl,rfl,rfl,rfl,rfl,rfl⟩ (.refl _) ?_
    rintro i hi
    refine wf ?_
    refine pwp_condD (fun hc=>?_) (fun hc=>?_)
    ·have hlt:i < ab.length:=by omega
     have hh:=h1.has va.asc vb.asc (List.getElem_mem hlt)
     refine wz fun b20=>?_
     refine pwp_freezeD 20 ?_
     refine wz fun b21=>?_
     refine pwp_freezeD 21 ?_
     refine wz fun b23=>?_
     refine pwp_freezeD 23 ?_
     generalize hA:(getS a ab[i].id).isSome=iA at hh ⊢
     generalize hB:(getS b ab[i].id).isSome=iB at hh ⊢
     cases iA<;>cases iB
     ·simp at hh
     all_goals
      refine wf ?_
      exact⟨i+1,by dsimp only;omega,by dsimp only;omega,⟨rfl,rfl,rfl,rfl,rfl,rfl⟩,.refl _⟩
    ·refine wf ?_
     exact end1 (.refl _)
   ·replace u5: ∀ t u,FnC Tryz.prog 28 [.slice (ab.map eSto) t,.slice (c.map eSto) u] (.tuple [.slice (([]:List Sto).map eSto) .ro,.raw (.bool false)]):=fun t u=>by have h:=u5 t u;rw[e5]at h;exact h
    replace u6: ∀ t u,FnC Tryz.prog 28 [.slice (a.map eSto) t,.slice (bc.map eSto) u] (.tuple [.slice (([]:List Sto).map eSto) .ro,.raw (.bool false)]):=fun t u=>by have h:=u6 t u;rw[e6]at h;exact h
    refine wf ?_
    refine pwp_condN (fun h=>absurd rfl h) (fun _=>?_)
    refine wf ?_
    have hbl:ab.length≤1000000:=by omega
    refine pwp_loopS (σ:=Nat) (fun i=>i≤ab.length) (fun i=>ab.length - i) (fun i=> [(0,.slice (a.map eSto) t),(1,.slice (b.map eSto) u),(7,.slice (ab.map eSto) .ro),(113,.slice (ab.map eSto) .ro),(114,.raw (.int .i64 ab.length)),(115,.raw (.int .i64 i))]) (fun _=>LF) 0 (by omega) ⟨rfl,rfl,rfl,rfl,rfl,rfl⟩ (.refl _) ?_
    rintro i hi
    refine wf ?_
    refine pwp_condD (fun hc=>?_) (fun hc=>?_)
    ·have hlt:i < ab.length:=by omega
     have hh:=h1.has va.asc vb.asc (List.getElem_mem hlt)
     refine wz fun b20=>?_
     refine pwp_freezeD 20 ?_
     refine wz fun b21=>?_
     refine pwp_freezeD 21 ?_
     refine wz fun b23=>?_
     refine pwp_freezeD 23 ?_
     generalize hA:(getS a ab[i].id).isSome=iA at hh ⊢
     generalize hB:(getS b ab[i].id).isSome=iB at hh ⊢
     cases iA<;>cases iB
     ·simp at hh
     all_goals
      refine wf ?_
      exact⟨i+1,by dsimp only;omega,by dsimp only;omega,⟨rfl,rfl,rfl,rfl,rfl,rfl⟩,.refl _⟩
    ·refine wf ?_
     exact end1 (.refl _)
  ·replace u3: ∀ t u,FnC Tryz.prog 28 [.slice (b.map eSto) t,.slice (c.map eSto) u] (.tuple [.slice (([]:List Sto).map eSto) .ro,.raw (.bool false)]):=fun t u=>by have h:=u3 t u;rw[e3]at h;exact h
   refine wf ?_
   refine pwp_condN (fun h=>absurd rfl h) (fun _=>?_)
   refine wf ?_
   exact end1 (.refl _)
 ·replace u1: ∀ t u,FnC Tryz.prog 28 [.slice (a.map eSto) t,.slice (b.map eSto) u] (.tuple [.slice (([]:List Sto).map eSto) .ro,.raw (.bool false)]):=fun t u=>by have h:=u1 t u;rw[e1]at h;exact h
  replace u2: ∀ t u,FnC Tryz.prog 28 [.slice (b.map eSto) t,.slice (a.map eSto) u] (.tuple [.slice (([]:List Sto).map eSto) .ro,.raw (.bool false)]):=fun t u=>by have h:=u2 t u;rw[e2]at h;exact h
  have g2:decide (([]:List Sto)= [])=true:=decide_eq_true rfl
  refine wf ?_
  refine pwp_condN (fun h=>absurd rfl h) (fun _=>?_)
  refine wf ?_
  exact end1 (.refl _)⟩
end Go.Proofs
