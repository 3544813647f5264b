/- The row RepoNames and its card, from the contract. -/
import Derived.Test.YtpebdiofdfpooaaGreatDoorWav
import Derived.Test.YtpebdiofdfpooaaGreatDoorWnaa
set_option linter.unusedSimpArgs false
set_option linter.unusedVariables false
namespace Go.Proofs
open Go Go.Q Go.ChangeShapes Go.WideShapes Go.ChangeAt Go.WideMaps Go.WideElems Go.RowKit
set_option maxRecDepth 100000 in
theorem QZ (h: ∀ (x0:Repo) (x1:Str) (x2:Str),Bj Tryz.prog 7 [.agg (Ax x0),.str x1,.str x2] (.raw (.bool true))) (os:Os) (started:os.Started) (H:Type) (enc:TypeId × Value→H):
  ReturnsInHanded {} Tryz.checked os 7 .any (fun w args=>(YtpebdiofdfpooaaGreatDoor.Rows.repoNamesSpec.pre enc Tryz.prog Tryz.f7 [] false w args∧laidMetH Tryz.prog OX w)∧sizedMet enc Tryz.prog Tryz.f7 (OpenSpec.ofChange YtpebdiofdfpooaaGreatDoor.Rows.repoNamesSpec) false w args)
   (YtpebdiofdfpooaaGreatDoor.Rows.repoNamesSpec.post enc Tryz.prog Tryz.f7 false true false false):=by
 refine returnsInHanded_of_change_and (C:=Tryz.checked) (X:=fun w _=>laidMetH Tryz.prog OX w) (fun _ _ _ hh h=>h.of_heap hh) own started (by kernel_rfl) Tryz.func7
  (ChangeSpec.witness_shaped (enc:=enc) (C:=Tryz.checked) (os:=os) (X:=fun w _=>laidMetH Tryz.prog OX w) false (World.doorLaid Tryz.prog 400 os) #[.agg #[.slice none 0 0,.slice none 0 0,.slice none 0 0,.string ⟨#[]⟩],.string ⟨#[]⟩,.string ⟨#[]⟩] 8 rfl (NQ os _) (by kernel_rfl) (by kernel_rfl) (by kernel_rfl) (TM os _)) ?_
 intro W base args ds gs before hval hW _ hsz hL _
 have hW':=hW
 obtain⟨p,q,hA,hV,rfl,hfz,hnd⟩:=hW
 replace hA:DataW.TrodAll enc Tryz.prog W 0 (fun _=>true) true Tryz.f7.params.toList args.toList ds p:=hA
 have hval: ∀ (j:Nat) t v,Tryz.f7.params[j]? =some t→args[j]? =some v→Value.okWide Tryz.prog W .any base t v:=hval
 rw[Tryz.params7]at hA hval
 obtain⟨v0,v1,v2,d0,d1,d2,p0,p1,p2,rfl,rfl,rfl,h0,h1,h2⟩:=trodAll_three hA
 obtain⟨rfl,rfl⟩:=trodVars_none hV
 have tA: ∀ n∈d0.weights Tryz.prog 27,n≤reachBytes:=fun n hn=>by
  have:=B5.1 hsz n (DataW.weights_mem_each (j:=0) (t:=27) (d:=d0) (by kernel_rfl) rfl n hn)
  exact An this
 obtain⟨fuel0,h0'⟩:=h0
 obtain⟨xs0,⟨x0,rfl⟩,hv0⟩:=aB H enc W (Qv W) (fun _ _ _ h=>h) 0 true fuel0 _ _ h0' tA
 have hv0:=Rl (by kernel_rfl) (hval 0 27 v0 rfl rfl) hv0
 have sy: ∀ n∈d1.weights Tryz.prog 9,n≤reachBytes:=fun n hn=>by
  have:=B5.1 hsz n (DataW.weights_mem_each (j:=1) (t:=9) (d:=d1) (by kernel_rfl) rfl n hn)
  exact An this
 obtain⟨fuel1,h1'⟩:=h1
 obtain⟨xs1,⟨x1,rfl⟩,hv1⟩:=Ki H enc W (Qv W) (fun _ _ _ h=>h) 0 true fuel1 _ _ h1' sy
 have hv1:=X1 (by kernel_rfl) (hval 1 9 v1 rfl rfl) hv1
 have sx: ∀ n∈d2.weights Tryz.prog 9,n≤reachBytes:=fun n hn=>by
  have:=B5.1 hsz n (DataW.weights_mem_each (j:=2) (t:=9) (d:=d2) (by kernel_rfl) rfl n hn)
  exact An this
 obtain⟨fuel2,h2'⟩:=h2
 obtain⟨xs2,⟨x2,rfl⟩,hv2⟩:=Ki H enc W (Qv W) (fun _ _ _ h=>h) 0 true fuel2 _ _ h2' sx
 have hv2:=X1 (by kernel_rfl) (hval 2 9 v2 rfl rfl) hv2
 refine((h x0 x1 x2).out [v0,v1,v2] W (Qv W) [] (.cons hv0 (.cons hv1 (.cons hv2 (.nil _)))) (W9 (MM hL))).mono ?_
 rintro e W' ⟨v,x,g',L',rfl,k1,k2,k3,k4,rfl,rfl⟩
 rw[k1.raw_inv]
 have h9:Ej [] W (Qv W) W' g':=k3
 have hb:Below W.heap.size W W':=⟨h9.os,h9.tape,h9.output.1,h9.size,fun k hk=>h9.keep k hk (by simp)⟩
 refine⟨_,rfl,[d0,d1,d2],[],_,[],_,[],hW',ZS rfl _ _ _,trodAll_mk3 (Below.trod (by kernel_rfl) (by kernel_rfl) (An (by kernel_rfl)) ⟨fuel0,h0'⟩ hb (fun x hx=>hW'.lt x (by simp only[Ay];simp_all))) (Below.trod (by kernel_rfl) (by kernel_rfl) (An (by kernel_rfl)) ⟨fuel1,h1'⟩ hb (fun x hx=>hW'.lt x (by simp only[Ay];simp_all))) (Below.trod (by kernel_rfl) (by kernel_rfl) (An (by kernel_rfl)) ⟨fuel2,h2'⟩ hb (fun x hx=>hW'.lt x (by simp only[Ay];simp_all))),rfl,hb.frame _,fun h=>by cases h⟩
theorem SA (h: ∀ (x0:Repo) (x1:Str) (x2:Str),Bj Tryz.prog 7 [.agg (Ax x0),.str x1,.str x2] (.raw (.bool true))):YtpebdiofdfpooaaGreatDoor.Rows.RepoNamesSaid:=
 OpenClaim.holds_of_wide 7 Tryz.f7 rfl rfl rfl rfl rfl rfl rfl ⟨rfl,rfl,rfl,rfl,rfl⟩ rfl rfl rfl rfl rfl (by as_aux_lemma=>kernel_rfl) Tryz.func7 repoNames_facts
  (by as_aux_lemma=>exact An (by kernel_rfl)) (by as_aux_lemma=>(unfold Func.isWrapper;first|(rw[if_pos (by decide+kernel)];kernel_rfl)|(rw[if_neg (by decide+kernel)];exact⟨rfl,rfl⟩)))
  (fun os started H enc _=>QZ h os started H enc)
theorem SB (h:YtpebdiofdfpooaaGreatDoor.Rows.RepoNamesSaid):YtpebdiofdfpooaaGreatDoor.Rows.RepoNamesCardSaid:=
 Claim7.holds_tied_plain_at .later [] [.data,.data,.data] true (true, "1c3098e5c555ecf40be1539ddb12d18f1dffd27a1f2cb193b597c6cdd4f5e3af") false
  h (fun _ h=>by cases h) (by as_aux_lemma=>kernel_rfl) (fun _ h=>by cases h) YtpebdiofdfpooaaGreatDoor.repoNames_row_tie rfl ⟨rfl,rfl⟩ (by as_aux_lemma=>kernel_rfl) rfl
  (fun f fn hf hfn=>by
   obtain rfl:f=7:=CF ((show Tryz.prog.funcNamed "quilt/quiltlaw36.RepoNames" =some 7 by kernel_rfl).symm.trans hf) |>.symm
   obtain rfl:fn=Tryz.f7:=(CF (Tryz.func7.symm.trans hfn)).symm
   exact⟨by as_aux_lemma=>kernel_rfl,fun j t ht=>by
    rw[Tryz.params7]at ht
    have hm:t∈ [27,9,9]:=by simpa using LX ht
    have hall:([27,9,9].all fun u=>!Tryz.prog.wantsStandIn u)=true:=by as_aux_lemma=>kernel_rfl
    exact(show Tryz.prog.wantsStandIn t=false by simpa using B5.1 hall t hm)⟩)
  (by as_aux_lemma=>kernel_rfl)
end Go.Proofs
