/- The row RepoChange and its card, from the contract. -/
import Derived.Test.YtpebdiofdfpooaaGreatDoorWav
import Derived.Test.YtpebdiofdfpooaaGreatDoorWhaa
set_option linter.unusedSimpArgs false
set_option linter.unusedVariables false
namespace Go.Proofs
open Go Go.Q Go.ChangeShapes Go.WideShapes Go.ChangeAt Go.WideMaps Go.WideElems Go.RowKit
set_option maxRecDepth 100000 in
theorem PR (h: ∀ (x0:Repo) (x1:P7),Bj Tryz.prog 5 [.agg (Ax x0),.agg (Ha x1)] (.raw (.bool true))) (os:Os) (started:os.Started) (H:Type) (enc:TypeId × Value→H):
  ReturnsInHanded {} Tryz.checked os 5 .any (fun w args=>(YtpebdiofdfpooaaGreatDoor.Rows.repoChangeSpec.pre enc Tryz.prog Tryz.f5 [] false w args∧laidMetH Tryz.prog OX w)∧sizedMet enc Tryz.prog Tryz.f5 (OpenSpec.ofChange YtpebdiofdfpooaaGreatDoor.Rows.repoChangeSpec) false w args)
   (YtpebdiofdfpooaaGreatDoor.Rows.repoChangeSpec.post enc Tryz.prog Tryz.f5 false true false false):=by
 refine returnsInHanded_of_change_and (C:=Tryz.checked) (X:=fun w _=>laidMetH Tryz.prog OX w) (fun _ _ _ hh h=>h.of_heap hh) own started (by kernel_rfl) Tryz.func5
  (ChangeSpec.witness_shaped (enc:=enc) (C:=Tryz.checked) (os:=os) (X:=fun w _=>laidMetH Tryz.prog OX w) false (World.doorLaid Tryz.prog 400 os) #[.agg #[.slice none 0 0,.slice none 0 0,.slice none 0 0,.string ⟨#[]⟩],.agg (#[.int .i64 0,.string ⟨#[]⟩,.string ⟨#[]⟩,.string ⟨#[]⟩,.string ⟨#[]⟩,.int .i64 0,.slice none 0 0,.slice none 0 0]++(List.replicate 32 (Value.int .u8 0)).toArray++ #[.slice none 0 0])] 8 rfl (NQ os _) (by kernel_rfl) (by kernel_rfl) (by kernel_rfl) (TM os _)) ?_
 intro W base args ds gs before hval hW _ hsz hL _
 have hW':=hW
 obtain⟨p,q,hA,hV,rfl,hfz,hnd⟩:=hW
 replace hA:DataW.TrodAll enc Tryz.prog W 0 (fun _=>true) true Tryz.f5.params.toList args.toList ds p:=hA
 have hval: ∀ (j:Nat) t v,Tryz.f5.params[j]? =some t→args[j]? =some v→Value.okWide Tryz.prog W .any base t v:=hval
 rw[Tryz.params5]at hA hval
 obtain⟨v0,v1,d0,d1,p0,p1,rfl,rfl,rfl,h0,h1⟩:=trodAll_two hA
 obtain⟨rfl,rfl⟩:=trodVars_none hV
 have tA: ∀ n∈d0.weights Tryz.prog 27,n≤reachBytes:=fun n hn=>by
  have:=B5.1 hsz n (DataW.weights_mem_each (j:=0) (t:=27) (d:=d0) (by kernel_rfl) rfl n hn)
  exact An this
 obtain⟨fuel0,h0'⟩:=h0
 obtain⟨xs0,⟨x0,rfl⟩,hv0⟩:=aB H enc W (Qv W) (fun _ _ _ h=>h) 0 true fuel0 _ _ h0' tA
 have hv0:=Rl (by kernel_rfl) (hval 0 27 v0 rfl rfl) hv0
 have sy: ∀ n∈d1.weights Tryz.prog 58,n≤reachBytes:=fun n hn=>by
  have:=B5.1 hsz n (DataW.weights_mem_each (j:=1) (t:=58) (d:=d1) (by kernel_rfl) rfl n hn)
  exact An this
 obtain⟨fuel1,h1'⟩:=h1
 obtain⟨xs1,⟨x1,rfl⟩,hv1⟩:=ie H enc W (Qv W) (fun _ _ _ h=>h) 0 true fuel1 _ _ h1' sy
 have hv1:=Rl (by kernel_rfl) (hval 1 58 v1 rfl rfl) hv1
 refine((h x0 x1).out [v0,v1] W (Qv W) [] (.cons hv0 (.cons hv1 (.nil _))) (W9 (MM hL))).mono ?_
 rintro e W' ⟨v,x,g',L',rfl,k1,k2,k3,k4,rfl,rfl⟩
 rw[k1.raw_inv]
 have h9:Ej [] W (Qv W) W' g':=k3
 have hb:Below W.heap.size W W':=⟨h9.os,h9.tape,h9.output.1,h9.size,fun k hk=>h9.keep k hk (by simp)⟩
 refine⟨_,rfl,[d0,d1],[],_,[],_,[],hW',ZS rfl _ _ _,trodAll_mk2 (Below.trod (by kernel_rfl) (by kernel_rfl) (An (by kernel_rfl)) ⟨fuel0,h0'⟩ hb (fun x hx=>hW'.lt x (by simp only[Ay];simp_all))) (Below.trod (by kernel_rfl) (by kernel_rfl) (An (by kernel_rfl)) ⟨fuel1,h1'⟩ hb (fun x hx=>hW'.lt x (by simp only[Ay];simp_all))),rfl,hb.frame _,fun h=>by cases h⟩
theorem RR (h: ∀ (x0:Repo) (x1:P7),Bj Tryz.prog 5 [.agg (Ax x0),.agg (Ha x1)] (.raw (.bool true))):YtpebdiofdfpooaaGreatDoor.Rows.RepoChangeSaid:=
 OpenClaim.holds_of_wide 5 Tryz.f5 rfl rfl rfl rfl rfl rfl rfl ⟨rfl,rfl,rfl,rfl,rfl⟩ rfl rfl rfl rfl rfl (by as_aux_lemma=>kernel_rfl) Tryz.func5 repoChange_facts
  (by as_aux_lemma=>exact An (by kernel_rfl)) (by as_aux_lemma=>(unfold Func.isWrapper;first|(rw[if_pos (by decide+kernel)];kernel_rfl)|(rw[if_neg (by decide+kernel)];exact⟨rfl,rfl⟩)))
  (fun os started H enc _=>PR h os started H enc)
theorem RS (h:YtpebdiofdfpooaaGreatDoor.Rows.RepoChangeSaid):YtpebdiofdfpooaaGreatDoor.Rows.RepoChangeCardSaid:=
 Claim7.holds_tied_plain_at .later [] [.data,.data,.data] true (true, "1c3098e5c555ecf40be1539ddb12d18f1dffd27a1f2cb193b597c6cdd4f5e3af") false
  h (fun _ h=>by cases h) (by as_aux_lemma=>kernel_rfl) (fun _ h=>by cases h) YtpebdiofdfpooaaGreatDoor.repoChange_row_tie rfl ⟨rfl,rfl⟩ (by as_aux_lemma=>kernel_rfl) rfl
  (fun f fn hf hfn=>by
   obtain rfl:f=5:=CF ((show Tryz.prog.funcNamed "quilt/quiltlaw36.RepoChange" =some 5 by kernel_rfl).symm.trans hf) |>.symm
   obtain rfl:fn=Tryz.f5:=(CF (Tryz.func5.symm.trans hfn)).symm
   exact⟨by as_aux_lemma=>kernel_rfl,fun j t ht=>by
    rw[Tryz.params5]at ht
    have hm:t∈ [27,58]:=by simpa using LX ht
    have hall:([27,58].all fun u=>!Tryz.prog.wantsStandIn u)=true:=by as_aux_lemma=>kernel_rfl
    exact(show Tryz.prog.wantsStandIn t=false by simpa using B5.1 hall t hm)⟩)
  (by as_aux_lemma=>kernel_rfl)
end Go.Proofs
