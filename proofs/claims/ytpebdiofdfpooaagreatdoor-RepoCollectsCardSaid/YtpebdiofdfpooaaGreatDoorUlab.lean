/- The row RepoCollects and its card, from the contract. -/
import Derived.Test.YtpebdiofdfpooaaGreatDoorUaw
import Derived.Test.YtpebdiofdfpooaaGreatDoorUlaa
set_option linter.unusedSimpArgs false
set_option linter.unusedVariables false
namespace Go.Proofs
open Go Go.Q Go.ChangeShapes Go.WideShapes Go.ChangeAt Go.WideMaps Go.WideElems Go.RowKit
set_option maxRecDepth 100000 in
theorem Oi (h: ∀ (x0:Repo) (x1:Str) (x2:Pat),Bl Tryz.prog 4 [.agg (Ay x0),.str x1,.agg (CP x2)] (.raw (.bool true))) (os:Os) (started:os.Started) (H:Type) (enc:TypeId × Value→H):
  ReturnsInHanded {} Tryz.checked os 4 .any (fun w args=>(YtpebdiofdfpooaaGreatDoor.Rows.repoCollectsSpec.pre enc Tryz.prog Tryz.f4 [] false w args∧laidMetH Tryz.prog Iq w)∧sizedMet enc Tryz.prog Tryz.f4 (OpenSpec.ofChange YtpebdiofdfpooaaGreatDoor.Rows.repoCollectsSpec) false w args)
   (YtpebdiofdfpooaaGreatDoor.Rows.repoCollectsSpec.post enc Tryz.prog Tryz.f4 false true false false):=by
 refine returnsInHanded_of_change_and (C:=Tryz.checked) (X:=fun w _=>laidMetH Tryz.prog Iq w) (fun _ _ _ hh h=>h.of_heap hh) own started (by kernel_rfl) Tryz.func4
  (ChangeSpec.witness_shaped (enc:=enc) (C:=Tryz.checked) (os:=os) (X:=fun w _=>laidMetH Tryz.prog Iq w) false (World.doorLaid Tryz.prog 400 os) #[.agg #[.slice none 0 0,.slice none 0 0,.slice none 0 0,.string ⟨#[]⟩],.string ⟨#[]⟩,.agg #[.string ⟨#[]⟩,.string ⟨#[]⟩,.int .i64 0,.slice none 0 0,.slice none 0 0]] 8 rfl (IU os _) (by kernel_rfl) (by kernel_rfl) (by kernel_rfl) (Lz os _)) ?_
 intro W base args ds gs before hval hW _ hsz hL _
 have hW':=hW
 obtain⟨p,q,hA,hV,rfl,hfz,hnd⟩:=hW
 replace hA:DataW.TrodAll enc Tryz.prog W 0 (fun _=>true) true Tryz.f4.params.toList args.toList ds p:=hA
 have hval: ∀ (j:Nat) t v,Tryz.f4.params[j]? =some t→args[j]? =some v→Value.okWide Tryz.prog W .any base t v:=hval
 rw[Tryz.params4]at hA hval
 obtain⟨v0,v1,v2,d0,d1,d2,p0,p1,p2,rfl,rfl,rfl,h0,h1,h2⟩:=trodAll_three hA
 obtain⟨rfl,rfl⟩:=trodVars_none hV
 have ga: ∀ n∈d0.weights Tryz.prog 27,n≤reachBytes:=fun n hn=>by
  have:=Ar.1 hsz n (DataW.weights_mem_each (j:=0) (t:=27) (d:=d0) (by kernel_rfl) rfl n hn)
  exact Ab this
 obtain⟨fuel0,h0'⟩:=h0
 obtain⟨xs0,⟨x0,rfl⟩,hv0⟩:=TT H enc W (K0 W) (fun _ _ _ h=>h) 0 true fuel0 _ _ h0' ga
 have hv0:=LJ (by kernel_rfl) (hval 0 27 v0 rfl rfl) hv0
 have gZ: ∀ n∈d1.weights Tryz.prog 9,n≤reachBytes:=fun n hn=>by
  have:=Ar.1 hsz n (DataW.weights_mem_each (j:=1) (t:=9) (d:=d1) (by kernel_rfl) rfl n hn)
  exact Ab this
 obtain⟨fuel1,h1'⟩:=h1
 obtain⟨xs1,⟨x1,rfl⟩,hv1⟩:=Kh H enc W (K0 W) (fun _ _ _ h=>h) 0 true fuel1 _ _ h1' gZ
 have hv1:=SU (by kernel_rfl) (hval 1 9 v1 rfl rfl) hv1
 have mZ: ∀ n∈d2.weights Tryz.prog 42,n≤reachBytes:=fun n hn=>by
  have:=Ar.1 hsz n (DataW.weights_mem_each (j:=2) (t:=42) (d:=d2) (by kernel_rfl) rfl n hn)
  exact Ab this
 obtain⟨fuel2,h2'⟩:=h2
 obtain⟨xs2,⟨x2,rfl⟩,hv2⟩:=jz H enc W (K0 W) (fun _ _ _ h=>h) 0 true fuel2 _ _ h2' mZ
 have hv2:=LJ (by kernel_rfl) (hval 2 42 v2 rfl rfl) hv2
 refine((h x0 x1 x2).out [v0,v1,v2] W (K0 W) [] (.cons hv0 (.cons hv1 (.cons hv2 (.nil _)))) (OX (HR hL))).mono ?_
 rintro e W' ⟨v,x,g',L',rfl,k1,k2,k3,k4,rfl,rfl⟩
 rw[k1.raw_inv]
 have h9:Ez [] W (K0 W) W' g':=k3
 have hb:Below W.heap.size W W':=⟨h9.os,h9.tape,h9.output.1,h9.size,fun k hk=>h9.keep k hk (by simp)⟩
 refine⟨_,rfl,[d0,d1,d2],[],_,[],_,[],hW',Qv rfl _ _ _,trodAll_mk3 (Below.trod (by kernel_rfl) (by kernel_rfl) (Ab (by kernel_rfl)) ⟨fuel0,h0'⟩ hb (fun x hx=>hW'.lt x (by simp only[Ai];simp_all))) (Below.trod (by kernel_rfl) (by kernel_rfl) (Ab (by kernel_rfl)) ⟨fuel1,h1'⟩ hb (fun x hx=>hW'.lt x (by simp only[Ai];simp_all))) (Below.trod (by kernel_rfl) (by kernel_rfl) (Ab (by kernel_rfl)) ⟨fuel2,h2'⟩ hb (fun x hx=>hW'.lt x (by simp only[Ai];simp_all))),rfl,hb.frame _,fun h=>by cases h⟩
theorem Q8 (h: ∀ (x0:Repo) (x1:Str) (x2:Pat),Bl Tryz.prog 4 [.agg (Ay x0),.str x1,.agg (CP x2)] (.raw (.bool true))):YtpebdiofdfpooaaGreatDoor.Rows.RepoCollectsSaid:=
 OpenClaim.holds_of_wide 4 Tryz.f4 rfl rfl rfl rfl rfl rfl rfl ⟨rfl,rfl,rfl,rfl,rfl⟩ rfl rfl rfl rfl rfl (by as_aux_lemma=>kernel_rfl) Tryz.func4 repoCollects_facts
  (by as_aux_lemma=>exact Ab (by kernel_rfl)) (by as_aux_lemma=>(unfold Func.isWrapper;first|(rw[if_pos (by decide+kernel)];kernel_rfl)|(rw[if_neg (by decide+kernel)];exact⟨rfl,rfl⟩)))
  (fun os started H enc _=>Oi h os started H enc)
theorem Q9 (h:YtpebdiofdfpooaaGreatDoor.Rows.RepoCollectsSaid):YtpebdiofdfpooaaGreatDoor.Rows.RepoCollectsCardSaid:=
 Claim7.holds_tied_plain_at .later [] [.data,.data,.data] true (true, "1c3098e5c555ecf40be1539ddb12d18f1dffd27a1f2cb193b597c6cdd4f5e3af") false
  h (fun _ h=>by cases h) (by as_aux_lemma=>kernel_rfl) (fun _ h=>by cases h) YtpebdiofdfpooaaGreatDoor.repoCollects_row_tie rfl ⟨rfl,rfl⟩ (by as_aux_lemma=>kernel_rfl) rfl
  (fun f fn hf hfn=>by
   obtain rfl:f=4:=BX ((show Tryz.prog.funcNamed "quilt/quiltlaw36.RepoCollects" =some 4 by kernel_rfl).symm.trans hf) |>.symm
   obtain rfl:fn=Tryz.f4:=(BX (Tryz.func4.symm.trans hfn)).symm
   exact⟨by as_aux_lemma=>kernel_rfl,fun j t ht=>by
    rw[Tryz.params4]at ht
    have hm:t∈ [27,9,42]:=by simpa using FO ht
    have hall:([27,9,42].all fun u=>!Tryz.prog.wantsStandIn u)=true:=by as_aux_lemma=>kernel_rfl
    exact(show Tryz.prog.wantsStandIn t=false by simpa using Ar.1 hall t hm)⟩)
  (by as_aux_lemma=>kernel_rfl)
end Go.Proofs
