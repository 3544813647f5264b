/- The row SquashAtoms and its card, from the contract. -/
import Derived.Test.YtaibdmankdppkaaGreatDoorYaw
import Derived.Test.YtaibdmankdppkaaGreatDoorYoaa
set_option linter.unusedSimpArgs false
set_option linter.unusedVariables false
namespace Go.Proofs
open Go Go.Q Go.ChangeShapes Go.WideShapes Go.ChangeAt Go.WideMaps Go.WideElems Go.RowKit
set_option maxRecDepth 100000 in
theorem PS (h: ∀ (x0:List Sto) (t0:CF) (x1:List Dig) (t1:CF) (x2:Mta),CB Tryz.prog 7 [.slice (x0.map eSto) t0,.slice (x1.map eDig) t1,.agg (FY x2)] (.raw (.bool true))) (os:Os) (started:os.Started) (H:Type) (enc:TypeId × Value→H):
  ReturnsInHanded {} Tryz.checked os 7 .any (fun w args=>(YtaibdmankdppkaaGreatDoor.Rows.squashAtomsSpec.pre enc Tryz.prog Tryz.f7 [] false w args∧laidMetH Tryz.prog dt w)∧sizedMet enc Tryz.prog Tryz.f7 (OpenSpec.ofChange YtaibdmankdppkaaGreatDoor.Rows.squashAtomsSpec) false w args)
   (YtaibdmankdppkaaGreatDoor.Rows.squashAtomsSpec.post enc Tryz.prog Tryz.f7 false true false false):=by
 refine returnsInHanded_of_change_and (C:=Tryz.checked) (X:=fun w _=>laidMetH Tryz.prog dt w) (fun _ _ _ hh h=>h.of_heap hh) own started (by kernel_rfl) Tryz.func7
  (ChangeSpec.witness_shaped (enc:=enc) (C:=Tryz.checked) (os:=os) (X:=fun w _=>laidMetH Tryz.prog dt w) false (World.doorLaid Tryz.prog 400 os) #[.slice none 0 0,.slice none 0 0,.agg #[.string ⟨#[]⟩,.string ⟨#[]⟩,.int .i64 0]] 8 rfl (Zy os _) (by kernel_rfl) (by kernel_rfl) (by kernel_rfl) (lZ os _)) ?_
 intro W base args ds gs before hval hW _ hsz hL _
 have hW':=hW
 obtain⟨p,q,hA,hV,rfl,hfz,hnd⟩:=hW
 replace hA:DataW.TrodAll enc Tryz.prog W 0 (fun _=>true) true Tryz.f7.params.toList args.toList ds p:=hA
 have hval: ∀ (j:Nat) t v,Tryz.f7.params[j]? =some t→args[j]? =some v→Value.okWide Tryz.prog W .any base t v:=hval
 rw[Tryz.params7]at hA hval
 obtain⟨v0,v1,v2,d0,d1,d2,p0,p1,p2,rfl,rfl,rfl,h0,h1,h2⟩:=trodAll_three hA
 obtain⟨rfl,rfl⟩:=trodVars_none hV
 have hw0: ∀ n∈d0.weights Tryz.prog 23,n≤reachBytes:=fun n hn=>by
  have:=Bg.1 hsz n (DataW.weights_mem_each (j:=0) (t:=23) (d:=d0) (by kernel_rfl) rfl n hn)
  exact BB this
 obtain⟨fuel0,h0'⟩:=h0
 obtain⟨xs0,⟨x0,rfl⟩,hv0⟩:=xR H enc W (cC W) (fun _ _ _ h=>h) 0 true fuel0 _ _ h0' hw0
 have hv0:=WC (e:=59) (by kernel_rfl) (hval 0 23 v0 rfl rfl) hv0
 have hw1: ∀ n∈d1.weights Tryz.prog 24,n≤reachBytes:=fun n hn=>by
  have:=Bg.1 hsz n (DataW.weights_mem_each (j:=1) (t:=24) (d:=d1) (by kernel_rfl) rfl n hn)
  exact BB this
 obtain⟨fuel1,h1'⟩:=h1
 obtain⟨xs1,⟨x1,rfl⟩,hv1⟩:=kZ H enc W (cC W) (fun _ _ _ h=>h) 0 true fuel1 _ _ h1' hw1
 have hv1:=WC (e:=31) (by kernel_rfl) (hval 1 24 v1 rfl rfl) hv1
 have vk: ∀ n∈d2.weights Tryz.prog 26,n≤reachBytes:=fun n hn=>by
  have:=Bg.1 hsz n (DataW.weights_mem_each (j:=2) (t:=26) (d:=d2) (by kernel_rfl) rfl n hn)
  exact BB this
 obtain⟨fuel2,h2'⟩:=h2
 obtain⟨xs2,⟨x2,rfl⟩,hv2⟩:=kX H enc W (cC W) (fun _ _ _ h=>h) 0 true fuel2 _ _ h2' vk
 have hv2:=qS (by kernel_rfl) (hval 2 26 v2 rfl rfl) hv2
 refine((h x0 .ro x1 .ro x2).out [v0,v1,v2] W (cC W) [] (.cons hv0 (.cons hv1 (.cons hv2 (.nil _)))) (pO (XR hL))).mono ?_
 rintro e W' ⟨v,x,g',L',rfl,k1,k2,k3,k4,rfl,rfl⟩
 rw[k1.raw_inv]
 have hb:Below W.heap.size W W':=k3.below
 refine⟨_,rfl,[d0,d1,d2],[],_,[],_,[],hW',sj rfl _ _ _,trodAll_mk3 (Below.trod (by kernel_rfl) (by kernel_rfl) (BB (by kernel_rfl)) ⟨fuel0,h0'⟩ hb (fun x hx=>hW'.lt x (by simp only[Aj];simp_all))) (Below.trod (by kernel_rfl) (by kernel_rfl) (BB (by kernel_rfl)) ⟨fuel1,h1'⟩ hb (fun x hx=>hW'.lt x (by simp only[Aj];simp_all))) (Below.trod (by kernel_rfl) (by kernel_rfl) (BB (by kernel_rfl)) ⟨fuel2,h2'⟩ hb (fun x hx=>hW'.lt x (by simp only[Aj];simp_all))),rfl,hb.frame _,fun h=>by cases h⟩
theorem RL (h: ∀ (x0:List Sto) (t0:CF) (x1:List Dig) (t1:CF) (x2:Mta),CB Tryz.prog 7 [.slice (x0.map eSto) t0,.slice (x1.map eDig) t1,.agg (FY x2)] (.raw (.bool true))):YtaibdmankdppkaaGreatDoor.Rows.SquashAtomsSaid:=
 OpenClaim.holds_of_wide 7 Tryz.f7 rfl rfl rfl rfl rfl rfl rfl ⟨rfl,rfl,rfl,rfl,rfl⟩ rfl rfl rfl rfl rfl (by as_aux_lemma=>kernel_rfl) Tryz.func7 squashAtoms_facts
  (by as_aux_lemma=>exact BB (by kernel_rfl)) (by as_aux_lemma=>(unfold Func.isWrapper;first|(rw[if_pos (by decide+kernel)];kernel_rfl)|(rw[if_neg (by decide+kernel)];exact⟨rfl,rfl⟩)))
  (fun os started H enc _=>PS h os started H enc)
theorem RM (h:YtaibdmankdppkaaGreatDoor.Rows.SquashAtomsSaid):YtaibdmankdppkaaGreatDoor.Rows.SquashAtomsCardSaid:=
 Claim7.holds_tied_plain_at .later [] [.data,.data,.data] true (true, "03ad0f6fe76609f317029dc4180d51bdc081fac14b5bbc7eaffb1d1e1e11ab0f") false
  h (fun _ h=>by cases h) (by as_aux_lemma=>kernel_rfl) (fun _ h=>by cases h) YtaibdmankdppkaaGreatDoor.squashAtoms_row_tie rfl ⟨rfl,rfl⟩ (by as_aux_lemma=>kernel_rfl) rfl
  (fun f fn hf hfn=>by
   obtain rfl:f=7:=CN ((show Tryz.prog.funcNamed "quilt/quiltlaw29.SquashAtoms" =some 7 by kernel_rfl).symm.trans hf) |>.symm
   obtain rfl:fn=Tryz.f7:=(CN (Tryz.func7.symm.trans hfn)).symm
   exact⟨by as_aux_lemma=>kernel_rfl,fun j t ht=>by
    rw[Tryz.params7]at ht
    have hm:t∈ [23,24,26]:=by simpa using A0T ht
    have hall:([23,24,26].all fun u=>!Tryz.prog.wantsStandIn u)=true:=by as_aux_lemma=>kernel_rfl
    exact(show Tryz.prog.wantsStandIn t=false by simpa using Bg.1 hall t hm)⟩)
  (by as_aux_lemma=>kernel_rfl)
end Go.Proofs
