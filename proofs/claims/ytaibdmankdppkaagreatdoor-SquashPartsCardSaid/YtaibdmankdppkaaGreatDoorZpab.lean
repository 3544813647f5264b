/- The row SquashParts and its card, from the contract. -/
import Derived.Test.YtaibdmankdppkaaGreatDoorZaw
import Derived.Test.YtaibdmankdppkaaGreatDoorZpaa
set_option linter.unusedSimpArgs false
set_option linter.unusedVariables false
namespace Go.Proofs
open Go Go.Q Go.ChangeShapes Go.WideShapes Go.ChangeAt Go.WideMaps Go.WideElems Go.RowKit
set_option maxRecDepth 100000 in
theorem Po (h: ∀ (x0:List Sto) (t0:CC) (x1:jD),C8 Tryz.prog 8 [.slice (x0.map eSto) t0,.agg (Ia x1)] (.raw (.bool true))) (os:Os) (started:os.Started) (H:Type) (enc:TypeId × Value→H):
  ReturnsInHanded {} Tryz.checked os 8 .any (fun w args=>(YtaibdmankdppkaaGreatDoor.Rows.squashPartsSpec.pre enc Tryz.prog Tryz.f8 [] false w args∧laidMetH Tryz.prog eG w)∧sizedMet enc Tryz.prog Tryz.f8 (OpenSpec.ofChange YtaibdmankdppkaaGreatDoor.Rows.squashPartsSpec) false w args)
   (YtaibdmankdppkaaGreatDoor.Rows.squashPartsSpec.post enc Tryz.prog Tryz.f8 false true false false):=by
 refine returnsInHanded_of_change_and (C:=Tryz.checked) (X:=fun w _=>laidMetH Tryz.prog eG w) (fun _ _ _ hh h=>h.of_heap hh) own started (by kernel_rfl) Tryz.func8
  (ChangeSpec.witness_shaped (enc:=enc) (C:=Tryz.checked) (os:=os) (X:=fun w _=>laidMetH Tryz.prog eG w) false (World.doorLaid Tryz.prog 400 os) #[.slice none 0 0,.agg ((List.replicate 32 (Value.int .u8 0)).toArray++ #[.slice none 0 0,.slice none 0 0])] 8 rfl (aI os _) (by kernel_rfl) (by kernel_rfl) (by kernel_rfl) (lr os _)) ?_
 intro W base args ds gs before hval hW _ hsz hL _
 have hW':=hW
 obtain⟨p,q,hA,hV,rfl,hfz,hnd⟩:=hW
 replace hA:DataW.TrodAll enc Tryz.prog W 0 (fun _=>true) true Tryz.f8.params.toList args.toList ds p:=hA
 have hval: ∀ (j:Nat) t v,Tryz.f8.params[j]? =some t→args[j]? =some v→Value.okWide Tryz.prog W .any base t v:=hval
 rw[Tryz.params8]at hA hval
 obtain⟨v0,v1,d0,d1,p0,p1,rfl,rfl,rfl,h0,h1⟩:=trodAll_two hA
 obtain⟨rfl,rfl⟩:=trodVars_none hV
 have hw0: ∀ n∈d0.weights Tryz.prog 23,n≤reachBytes:=fun n hn=>by
  have:=Bc.1 hsz n (DataW.weights_mem_each (j:=0) (t:=23) (d:=d0) (by kernel_rfl) rfl n hn)
  exact BJ this
 obtain⟨fuel0,h0'⟩:=h0
 obtain⟨xs0,⟨x0,rfl⟩,hv0⟩:=xb H enc W (gm W) (fun _ _ _ h=>h) 0 true fuel0 _ _ h0' hw0
 have hv0:=iX (e:=59) (by kernel_rfl) (hval 0 23 v0 rfl rfl) hv0
 have hw1: ∀ n∈d1.weights Tryz.prog 53,n≤reachBytes:=fun n hn=>by
  have:=Bc.1 hsz n (DataW.weights_mem_each (j:=1) (t:=53) (d:=d1) (by kernel_rfl) rfl n hn)
  exact BJ this
 obtain⟨fuel1,h1'⟩:=h1
 obtain⟨xs1,⟨x1,rfl⟩,hv1⟩:=xe H enc W (gm W) (fun _ _ _ h=>h) 0 true fuel1 _ _ h1' hw1
 have hv1:=qb (by kernel_rfl) (hval 1 53 v1 rfl rfl) hv1
 refine((h x0 .ro x1).out [v0,v1] W (gm W) [] (.cons hv0 (.cons hv1 (.nil _))) (pd (XZ hL))).mono ?_
 rintro e W' ⟨v,x,g',L',rfl,k1,k2,k3,k4,rfl,rfl⟩
 rw[k1.raw_inv]
 have hb:Below W.heap.size W W':=k3.below
 refine⟨_,rfl,[d0,d1],[],_,[],_,[],hW',su rfl _ _ _,trodAll_mk2 (Below.trod (by kernel_rfl) (by kernel_rfl) (BJ (by kernel_rfl)) ⟨fuel0,h0'⟩ hb (fun x hx=>hW'.lt x (by simp only[Aj];simp_all))) (Below.trod (by kernel_rfl) (by kernel_rfl) (BJ (by kernel_rfl)) ⟨fuel1,h1'⟩ hb (fun x hx=>hW'.lt x (by simp only[Aj];simp_all))),rfl,hb.frame _,fun h=>by cases h⟩
theorem Ra (h: ∀ (x0:List Sto) (t0:CC) (x1:jD),C8 Tryz.prog 8 [.slice (x0.map eSto) t0,.agg (Ia x1)] (.raw (.bool true))):YtaibdmankdppkaaGreatDoor.Rows.SquashPartsSaid:=
 OpenClaim.holds_of_wide 8 Tryz.f8 rfl rfl rfl rfl rfl rfl rfl ⟨rfl,rfl,rfl,rfl,rfl⟩ rfl rfl rfl rfl rfl (by as_aux_lemma=>kernel_rfl) Tryz.func8 squashParts_facts
  (by as_aux_lemma=>exact BJ (by kernel_rfl)) (by as_aux_lemma=>(unfold Func.isWrapper;first|(rw[if_pos (by decide+kernel)];kernel_rfl)|(rw[if_neg (by decide+kernel)];exact⟨rfl,rfl⟩)))
  (fun os started H enc _=>Po h os started H enc)
theorem Rb (h:YtaibdmankdppkaaGreatDoor.Rows.SquashPartsSaid):YtaibdmankdppkaaGreatDoor.Rows.SquashPartsCardSaid:=
 Claim7.holds_tied_plain_at .later [] [.data,.data,.data] true (true, "03ad0f6fe76609f317029dc4180d51bdc081fac14b5bbc7eaffb1d1e1e11ab0f") false
  h (fun _ h=>by cases h) (by as_aux_lemma=>kernel_rfl) (fun _ h=>by cases h) YtaibdmankdppkaaGreatDoor.squashParts_row_tie rfl ⟨rfl,rfl⟩ (by as_aux_lemma=>kernel_rfl) rfl
  (fun f fn hf hfn=>by
   obtain rfl:f=8:=CJ ((show Tryz.prog.funcNamed "quilt/quiltlaw29.SquashParts" =some 8 by kernel_rfl).symm.trans hf) |>.symm
   obtain rfl:fn=Tryz.f8:=(CJ (Tryz.func8.symm.trans hfn)).symm
   exact⟨by as_aux_lemma=>kernel_rfl,fun j t ht=>by
    rw[Tryz.params8]at ht
    have hm:t∈ [23,53]:=by simpa using A0Z ht
    have hall:([23,53].all fun u=>!Tryz.prog.wantsStandIn u)=true:=by as_aux_lemma=>kernel_rfl
    exact(show Tryz.prog.wantsStandIn t=false by simpa using Bc.1 hall t hm)⟩)
  (by as_aux_lemma=>kernel_rfl)
end Go.Proofs
