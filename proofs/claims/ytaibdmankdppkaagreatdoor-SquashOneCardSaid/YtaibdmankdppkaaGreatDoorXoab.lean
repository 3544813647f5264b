/- The row SquashOne and its card, from the contract. -/
import Derived.Test.YtaibdmankdppkaaGreatDoorXav
import Derived.Test.YtaibdmankdppkaaGreatDoorXoaa
set_option linter.unusedSimpArgs false
set_option linter.unusedVariables false
namespace Go.Proofs
open Go Go.Q Go.ChangeShapes Go.WideShapes Go.ChangeAt Go.WideMaps Go.WideElems Go.RowKit
set_option maxRecDepth 100000 in
theorem Qv (h: ∀ (x0:List Sto) (t0:CN) (x1:Dig) (x2:Mta),C9 Tryz.prog 4 [.slice (x0.map eSto) t0,.agg (eDig x1),.agg (Eu x2)] (.raw (.bool true))) (os:Os) (started:os.Started) (H:Type) (enc:TypeId × Value→H):
  ReturnsInHanded {} Tryz.checked os 4 .any (fun w args=>(YtaibdmankdppkaaGreatDoor.Rows.squashOneSpec.pre enc Tryz.prog Tryz.f4 [] false w args∧laidMetH Tryz.prog cQ w)∧sizedMet enc Tryz.prog Tryz.f4 (OpenSpec.ofChange YtaibdmankdppkaaGreatDoor.Rows.squashOneSpec) false w args)
   (YtaibdmankdppkaaGreatDoor.Rows.squashOneSpec.post enc Tryz.prog Tryz.f4 false true false false):=by
 refine returnsInHanded_of_change_and (C:=Tryz.checked) (X:=fun w _=>laidMetH Tryz.prog cQ w) (fun _ _ _ hh h=>h.of_heap hh) own started (by kernel_rfl) Tryz.func4
  (ChangeSpec.witness_shaped (enc:=enc) (C:=Tryz.checked) (os:=os) (X:=fun w _=>laidMetH Tryz.prog cQ w) false (World.doorLaid Tryz.prog 400 os) #[.slice none 0 0,.agg (List.replicate 32 (Value.int .u8 0)).toArray,.agg #[.string ⟨#[]⟩,.string ⟨#[]⟩,.int .i64 0]] 8 rfl (ZL os _) (by kernel_rfl) (by kernel_rfl) (by kernel_rfl) (kO os _)) ?_
 intro W base args ds gs before hval hW _ hsz hL _
 have hW':=hW
 obtain⟨p,q,hA,hV,rfl,hfz,hnd⟩:=hW
 replace hA:DataW.TrodAll enc Tryz.prog W 0 (fun _=>true) true Tryz.f4.params.toList args.toList ds p:=hA
 have hval: ∀ (j:Nat) t v,Tryz.f4.params[j]? =some t→args[j]? =some v→Value.okWide Tryz.prog W .any base t v:=hval
 rw[Tryz.params4]at hA hval
 obtain⟨v0,v1,v2,d0,d1,d2,p0,p1,p2,rfl,rfl,rfl,h0,h1,h2⟩:=trodAll_three hA
 obtain⟨rfl,rfl⟩:=trodVars_none hV
 have yv: ∀ n∈d0.weights Tryz.prog 23,n≤reachBytes:=fun n hn=>by
  have:=BT.1 hsz n (DataW.weights_mem_each (j:=0) (t:=23) (d:=d0) (by kernel_rfl) rfl n hn)
  exact BF this
 obtain⟨fuel0,h0'⟩:=h0
 obtain⟨xs0,⟨x0,rfl⟩,hv0⟩:=vh H enc W (aq W) (fun _ _ _ h=>h) 0 true fuel0 _ _ h0' yv
 have hv0:=fc (e:=59) (by kernel_rfl) (hval 0 23 v0 rfl rfl) hv0
 have yu: ∀ n∈d1.weights Tryz.prog 31,n≤reachBytes:=fun n hn=>by
  have:=BT.1 hsz n (DataW.weights_mem_each (j:=1) (t:=31) (d:=d1) (by kernel_rfl) rfl n hn)
  exact BF this
 obtain⟨fuel1,h1'⟩:=h1
 obtain⟨xs1,⟨x1,rfl⟩,hv1⟩:=Yd H enc W (aq W) (fun _ _ _ h=>h) 0 true fuel1 _ _ h1' yu
 have hv1:=dP (by kernel_rfl) (hval 1 31 v1 rfl rfl) hv1
 have uG: ∀ n∈d2.weights Tryz.prog 26,n≤reachBytes:=fun n hn=>by
  have:=BT.1 hsz n (DataW.weights_mem_each (j:=2) (t:=26) (d:=d2) (by kernel_rfl) rfl n hn)
  exact BF this
 obtain⟨fuel2,h2'⟩:=h2
 obtain⟨xs2,⟨x2,rfl⟩,hv2⟩:=jW H enc W (aq W) (fun _ _ _ h=>h) 0 true fuel2 _ _ h2' uG
 have hv2:=dP (by kernel_rfl) (hval 2 26 v2 rfl rfl) hv2
 refine((h x0 .ro x1 x2).out [v0,v1,v2] W (aq W) [] (.cons hv0 (.cons hv1 (.cons hv2 (.nil _)))) (nj (Wu hL))).mono ?_
 rintro e W' ⟨v,x,g',L',rfl,k1,k2,k3,k4,rfl,rfl⟩
 rw[k1.raw_inv]
 have hb:Below W.heap.size W W':=k3.below
 refine⟨_,rfl,[d0,d1,d2],[],_,[],_,[],hW',r8 rfl _ _ _,trodAll_mk3 (Below.trod (by kernel_rfl) (by kernel_rfl) (BF (by kernel_rfl)) ⟨fuel0,h0'⟩ hb (fun x hx=>hW'.lt x (by simp only[Ai];simp_all))) (Below.trod (by kernel_rfl) (by kernel_rfl) (BF (by kernel_rfl)) ⟨fuel1,h1'⟩ hb (fun x hx=>hW'.lt x (by simp only[Ai];simp_all))) (Below.trod (by kernel_rfl) (by kernel_rfl) (BF (by kernel_rfl)) ⟨fuel2,h2'⟩ hb (fun x hx=>hW'.lt x (by simp only[Ai];simp_all))),rfl,hb.frame _,fun h=>by cases h⟩
theorem SZ (h: ∀ (x0:List Sto) (t0:CN) (x1:Dig) (x2:Mta),C9 Tryz.prog 4 [.slice (x0.map eSto) t0,.agg (eDig x1),.agg (Eu x2)] (.raw (.bool true))):YtaibdmankdppkaaGreatDoor.Rows.SquashOneSaid:=
 OpenClaim.holds_of_wide 4 Tryz.f4 rfl rfl rfl rfl rfl rfl rfl ⟨rfl,rfl,rfl,rfl,rfl⟩ rfl rfl rfl rfl rfl (by as_aux_lemma=>kernel_rfl) Tryz.func4 squashOne_facts
  (by as_aux_lemma=>exact BF (by kernel_rfl)) (by as_aux_lemma=>(unfold Func.isWrapper;first|(rw[if_pos (by decide+kernel)];kernel_rfl)|(rw[if_neg (by decide+kernel)];exact⟨rfl,rfl⟩)))
  (fun os started H enc _=>Qv h os started H enc)
theorem Sa (h:YtaibdmankdppkaaGreatDoor.Rows.SquashOneSaid):YtaibdmankdppkaaGreatDoor.Rows.SquashOneCardSaid:=
 Claim7.holds_tied_plain_at .later [] [.data,.data,.data] true (true, "03ad0f6fe76609f317029dc4180d51bdc081fac14b5bbc7eaffb1d1e1e11ab0f") false
  h (fun _ h=>by cases h) (by as_aux_lemma=>kernel_rfl) (fun _ h=>by cases h) YtaibdmankdppkaaGreatDoor.squashOne_row_tie rfl ⟨rfl,rfl⟩ (by as_aux_lemma=>kernel_rfl) rfl
  (fun f fn hf hfn=>by
   obtain rfl:f=4:=DF ((show Tryz.prog.funcNamed "quilt/quiltlaw29.SquashOne" =some 4 by kernel_rfl).symm.trans hf) |>.symm
   obtain rfl:fn=Tryz.f4:=(DF (Tryz.func4.symm.trans hfn)).symm
   exact⟨by as_aux_lemma=>kernel_rfl,fun j t ht=>by
    rw[Tryz.params4]at ht
    have hm:t∈ [23,31,26]:=by simpa using z8 ht
    have hall:([23,31,26].all fun u=>!Tryz.prog.wantsStandIn u)=true:=by as_aux_lemma=>kernel_rfl
    exact(show Tryz.prog.wantsStandIn t=false by simpa using BT.1 hall t hm)⟩)
  (by as_aux_lemma=>kernel_rfl)
end Go.Proofs
