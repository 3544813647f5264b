/- The row HistoryTops and its card, from the contract. -/
import Derived.Test.YtmkdlelpipefbaaGreatDoorUah
import Derived.Test.YtmkdlelpipefbaaGreatDoorUtab
set_option linter.unusedSimpArgs false
set_option linter.unusedVariables false
namespace Go.Proofs
open Go Go.Q Go.ChangeShapes Go.WideShapes Go.ChangeAt Go.WideMaps Go.WideElems Go.RowKit
set_option maxRecDepth 100000 in
theorem historyTops_lifted (h: ∀ (x0:List Sto) (t0:Tag),FnC Tryz.prog 4 [.slice (x0.map eSto) t0] (.raw (.bool true))) (os:Os) (started:os.Started) (H:Type) (enc:TypeId × Value→H):
  ReturnsInHanded {} Tryz.checked os 4 .any (fun w args=>(YtmkdlelpipefbaaGreatDoor.Rows.historyTopsSpec.pre enc Tryz.prog Tryz.f4 [] false w args∧laidMetH Tryz.prog laid3 w)∧sizedMet enc Tryz.prog Tryz.f4 (OpenSpec.ofChange YtmkdlelpipefbaaGreatDoor.Rows.historyTopsSpec) false w args)
   (YtmkdlelpipefbaaGreatDoor.Rows.historyTopsSpec.post enc Tryz.prog Tryz.f4 false true false false):=by
 refine returnsInHanded_of_change_and (C:=Tryz.checked) (X:=fun w _=>laidMetH Tryz.prog laid3 w) (fun _ _ _ hh h=>h.of_heap hh) own started (by kernel_rfl) Tryz.func4
  (ChangeSpec.witness_shaped (enc:=enc) (C:=Tryz.checked) (os:=os) (X:=fun w _=>laidMetH Tryz.prog laid3 w) false (World.doorLaid Tryz.prog 400 os) #[.slice none 0 0] 8 rfl (door_shaped os _) (by kernel_rfl) (by kernel_rfl) (by kernel_rfl) (door_met os _)) ?_
 intro W base args ds gs before hval hW _ hsz hL _
 have hW':=hW
 obtain⟨p,q,hA,hV,rfl,hfz,hnd⟩:=hW
 replace hA:DataW.TrodAll enc Tryz.prog W 0 (fun _=>true) true Tryz.f4.params.toList args.toList ds p:=hA
 have hval: ∀ (j:Nat) t v,Tryz.f4.params[j]? =some t→args[j]? =some v→Value.okWide Tryz.prog W .any base t v:=hval
 rw[Tryz.params4]at hA hval
 obtain⟨v0,d0,rfl,rfl,h0⟩:=trodAll_one hA
 obtain⟨rfl,rfl⟩:=trodVars_none hV
 have hw0: ∀ n∈d0.weights Tryz.prog 23,n≤reachBytes:=fun n hn=>by
  have:=List.all_eq_true.1 hsz n (DataW.weights_mem_each (j:=0) (t:=23) (d:=d0) (by kernel_rfl) rfl n hn)
  exact of_decide_eq_true this
 obtain⟨fuel0,h0'⟩:=h0
 obtain⟨xs0,⟨x0,rfl⟩,hv0⟩:=o_set H enc W (gAll W) (fun _ _ _ h=>h) 0 true fuel0 _ _ h0' hw0
 have hv0:=arg_slice (e:=70) (by kernel_rfl) (hval 0 23 v0 rfl rfl) hv0
 refine((h x0 .ro).out [v0] W (gAll W) [] (.cons hv0 (.nil _)) (inv_all (glob_of_laid hL))).mono ?_
 rintro e W' ⟨v,x,g',L',rfl,k1,k2,k3,k4,rfl,rfl⟩
 rw[k1.raw_inv]
 have hb:Below W.heap.size W W':=k3.below
 refine⟨_,rfl,[d0],[],_,[],_,[],hW',trueOk rfl _ _ _,trodAll_mk1 (Below.trod (by kernel_rfl) (by kernel_rfl) (of_decide_eq_true (by kernel_rfl)) ⟨fuel0,h0'⟩ hb (fun x hx=>hW'.lt x (by simp only[List.mem_append];simp_all))),rfl,hb.frame _,fun h=>by cases h⟩
theorem historyTops_said (h: ∀ (x0:List Sto) (t0:Tag),FnC Tryz.prog 4 [.slice (x0.map eSto) t0] (.raw (.bool true))):YtmkdlelpipefbaaGreatDoor.Rows.HistoryTopsSaid:=
 OpenClaim.holds_of_wide 4 Tryz.f4 rfl rfl rfl rfl rfl rfl rfl ⟨rfl,rfl,rfl,rfl,rfl⟩ rfl rfl rfl rfl rfl (by as_aux_lemma=>kernel_rfl) Tryz.func4 historyTops_facts
  (by as_aux_lemma=>exact of_decide_eq_true (by kernel_rfl)) (by as_aux_lemma=>(unfold Func.isWrapper;first|(rw[if_pos (by decide+kernel)];kernel_rfl)|(rw[if_neg (by decide+kernel)];exact⟨rfl,rfl⟩)))
  (fun os started H enc _=>historyTops_lifted h os started H enc)
theorem historyTops_card (h:YtmkdlelpipefbaaGreatDoor.Rows.HistoryTopsSaid):YtmkdlelpipefbaaGreatDoor.Rows.HistoryTopsCardSaid:=
 Claim7.holds_tied_plain_at .later [] [.data,.data,.data] true (true, "bb1caeed9ab2b17266b1962ee6ac5ee78e33a9b874001cf91ae71d01e24f3231") true
  h (fun _ h=>by cases h) (by as_aux_lemma=>kernel_rfl) (fun _ h=>by cases h) YtmkdlelpipefbaaGreatDoor.historyTops_row_tie rfl ⟨rfl,rfl⟩ (by as_aux_lemma=>kernel_rfl) rfl
  (fun f fn hf hfn=>by
   obtain rfl:f=4:=Option.some.inj ((show Tryz.prog.funcNamed "quilt/quiltlaw30.HistoryTops" =some 4 by kernel_rfl).symm.trans hf) |>.symm
   obtain rfl:fn=Tryz.f4:=(Option.some.inj (Tryz.func4.symm.trans hfn)).symm
   exact⟨by as_aux_lemma=>kernel_rfl,fun j t ht=>by
    rw[Tryz.params4]at ht
    have hm:t∈ [23]:=by simpa using Array.mem_of_getElem? ht
    have hall:([23].all fun u=>!Tryz.prog.wantsStandIn u)=true:=by as_aux_lemma=>kernel_rfl
    exact(show Tryz.prog.wantsStandIn t=false by simpa using List.all_eq_true.1 hall t hm)⟩)
  (by as_aux_lemma=>kernel_rfl)
end Go.Proofs
