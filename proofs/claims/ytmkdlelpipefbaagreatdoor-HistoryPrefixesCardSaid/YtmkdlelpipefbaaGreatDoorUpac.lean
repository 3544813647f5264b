/- The row HistoryPrefixes and its card, from the contract. -/
import Derived.Test.YtmkdlelpipefbaaGreatDoorUap
import Derived.Test.YtmkdlelpipefbaaGreatDoorUpab
set_option linter.unusedSimpArgs false
set_option linter.unusedVariables false
namespace Go.Proofs
open Go Go.Q Go.ChangeShapes Go.WideShapes Go.ChangeAt Go.WideMaps Go.WideElems Go.RowKit
set_option maxRecDepth 100000 in
theorem historyPrefixes_lifted (h: ∀ (x0:List Sto) (t0:Tag) (x1:List Dig) (t1:Tag) (x2:UInt8),FnC Tryz.prog 8 [.slice (x0.map eSto) t0,.slice (x1.map eDig) t1,eU8 x2] (.raw (.bool true))) (os:Os) (started:os.Started) (H:Type) (enc:TypeId × Value→H):
  ReturnsInHanded {} Tryz.checked os 8 .any (fun w args=>(YtmkdlelpipefbaaGreatDoor.Rows.historyPrefixesSpec.pre enc Tryz.prog Tryz.f8 [] false w args∧laidMetH Tryz.prog laid3 w)∧sizedMet enc Tryz.prog Tryz.f8 (OpenSpec.ofChange YtmkdlelpipefbaaGreatDoor.Rows.historyPrefixesSpec) false w args)
   (YtmkdlelpipefbaaGreatDoor.Rows.historyPrefixesSpec.post enc Tryz.prog Tryz.f8 false true false false):=by
 refine returnsInHanded_of_change_and (C:=Tryz.checked) (X:=fun w _=>laidMetH Tryz.prog laid3 w) (fun _ _ _ hh h=>h.of_heap hh) own started (by kernel_rfl) Tryz.func8
  (ChangeSpec.witness_shaped (enc:=enc) (C:=Tryz.checked) (os:=os) (X:=fun w _=>laidMetH Tryz.prog laid3 w) false (World.doorLaid Tryz.prog 400 os) #[.slice none 0 0,.slice none 0 0,.int .u8 0] 8 rfl (door_shaped os _) (by kernel_rfl) (by kernel_rfl) (by kernel_rfl) (door_met os _)) ?_
 intro W base args ds gs before hval hW _ hsz hL _
 have hW':=hW
 obtain⟨p,q,hA,hV,rfl,hfz,hnd⟩:=hW
 replace hA:DataW.TrodAll enc Tryz.prog W 0 (fun _=>true) true Tryz.f8.params.toList args.toList ds p:=hA
 have hval: ∀ (j:Nat) t v,Tryz.f8.params[j]? =some t→args[j]? =some v→Value.okWide Tryz.prog W .any base t v:=hval
 rw[Tryz.params8]at hA hval
 obtain⟨v0,v1,v2,d0,d1,d2,p0,p1,p2,rfl,rfl,rfl,h0,h1,h2⟩:=trodAll_three hA
 obtain⟨rfl,rfl⟩:=trodVars_none hV
 have hw0: ∀ n∈d0.weights Tryz.prog 23,n≤reachBytes:=fun n hn=>by
  have:=List.all_eq_true.1 hsz n (DataW.weights_mem_each (j:=0) (t:=23) (d:=d0) (by kernel_rfl) rfl n hn)
  exact of_decide_eq_true this
 obtain⟨fuel0,h0'⟩:=h0
 obtain⟨xs0,⟨x0,rfl⟩,hv0⟩:=o_set H enc W (gAll W) (fun _ _ _ h=>h) 0 true fuel0 _ _ h0' hw0
 have hv0:=arg_slice (e:=70) (by kernel_rfl) (hval 0 23 v0 rfl rfl) hv0
 have hw1: ∀ n∈d1.weights Tryz.prog 31,n≤reachBytes:=fun n hn=>by
  have:=List.all_eq_true.1 hsz n (DataW.weights_mem_each (j:=1) (t:=31) (d:=d1) (by kernel_rfl) rfl n hn)
  exact of_decide_eq_true this
 obtain⟨fuel1,h1'⟩:=h1
 obtain⟨xs1,⟨x1,rfl⟩,hv1⟩:=o_digs H enc W (gAll W) (fun _ _ _ h=>h) 0 true fuel1 _ _ h1' hw1
 have hv1:=arg_slice (e:=25) (by kernel_rfl) (hval 1 31 v1 rfl rfl) hv1
 have hw2: ∀ n∈d2.weights Tryz.prog 5,n≤reachBytes:=fun n hn=>by
  have:=List.all_eq_true.1 hsz n (DataW.weights_mem_each (j:=2) (t:=5) (d:=d2) (by kernel_rfl) rfl n hn)
  exact of_decide_eq_true this
 obtain⟨fuel2,h2'⟩:=h2
 obtain⟨xs2,⟨x2,rfl⟩,hv2⟩:=o_u8 H enc W (gAll W) (fun _ _ _ h=>h) 0 true fuel2 _ _ h2' hw2
 have hv2:=arg_u8 (by kernel_rfl) (hval 2 5 v2 rfl rfl) hv2
 refine((h x0 .ro x1 .ro x2).out [v0,v1,v2] W (gAll W) [] (.cons hv0 (.cons hv1 (.cons hv2 (.nil _)))) (inv_all (glob_of_laid hL))).mono ?_
 rintro e W' ⟨v,x,g',L',rfl,k1,k2,k3,k4,rfl,rfl⟩
 rw[k1.raw_inv]
 have hb:Below W.heap.size W W':=k3.below
 refine⟨_,rfl,[d0,d1,d2],[],_,[],_,[],hW',trueOk rfl _ _ _,trodAll_mk3 (Below.trod (by kernel_rfl) (by kernel_rfl) (of_decide_eq_true (by kernel_rfl)) ⟨fuel0,h0'⟩ hb (fun x hx=>hW'.lt x (by simp only[List.mem_append];simp_all))) (Below.trod (by kernel_rfl) (by kernel_rfl) (of_decide_eq_true (by kernel_rfl)) ⟨fuel1,h1'⟩ hb (fun x hx=>hW'.lt x (by simp only[List.mem_append];simp_all))) (Below.trod (by kernel_rfl) (by kernel_rfl) (of_decide_eq_true (by kernel_rfl)) ⟨fuel2,h2'⟩ hb (fun x hx=>hW'.lt x (by simp only[List.mem_append];simp_all))),rfl,hb.frame _,fun h=>by cases h⟩
theorem historyPrefixes_said (h: ∀ (x0:List Sto) (t0:Tag) (x1:List Dig) (t1:Tag) (x2:UInt8),FnC Tryz.prog 8 [.slice (x0.map eSto) t0,.slice (x1.map eDig) t1,eU8 x2] (.raw (.bool true))):YtmkdlelpipefbaaGreatDoor.Rows.HistoryPrefixesSaid:=
 OpenClaim.holds_of_wide 8 Tryz.f8 rfl rfl rfl rfl rfl rfl rfl ⟨rfl,rfl,rfl,rfl,rfl⟩ rfl rfl rfl rfl rfl (by as_aux_lemma=>kernel_rfl) Tryz.func8 historyPrefixes_facts
  (by as_aux_lemma=>exact of_decide_eq_true (by kernel_rfl)) (by as_aux_lemma=>(unfold Func.isWrapper;first|(rw[if_pos (by decide+kernel)];kernel_rfl)|(rw[if_neg (by decide+kernel)];exact⟨rfl,rfl⟩)))
  (fun os started H enc _=>historyPrefixes_lifted h os started H enc)
theorem historyPrefixes_card (h:YtmkdlelpipefbaaGreatDoor.Rows.HistoryPrefixesSaid):YtmkdlelpipefbaaGreatDoor.Rows.HistoryPrefixesCardSaid:=
 Claim7.holds_tied_plain_at .later [] [.data,.data,.data] true (true, "bb1caeed9ab2b17266b1962ee6ac5ee78e33a9b874001cf91ae71d01e24f3231") true
  h (fun _ h=>by cases h) (by as_aux_lemma=>kernel_rfl) (fun _ h=>by cases h) YtmkdlelpipefbaaGreatDoor.historyPrefixes_row_tie rfl ⟨rfl,rfl⟩ (by as_aux_lemma=>kernel_rfl) rfl
  (fun f fn hf hfn=>by
   obtain rfl:f=8:=Option.some.inj ((show Tryz.prog.funcNamed "quilt/quiltlaw30.HistoryPrefixes" =some 8 by kernel_rfl).symm.trans hf) |>.symm
   obtain rfl:fn=Tryz.f8:=(Option.some.inj (Tryz.func8.symm.trans hfn)).symm
   exact⟨by as_aux_lemma=>kernel_rfl,fun j t ht=>by
    rw[Tryz.params8]at ht
    have hm:t∈ [23,31,5]:=by simpa using Array.mem_of_getElem? ht
    have hall:([23,31,5].all fun u=>!Tryz.prog.wantsStandIn u)=true:=by as_aux_lemma=>kernel_rfl
    exact(show Tryz.prog.wantsStandIn t=false by simpa using List.all_eq_true.1 hall t hm)⟩)
  (by as_aux_lemma=>kernel_rfl)
end Go.Proofs
