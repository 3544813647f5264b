/- Plain: what a graph's search collects, and that it is the closure. -/
import Derived.Test.YtddlffkdpocmhaaGreatDoorWap
import Derived.Test.YtddlffkdpocmhaaGreatDoorWan
import Derived.Test.YtddlffkdpocmhaaGreatDoorWak
import Derived.Test.YtddlffkdpocmhaaGreatDoorWag
import Derived.Test.YtddlffkdpocmhaaGreatDoorRows
import Derived.LaidMore
import Derived.Stop.Joined
import Derived.Test.YtddlffkdpocmhaaGreatDoorCards
import Derived.Test.YtddlffkdpocmhaaGreatDoorTie
set_option linter.unusedSimpArgs false
set_option linter.unusedVariables false
namespace Go.Proofs
open Go Go.Q

def ndG (G : List (Dig × List Dig)) (d : Dig) : List Dig := (mGet d G).getD []
theorem addO_cons (out : List Dig) (x : Dig) (l : List Dig) : addO out (x :: l) = addO (if x ∈ out then out else out ++ [x]) l := rfl
theorem mem_addO : ∀ {l out : List Dig} {d : Dig}, d ∈ addO out l ↔ d ∈ out ∨ d ∈ l
  | [], out, d => by simp [addO]
  | x :: l, out, d => by
    rw [addO_cons, mem_addO]
    split
    · rename_i h
      constructor
      · rintro (h1 | h1)
        · exact .inl h1
        · exact .inr (List.mem_cons_of_mem _ h1)
      · rintro (h1 | h1)
        · exact .inl h1
        · rcases List.mem_cons.1 h1 with rfl | h1
          · exact .inl h
          · exact .inr h1
    · simp [or_assoc]
theorem addO_nodup : ∀ {l out : List Dig}, out.Nodup → (addO out l).Nodup
  | [], _, h => h
  | x :: l, out, h => by
    rw [addO_cons]
    refine addO_nodup ?_
    split
    · exact h
    · rename_i hx
      refine List.pairwise_append.2 ⟨h, List.pairwise_singleton _ _, fun a ha b hb => ?_⟩
      rw [List.mem_singleton.1 hb]
      rintro rfl
      exact hx ha
theorem addO_prefix : ∀ {l out : List Dig}, out <+: addO out l
  | [], _ => List.prefix_refl _
  | x :: l, out => by
    rw [addO_cons]
    refine List.IsPrefix.trans ?_ addO_prefix
    split
    · exact List.prefix_refl _
    · exact List.prefix_append _ _
/-- The search, some of whose finds have been looked at. -/
structure ClI (nd : Dig → List Dig) (l out : List Dig) (i : Nat) : Prop where
  nodup : out.Nodup
  sub : ∀ d ∈ l, d ∈ out
  reach : ∀ d ∈ out, Q.Reach nd l d
  done : ∀ j (h : j < out.length), j < i → ∀ d ∈ nd out[j], d ∈ out
theorem ClI.start (nd : Dig → List Dig) (l : List Dig) : ClI nd l (addO [] l) 0 :=
  ⟨addO_nodup .nil, fun d hd => mem_addO.2 (.inr hd), fun d hd => .base ((mem_addO.1 hd).elim (fun h => absurd h (by simp)) id), fun _ _ h => absurd h (by omega)⟩
theorem ClI.step {nd : Dig → List Dig} {l out : List Dig} {i : Nat} (h : ClI nd l out i) (hi : i < out.length) : ClI nd l (addO out (nd out[i])) (i + 1) := by
  refine ⟨addO_nodup h.nodup, fun d hd => mem_addO.2 (.inl (h.sub d hd)), fun d hd => ?_, fun j hj hji d hd => ?_⟩
  · rcases mem_addO.1 hd with h1 | h1
    · exact h.reach d h1
    · exact .step (h.reach _ (List.getElem_mem hi)) h1
  · have hjo : j < out.length := by omega
    have e : (addO out (nd out[i]))[j] = out[j] := (addO_prefix.getElem hjo).symm
    rw [e] at hd
    by_cases hj2 : j < i
    · exact mem_addO.2 (.inl (h.done j hjo hj2 d hd))
    · have hje : j = i := by omega
      subst hje
      exact mem_addO.2 (.inr hd)
theorem ClI.fin {nd : Dig → List Dig} {l out : List Dig} {i : Nat} (h : ClI nd l out i) (hi : out.length ≤ i) (d : Dig) : d ∈ out ↔ Q.Reach nd l d := by
  refine ⟨h.reach d, fun hr => ?_⟩
  induction hr with
  | base hd => exact h.sub _ hd
  | step _ hd ih =>
    obtain ⟨j, hj, rfl⟩ := List.mem_iff_getElem.1 ih
    exact h.done j hj (by omega) _ hd
theorem ClI.len {nd : Dig → List Dig} {l out U : List Dig} {i : Nat} (h : ClI nd l out i) (hU : ∀ x ∈ U, ∀ d ∈ nd x, d ∈ U) (hl : ∀ d ∈ l, d ∈ U) : out.length ≤ U.length :=
  nodup_len h.nodup fun d hd => (h.reach d hd).in_ hU hl
theorem sortD_asc {l : List Dig} (h : l.Nodup) : Asc (sortD l) := by
  have h2 : (sortD l).Nodup := (List.mergeSort_perm l _).nodup_iff.2 h
  refine List.pairwise_iff_getElem.2 fun i j hi hj hij => ?_
  have a := List.pairwise_iff_getElem.1 (sortD_sorted l) i j hi hj hij
  have b := List.pairwise_iff_getElem.1 h2 i j hi hj hij
  rcases Dig.tri (sortD l)[i] (sortD l)[j] with h' | h' | h'
  · exact h'
  · exact absurd h' b
  · exact absurd h' a
theorem sortD_mem {l : List Dig} {d : Dig} : d ∈ sortD l ↔ d ∈ l := List.mem_mergeSort

theorem gr_is : ∀ (s : List Sto) (m : List (Dig × List Dig)) (d : Dig), (mGet d (s.foldl (fun m x => mSet x.id (rNeeds x.patch) m) m)).isSome = (decide (d ∈ ids s) || (mGet d m).isSome)
  | [], m, d => by simp [ids]
  | x :: s, m, d => by
    rw [List.foldl_cons, gr_is s, mGet_mSet]
    by_cases e : d = x.id <;> simp [ids, e]
theorem gr_val : ∀ (s : List Sto) (m : List (Dig × List Dig)) (d : Dig) (r : List Dig), mGet d (s.foldl (fun m x => mSet x.id (rNeeds x.patch) m) m) = some r → (∃ x ∈ s, x.id = d ∧ r = rNeeds x.patch) ∨ mGet d m = some r
  | [], m, d, r, h => .inr h
  | x :: s, m, d, r, h => by
    rw [List.foldl_cons] at h
    rcases gr_val s _ d r h with ⟨y, hy, h1, h2⟩ | h1
    · exact .inl ⟨y, List.mem_cons_of_mem _ hy, h1, h2⟩
    · rw [mGet_mSet] at h1
      split at h1
      · rename_i e
        exact .inl ⟨x, List.mem_cons_self, e.symm, (Option.some.inj h1).symm⟩
      · exact .inr h1
theorem gr_some (s : List Sto) (d : Dig) : (mGet d (gr s)).isSome = decide (d ∈ ids s) := by
  rw [gr, gr_is]; simp [mGet]
theorem Valid.ndG {s : List Sto} (v : Valid s) : Go.Proofs.ndG (gr s) = Go.Proofs.ndS s := by
  funext d
  have h1 := gr_some s d
  unfold Go.Proofs.ndG
  cases hg : mGet d (gr s) with
  | none =>
    rw [hg] at h1
    have hd : ¬ d ∈ ids s := by simpa using h1
    have hn : Go.Proofs.getS s d = none := by
      cases hs : Go.Proofs.getS s d with
      | none => rfl
      | some p =>
        obtain ⟨x, hx, e, _⟩ := getS_mem hs
        exact absurd (List.mem_map.2 ⟨x, hx, e⟩) hd
    rw [Go.Proofs.ndS, hn, Option.getD_none, Option.getD_none, needs_zero]
  | some r =>
    rcases gr_val s [] d r hg with ⟨x, hx, e, rfl⟩ | h2
    · subst e
      rw [v.ndS hx]; rfl
    · simp [mGet] at h2
theorem Valid.clo_eq {s : List Sto} (v : Valid s) {l out : List Dig} (hl : ∀ d ∈ l, d ∈ ids s) (ha : Asc out) (hm : ∀ d, d ∈ out ↔ Q.Reach (Go.Proofs.ndG (gr s)) l d) : rClosure s l = (out, 0) := by
  have h1 : allIn (ids s) l = true := by
    unfold allIn
    exact List.all_eq_true.2 fun d hd => by simpa using hl d hd
  unfold rClosure
  rw [if_neg (by simp [h1])]
  congr 1
  refine Asc.ext (iterC_asc (withAll_asc .nil)) ha fun d => ?_
  rw [hm, v.ndG]
  exact mem_iterC (U := ids s) (fun x _ d hd => v.close.nd x d hd) hl (Nat.le_of_eq (ids_len s))
end Go.Proofs
/- Contracts of the program: what can be reached; closures. -/
namespace Go.Proofs
open Go Go.Q
attribute [local irreducible] pwp pops PCalls OpN

/-- What a graph answers. -/
def clG (G : List (Dig × List Dig)) (U l : List Dig) : List Dig × Bool := if allG G l = false then ([], false) else (iterC (ndG G) U.length (withAll [] l), true)
structure GrOk (G : List (Dig × List Dig)) (U : List Dig) : Prop where
  is : ∀ d, (mGet d G).isSome = decide (d ∈ U)
  len : U.length ≤ 100
  cl : ∀ x ∈ U, ∀ d ∈ ndG G x, d ∈ U
  nd : ∀ x, (ndG G x).length ≤ 400
theorem GrOk.all {G : List (Dig × List Dig)} {U l : List Dig} (h : GrOk G U) : allG G l = true ↔ ∀ d ∈ l, d ∈ U := by
  unfold allG
  rw [List.all_eq_true]
  exact ⟨fun k d hd => by have := k d hd; rw [h.is] at this; exact of_decide_eq_true this, fun k d hd => by rw [h.is]; exact decide_eq_true (k d hd)⟩
theorem zeroRow : ZeroE Tryz.prog 25 [.raw (.slice none 0 0)] := zero1 (v := .slice none 0 0) (by kernel_rfl) rfl fun _ => .raw _
set_option maxHeartbeats 1000000 in
theorem reached_fn (G : List (Dig × List Dig)) (U : List Dig) (hG : GrOk G U) (l : List Dig) (t : Tag) (hl : l.length ≤ 400) : FnC Tryz.prog 82 [.fmap (eMap kDig (vSl eDig) G), .slice (l.map eDig) t] (.tuple [.slice ((clG G U l).1.map eDig) .ro, .raw (.bool (clG G U l).2)]) := ⟨by
  refine fn_of Tryz.func82 Tryz.ntmps82 rfl (rs := [.tmp 4, .tmp 5]) rfl rfl fun hb LF => ?_
  refine wf ?_
  refine j_makeMap fun m => ?_
  refine s_alloc fun b6 => ?_
  refine wf ?_
  refine s_alloc (hZ := zeroRow) fun b7 => ?_
  refine wf ?_
  refine s_callR (xs := [.tmp 13]) [.box b6 130 [.raw (.map (some m))], .map m (eMap kDig vBool []), .box b7 25 [.raw (.slice none 0 0)]] LF (f := 115) (cs := [.pt [.fmap (eMap kDig (vSl eDig) G)] 0, .raw (.pointer (some ⟨b6, 0, none⟩)), .raw (.pointer (some ⟨b7, 0, none⟩))]) (.refl _) rfl rfl (List.perm_middle (l₁ := [_, _])).symm _ (coll_fn G l t b6 m b7 [] _ ⟨[], .slice none 0 0, [], fun d => by simp [mGet], .nil none (by simp), rfl⟩ (by simp; omega)) fun r L1 ⟨hr, out0, hC, ho⟩ => ?_
  subst hr
  refine wf ?_
  refine pwp_condB (fun h => ?_) (fun h => ?_)
  · have h0 : allG G l = false := by simpa using h
    refine wf ?_
    refine end2 (hs := List.sublist_append_right _ _) ?_
    rw [clG, if_pos h0]
    exact .tuple2 (.ro _ _) (.refl _)
  have h1 : allG G l = true := by simpa using h
  have hlU := hG.all.1 h1
  rw [clG, if_neg (by simp [h1])]
  have ho := ho h1
  subst ho
  refine wf ?_
  refine pwp_loopS (σ := Nat × List Dig × List Res) (fun k => k.1 ≤ k.2.1.length ∧ ClI (ndG G) l k.2.1 k.1 ∧ Coll b6 m b7 k.2.1 k.2.2) (fun k => U.length - k.1) (fun k => [(2, .pt [.fmap (eMap kDig (vSl eDig) G)] 0), (7, .raw (.pointer (some ⟨b7, 0, none⟩))), (8, .clo 115 [.pt [.fmap (eMap kDig (vSl eDig) G)] 0, .raw (.pointer (some ⟨b6, 0, none⟩)), .raw (.pointer (some ⟨b7, 0, none⟩))]), (9, .raw (.int .i64 k.1))]) (fun k => k.2.2 ++ LF) (0, addO [] l, L1) ⟨by simp, ClI.start _ _, hC⟩ ⟨rfl, rfl, rfl, rfl⟩ (.refl _) ?_
  rintro ⟨k, out, L2⟩ ⟨hk, hI, met, v, R, hm, hv, rfl⟩
  dsimp only at hk hI hm hv ⊢
  have hol := hI.len hG.cl hlU
  have hUl := hG.len
  obtain ⟨o, c, rfl⟩ := hv.slice
  refine wf ?_
  refine s_lenR rfl ?_
  refine wf ?_
  refine pwp_condD (fun hc => ?_) (fun hc => ?_)
  · have hlt : k < out.length := by omega
    have hne : out ≠ [] := fun e => by subst e; simp at hlt
    obtain ⟨_, r, cur, rest, rfl, rfl, hcur, hsz, hlc⟩ := hv.inv hne
    refine wn ?_
    refine pwp_drawN 7 ?_ ?_
    · decide +kernel
    refine wf ?_
    refine s_ixRow (k := k) rfl rfl hlt ?_
    refine s_ldRow (f := eDig) (a0 := out[k]) rfl (List.mem_append_left _ (List.mem_cons_of_mem _ (List.mem_cons_of_mem _ (List.mem_cons_of_mem _ List.mem_cons_self)))) (by rw [hcur, Nat.zero_add]; exact row_at vDig_len out k hlt rest) (by omega) ?_
    refine wf ?_
    have hin : out[k] ∈ U := (hI.reach _ (List.getElem_mem hlt)).in_ hG.cl hlU
    have hA : allG G (ndG G out[k]) = true := hG.all.2 (hG.cl _ hin)
    have hnd := hG.nd out[k]
    refine s_callR (xs := [.tmp 28]) (.box b6 130 [.raw (.map (some m))] :: .map m (eMap kDig vBool met) :: .box b7 25 [.raw (.slice (some ⟨r, 0, none⟩) out.length c)] :: [.raw r (.cells cur 37 (0, 0))]) LF (f := 115) (cs := [.pt [.fmap (eMap kDig (vSl eDig) G)] 0, .raw (.pointer (some ⟨b6, 0, none⟩)), .raw (.pointer (some ⟨b7, 0, none⟩))]) (.refl _) rfl rfl (.refl _) _ (coll_fn G (ndG G out[k]) .ro b6 m b7 out _ ⟨met, _, _, hm, hv, rfl⟩ (by omega)) fun r L3 ⟨hr, out1, hC1, ho1⟩ => ?_
    have ho1 := ho1 hA
    subst ho1
    refine wf ?_
    refine wf ?_
    have hpl := (addO_prefix (out := out) (l := ndG G out[k])).length_le
    exact ⟨(k + 1, addO out (ndG G out[k]), L3), ⟨by dsimp only; omega, hI.step hlt, hC1⟩, by dsimp only; omega, ⟨rfl, rfl, rfl, rfl⟩, .refl _⟩
  have hfin := hI.fin (by omega)
  have hmx : (sortD out).length ≤ maxN ∧ (sortD out).length * 32 ≤ maxN := by
    have : maxN = 140737488355328 := rfl
    have h2 : (sortD out).length = out.length := List.length_mergeSort _
    omega
  refine wf ?_
  refine s_callR (xs := [.tmp 30, .func 83]) R (.box b6 130 [.raw (.map (some m))] :: .map m (eMap kDig vBool met) :: .box b7 25 [.raw (.slice o out.length c)] :: LF) (f := 110) (cs := []) (le_func _) rfl rfl perm_three _ (sort_fn out _ R hv (by omega)) fun r L3 ⟨v2, e2, hv2⟩ => ?_
  subst e2
  refine pops_nil ?_
  refine pwp_perm perm_three.symm ?_
  refine pwp_seq ?_
  refine pwp_region (by kernel_rfl) ?_
  refine wo ?_
  refine pops_nil ?_
  refine pwp_freezeRow (f := eDig) 4 hv2 hmx perm_three rfl ?_
  refine wf ?_
  refine end2 ?_
  have e : sortD out = iterC (ndG G) U.length (withAll [] l) := by
    refine Asc.ext (sortD_asc hI.nodup) (iterC_asc (withAll_asc .nil)) fun d => ?_
    rw [sortD_mem, hfin]
    exact (mem_iterC hG.cl hlU (Nat.le_refl _)).symm
  rw [e]
  exact .refl _⟩
theorem rNeeds_asc (p : Pat) : Asc (rNeeds p) := by
  unfold rNeeds
  split
  · exact .nil
  · exact needs_asc _ _ (withAll_asc .nil)
theorem ndS_asc (s : List Sto) (d : Dig) : Asc (ndS s d) := rNeeds_asc _
theorem Valid.grOk {s : List Sto} (v : Valid s) : GrOk (gr s) (ids s) := by
  have h8 := v.close.1.1
  refine ⟨gr_some s, by rw [ids_len]; omega, fun x _ d hd => ?_, fun x => ?_⟩
  · rw [v.ndG] at hd
    exact v.close.nd x d hd
  · rw [v.ndG]
    have := v.close.small (ndS_asc s x) (v.close.nd x)
    omega
theorem Valid.clG {s : List Sto} (v : Valid s) (l : List Dig) : (Go.Proofs.clG (gr s) (ids s) l).1 = (rClosure s l).1 ∧ (rClosure s l).2 = if (Go.Proofs.clG (gr s) (ids s) l).2 = false then 7 else 0 := by
  have h1 : allG (gr s) l = allIn (ids s) l := by
    unfold allG allIn
    congr 1
    funext d
    exact gr_some s d
  unfold Go.Proofs.clG rClosure
  rw [h1, v.ndG, ids_len]
  split <;> simp
instance ClosureP_ct (s : List Sto) (l : List Dig) (t u : Tag) [hs : Small (Valid s)] [hl : Small (l.length ≤ 400)] : FnC Tryz.prog 39 [.slice (s.map eSto) t, .slice (l.map eDig) u] (.tuple [.slice ((rClosure s l).1.map eDig) .ro, .raw (.int .i64 (rClosure s l).2)]) := ⟨by
  have v := hs.out
  have i1 : Small (goodS s) := ⟨v.close.1⟩
  have i2 := fun t => reached_fn (gr s) (ids s) v.grOk l t hl.out
  refine fn_of Tryz.func39 Tryz.ntmps39 rfl (rs := [.tmp 4, .tmp 5]) rfl rfl fun hb LF => ?_
  obtain ⟨e1, e2⟩ := v.clG l
  refine wf ?_
  refine pwp_condB (fun h => ?_) (fun h => ?_)
  · have h0 : (clG (gr s) (ids s) l).2 = false := by simpa using h
    rw [if_pos h0] at e2
    have e3 : (rClosure s l).1 = [] := by
      unfold rClosure at e2 ⊢
      split
      · rfl
      · rename_i h3
        rw [if_neg h3] at e2
        simp at e2
    refine wf ?_
    refine end2 ?_
    rw [e2, e3]
    exact .tuple2 (.ro _ _) (.refl _)
  · have h0 : (clG (gr s) (ids s) l).2 = true := by simpa using h
    rw [h0] at e2
    simp at e2
    refine wf ?_
    refine end2 ?_
    rw [e2, ← e1]
    exact .refl _⟩
end Go.Proofs
/- Contracts of the program: a search's start: the closures of all patches. -/
namespace Go.Proofs
open Go Go.Q
attribute [local irreducible] pwp pops PCalls OpN

def cm (l : List Dig) : List (Dig × Bool) := l.foldl (fun m x => mSet x true m) []
theorem cm_take {l : List Dig} {k : Nat} (h : k < l.length) : cm (l.take (k + 1)) = mSet l[k] true (cm (l.take k)) := by
  rw [List.take_succ_eq_append_getElem h, cm, List.foldl_append]; rfl
theorem mGet_cm (l : List Dig) (d : Dig) : (mGet d (cm l)).getD false = decide (d ∈ l) := by
  have key : ∀ (l : List Dig) (m : List (Dig × Bool)), (mGet d (l.foldl (fun m x => mSet x true m) m)).getD false = (decide (d ∈ l) || (mGet d m).getD false) := by
    intro l
    induction l with
    | nil => intro m; simp
    | cons x l ih =>
      intro m
      rw [List.foldl_cons, ih, mGet_mSet]
      by_cases e : d = x <;> simp [e]
  rw [cm, key]; simp [mGet]
/-- The closures of some of a set's patches. -/
def cM (s l : List Sto) : List (Dig × List (Dig × Bool)) := l.foldl (fun m x => mSet x.id (cm (cloS s x.id)) m) []
theorem cM_take {s l : List Sto} {k : Nat} (h : k < l.length) : cM s (l.take (k + 1)) = mSet l[k].id (cm (cloS s l[k].id)) (cM s (l.take k)) := by
  rw [List.take_succ_eq_append_getElem h, cM, List.foldl_append]; rfl
theorem mGet_cM (s l : List Sto) (p : Dig) : mGet p (cM s l) = if p ∈ ids l then some (cm (cloS s p)) else none := by
  have key : ∀ (l : List Sto) (m : List (Dig × List (Dig × Bool))), mGet p (l.foldl (fun m x => mSet x.id (cm (cloS s x.id)) m) m) = if p ∈ ids l then some (cm (cloS s p)) else mGet p m := by
    intro l
    induction l with
    | nil => intro m; simp [ids]
    | cons x l ih =>
      intro m
      rw [List.foldl_cons, ih, mGet_mSet]
      by_cases e : p = x.id
      · subst e; simp [ids]
      · by_cases h : p ∈ ids l
        · have : p ∈ ids (x :: l) := by simp only [ids, List.map_cons]; exact List.mem_cons_of_mem _ h
          simp [h, this]
        · have : ¬ p ∈ ids (x :: l) := by simp only [ids, List.map_cons, List.mem_cons, not_or]; exact ⟨e, h⟩
          simp [h, this, e]
  rw [cM, key]; simp [mGet]
theorem cloS_no {s : List Sto} {p : Dig} (h : ¬ p ∈ ids s) : cloS s p = [] := by
  have : allIn (ids s) [p] = false := by simp [allIn, h]
  rw [cloS, rClosure, if_pos this]
/-- What the closures say. -/
theorem isC_eq (s : List Sto) (p d : Dig) : (mGet d ((mGet p (cM s s)).getD [])).getD false = decide (d ∈ cloS s p) := by
  rw [mGet_cM]
  by_cases h : p ∈ ids s
  · rw [if_pos h, Option.getD_some, mGet_cm]
  · rw [if_neg h, cloS_no h]; simp [mGet]
theorem Valid.clo_len {s : List Sto} (v : Valid s) (p : Dig) : (cloS s p).length ≤ 8 := by
  by_cases h : p ∈ ids s
  · have ha : allIn (ids s) [p] = true := by simp [allIn, h]
    unfold cloS rClosure
    rw [if_neg (by simp [ha])]
    refine v.close.small (iterC_asc (withAll_asc .nil)) (iterC_in (U := ids s) (fun x _ d hd => v.close.nd x d hd) fun d hd => ?_)
    rcases mem_withAll.1 hd with h' | h'
    · cases h'
    · rw [List.mem_singleton.1 h']; exact h
  · rw [cloS_no h]; simp
def cV (C : List (Dig × List (Dig × Bool))) : List (Dig × PV) := C.map fun p => (p.1, vMap kDig vBool p.2)
theorem cV_set (d : Dig) (m : List (Dig × Bool)) (C : List (Dig × List (Dig × Bool))) : mSet d (.fmap (eMap kDig vBool m)) (cV C) = cV (mSet d m C) := mSet_map (vMap kDig vBool) d m C
theorem cV_map (C : List (Dig × List (Dig × Bool))) : eMap kDig vId (cV C) = eMap kDig (vMap kDig vBool) C := eMap_vId _ _ _
/-- A search. -/
def eSea (s : List Sto) : List PV := [.slice (s.map eSto) .ro] ++ [.fmap (eMap kDig (vMap kDig vBool) (cM s s))]
@[simp] theorem len_eSea (s : List Sto) : (eSea s).length = 2 := rfl
instance : Len eSea 2 := ⟨len_eSea⟩
instance (s : List Sto) : Flat (eSea s) := by unfold eSea; infer_instance
instance : FlatF eSea := ⟨fun c => (inferInstance : Flat (eSea c)).out⟩
instance (s : List Sto) : EncC (.agg (eSea s)) eSea s := ⟨Cells.agg _⟩
instance fld_Sea_set (s : List Sto) : Fld (eSea s) 0 [.slice (s.map eSto) .ro] := fld_here
instance fld_Sea_clo (s : List Sto) : Fld (eSea s) 1 [.fmap (eMap kDig (vMap kDig vBool) (cM s s))] := fld_skip (n := 1) rfl fld_last
instance at_Sea_set (s : List Sto) : At (eSea s) 0 (.slice (s.map eSto) .ro) := at_fld (fld_Sea_set s)
instance at_Sea_clo (s : List Sto) : At (eSea s) 1 (.fmap (eMap kDig (vMap kDig vBool) (cM s s))) := at_fld (fld_Sea_clo s)
instance : ZeroE Tryz.prog 87 [.slice [] .ro, .raw (.map none)] := ZeroE.of (us := [PV.slice [] .ro, .raw (.map none)].map zv) (by kernel_rfl) (by kernel_rfl)
instance put2_0 {a b c : PV} : Put [a, b] 0 [c] [c, b] := put_here (a := [a]) (b := [b]) (new := [c]) rfl
instance put2_1 {a b c : PV} : Put [a, b] 1 [c] [a, c] := put_skip (a := [a]) (n := 1) (off := 0) rfl (put_last (a := [b]) (new := [c]) rfl)
instance {a b : PV} : LenIs [a, b] 2 := ⟨rfl⟩
instance {b : Option Nat} : CellsC (.raw (.map b)) [.raw (.map b)] := ⟨.one (Flat.out)⟩
set_option maxHeartbeats 2000000 in
instance begin_ct (s : List Sto) (t : Tag) [hs : Small (Valid s)] : FnC Tryz.prog 67 [.slice (s.map eSto) t] (.tuple [.agg (eSea s), .slice ((ids s).map eDig) .ro]) := ⟨by
  have v := hs.out
  have h8 := v.close.1.1
  refine fn_of Tryz.func67 Tryz.ntmps67 rfl (rs := [.cell 2 87, .tmp 3]) rfl rfl fun hb LF => ?_
  refine wf ?_
  refine s_alloc fun b2 => ?_
  refine wf ?_
  refine j_makeMap fun bo => ?_
  refine wf ?_
  refine s_alloc fun b4 => ?_
  refine wf ?_
  refine pwp_tok 32 ?_
  refine pwp_perm (List.perm_middle (l₁ := [_, _])) ?_
  refine pwp_loopS (σ := Nat × Tag) (fun k => k.1 ≤ s.length) (fun k => s.length - k.1) (fun k => [(0, .slice (s.map eSto) t), (2, .raw (.pointer (some ⟨b2, 0, none⟩))), (4, .raw (.pointer (some ⟨b4, 0, none⟩))), (5, .slice ((ids (s.take k.1)).map eDig) k.2), (15, .slice (s.map eSto) t), (16, .raw (.int .i64 s.length)), (17, .raw (.int .i64 k.1))]) (fun k => .map bo (eMap kDig vId (cV (cM s (s.take k.1)))) :: .tok k.2 (ids (s.take k.1)).length 32 :: .box b4 87 [.slice (s.map eSto) .ro, .raw (.map (some bo))] :: .box b2 87 [.slice [] .ro, .raw (.map none)] :: LF) (0, .nil) (by simp) ⟨rfl, rfl, rfl, rfl, rfl, rfl, rfl⟩ (.refl _) ?_
  rintro ⟨k, v5⟩ hk
  dsimp only at hk ⊢
  refine wf ?_
  refine pwp_condD (fun hc => ?_) (fun hc => ?_)
  · have hlt : k < s.length := by omega
    have hil : (ids (s.take k)).length = k := by rw [ids_len, List.length_take]; omega
    have hik : ids (s.take (k + 1)) = ids (s.take k) ++ [s[k].id] := by simp only [ids]; rw [List.take_succ_eq_append_getElem hlt, List.map_append]; rfl
    have i1 : Small ([s[k].id].length ≤ 400) := ⟨by simp⟩
    refine wz fun b7 => ?_
    refine pwp_freezeD 7 ?_
    refine wfa fun v' => ?_
    rw [← hik]
    refine j_makeMap fun bi => ?_
    refine wf ?_
    obtain ⟨l, hl⟩ : ∃ l, l = cloS s s[k].id := ⟨_, rfl⟩
    have hl2 : (rClosure s [s[k].id]).1 = l := hl.symm
    have hl8 : l.length ≤ 8 := hl ▸ v.clo_len _
    have hcm := cM_take (s := s) hlt
    rw [hl2]
    refine pwp_loopS (σ := Nat) (fun j => j ≤ l.length) (fun j => l.length - j) (fun j => [(0, .slice (s.map eSto) t), (2, .raw (.pointer (some ⟨b2, 0, none⟩))), (4, .raw (.pointer (some ⟨b4, 0, none⟩))), (5, .slice ((ids (s.take (k + 1))).map eDig) v'), (7, .pt (eSto s[k]) 0), (15, .slice (s.map eSto) t), (16, .raw (.int .i64 s.length)), (17, .raw (.int .i64 k)), (39, .slice (l.map eDig) .ro), (40, .raw (.int .i64 l.length)), (41, .raw (.int .i64 j))]) (fun j => .map bo (eMap kDig vId (mSet s[k].id (.raw (.map (some bi))) (cV (cM s (s.take k))))) :: .map bi (eMap kDig vBool (cm (l.take j))) :: .tok v' (ids (s.take (k + 1))).length 32 :: .box b4 87 [.slice (s.map eSto) .ro, .raw (.map (some bo))] :: .box b2 87 [.slice [] .ro, .raw (.map none)] :: LF) 0 (by simp) ⟨rfl, rfl, rfl, rfl, rfl, rfl, rfl, rfl, rfl, rfl, rfl⟩ (.refl _) ?_
    intro j hj
    refine wf ?_
    refine pwp_condD (fun hc2 => ?_) (fun hc2 => ?_)
    · have hltj : j < l.length := by omega
      refine wz fun b11 => ?_
      refine pwp_freezeD 11 ?_
      refine wn ?_
      refine pwp_drawN 6 ?_ ?_
      · decide +kernel
      refine wf ?_
      refine s_mapUpd (κ := Dig) (ek := kDig) (ev := vBool) (k0 := l[j]) (x0 := true) (b := bi) (l := cm (l.take j)) (L' := .map bo (eMap kDig vId (mSet s[k].id (.raw (.map (some bi))) (cV (cM s (s.take k))))) :: .tok v' (ids (s.take (k + 1))).length 32 :: .box b4 87 [.slice (s.map eSto) .ro, .raw (.map (some bo))] :: .box b2 87 [.slice [] .ro, .raw (.map none)] :: LF) (by
        show vId _ = _
        rw [mGet_mSet, if_pos rfl]
        rfl) (.swap _ _ _) (.refl _) (.refl _) ?_
      refine pops_nil ?_
      refine pwp_perm (.swap _ _ _) ?_
      refine wf ?_
      refine ⟨j + 1, by omega, by dsimp only; omega, ⟨rfl, rfl, rfl, rfl, rfl, rfl, rfl, rfl, rfl, rfl, rfl⟩, ?_⟩
      dsimp only
      rw [cm_take hltj]
      exact .refl _
    · refine pwp_exit ?_
      rw [List.take_of_length_le (l := l) (i := j) (by omega)]
      refine pwp_freezeMR (.swap _ _ _) (ResLe.mSet _ _) ?_
      rw [cV_set, hl, ← hcm]
      refine wf ?_
      exact ⟨(k + 1, v'), by dsimp only; omega, by dsimp only; omega, ⟨rfl, rfl, rfl, rfl, rfl, rfl, rfl⟩, .refl _⟩
  · refine pwp_exit ?_
    rw [List.take_of_length_le (by omega)]
    refine pwp_freezeMR (r' := .box b4 87 [.slice (s.map eSto) .ro, .fmap (eMap kDig vId (cV (cM s s)))]) (.cons _ (.swap _ _ _)) (ResLe.box rfl fun i h1 h2 => ?_) ?_
    · match i, h1, h2 with
      | 0, _, _ => exact .inl rfl
      | 1, _, _ => exact .inr ⟨rfl, rfl⟩
    rw [cV_map]
    refine wf ?_
    refine endC1 rfl ?_
    exact .tuple2 (.refl _) (.ro _ _)⟩
end Go.Proofs
/- Contracts of the program: what a search asks. -/
namespace Go.Proofs
open Go Go.Q
attribute [local irreducible] pwp pops PCalls OpN

set_option maxHeartbeats 1000000 in
instance parts_ct (s : List Sto) (left : List Dig) (t : Tag) (p : Dig) [hl : Small (left.length ≤ 1000000)] : FnC Tryz.prog 114 [.agg (eSea s), .slice (left.map eDig) t, .agg (eDig p)] (.tuple [.slice ((inC (cloS s p) left).map eDig) .ro, .slice ((outC (cloS s p) left).map eDig) .ro]) := ⟨by
  have hl := hl.out
  refine fn_of Tryz.func114 Tryz.ntmps114 rfl (rs := [.tmp 6, .tmp 7]) rfl rfl fun hb LF => ?_
  refine wf ?_
  refine pwp_tok 32 ?_
  refine pwp_tok 32 ?_
  refine pwp_loopS (σ := Nat × (List Dig × Tag) × (List Dig × Tag)) (fun k => k.1 ≤ left.length ∧ k.2.1.1 = inC (cloS s p) (left.take k.1) ∧ k.2.2.1 = outC (cloS s p) (left.take k.1)) (fun k => left.length - k.1) (fun k => [(3, .pt (eSea s) 0), (5, .pt (eDig p) 0), (8, .slice (k.2.1.1.map eDig) k.2.1.2), (9, .slice (k.2.2.1.map eDig) k.2.2.2), (12, .slice (left.map eDig) t), (13, .raw (.int .i64 left.length)), (14, .raw (.int .i64 k.1))]) (fun k => .tok k.2.1.2 k.2.1.1.length 32 :: .tok k.2.2.2 k.2.2.1.length 32 :: LF) (0, ([], .nil), ([], .nil)) ⟨by simp, by simp [inC], by simp [outC]⟩ ⟨rfl, rfl, rfl, rfl, rfl, rfl, rfl⟩ (.refl _) ?_
  rintro ⟨k, ⟨a, va⟩, ⟨b, vb⟩⟩ ⟨hk, ha, hb2⟩
  dsimp only at hk ha hb2 ⊢
  have hal : a.length ≤ k := by
    rw [ha]; exact Nat.le_trans (List.length_filter_le _ _) (by rw [List.length_take]; omega)
  have hbl : b.length ≤ k := by
    rw [hb2]; exact Nat.le_trans (List.length_filter_le _ _) (by rw [List.length_take]; omega)
  refine wf ?_
  refine pwp_condD (fun hc => ?_) (fun hc => ?_)
  · have hlt : k < left.length := by omega
    have e1 := inC_take (c := cloS s p) hlt
    have e2 := outC_take (c := cloS s p) hlt
    have hC := isC_eq s p left[k]
    refine wz fun b11 => ?_
    refine pwp_freezeD 11 ?_
    refine wf ?_
    refine pwp_condB (fun h => ?_) (fun h => ?_)
    · rw [hC] at h
      have h := of_decide_eq_true h
      rw [if_pos h] at e1 e2
      rw [List.append_nil] at e2
      refine wfa fun v' => ?_
      refine ⟨(k + 1, (a ++ [left[k]], v'), (b, vb)), ⟨by dsimp only; omega, by dsimp only; rw [e1, ha], by dsimp only; rw [e2, hb2]⟩, by dsimp only; omega, ⟨rfl, rfl, rfl, rfl, rfl, rfl, rfl⟩, .refl _⟩
    · rw [hC] at h
      have h := of_decide_eq_false h
      rw [if_neg h] at e1 e2
      rw [List.append_nil] at e1
      refine wfa fun v' => ?_
      refine ⟨(k + 1, (a, va), (b ++ [left[k]], v')), ⟨by dsimp only; omega, by dsimp only; rw [e1, ha], by dsimp only; rw [e2, hb2]⟩, by dsimp only; omega, ⟨rfl, rfl, rfl, rfl, rfl, rfl, rfl⟩, .refl _⟩
  · rw [List.take_of_length_le (by omega)] at ha hb2
    refine wf ?_
    refine end2 ?_
    rw [ha, hb2]
    exact .tuple2 (.ro _ _) (.ro _ _)⟩
set_option maxHeartbeats 1000000 in
instance questionP_ct (s : List Sto) (left : List Dig) (t : Tag) [hl : Small (left.length ≤ 1000000)] : FnC Tryz.prog 71 [.agg (eSea s), .slice (left.map eDig) t] (.tuple [.agg (eDig (questP (cloS s) left)), .raw (.bool (decide ((1 : Int) < (left.length : Int))))]) := ⟨by
  have hl2 := hl.out
  refine fn_of Tryz.func71 Tryz.ntmps71 rfl (rs := [.cell 4 37, .tmp 5]) rfl rfl fun hb LF => ?_
  refine wf ?_
  refine s_alloc fun b4 => ?_
  refine wf ?_
  refine s_alloc fun b6 => ?_
  refine wf ?_
  refine pwp_loopS (σ := Nat × Dig × Int) (fun k => k.1 ≤ left.length ∧ (k.2.1, k.2.2) = quest (cloS s) left (left.take k.1) (Dig.zero, -1)) (fun k => left.length - k.1) (fun k => [(1, .slice (left.map eDig) t), (2, .pt (eSea s) 0), (4, .raw (.pointer (some ⟨b4, 0, none⟩))), (6, .raw (.pointer (some ⟨b6, 0, none⟩))), (7, .raw (.int .i64 k.2.2)), (13, .slice (left.map eDig) t), (14, .raw (.int .i64 left.length)), (15, .raw (.int .i64 k.1))]) (fun k => .box b6 37 (eDig k.2.1) :: .box b4 37 (eDig Dig.zero) :: LF) (0, Dig.zero, -1) ⟨by simp, by simp [quest]⟩ ⟨rfl, rfl, rfl, rfl, rfl, rfl, rfl, rfl⟩ (.refl _) ?_
  rintro ⟨k, best, most⟩ ⟨hk, hq⟩
  dsimp only at hk hq ⊢
  refine wf ?_
  refine pwp_condD (fun hc => ?_) (fun hc => ?_)
  · have hlt : k < left.length := by omega
    have e : quest (cloS s) left (left.take (k + 1)) (Dig.zero, -1) = if most < (even (cloS s) left left[k] : Int) then (left[k], (even (cloS s) left left[k] : Int)) else (best, most) := by
      unfold quest at hq ⊢
      rw [List.take_succ_eq_append_getElem hlt, List.foldl_append, ← hq]; rfl
    have e2 : (even (cloS s) left left[k] : Int) = min ((inC (cloS s left[k]) left).length : Int) ((outC (cloS s left[k]) left).length : Int) := by unfold even; omega
    rw [e2] at e
    refine wz fun b9 => ?_
    refine pwp_freezeD 9 ?_
    refine wf ?_
    refine pwp_condD (fun h => ?_) (fun h => ?_)
    · rw [if_pos h] at e
      refine wf ?_
      exact ⟨(k + 1, left[k], min ((inC (cloS s left[k]) left).length : Int) ((outC (cloS s left[k]) left).length : Int)), ⟨by dsimp only; omega, e.symm⟩, by dsimp only; omega, ⟨rfl, rfl, rfl, rfl, rfl, rfl, rfl, rfl⟩, .refl _⟩
    · rw [if_neg h] at e
      refine wf ?_
      exact ⟨(k + 1, best, most), ⟨by dsimp only; omega, e.symm⟩, by dsimp only; omega, ⟨rfl, rfl, rfl, rfl, rfl, rfl, rfl, rfl⟩, .refl _⟩
  · rw [List.take_of_length_le (by omega)] at hq
    have e : questP (cloS s) left = best := by rw [questP, ← hq]
    refine wf ?_
    refine endC1 rfl ?_
    rw [e]
    exact .refl _⟩
/-- The candidates behind an answer. -/
def aft (s : List Sto) (left : List Dig) (p : Dig) (bad : Bool) : List Dig := if bad = true then inC (cloS s p) left else outC (cloS s p) left
instance after_ct (s : List Sto) (left : List Dig) (t : Tag) (p : Dig) (bad : Bool) [hl : Small (left.length ≤ 1000000)] : FnC Tryz.prog 74 [.agg (eSea s), .slice (left.map eDig) t, .agg (eDig p), .raw (.bool bad)] (.slice ((aft s left p bad).map eDig) .ro) := ⟨by
  refine fn_of Tryz.func74 Tryz.ntmps74 rfl (rs := [.tmp 8]) rfl rfl fun hb LF => ?_
  refine wf ?_
  refine pwp_condB (fun h => ?_) (fun h => ?_)
  · refine wf ?_
    refine end1 (.ros ?_)
    rw [aft, if_pos h]
  · refine wf ?_
    refine end1 (.ros ?_)
    rw [aft, if_neg (by simp [h])]⟩
end Go.Proofs
/- Contracts of the program: how many questions are enough. -/
namespace Go.Proofs
open Go Go.Q
attribute [local irreducible] pwp pops PCalls OpN PYield

def dCaps (s : List Sto) (left : List Dig) (b : Int) : List PV := [.pt (eSea s) 0, .pt [.slice (left.map eDig) .ro] 0, .pt [.raw (.int .i64 b)] 0]
def eI1 (n : Int) : List PV := [.raw (.int .i64 n)]
instance depths_ct (s : List Sto) (left : List Dig) (t : Tag) (b : Int) : FnC Tryz.prog 68 [.agg (eSea s), .slice (left.map eDig) t, .raw (.int .i64 b)] (.clo 112 (dCaps s left b)) := ⟨by
  refine fn_of Tryz.func68 Tryz.ntmps68 rfl (rs := [.tmp 6]) rfl rfl fun hb LF => ?_
  refine wf ?_
  refine end1 (.of_eq ?_)
  rfl⟩
theorem aft_len (s : List Sto) (left : List Dig) (p : Dig) (bad : Bool) : (aft s left p bad).length ≤ left.length := by
  unfold aft
  split <;> exact List.length_filter_le _ _
theorem aft_sub {s : List Sto} {left : List Dig} {p : Dig} {bad : Bool} {d : Dig} (h : d ∈ aft s left p bad) : d ∈ left := by
  unfold aft at h
  split at h <;> exact (List.mem_filter.1 h).1
theorem aft_nodup {s : List Sto} {left : List Dig} {p : Dig} {bad : Bool} (h : left.Nodup) : (aft s left p bad).Nodup := by
  unfold aft
  split <;> exact h.filter _
/-- Both answers leave fewer. -/
theorem Valid.less {s : List Sto} (v : Valid s) {left : List Dig} (hl : ∀ x ∈ left, x ∈ ids s) (hn : left.Nodup) (h2 : 2 ≤ left.length) (bad : Bool) : (aft s left (questP (cloS s) left) bad).length < left.length := by
  have hP := v.parts hl hn
  have h := (questR_pos (cloS s) hP h2).1
  rw [← questP_eq (cloS s) hP h2] at h
  have hs := inC_len_add (cloS s (questP (cloS s) left)) left
  unfold even at h
  unfold aft
  split <;> omega
set_option maxHeartbeats 1000000 in
theorem depths_few (s : List Sto) (left : List Dig) (b : Int) (h : left.length < 2) : PIter Tryz.prog 112 (dCaps s left b) eI1 [] := by
  intro l J Jx hY L hJ
  have i1 : Small (left.length ≤ 1000000) := ⟨by omega⟩
  have e : decide ((1 : Int) < (left.length : Int)) = false := decide_eq_false (by omega)
  refine pcalls_bd Tryz.func112 rfl Tryz.ntmps112 (rs := []) rfl rfl fun hb LF => ?_
  refine wf ?_
  refine s_alloc fun b5 => ?_
  rw [e]
  refine wf ?_
  exact ⟨trivial, _, L, .nil, .cons _ (.refl _), .inl hJ⟩
set_option maxHeartbeats 4000000 in
theorem depths_iter {s : List Sto} (v : Valid s) : ∀ (n : Nat) (left : List Dig) (b : Int), left.length ≤ n → (∀ x ∈ left, x ∈ ids s) → left.Nodup → 0 ≤ b → b + n ≤ 1000000 → PIter Tryz.prog 112 (dCaps s left b) eI1 (depthsP (cloS s) n left b)
  | 0, left, b, hn, _, _, _, _ => depths_few s left b (by omega)
  | n + 1, left, b, hn, hl, hd, hb0, hbn => by
    by_cases h2 : left.length < 2
    · rw [depthsP, if_pos h2]
      exact depths_few s left b h2
    have ih := fun (bad : Bool) => depths_iter v n (aft s left (questP (cloS s) left) bad) (b + 1) (by have := v.less hl hd (by omega) bad; omega) (fun x hx => hl x (aft_sub hx)) (aft_nodup hd) (by omega) (by omega)
    obtain ⟨p, hp⟩ : ∃ p, p = questP (cloS s) left := ⟨_, rfl⟩
    rw [← hp] at ih
    obtain ⟨D, hD⟩ : ∃ D : Bool → List Int, D = fun bad => depthsP (cloS s) n (aft s left p bad) (b + 1) := ⟨_, rfl⟩
    have hxs : depthsP (cloS s) (n + 1) left b = (b + 1) :: [true, false].flatMap D := by
      rw [depthsP, if_neg h2, ← hp, hD]
      simp [aft]
    rw [hxs]
    intro l J Jx hY L hJ
    have i1 : Small (left.length ≤ 1000000) := ⟨by omega⟩
    have e : decide ((1 : Int) < (left.length : Int)) = true := decide_eq_true (by omega)
    refine pcalls_bd Tryz.func112 rfl Tryz.ntmps112 (rs := []) rfl rfl fun hb LF => ?_
    refine wf ?_
    refine s_alloc fun b5 => ?_
    rw [e, ← hp]
    refine wo ?_
    refine pops_nil ?_
    refine pwp_freezeD 5 ?_
    refine wf ?_
    refine s_yield L LF rfl rfl rfl (.refl _) _ (hY [] (b + 1) L ⟨_, rfl⟩ hJ) fun bo L' hR => ?_
    refine wf ?_
    rcases hR with ⟨rfl, hJ1⟩ | ⟨rfl, hJx⟩
    · refine wf ?_
      refine pwp_loopS (σ := Nat × List Res) (fun k => k.1 ≤ 2 ∧ J ((b + 1) :: ([true, false].take k.1).flatMap D) k.2) (fun k => 2 - k.1) (fun k => [(1, .pt (eSea s) 0), (2, .pt [.slice (left.map eDig) .ro] 0), (3, .pt [.raw (.int .i64 b)] 0), (4, .pt [.raw (.func (.yield l) #[] #[])] 0), (5, .pt (eDig p) 0), (25, .slice ([true, false].map eB) .ro), (26, .raw (.int .i64 2)), (27, .raw (.int .i64 k.1))]) (fun k => k.2 ++ LF) (0, L') ⟨by simp, hJ1⟩ ⟨rfl, rfl, rfl, rfl, rfl, rfl, rfl, rfl⟩ (.refl _) ?_
      rintro ⟨k, L1⟩ ⟨hk, hJ2⟩
      dsimp only at hk hJ2 ⊢
      refine wf ?_
      refine pwp_condD (fun hc => ?_) (fun hc => ?_)
      · have hlt : k < [true, false].length := by simp only [List.length_cons, List.length_nil]; omega
        have ht : [true, false].take (k + 1) = [true, false].take k ++ [[true, false][k]] := List.take_succ_eq_append_getElem hlt
        have hpre : (b + 1) :: ([true, false].take (k + 1)).flatMap D <+: (b + 1) :: [true, false].flatMap D := by
          refine (List.prefix_cons_inj _).2 ⟨([true, false].drop (k + 1)).flatMap D, ?_⟩
          rw [← List.flatMap_append, List.take_append_drop]
        rw [ht, List.flatMap_append] at hpre
        have i2 := aft_len s left p [true, false][k]
        refine wf ?_
        refine pwp_rangeFunc (ih [true, false][k]) [40] (σ := List Res) (fun pre s' => J ((b + 1) :: (([true, false].take k).flatMap D ++ pre)) s') (fun pre s' => Jx ((b + 1) :: (([true, false].take k).flatMap D ++ pre)) s') (fun s' LF' => s' ++ LF') L1 LF ?_ rfl (fun _ => rfl) (by simp) (fun s' LF' => by rw [List.append_nil]) (.refl _) (by rw [List.append_nil]; exact hJ2) ?_ ?_ ?_
        · exact .refl _
        · intro pre x s' LF' hpx hI
          refine wf ?_
          refine s_yield s' LF' rfl rfl rfl (.refl _) _ (hY ((b + 1) :: (([true, false].take k).flatMap D ++ pre)) x s' ?_ hI) fun bo L2 hR => ?_
          · refine List.IsPrefix.trans ?_ hpre
            rw [List.cons_append, List.append_assoc]
            refine (List.prefix_cons_inj _).2 ((List.prefix_append_right_inj _).2 ?_)
            rw [hD]
            simpa using hpx
          refine wf ?_
          rw [List.cons_append, List.append_assoc] at hR
          rcases hR with ⟨rfl, h⟩ | ⟨rfl, h⟩
          · refine wf ?_
            exact ⟨L2, h, .refl _⟩
          · refine wf ?_
            exact ⟨L2, h, .refl _⟩
        · intro s' hs'
          refine wf ?_
          refine ⟨(k + 1, s'), ⟨by dsimp only; omega, ?_⟩, by dsimp only; omega, ⟨rfl, rfl, rfl, rfl, rfl, rfl, rfl, rfl⟩, .refl _⟩
          dsimp only
          rw [ht, List.flatMap_append]
          rw [hD] at hs' ⊢
          simpa using hs'
        · intro pre s' h
          exact ⟨trivial, _, s', .nil, .refl _, .inr ⟨_, h⟩⟩
      · rw [List.take_of_length_le (by simp only [List.length_cons, List.length_nil]; omega)] at hJ2
        refine wf ?_
        exact ⟨trivial, _, L1, .nil, .refl _, .inl hJ2⟩
    · refine wf ?_
      exact ⟨trivial, _, L', .nil, .refl _, .inr ⟨_, hJx⟩⟩
/-- What Bound answers. -/
def boundP (s : List Sto) : Int := (depthsP (cloS s) s.length (ids s) 0).foldl max 0
instance BoundP_ct (s : List Sto) (t : Tag) [hs : Small (Valid s)] : FnC Tryz.prog 17 [.slice (s.map eSto) t] (.raw (.int .i64 (worst (cloS s) s.length (ids s)))) := ⟨by
  have v := hs.out
  have h8 := v.close.1.1
  refine fn_of Tryz.func17 Tryz.ntmps17 rfl (rs := [.tmp 2]) rfl rfl fun hb LF => ?_
  refine wf ?_
  refine s_alloc fun b3 => ?_
  refine wo ?_
  refine pops_nil ?_
  refine pwp_freezeD 3 ?_
  refine wf ?_
  refine s_alloc fun b5 => ?_
  refine wf ?_
  refine pwp_rangeFunc (depths_iter v s.length (ids s) 0 (by rw [ids_len]; exact Nat.le_refl _) (fun _ h => h) v.asc.nodup (by omega) (by omega)) [15] (σ := Int) (fun pre m => m = pre.foldl max 0) (fun _ _ => False) (fun m LF' => .box b5 3 [.raw (.int .i64 m)] :: LF') 0 LF ?_ rfl (fun _ => rfl) (by simp) (fun _ _ => rfl) (.refl _) rfl ?_ ?_ (fun _ _ h => h.elim)
  · exact .refl _
  · intro pre x m LF' hpx hI
    refine wf ?_
    exact ⟨max m x, by show max m x = (pre ++ [x]).foldl max 0; rw [hI, List.foldl_append]; rfl, .refl _⟩
  · intro m hI
    refine wf ?_
    refine end1 (.of_eq ?_)
    rw [hI, v.bound]⟩
end Go.Proofs
/- Contracts of the program: lists of digests; sets of some patches; a search's start, its states, its next question. -/
namespace Go.Proofs
open Go Go.Q
attribute [local irreducible] pwp pops PCalls OpN

/-- Where a digest stands first; -1: nowhere. -/
def idxD (l : List Dig) (d : Dig) : Int := if d ∈ l then (l.idxOf d : Int) else -1
theorem idxOf_first {l : List Dig} {d : Dig} {k : Nat} (hk : k < l.length) (hn : d ∉ l.take k) (e : d = l[k]) : l.idxOf d = k := by
  induction l generalizing k with
  | nil => simp at hk
  | cons x l ih =>
    cases k with
    | zero => simp at e; subst e; simp
    | succ k =>
      simp only [List.take_succ_cons, List.mem_cons, not_or] at hn
      have := ih (k := k) (by simpa using hk) hn.2 (by simpa using e)
      rw [List.idxOf_cons, beq_eq_false_iff_ne.2 (Ne.symm hn.1), cond_false, this]
instance IndexD_ct (l : List Dig) (d : Dig) (t : Tag) : FnC Tryz.prog 78 [.slice (l.map eDig) t, .agg (eDig d)] (.raw (.int .i64 (idxD l d))) := ⟨by
  refine fn_of Tryz.func78 Tryz.ntmps78 rfl (rs := [.tmp 4]) rfl rfl fun hb LF => ?_
  have hlen : l.length ≤ 140737488355328 := (hb (.slice (l.map eDig) t) (by simp)).slice_map
  refine wf ?_
  refine pwp_loopS (σ := Nat) (fun k => k ≤ l.length ∧ d ∉ l.take k) (fun k => l.length - k) (fun k => [(0, .slice (l.map eDig) t), (3, .pt (eDig d) 0), (7, .raw (.int .i64 l.length)), (8, .raw (.int .i64 k))]) (fun _ => LF) 0 ⟨by simp, by simp⟩ ⟨rfl, rfl, rfl, rfl⟩ (.refl _) ?_
  rintro k ⟨hk, hn⟩
  refine wf ?_
  refine pwp_condD (fun hc => ?_) (fun hc => ?_)
  · have hlt : k < l.length := by omega
    refine wf ?_
    refine pwp_condD (fun h => ?_) (fun h => ?_)
    · refine wf ?_
      refine end1 (.of_eq ?_)
      rw [idxD, if_pos (h ▸ List.getElem_mem hlt), idxOf_first hlt hn h]
    · refine wf ?_
      refine ⟨k + 1, ⟨by omega, ?_⟩, by dsimp only; omega, ⟨rfl, rfl, rfl, rfl⟩, .refl _⟩
      rw [List.take_succ_eq_append_getElem hlt, List.mem_append, List.mem_singleton]
      rintro (h' | h')
      · exact hn h'
      · exact h h'
  · refine wf ?_
    refine end1 (.of_eq ?_)
    rw [List.take_of_length_le (by omega)] at hn
    rw [idxD, if_neg hn]⟩
instance ContainsD_ct (l : List Dig) (d : Dig) (t : Tag) : FnC Tryz.prog 33 [.slice (l.map eDig) t, .agg (eDig d)] (.raw (.bool (decide (d ∈ l)))) := ⟨by
  refine fn_of Tryz.func33 Tryz.ntmps33 rfl (rs := [.tmp 4]) rfl rfl fun hb LF => ?_
  refine wf ?_
  refine end1 (.of_eq ?_)
  by_cases h : d ∈ l <;> simp [idxD, h]⟩
instance EqualD_ct (l m : List Dig) (t u : Tag) : FnC Tryz.prog 55 [.slice (l.map eDig) t, .slice (m.map eDig) u] (.raw (.bool (decide (l = m)))) := ⟨by
  refine fn_of Tryz.func55 Tryz.ntmps55 rfl (rs := [.tmp 4]) rfl rfl fun hb LF => ?_
  have hlen : l.length ≤ 140737488355328 := (hb (.slice (l.map eDig) t) (by simp)).slice_map
  refine wf ?_
  refine pwp_condN (fun h => ?_) (fun h => ?_)
  · refine wf ?_
    refine end1 (.of_eq ?_)
    have : ¬ l = m := fun e => by subst e; exact h rfl
    simp [this]
  have hlm : l.length = m.length := by omega
  refine wf ?_
  refine pwp_loopS (σ := Nat) (fun k => k ≤ l.length ∧ l.take k = m.take k) (fun k => l.length - k) (fun k => [(0, .slice (l.map eDig) t), (1, .slice (m.map eDig) u), (12, .raw (.int .i64 l.length)), (13, .raw (.int .i64 k))]) (fun _ => LF) 0 ⟨by simp, by simp⟩ ⟨rfl, rfl, rfl, rfl⟩ (.refl _) ?_
  rintro k ⟨hk, he⟩
  refine wf ?_
  refine pwp_condD (fun hc => ?_) (fun hc => ?_)
  · have hlt : k < l.length := by omega
    have hltm : k < m.length := by omega
    refine wf ?_
    refine pwp_condN (fun h => ?_) (fun h => ?_)
    · refine wf ?_
      refine end1 (.of_eq ?_)
      have : ¬ l = m := fun e => by subst e; exact h rfl
      simp [this]
    · refine wf ?_
      refine ⟨k + 1, ⟨by omega, ?_⟩, by dsimp only; omega, ⟨rfl, rfl, rfl, rfl⟩, .refl _⟩
      rw [List.take_succ_eq_append_getElem hlt, List.take_succ_eq_append_getElem hltm, he, h]
  · refine wf ?_
    refine end1 (.of_eq ?_)
    rw [List.take_of_length_le (by omega), List.take_of_length_le (by omega)] at he
    simp [he]⟩
instance KeepP_ct (s : List Sto) (l : List Dig) (t u : Tag) [hs : Small (s.length ≤ 1000000)] : FnC Tryz.prog 60 [.slice (s.map eSto) t, .slice (l.map eDig) u] (.slice ((keepS s l).map eSto) .ro) := ⟨by
  refine fn_of Tryz.func60 Tryz.ntmps60 rfl (rs := [.tmp 4]) rfl rfl fun hb LF => ?_
  have hlen : s.length ≤ 1000000 := hs.out
  refine wf ?_
  refine pwp_tok 37 ?_
  refine pwp_loopS (σ := Nat × Tag) (fun k => k.1 ≤ s.length) (fun k => s.length - k.1) (fun k => [(1, .slice (l.map eDig) u), (5, .slice ((keepS (s.take k.1) l).map eSto) k.2), (8, .slice (s.map eSto) t), (9, .raw (.int .i64 s.length)), (10, .raw (.int .i64 k.1))]) (fun k => .tok k.2 (keepS (s.take k.1) l).length 37 :: LF) (0, .nil) (by simp) ⟨rfl, rfl, rfl, rfl, rfl⟩ (.refl _) ?_
  rintro ⟨k, v⟩ hk
  dsimp only at hk
  refine wf ?_
  refine pwp_condD (fun hc => ?_) (fun hc => ?_)
  · have hl : (keepS (s.take k) l).length ≤ k := Nat.le_trans (List.length_filter_le _ _) (by simp; omega)
    have e : keepS (s.take (k + 1)) l = keepS (s.take k) l ++ keepS [s[k]] l := by
      rw [List.take_succ_eq_append_getElem (by omega)]; simp only [keepS, List.filter_append]
    refine wz fun b7 => ?_
    refine pwp_freezeD 7 ?_
    refine wf ?_
    refine pwp_condD (fun h => ?_) (fun h => ?_)
    · refine wfa fun v' => ?_
      have e2 : keepS [s[k]] l = [s[k]] := by simp [keepS, h]
      rw [e2] at e
      refine ⟨(k + 1, v'), by dsimp only; omega, by dsimp only; omega, ⟨rfl, by dsimp only; rw [e]; rfl, rfl, rfl, rfl⟩, by dsimp only; rw [e]; exact .refl _⟩
    · refine wf ?_
      have e2 : keepS [s[k]] l = [] := by simp [keepS, h]
      rw [e2, List.append_nil] at e
      refine ⟨(k + 1, v), by dsimp only; omega, by dsimp only; omega, ⟨rfl, by dsimp only; rw [e]; rfl, rfl, rfl, rfl⟩, by dsimp only; rw [e]; exact .refl _⟩
  · refine wf ?_
    refine end1 (.ros ?_)
    rw [List.take_of_length_le (by omega)]⟩
def startP (s : List Sto) : Bis × Int := if s.length = 0 then (Bis.zero, 27) else (⟨ids s, [], []⟩, 0)
instance StartP_ct (s : List Sto) (t : Tag) [hs : Small (Valid s)] : FnC Tryz.prog 19 [.slice (s.map eSto) t] (.tuple [.agg (eBis (startP s).1), .raw (.int .i64 (startP s).2)]) := ⟨by
  refine fn_of Tryz.func19 Tryz.ntmps19 rfl (rs := [.cell 2 28, .tmp 3]) rfl rfl fun hb LF => ?_
  refine wf ?_
  refine s_alloc fun b2 => ?_
  refine wf ?_
  refine pwp_condD (fun h => ?_) (fun h => ?_)
  · refine wf ?_
    refine endC1 rfl ?_
    rw [startP, if_pos (by omega)]
    exact .refl _
  · refine wf ?_
    refine s_alloc fun b4 => ?_
    refine wf ?_
    refine endC1 rfl ?_
    rw [startP, if_neg (by omega)]
    exact .refl _⟩
/-- The candidates behind some answers. -/
def folStep (s : List Sto) (asked : List Dig) (bad : List Bool) (o : Option (List Dig)) (i : Nat) : Option (List Dig) := o.bind fun left => if left.length < 2 ∨ asked.getD i Dig.zero ≠ questP (cloS s) left then none else some (aft s left (asked.getD i Dig.zero) (bad.getD i false))
def fol (s : List Sto) (asked : List Dig) (bad : List Bool) (left : List Dig) (k : Nat) : Option (List Dig) := (List.range k).foldl (folStep s asked bad) (some left)
theorem fol_succ (s : List Sto) (asked : List Dig) (bad : List Bool) (left : List Dig) (k : Nat) : fol s asked bad left (k + 1) = folStep s asked bad (fol s asked bad left k) k := by
  rw [fol, List.range_succ, List.foldl_append]; rfl
theorem fol_none {s : List Sto} {asked : List Dig} {bad : List Bool} {left : List Dig} {k : Nat} (h : fol s asked bad left k = none) : ∀ n, k ≤ n → fol s asked bad left n = none := by
  intro n hn
  induction n with
  | zero => have : k = 0 := by omega
            subst this; exact h
  | succ n ih =>
    by_cases e : k = n + 1
    · subst e; exact h
    · rw [fol_succ, ih (by omega)]; rfl
def followP (s : List Sto) (b : Bis) (left : List Dig) : Bool := decide (b.asked.length = b.bad.length ∧ fol s b.asked b.bad left b.asked.length = some b.left)
set_option maxHeartbeats 1000000 in
instance follow_ct (s : List Sto) (b : Bis) (left : List Dig) (t : Tag) [hl : Small (left.length ≤ 1000000)] : FnC Tryz.prog 70 [.agg (eSea s), .agg (eBis b), .slice (left.map eDig) t] (.raw (.bool (followP s b left))) := ⟨by
  have hl2 := hl.out
  refine fn_of Tryz.func70 Tryz.ntmps70 rfl (rs := [.tmp 6]) rfl rfl fun hb LF => ?_
  have hlen : b.asked.length ≤ 140737488355328 := ((hb (.agg (eBis b)) (by simp)).agg_at (c := .slice (b.asked.map eDig) .ro) (by simp [eBis])).slice_map
  refine wf ?_
  refine pwp_condN (fun h => ?_) (fun h => ?_)
  · refine wf ?_
    refine end1 (.of_eq ?_)
    have : ¬ b.asked.length = b.bad.length := by omega
    simp [followP, this]
  have hab : b.asked.length = b.bad.length := by omega
  refine wf ?_
  refine pwp_loopS (σ := Nat × List Dig × Tag) (fun k => k.1 ≤ b.asked.length ∧ fol s b.asked b.bad left k.1 = some k.2.1 ∧ k.2.1.length ≤ 1000000) (fun k => b.asked.length - k.1) (fun k => [(2, .slice (k.2.1.map eDig) k.2.2), (3, .pt (eSea s) 0), (4, .pt (eBis b) 0), (19, .slice (b.asked.map eDig) .ro), (20, .raw (.int .i64 b.asked.length)), (21, .raw (.int .i64 k.1))]) (fun _ => LF) (0, left, t) ⟨by simp, rfl, hl2⟩ ⟨rfl, rfl, rfl, rfl, rfl, rfl⟩ (.refl _) ?_
  rintro ⟨k, cur, v⟩ ⟨hk, hf, hcl⟩
  dsimp only at hk hf hcl ⊢
  refine wf ?_
  refine pwp_condD (fun hc => ?_) (fun hc => ?_)
  · have hlt : k < b.asked.length := by omega
    have hltb : k < b.bad.length := by omega
    have i1 : Small (cur.length ≤ 1000000) := ⟨hcl⟩
    have e0 : b.asked.getD k Dig.zero = b.asked[k] := by simp [List.getD, hlt]
    have e1 : b.bad.getD k false = b.bad[k] := by simp [List.getD, hltb]
    have hs := fol_succ s b.asked b.bad left k
    rw [hf, folStep, e0, e1, Option.bind_some] at hs
    have no : fol s b.asked b.bad left (k + 1) = none → followP s b left = false := fun h => by
      have := fol_none h b.asked.length (by omega)
      simp [followP, this]
    refine wf ?_
    refine s_alloc fun b8 => ?_
    refine wo ?_
    refine pops_nil ?_
    refine pwp_freezeD 8 ?_
    refine wf ?_
    refine s_alloc fun b9 => ?_
    refine wo ?_
    refine pops_nil ?_
    refine pwp_freezeD 9 ?_
    refine wf ?_
    refine pops_if (fun hp => ?_) (fun hp => ?_)
    · have hp' : ¬ (1 : Int) < cur.length := by simpa using hp
      rw [if_pos (.inl (by omega))] at hs
      refine wf ?_
      refine end1 (.of_eq ?_)
      rw [no hs]
    · have hp' : (1 : Int) < cur.length := by simpa using hp
      refine wf ?_
      refine pwp_condN (fun h2 => ?_) (fun h2 => ?_)
      · rw [if_pos (.inr h2)] at hs
        refine wf ?_
        refine end1 (.of_eq ?_)
        rw [no hs]
      · rw [if_neg (by rintro (h3 | h3); omega; exact h3 h2)] at hs
        refine wf ?_
        exact ⟨(k + 1, aft s cur b.asked[k] b.bad[k], .ro), ⟨by dsimp only; omega, hs, Nat.le_trans (aft_len _ _ _ _) hcl⟩, by dsimp only; omega, ⟨rfl, rfl, rfl, rfl, rfl, rfl⟩, .refl _⟩
  · have hke : k = b.asked.length := by omega
    subst hke
    refine wf ?_
    refine end1 (.of_eq ?_)
    rw [followP, hf]
    simp [hab]⟩
/-- The question, and the set to test. -/
def nextP (s : List Sto) (b : Bis) : Dig × List Sto × Bool :=
  if s.length = 0 ∨ followP s b (ids s) = false then (Dig.zero, [], false) else if b.left.length < 2 then (Dig.zero, [], false) else
  (questP (cloS s) b.left, keepS s (cloS s (questP (cloS s) b.left)), true)
theorem folStep_len {s : List Sto} {asked : List Dig} {bad : List Bool} {left l : List Dig} : ∀ {k : Nat}, fol s asked bad left k = some l → l.length ≤ left.length
  | 0, h => by
    have : some left = some l := h
    injection this with e
    rw [e]; exact Nat.le_refl _
  | k + 1, h => by
    rw [fol_succ] at h
    cases hf : fol s asked bad left k with
    | none => rw [hf] at h; cases h
    | some m =>
      have := folStep_len hf
      rw [hf, folStep, Option.bind_some] at h
      split at h
      · cases h
      · injection h with e
        rw [← e]
        exact Nat.le_trans (aft_len _ _ _ _) this
theorem follow_len {s : List Sto} {b : Bis} {left : List Dig} (h : followP s b left = true) : b.left.length ≤ left.length := folStep_len (of_decide_eq_true h).2
theorem endCTT {P : Program} {ρ : Env} {L LF : List Res} {X : PV} {t u s T n b T' : Nat} {cs : List PV} {x z : PV} [hT : TAgg P T n] (h : ρ u = .raw (.pointer (some ⟨b, 0, none⟩))) (hX : Le (.tuple [.agg cs, x, z]) X) (hx : ρ t = x := by conv => lhs; whnf) (hz : ρ s = z := by conv => lhs; whnf) (hm : Res.box b T' cs ∈ L := by repeat (first | exact List.mem_cons_self | apply List.mem_cons_of_mem)) (hn : cs.length = n := by simp) (hs : LF.Sublist L := by repeat (first | exact List.Sublist.refl _ | apply List.Sublist.cons)) :
    Ret P [.cell u T, .tmp t, .tmp s] (fun r L' => Le r X ∧ L' = []) LF .ret ρ L := ⟨trivial, _, [], .cons (.cell u T h hm hT.out hn) (.cons (.tmp t) (.cons (.tmp s) .nil)), hs, by subst hx; subst hz; exact hX, rfl⟩
set_option maxHeartbeats 2000000 in
instance NextP_ct (s : List Sto) (b : Bis) (t : Tag) [hs : Small (Valid s)] : FnC Tryz.prog 22 [.slice (s.map eSto) t, .agg (eBis b)] (.tuple [.agg (eDig (nextP s b).1), .slice ((nextP s b).2.1.map eSto) .ro, .raw (.bool (nextP s b).2.2)]) := ⟨by
  have v := hs.out
  have h8 := v.close.1.1
  have hil := ids_len s
  have i0 : Small ((ids s).length ≤ 1000000) := ⟨by omega⟩
  have i1 : Small (s.length ≤ 1000000) := ⟨by omega⟩
  have i2 : Small ([questP (cloS s) b.left].length ≤ 400) := ⟨by simp⟩
  refine fn_of Tryz.func22 Tryz.ntmps22 rfl (rs := [.cell 4 37, .tmp 5, .tmp 6]) rfl rfl fun hb LF => ?_
  refine wf ?_
  refine s_alloc fun b4 => ?_
  refine wf ?_
  refine s_alloc fun b7 => ?_
  refine wo ?_
  refine pops_nil ?_
  refine pwp_freezeD 7 ?_
  refine wf ?_
  refine pops_if (fun hp => ?_) (fun hp => ?_)
  · have h0 : s.length = 0 := by simpa using hp
    refine wf ?_
    refine endCTT rfl ?_
    rw [nextP, if_pos (.inl h0)]
    exact .tuple3 (.refl _) (.ros rfl) (.refl _)
  have h0 : ¬ s.length = 0 := by simpa using hp
  refine wf ?_
  refine pwp_condB (fun h => ?_) (fun h => ?_)
  · have hf : followP s b (ids s) = false := by simpa using h
    refine wf ?_
    refine endCTT rfl ?_
    rw [nextP, if_pos (.inr hf)]
    exact .tuple3 (.refl _) (.ros rfl) (.refl _)
  have hf : followP s b (ids s) = true := by simpa using h
  have hbl := follow_len hf
  have i3 : Small (b.left.length ≤ 1000000) := ⟨by omega⟩
  have e1 : nextP s b = if b.left.length < 2 then (Dig.zero, [], false) else (questP (cloS s) b.left, keepS s (cloS s (questP (cloS s) b.left)), true) := by rw [nextP, if_neg (by simp [h0, hf])]
  refine wf ?_
  refine s_alloc fun b9 => ?_
  refine wo ?_
  refine pops_nil ?_
  refine pwp_freezeD 9 ?_
  refine wf ?_
  refine pwp_condB (fun h2 => ?_) (fun h2 => ?_)
  · have h3 : ¬ (1 : Int) < b.left.length := by simpa using h2
    rw [if_pos (by omega)] at e1
    refine wf ?_
    refine endCTT rfl ?_
    rw [e1]
    exact .tuple3 (.refl _) (.ros rfl) (.refl _)
  · have h3 : (1 : Int) < b.left.length := by simpa using h2
    rw [if_neg (by omega)] at e1
    refine wn ?_
    refine pwp_drawN 4 ?_ ?_
    · decide +kernel
    refine wf ?_
    refine endCTT rfl ?_
    rw [e1]
    exact .tuple3 (.refl _) (.ros rfl) (.refl _)⟩
end Go.Proofs
/- Contracts: the example of the statements of layer 31. -/
namespace Go.Proofs
open Go Go.Q
attribute [local irreducible] pwp pops PCalls OpN

set_option maxHeartbeats 2000000 in
instance chain_ct : FnC Tryz.prog 66 [] (.tuple [.slice ((chS 4).map eSto) .ro, .slice ((chI 4).map eDig) .ro]) := ⟨by
  refine fn_of Tryz.func66 Tryz.ntmps66 rfl (rs := [.tmp 0, .tmp 1]) rfl rfl fun hb LF => ?_
  refine wf ?_
  refine pwp_tok 32 ?_
  refine pwp_loopS (σ := Nat × Tag × Tag) (fun k => k.1 ≤ 4) (fun k => 4 - k.1) (fun k => [(2, .slice ((chS k.1).map eSto) k.2.1), (3, .slice ((chI k.1).map eDig) k.2.2), (9, .raw (.int .i64 k.1))]) (fun k => .tok k.2.2 (chI k.1).length 32 :: LF) (0, .nil, .nil) (by simp) ⟨rfl, rfl, rfl⟩ (.refl _) ?_
  rintro ⟨k, ts, ti⟩ hk
  dsimp only at hk ⊢
  refine wf ?_
  refine pwp_condD (fun hc => ?_) (fun hc => ?_)
  · have hlt : k < 4 := by omega
    have hcl : (chI k).length = k := by simp only [chI, List.length_take]; simp; omega
    obtain ⟨hg1, hg2⟩ := chGreat k hlt
    have i1 : Small (rGreat (chP k (chDeps k (chI k))) = false) := ⟨hg1⟩
    have i2 : Small (goodS (chS k)) := ⟨goodS_of hg2⟩
    have hadd := chAdd k hlt
    have hsu := chI_succ k hlt
    refine wf ?_
    refine s_alloc fun b5 => ?_
    refine wf ?_
    refine pwp_join True [(2, .slice ((chS k).map eSto) ts), (3, .slice ((chI k).map eDig) ti), (4, .raw (.int .i64 k)), (5, .raw (.pointer (some ⟨b5, 0, none⟩))), (9, .raw (.int .i64 k))] (.box b5 57 (ePat (chP k (chDeps k (chI k)))) :: .tok ti (chI k).length 32 :: LF) ?_ fun _ => ?_
    · refine pwp_condD (fun h => ?_) (fun h => ?_)
      · have e : chDeps k (chI k) = (chI k).drop (k - 1) := by rw [chDeps, if_pos (by omega)]
        refine wf ?_
        refine s_cutL (i := k - 1) rfl (by show PV.raw (Value.int .i64 ((k : Int) - 1)) = PV.raw (Value.int .i64 ((k - 1 : Nat) : Int)); congr 2; omega) (by omega) ?_
        refine wf ?_
        rw [e]
        exact ⟨trivial, ⟨rfl, rfl, rfl, rfl, rfl⟩, .refl _⟩
      · have e : chDeps k (chI k) = [] := by rw [chDeps, if_neg (by omega)]
        refine wf ?_
        rw [e]
        exact ⟨trivial, ⟨rfl, rfl, rfl, rfl, rfl⟩, .refl _⟩
    refine wf ?_
    refine s_alloc fun b7 => ?_
    refine wo ?_
    refine pops_nil ?_
    refine pwp_freezeD 7 ?_
    rw [hadd]
    dsimp only
    refine wfa fun v' => ?_
    rw [← hsu]
    exact ⟨(k + 1, .ro, v'), by dsimp only; omega, by dsimp only; omega, ⟨rfl, rfl, rfl⟩, .cons _ (.refl _)⟩
  · have hk4 : k = 4 := by omega
    subst hk4
    refine wf ?_
    refine end2 ?_
    exact .tuple2 (.ro _ _) (.ro _ _)⟩
theorem chStart : startP (chS 4) = (⟨ids (chS 4), [], []⟩, 0) := rfl
theorem chNext : nextP (chS 4) ⟨ids (chS 4), [], []⟩ = (ch1, (chS 4).drop 2, true) := by decide +kernel
theorem chBound : worst (cloS (chS 4)) (chS 4).length (ids (chS 4)) = 2 := by decide +kernel
set_option maxHeartbeats 2000000 in
instance awake_ct : FnC Tryz.prog 16 [] (.raw (.bool true)) := ⟨by
  have i1 : Small (Valid (chS 4)) := ⟨chValid⟩
  have hl4 : (chI 4).length = 4 := rfl
  refine fn_of Tryz.func16 Tryz.ntmps16 rfl (rs := [.tmp 0]) rfl rfl fun hb LF => ?_
  refine wf ?_
  refine s_alloc fun b3 => ?_
  refine wo ?_
  refine pops_nil ?_
  refine pwp_freezeD 3 ?_
  rw [chStart]
  dsimp only
  refine wf ?_
  refine s_alloc fun b5 => ?_
  refine wo ?_
  refine pops_nil ?_
  refine pwp_freezeD 5 ?_
  rw [chNext]
  dsimp only
  refine wf ?_
  refine end1 (.of_eq ?_)
  rw [chBound]
  rfl⟩
end Go.Proofs
/- BisectBound's contract: it answers true, whatever the set. -/
namespace Go.Proofs
open Go Go.Q
attribute [local irreducible] pwp pops PCalls OpN

theorem small_valid {s : List Sto} {b : Bis} (h : rSmall s b = true) : Valid s := by
  refine valid_of ?_
  unfold rSmall at h
  simp only [Bool.and_eq_true] at h
  simp_all
set_option maxHeartbeats 1000000 in
theorem bisectBound_fn (s : List Sto) (t : Tag) : FnC Tryz.prog 3 [.slice (s.map eSto) t] (.raw (.bool true)) := ⟨by
  refine fn_of Tryz.func3 Tryz.ntmps3 rfl (rs := [.tmp 2]) rfl rfl fun hb LF => ?_
  refine wf ?_
  refine pwp_condB (fun h => ?_) (fun h => ?_)
  · refine wf ?_
    exact end1 (.refl _)
  · have hv : Valid s := small_valid (b := Bis.zero) (nnot h)
    have i1 : Small (Valid s) := ⟨hv⟩
    have i2 : Small (closeS s) := ⟨hv.close⟩
    refine wf ?_
    refine pops_if (fun hp => ?_) (fun hp => ?_)
    · refine wf ?_
      exact end1 (.refl _)
    · exact absurd rfl (of_decide_eq_false hp)⟩
end Go.Proofs
/- What the statements hand over: sets of patches; the table that is laid. -/
namespace Go.Proofs
open Go Go.Q

theorem ble {a b : Nat} (h : Nat.ble a b = true) : a ≤ b := Nat.le_of_ble_eq_true h
theorem o_int : Opens Tryz.prog 3 (fun xs => ∃ n, (Lit.int .i64 n).wf = true ∧ xs = [.raw (.int .i64 n)]) := opens_int (by kernel_rfl)
theorem o_bool : Opens Tryz.prog 4 (fun xs => ∃ b, xs = eB b) := opens_bool (by kernel_rfl)
theorem o_str : Opens Tryz.prog 9 (fun xs => ∃ s, xs = eS s) := opens_str (by kernel_rfl)
theorem o_dig : Opens Tryz.prog 37 (fun xs => ∃ d, xs = eDig d) := opens_dig (e := 5) (by kernel_rfl) (by kernel_rfl) (by kernel_rfl) (by kernel_rfl)
theorem o_id : Opens Tryz.prog 115 (fun xs => ∃ x, xs = eIdent x) :=
  Opens.to (opens_struct (n := 33) (r := [(37, 0), (3, 32)]) (by kernel_rfl) (by kernel_rfl) (.cons 32 (by kernel_rfl) o_dig (.cons 1 (by kernel_rfl) o_int (.nil _))))
    fun xs ⟨_, .cons ⟨d, e0⟩ (.cons ⟨n, _, e1⟩ .nil), e⟩ => ⟨⟨d, n⟩, by subst e0 e1 e; simp [eIdent]⟩
theorem o_strs : Opens Tryz.prog 116 (fun xs => ∃ l : List Str, xs = [.slice (l.map eS) .ro]) := Opens.list o_str (fun _ => rfl) (by kernel_rfl) (by kernel_rfl) rfl (by decide) (ble (by kernel_rfl))
theorem o_ids : Opens Tryz.prog 117 (fun xs => ∃ l : List Ident, xs = [.slice (l.map eIdent) .ro]) := Opens.list (sz := 33) o_id (fun _ => by simp) (by kernel_rfl) (by kernel_rfl) rfl (by decide) (ble (by kernel_rfl))
theorem o_digs : Opens Tryz.prog 25 (fun xs => ∃ l : List Dig, xs = [.slice (l.map eDig) .ro]) := Opens.list (sz := 32) o_dig (fun _ => by simp) (by kernel_rfl) (by kernel_rfl) rfl (by decide) (ble (by kernel_rfl))
theorem o_bools : Opens Tryz.prog 26 (fun xs => ∃ l : List Bool, xs = [.slice (l.map eB) .ro]) := Opens.list o_bool (fun _ => rfl) (by kernel_rfl) (by kernel_rfl) rfl (by decide) (ble (by kernel_rfl))
theorem o_chg : Opens Tryz.prog 119 (fun xs => ∃ c, xs = eChg c) :=
  Opens.to (opens_struct (n := 139) (r := [(3, 0), (115, 1), (3, 34), (115, 35), (9, 68), (3, 69), (9, 70), (115, 71), (115, 104), (116, 137), (117, 138)]) (by kernel_rfl) (by kernel_rfl)
    (.cons 1 (by kernel_rfl) o_int (.cons 33 (by kernel_rfl) o_id (.cons 1 (by kernel_rfl) o_int (.cons 33 (by kernel_rfl) o_id (.cons 1 (by kernel_rfl) o_str (.cons 1 (by kernel_rfl) o_int (.cons 1 (by kernel_rfl) o_str (.cons 33 (by kernel_rfl) o_id (.cons 33 (by kernel_rfl) o_id (.cons 1 (by kernel_rfl) o_strs (.cons 1 (by kernel_rfl) o_ids (.nil _)))))))))))))
    fun xs ⟨yss, h, e⟩ => by
      rcases h with _ | ⟨⟨a0, _, e0⟩, h⟩
      rcases h with _ | ⟨⟨a1, e1⟩, h⟩
      rcases h with _ | ⟨⟨a2, _, e2⟩, h⟩
      rcases h with _ | ⟨⟨a3, e3⟩, h⟩
      rcases h with _ | ⟨⟨a4, e4⟩, h⟩
      rcases h with _ | ⟨⟨a5, _, e5⟩, h⟩
      rcases h with _ | ⟨⟨a6, e6⟩, h⟩
      rcases h with _ | ⟨⟨a7, e7⟩, h⟩
      rcases h with _ | ⟨⟨a8, e8⟩, h⟩
      rcases h with _ | ⟨⟨a9, e9⟩, h⟩
      rcases h with _ | ⟨⟨a10, e10⟩, h⟩
      cases h
      exact ⟨⟨a0, a1, a2, a3, a4, a5, a6, a7, a8, a9, a10⟩, by subst e0 e1 e2 e3 e4 e5 e6 e7 e8 e9 e10 e; simp [eChg, eS]⟩
theorem o_chgs : Opens Tryz.prog 55 (fun xs => ∃ l : List Chg, xs = [.slice (l.map eChg) .ro]) := Opens.list (sz := 139) o_chg (fun _ => by simp) (by kernel_rfl) (by kernel_rfl) rfl (by decide) (ble (by kernel_rfl))
theorem o_pat : Opens Tryz.prog 57 (fun xs => ∃ c, xs = ePat c) :=
  Opens.to (opens_struct (n := 5) (r := [(9, 0), (9, 1), (3, 2), (25, 3), (55, 4)]) (by kernel_rfl) (by kernel_rfl)
    (.cons 1 (by kernel_rfl) o_str (.cons 1 (by kernel_rfl) o_str (.cons 1 (by kernel_rfl) o_int (.cons 1 (by kernel_rfl) o_digs (.cons 1 (by kernel_rfl) o_chgs (.nil _)))))))
    fun xs ⟨_, .cons ⟨a0, e0⟩ (.cons ⟨a1, e1⟩ (.cons ⟨a2, _, e2⟩ (.cons ⟨a3, e3⟩ (.cons ⟨a4, e4⟩ .nil)))), e⟩ => ⟨⟨a0, a1, a2, a3, a4⟩, by subst e0 e1 e2 e3 e4 e; simp [ePat, eS]⟩
theorem o_sto : Opens Tryz.prog 59 (fun xs => ∃ c, xs = eSto c) :=
  Opens.to (opens_struct (n := 37) (r := [(37, 0), (57, 32)]) (by kernel_rfl) (by kernel_rfl) (.cons 32 (by kernel_rfl) o_dig (.cons 5 (by kernel_rfl) o_pat (.nil _))))
    fun xs ⟨_, .cons ⟨a0, e0⟩ (.cons ⟨a1, e1⟩ .nil), e⟩ => ⟨⟨a0, a1⟩, by subst e0 e1 e; simp [eSto]⟩
theorem o_set : Opens Tryz.prog 23 (fun xs => ∃ l : List Sto, xs = [.slice (l.map eSto) .ro]) := Opens.list (sz := 37) o_sto (fun _ => by simp) (by kernel_rfl) (by kernel_rfl) rfl (by decide) (ble (by kernel_rfl))
theorem o_bis : Opens Tryz.prog 28 (fun xs => ∃ c, xs = eBis c) :=
  Opens.to (opens_struct (n := 3) (r := [(25, 0), (25, 1), (26, 2)]) (by kernel_rfl) (by kernel_rfl) (.cons 1 (by kernel_rfl) o_digs (.cons 1 (by kernel_rfl) o_digs (.cons 1 (by kernel_rfl) o_bools (.nil _)))))
    fun xs ⟨_, .cons ⟨a0, e0⟩ (.cons ⟨a1, e1⟩ (.cons ⟨a2, e2⟩ .nil)), e⟩ => ⟨⟨a0, a1, a2⟩, by subst e0 e1 e2 e; simp [eBis]⟩
set_option maxRecDepth 20000 in
/-- An argument that is a slice. -/
theorem arg_slice {t e : Nat} {W : World} {base : Nat} {v : Value} {g : Gh} {x : PV} (ht : Tryz.prog.underlying t = some (.slice e)) (hv : Value.okWide Tryz.prog W .any base t v) (h : VRl g v.cells.toList [x]) : VR g v x := by
  have : v.cells = #[v] := by
    unfold Value.okWide at hv
    rw [ht] at hv
    simp only [Cell.okWide, ht] at hv
    cases v <;> simp [Cell.ok, ht] at hv <;> rfl
  rw [this] at h
  exact h.uncons.1
set_option maxRecDepth 20000 in
theorem glob_of_laid {W : World} (h : laidMetH Tryz.prog [("math/bits.deBruijn32tab", YtddlffkdpocmhaaGreatDoor.Rows.laid_math_bits_deBruijn32tab), ("math/bits.deBruijn64tab", YtddlffkdpocmhaaGreatDoor.Rows.laid_math_bits_deBruijn64tab), ("internal/strconv.uint64pow10", YtddlffkdpocmhaaGreatDoor.Rows.laid_internal_strconv_uint64pow10)] W) :
    ∃ T p, W.heap[globAt]? = some (.cells pow10Tab.toArray T p) := by
  rw [MakeChecks.laidMetH_plain _ _ _ (by kernel_rfl)] at h
  obtain ⟨ps, ⟨_, _, _, _, _, _, _, _, _, _, ⟨_, _, _, _, _, _, _, _, _, _, ⟨g2, t2, cs2, f2, p2, q2, hg2, ht2, hv2, hd2, _, _⟩, _⟩, _⟩, _, _⟩ := h
  have e1 : Tryz.prog.globalNamed "internal/strconv.uint64pow10" = some globAt := by kernel_rfl
  obtain rfl := Option.some.inj (e1.symm.trans hg2)
  have e2 : (Tryz.prog.globals[globAt]?).map (·.type) = some 302 := by kernel_rfl
  obtain rfl := Option.some.inj (e2.symm.trans ht2)
  obtain ⟨xs, m, rfl, hx, k1, k2, k3⟩ := DataW.trod_array (n := 20) (e := 198) (by kernel_rfl) hd2
  have hce : Tryz.prog.cellsOf 198 = 1 := by kernel_rfl
  have hct : Tryz.prog.cellsOf 302 = 20 := by kernel_rfl
  have hlaid : (YtddlffkdpocmhaaGreatDoor.Rows.laid_internal_strconv_uint64pow10 : DataW Unit) = .agg ((List.range 20).map fun i => .lit (.int .u64 (10 ^ i))) := rfl
  rw [hct] at k1
  have hxs : xs.map (·.1) = (List.range 20).map fun i => .lit (.int .u64 (10 ^ i)) := by
    have h1 := (Prod.mk.inj hx).1
    rw [hlaid] at h1
    exact (DataW.agg.inj h1).symm
  have key : cs2.toList = pow10Tab := by
    refine List.ext_getElem (by rw [k1]; rfl) fun i h1 h2 => ?_
    have hi : i < 20 := by omega
    have h3 := k3 i hi
    have hix : i < xs.length := by omega
    rw [List.getElem?_eq_getElem hix, hce, Nat.mul_one] at h3
    obtain ⟨n, f1, f2, _⟩ := DataW.trod_int (k := .u64) (by kernel_rfl) h3
    have f3 : (cs2.toList.drop i).take 1 = [cs2.toList[i]] := by
      rw [List.drop_eq_getElem_cons h1]; rfl
    rw [f3] at f1
    simp only [List.cons.injEq, and_true] at f1
    have f4 : (xs.map (·.1))[i]'(by simpa using hix) = .lit (.int .u64 n) := by simp [f2]
    have f5 : (xs.map (·.1))[i]'(by simpa using hix) = .lit (.int .u64 (10 ^ i)) := by
      have := List.getElem_of_eq hxs (i := i) (by simpa using hix)
      rw [this]; simp
    rw [f4] at f5
    have f6 := (Lit.int.inj (DataW.lit.inj f5)).2
    rw [f1, f6]
    simp [pow10Tab]
  simp only [World.var?, hg2, Option.bind_some] at hv2
  split at hv2
  · rename_i cs T p hh
    cases hv2
    refine ⟨T, p, ?_⟩
    rw [hh, ← key]
  · cases hv2
end Go.Proofs
/- A start that meets what the rows ask: the world that the door's own run leaves. -/
namespace Go.Proofs
open Go Go.Q

def laid3 : List (String × DataW Unit) := [("math/bits.deBruijn32tab", YtddlffkdpocmhaaGreatDoor.Rows.laid_math_bits_deBruijn32tab), ("math/bits.deBruijn64tab", YtddlffkdpocmhaaGreatDoor.Rows.laid_math_bits_deBruijn64tab), ("internal/strconv.uint64pow10", YtddlffkdpocmhaaGreatDoor.Rows.laid_internal_strconv_uint64pow10)]
theorem own : ownKnob Tryz.prog.godebug = none := by kernel_rfl
theorem door_met (os : Os) (args : Array Value) : laidMetH Tryz.prog laid3 ((World.doorLaid Tryz.prog 400 os).forCall (fun _ _ => 0) ⟨#[], args, []⟩).memory :=
  laidMetH_of_parts3 (fuel := 8) (laidMet_of_run' 8 (by kernel_rfl) (by kernel_rfl)) (by kernel_rfl) (by kernel_rfl)
theorem door_shaped (os : Os) (args : Array Value) : ((World.doorLaid Tryz.prog 400 os).forCall (fun _ _ => 0) ⟨#[], args, []⟩).Shaped Tryz.checked.prog := World.shaped_of_RefB (by kernel_rfl) (by kernel_rfl)
end Go.Proofs
/- Arguments of the rows; that a law has answered true. -/
namespace Go.Proofs
open Go Go.Q Go.ChangeShapes Go.WideShapes Go.ChangeAt Go.WideMaps Go.WideElems Go.RowKit

theorem trueOk {W' : World} {f : Func} (hr : f.resultTypes = #[4]) {H : Type} {enc : TypeId × Value → H} (b : Nat) (sp : Nat → Bool) (hd : Bool) : DataW.TrodAll enc Tryz.prog W' b sp hd f.resultTypes.toList ((Value.bool true).resultList f.resultTypes.size) [.lit (.bool true)] [] := by
  rw [hr]
  exact trodAll_mk1 (shut_bool (by kernel_rfl) _)
set_option maxRecDepth 20000 in
/-- An argument that is a struct or an array. -/
theorem arg_agg {t : Nat} {W : World} {base : Nat} {v : Value} {g : Gh} {cs : List PV} (ht : (match Tryz.prog.underlying t with | some (.struct _) | some (.array _ _) => true | _ => false) = true) (hv : Value.okWide Tryz.prog W .any base t v) (h : VRl g v.cells.toList cs) : VR g v (.agg cs) := by
  unfold Value.okWide at hv
  split at hv
  · obtain ⟨vs, rfl, _⟩ := hv
    have : VR g (.agg vs.toList.toArray) (.agg cs) := VRl.agg h
    simpa using this
  · obtain ⟨vs, rfl, _⟩ := hv
    have : VR g (.agg vs.toList.toArray) (.agg cs) := VRl.agg h
    simpa using this
  · rename_i h1 h2
    split at ht
    · rename_i fs hu; exact absurd hu (h1 fs)
    · rename_i n e hu; exact absurd hu (h2 n e)
    · cases ht
set_option maxRecDepth 20000 in
theorem arg_bool {t : Nat} {W : World} {base : Nat} {v : Value} {g : Gh} {b : Bool} (ht : Tryz.prog.underlying t = some .bool) (hv : Value.okWide Tryz.prog W .any base t v) (h : VRl g v.cells.toList (eB b)) : VR g v (.raw (.bool b)) := by
  have : v.cells = #[v] := by
    unfold Value.okWide at hv
    rw [ht] at hv
    simp only [Cell.okWide, ht] at hv
    cases v <;> simp [Cell.ok, ht] at hv <;> rfl
  rw [this] at h
  exact h.uncons.1
end Go.Proofs
/- The small logic: regions whose order is drawn in which resources turn: quiet operations go ahead of whatever. Library, no statement of its own. -/
namespace Go.Q
open Go
section
variable {P : Program} {N : Nat} {Q : PPost} {all : Array Oper} {K : Env → List Res → Prop}

theorem pOp_putL {bar : Nat → Bool} {j : Nat} {oi oj : Oper} {x : PV} (hj : all[j]? = some oj) (hap : oi.apart all oj = true) {K : Env → List Res → Prop} {ρ : Env} {L : List Res}
    (hy : ∀ L, YQ P all oi ρ L x) (h : pOp P N all bar j K (updo ρ oi.dst x) L) : pOp P N all bar j (fun ρ' L' => (∀ L, YQ P all oi ρ' L x) ∧ K (updo ρ' oi.dst x) L') ρ L := by
  obtain ⟨h1, h2, h3⟩ := Oper.apart_spec hap
  unfold pOp at *
  simp only [hj] at *
  obtain ⟨hd, h⟩ := h
  have cj : ∀ s, s ∈ oj.looksAt all → updo ρ oi.dst x s = ρ s := fun s hs => updo_slot fun d hd e => h1 d hd (e ▸ hs)
  have ci : ∀ u, ∀ L, YQ P all oi (updo ρ oj.dst u) L x := fun u L => (hy L).congr fun s hs => (updo_slot fun d hd e => h3 d hd (e ▸ hs)).symm
  refine ⟨hd, ?_⟩
  rcases h with ⟨u, hu, hk⟩ | ⟨hb, hg, ho⟩
  · refine .inl ⟨u, hu.congr cj, ci u, ?_⟩
    rw [updo_comm ρ u x (fun d hd e => h2 d e hd)]; exact hk
  · refine .inr ⟨hb, hg.congr cj, (OpN.congr (ev_of_slots cj) ho).mono fun u L' hk => ⟨ci u, ?_⟩⟩
    rw [updo_comm ρ u x (fun d hd e => h2 d e hd)]; exact hk
theorem pAny_firstL {bar : Nat → Bool} {i : Nat} {oi : Oper} {x : PV} (hi : all[i]? = some oi) (hdi : ∀ d, oi.dst = some d → d < N) :
    ∀ (fuel : Nat) (listed : Array Bool) (ρ : Env) (L : List Res), Closed all listed →
      (∀ j oj, all[j]? = some oj → j ≠ i → listed.getD j true = false → (∀ e ∈ oj.after, Region.binds .any e = true → e.on ≠ i) → oi.apart all oj = true) →
      i ∈ Region.ready .any all listed → (∀ L, YQ P all oi ρ L x) →
      pAny P N all bar K fuel (listed.setIfInBounds i true) (updo ρ oi.dst x) L → pAny P N all bar K (fuel + 1) listed ρ L := by
  intro fuel
  have self : ∀ (listed : Array Bool) (ρ : Env) (L : List Res) (n : Nat), YQ P all oi ρ L x → pAny P N all bar K n (listed.setIfInBounds i true) (updo ρ oi.dst x) L →
      pOp P N all bar i (pAny P N all bar K n (listed.setIfInBounds i true)) ρ L := fun listed ρ L n hy H => by
    unfold pOp; simp only [hi]; exact ⟨hdi, .inl ⟨x, hy, H⟩⟩
  induction fuel with
  | zero =>
    intro listed ρ L hc _ hr hy H
    refine ⟨fun h => (by rw [h] at hr; cases hr), fun j hj => ?_⟩
    by_cases hji : j = i
    · subst hji; exact self _ _ _ _ (hy L) H
    · have := ready_mono hj hji
      rw [H.1] at this
      cases this
  | succ fuel ih =>
    intro listed ρ L hc hfree hr hy H
    refine ⟨fun h => (by rw [h] at hr; cases hr), fun j hj => ?_⟩
    by_cases hji : j = i
    · subst hji; exact self _ _ _ _ (hy L) H
    · have h1 := H.2 j (ready_mono hj hji)
      obtain ⟨hjun, oj, hoj, hall⟩ := mem_ready.1 hj
      have hiun := (mem_ready.1 hr).1
      have hnot : ∀ e ∈ oj.after, Region.binds .any e = true → e.on ≠ i := fun e he hb heq => by
        have h1 := hall e he hb
        rw [heq] at h1
        rcases Nat.lt_or_ge i listed.size with h' | h'
        · simp [h'] at hiun h1; rw [hiun] at h1; cases h1
        · simp [Array.getElem?_eq_none h'] at h1
      have h2 := pOp_putL hoj (hfree j oj hoj hji hjun hnot) hy h1
      have hfree' : ∀ k ok, all[k]? = some ok → k ≠ i → (listed.setIfInBounds j true).getD k true = false →
          (∀ e ∈ ok.after, Region.binds .any e = true → e.on ≠ i) → oi.apart all ok = true := fun k ok hk hki hun hno => by
        refine hfree k ok hk hki ?_ hno
        by_cases hjk : j = k
        · subst hjk; exact hjun
        · rw [getD_set_ne true hjk] at hun; exact hun
      refine pOp_mono (fun ρ' L' h3 => ?_) h2
      obtain ⟨h4, h5⟩ := h3
      refine ih (listed.setIfInBounds j true) ρ' L' (hc.set hj) hfree' (ready_mono hr (Ne.symm hji)) h4 ?_
      rw [Array.setIfInBounds_comm _ _ hji]
      exact h5
def closedB (all : Array Oper) (listed : Array Bool) : Bool := listed.size == all.size && (List.range all.size).all fun j => match all[j]? with
  | some oj => !listed.getD j false || oj.after.all fun e => !Region.binds .any e || listed.getD e.on false
  | none => true
theorem closedB_spec {listed : Array Bool} (h : closedB all listed = true) : Closed all listed := by
  simp only [closedB, Bool.and_eq_true, beq_iff_eq, List.all_eq_true, List.mem_range] at h
  obtain ⟨h1, h2⟩ := h
  refine ⟨h1, fun j oj hj hl e he hb => ?_⟩
  have := h2 j (Array.getElem?_eq_some_iff.1 hj).1
  simp only [hj, hl, Bool.not_true, Bool.false_or, Array.all_eq_true_iff_forall_mem] at this
  have := this e he
  simpa [hb] using this
/-- A quiet operation goes ahead of the others. -/
theorem pAny_quiet {bar : Nat → Bool} {fuel : Nat} {listed : Array Bool} {ρ : Env} {L : List Res} (i : Nat) {d : Nat} {op : Op} {ty : TypeId} {pos : String} {af : Array Edge} {x : PV} (h0 : all[i]? = some ⟨some d, op, ty, pos, af, none⟩)
    (hB : (closedB all listed && Region.free .any all listed i && (Region.ready .any all listed).contains i) = true) (hd : Nat.blt d N = true)
    (hq : ∀ L, QOp P ⟨some d, op, ty, pos, af, none⟩ ρ L x) (k : pAny P N all bar K fuel (listed.setIfInBounds i true) (upd ρ d x) L) : pAny P N all bar K (fuel + 1) listed ρ L := by
  simp only [Bool.and_eq_true] at hB
  obtain ⟨⟨h1, h2⟩, h3⟩ := hB
  exact pAny_firstL (x := x) h0 (dlt hd) fuel listed ρ L (closedB_spec h1) (Region.free_spec h0 h2) (by simpa using h3) (fun L => .inr ⟨by unfold GYes; trivial, hq L⟩) k
/-- All orders. -/
theorem pwp_drawA {id : Nat} {l : List Oper} {ρ : Env} {L : List Res} (bs : List Nat) [hm : TMix P] (hG : guardsIn l.toArray N = true)
    (h : pAny P N l.toArray (fun k => bs.contains k) (Q .normal) l.length (Array.replicate l.length false) ρ L) : pwp P N (.region id l.toArray true) Q ρ L := fun ro base a w g hst => by
  refine wpIn_region_any hm.out ?_
  have hi := hst.inv
  have hst0 : Step (blocks L) w g { w with drawn := w.drawn + 1 } g := ⟨rfl, rfl, ⟨rfl, Nat.le_succ _⟩, Nat.le_refl _, fun _ _ _ => rfl, .refl g, fun _ _ _ => ⟨fun _ => rfl, rfl⟩⟩
  have hi' : Inv { w with drawn := w.drawn + 1 } g L := ⟨hi.sat, fun b z hz => (hi.satM b z hz).congr rfl, fun r hr => by have := hi.res r hr; cases r <;> first | exact this | (rename_i t _ _; cases t <;> exact this), hi.nodup, hi.glob⟩
  have k := wpAny_of_pAny (ro := ro) (base := base) (Q := Q) (w₀ := w) (g₀ := g) (L₀ := L) (fun _ _ h => h) hG _ _ ρ L a _ g hst.agr hi' hst0 (.refl _ _) h
  simpa using k
end
/-- What one walked operation knows, without resources. -/
theorem q_of_pops {P : Program} {N : Nat} {o : Oper} {ρ : Env} {d : Nat} {x : PV} {L : List Res} (hd : o.dst = some d) (hg : o.guard = none) (h : pops P N #[] (fun ρ' L' => ρ' d = x ∧ L' = L) [false] [o] ρ L) : QOp P o ρ L x := by
  obtain ⟨_, h⟩ := h
  rcases h with ⟨hno, _⟩ | ⟨_, ⟨y, hq, h1, _⟩ | ⟨hf, _⟩⟩
  · unfold GNo at hno
    rw [hg] at hno
    exact hno.elim
  · rw [hd] at h1
    have : y = x := by
      rw [← h1]
      show y = upd ρ d y d
      rw [upd_self]
    rw [← this]; exact hq
  · cases hf
end Go.Q
/- Contracts of the program: states of a search: Check, Result, Tell. -/
namespace Go.Proofs
open Go Go.Q
attribute [local irreducible] pwp pops pAny PCalls OpN

theorem cloneT_fn (l : List Dig) (u : Tag) (hl : l.length ≤ 1000000) : PCalls Tryz.prog 75 [.slice (l.map eDig) u] [] (fun r L' => ∃ t, r = .slice (l.map eDig) t ∧ L' = [.tok t l.length 32]) := by
  refine pcalls_bd Tryz.func75 rfl Tryz.ntmps75 (rs := [.tmp 2]) rfl rfl fun hb LF => ?_
  rw [List.nil_append]
  refine wf ?_
  refine s_eqNil rfl fun b hnil => ?_
  refine wf ?_
  refine pwp_condB (fun h => ?_) (fun h => ?_)
  · have h0 : l = [] := by simpa using hnil h
    subst h0
    refine pwp_tok 32 ?_
    refine wf ?_
    exact ⟨trivial, _, _, .cons (.tmp 2) .nil, .refl _, .nil, rfl, rfl⟩
  refine wf ?_
  refine s_append0 (by rfl) (by rfl) (by omega) (by omega) fun t => ?_
  refine wf ?_
  exact ⟨trivial, _, _, .cons (.tmp 2) .nil, .refl _, t, rfl, rfl⟩
theorem cloneB_fn (l : List Bool) (u : Tag) (hl : l.length ≤ 1000000) : PCalls Tryz.prog 76 [.slice (l.map eB) u] [] (fun r L' => ∃ t, r = .slice (l.map eB) t ∧ L' = [.tok t l.length 1]) := by
  refine pcalls_bd Tryz.func76 rfl Tryz.ntmps76 (rs := [.tmp 2]) rfl rfl fun hb LF => ?_
  rw [List.nil_append]
  refine wf ?_
  refine s_eqNil rfl fun b hnil => ?_
  refine wf ?_
  refine pwp_condB (fun h => ?_) (fun h => ?_)
  · have h0 : l = [] := by simpa using hnil h
    subst h0
    refine pwp_tok 1 ?_
    refine wf ?_
    exact ⟨trivial, _, _, .cons (.tmp 2) .nil, .refl _, .nil, rfl, rfl⟩
  refine wf ?_
  refine s_append0 (by rfl) (by rfl) (by omega) (by omega) fun t => ?_
  refine wf ?_
  exact ⟨trivial, _, _, .cons (.tmp 2) .nil, .refl _, t, rfl, rfl⟩
def checkP (s : List Sto) (b : Bis) : Int := if s.length = 0 then 27 else if followP s b (ids s) = false then 10 else 0
instance CheckB_ct (s : List Sto) (b : Bis) (t : Tag) [hs : Small (Valid s)] : FnC Tryz.prog 29 [.slice (s.map eSto) t, .agg (eBis b)] (.raw (.int .i64 (checkP s b))) := ⟨by
  have v := hs.out
  have h8 := v.close.1.1
  have hil := ids_len s
  have i0 : Small ((ids s).length ≤ 1000000) := ⟨by omega⟩
  refine fn_of Tryz.func29 Tryz.ntmps29 rfl (rs := [.tmp 4]) rfl rfl fun hb LF => ?_
  refine wf ?_
  refine pwp_condD (fun h => ?_) (fun h => ?_)
  · refine wf ?_
    refine end1 (.of_eq ?_)
    rw [checkP, if_pos (by omega)]
  have h0 : ¬ s.length = 0 := by omega
  refine wf ?_
  refine s_alloc fun b5 => ?_
  refine wo ?_
  refine pops_nil ?_
  refine pwp_freezeD 5 ?_
  refine wf ?_
  refine pwp_condB (fun h => ?_) (fun h => ?_)
  · refine wf ?_
    refine end1 (.of_eq ?_)
    rw [checkP, if_neg h0, if_pos (by simpa using h)]
  · refine wf ?_
    refine end1 (.of_eq ?_)
    rw [checkP, if_neg h0, if_neg (by simpa using h)]⟩
def resultP (s : List Sto) (b : Bis) : Dig × Bool := if checkP s b ≠ 0 ∨ b.left.length ≠ 1 then (Dig.zero, false) else (b.left.getD 0 Dig.zero, true)
instance ResultB_ct (s : List Sto) (b : Bis) (t : Tag) [hs : Small (Valid s)] : FnC Tryz.prog 26 [.slice (s.map eSto) t, .agg (eBis b)] (.tuple [.agg (eDig (resultP s b).1), .raw (.bool (resultP s b).2)]) := ⟨by
  refine fn_of Tryz.func26 Tryz.ntmps26 rfl (rs := [.cell 4 37, .tmp 5]) rfl rfl fun hb LF => ?_
  refine wf ?_
  refine s_alloc fun b4 => ?_
  refine wf ?_
  refine pops_if (fun hp => ?_) (fun hp => ?_)
  · refine wf ?_
    refine endC1 rfl ?_
    rw [resultP, if_pos (.inl (by simpa using hp))]
    exact .refl _
  have h0 : checkP s b = 0 := by simpa using hp
  refine wf ?_
  refine pwp_condN (fun h => ?_) (fun h => ?_)
  · refine wf ?_
    refine endC1 rfl ?_
    rw [resultP, if_pos (.inr (by omega))]
    exact .refl _
  · have h1 : b.left.length = 1 := by omega
    have e : b.left.getD 0 Dig.zero = b.left[0] := by simp [List.getD, h1]
    refine wf ?_
    refine endC1 rfl ?_
    rw [resultP, if_neg (by simp [h0, h1]), e]
    exact .refl _⟩
def tellP (s : List Sto) (b : Bis) (bad : Bool) : Bis × Int := if checkP s b ≠ 0 then (Bis.zero, checkP s b) else if b.left.length < 2 then (Bis.zero, 16) else
  (⟨aft s b.left (questP (cloS s) b.left) bad, b.asked ++ [questP (cloS s) b.left], b.bad ++ [bad]⟩, 0)
theorem check_follow {s : List Sto} {b : Bis} (h : checkP s b = 0) : s.length ≠ 0 ∧ followP s b (ids s) = true := by
  unfold checkP at h
  split at h
  · omega
  rename_i h1
  split at h
  · omega
  rename_i h2
  exact ⟨h1, by simpa using h2⟩
theorem fol_asked {s : List Sto} (v : Valid s) {asked : List Dig} {bad : List Bool} {left : List Dig} (hl : ∀ x ∈ left, x ∈ ids s) (hn : left.Nodup) : ∀ {k : Nat} {l : List Dig}, fol s asked bad left k = some l → l.length + k ≤ left.length ∧ (∀ x ∈ l, x ∈ ids s) ∧ l.Nodup
  | 0, l, h => by
    have : some left = some l := h
    injection this with e
    subst e; exact ⟨by omega, hl, hn⟩
  | k + 1, l, h => by
    rw [fol_succ] at h
    cases hf : fol s asked bad left k with
    | none => rw [hf] at h; cases h
    | some m =>
      obtain ⟨i1, i2, i3⟩ := fol_asked v hl hn hf
      rw [hf, folStep, Option.bind_some] at h
      split at h
      · cases h
      · rename_i hc
        injection h with e
        have h2 : 2 ≤ m.length := by omega
        have hq : asked.getD k Dig.zero = questP (cloS s) m := Classical.not_not.1 fun h => hc (.inr h)
        have := v.less i2 i3 h2 (bad.getD k false)
        rw [← hq, e] at this
        subst e
        exact ⟨by omega, fun x hx => i2 x (aft_sub hx), aft_nodup i3⟩
/-- What follows a search's start: few questions, candidates of the set. -/
theorem follow_facts {s : List Sto} (v : Valid s) {b : Bis} (h : followP s b (ids s) = true) : b.left.length + b.asked.length ≤ s.length ∧ b.asked.length = b.bad.length ∧ (∀ x ∈ b.left, x ∈ ids s) ∧ b.left.Nodup := by
  obtain ⟨h1, h2⟩ := of_decide_eq_true h
  obtain ⟨k1, k2, k3⟩ := fol_asked v (fun _ h => h) v.asc.nodup h2
  rw [ids_len] at k1
  exact ⟨k1, h1, k2, k3⟩
set_option maxHeartbeats 4000000 in
instance TellB_ct (s : List Sto) (b : Bis) (bad : Bool) (t : Tag) [hs : Small (Valid s)] : FnC Tryz.prog 24 [.slice (s.map eSto) t, .agg (eBis b), .raw (.bool bad)] (.tuple [.agg (eBis (tellP s b bad).1), .raw (.int .i64 (tellP s b bad).2)]) := ⟨by
  have v := hs.out
  have h8 := v.close.1.1
  have hil := ids_len s
  refine fn_of Tryz.func24 Tryz.ntmps24 rfl (rs := [.cell 6 28, .tmp 7]) rfl rfl fun hb LF => ?_
  refine wf ?_
  refine s_alloc fun b6 => ?_
  refine wf ?_
  refine pwp_condN (fun h => ?_) (fun h => ?_)
  · refine wf ?_
    refine endC1 rfl ?_
    rw [tellP, if_pos h]
    exact .refl _
  obtain ⟨h0, hf⟩ := check_follow h
  have hbl := follow_len hf
  obtain ⟨hal, hab, _, _⟩ := follow_facts v hf
  have i3 : Small (b.left.length ≤ 1000000) := ⟨by omega⟩
  refine wf ?_
  refine s_alloc fun b9 => ?_
  refine wo ?_
  refine pops_nil ?_
  refine pwp_freezeD 9 ?_
  refine wf ?_
  refine s_alloc fun b11 => ?_
  refine wo ?_
  refine pops_nil ?_
  refine pwp_freezeD 11 ?_
  refine wf ?_
  refine pwp_condB (fun h2 => ?_) (fun h2 => ?_)
  · have h3 : ¬ (1 : Int) < b.left.length := by simpa using h2
    refine wf ?_
    refine endC1 rfl ?_
    rw [tellP, if_neg (by simp [h]), if_pos (by omega)]
    exact .refl _
  have h3 : (1 : Int) < b.left.length := by simpa using h2
  refine wn ?_
  refine pwp_drawA [8, 11, 14, 17, 19] (by decide +kernel) ?_
  refine pAny_quiet 0 rfl (by decide +kernel) rfl (fun L' => q_of_pops (N := 54) rfl rfl (by refine wo ?_; refine pops_nil ?_; exact ⟨upd_self _ _ _, rfl⟩)) ?_
  refine pAny_quiet 1 rfl (by decide +kernel) rfl (fun L' => q_of_pops (N := 54) rfl rfl (by refine wo ?_; refine pops_nil ?_; exact ⟨upd_self _ _ _, rfl⟩)) ?_
  refine pAny_quiet 2 rfl (by decide +kernel) rfl (fun L' => q_of_pops (N := 54) rfl rfl (by refine wo ?_; refine pops_nil ?_; exact ⟨upd_self _ _ _, rfl⟩)) ?_
  refine pAny_quiet 3 rfl (by decide +kernel) rfl (fun L' => q_of_pops (N := 54) rfl rfl (by refine wo ?_; refine pops_nil ?_; exact ⟨upd_self _ _ _, rfl⟩)) ?_
  refine pAny_quiet 4 rfl (by decide +kernel) rfl (fun L' => q_of_pops (N := 54) rfl rfl (by refine wo ?_; refine pops_nil ?_; exact ⟨upd_self _ _ _, rfl⟩)) ?_
  refine pAny_quiet 5 rfl (by decide +kernel) rfl (fun L' => q_of_pops (N := 54) rfl rfl (by refine wo ?_; refine pops_nil ?_; exact ⟨upd_self _ _ _, rfl⟩)) ?_
  refine pAny_quiet 6 rfl (by decide +kernel) rfl (fun L' => q_of_pops (N := 54) rfl rfl (by refine wo ?_; refine pops_nil ?_; exact ⟨upd_self _ _ _, rfl⟩)) ?_
  refine pAny_quiet 7 rfl (by decide +kernel) rfl (fun L' => q_of_pops (N := 54) rfl rfl (by refine wo ?_; refine pops_nil ?_; exact ⟨upd_self _ _ _, rfl⟩)) ?_
  refine pAny_quiet 9 rfl (by decide +kernel) rfl (fun L' => q_of_pops (N := 54) rfl rfl (by refine wo ?_; refine pops_nil ?_; exact ⟨upd_self _ _ _, rfl⟩)) ?_
  refine pAny_quiet 10 rfl (by decide +kernel) rfl (fun L' => q_of_pops (N := 54) rfl rfl (by refine wo ?_; refine pops_nil ?_; exact ⟨upd_self _ _ _, rfl⟩)) ?_
  refine pAny_quiet 12 rfl (by decide +kernel) rfl (fun L' => q_of_pops (N := 54) rfl rfl (by refine wo ?_; refine pops_nil ?_; exact ⟨upd_self _ _ _, rfl⟩)) ?_
  refine pAny_quiet 13 rfl (by decide +kernel) rfl (fun L' => q_of_pops (N := 54) rfl rfl (by refine wo ?_; refine pops_nil ?_; exact ⟨upd_self _ _ _, rfl⟩)) ?_
  refine pAny_quiet 15 rfl (by decide +kernel) rfl (fun L' => q_of_pops (N := 54) rfl rfl (by refine wo ?_; refine pops_nil ?_; exact ⟨upd_self _ _ _, rfl⟩)) ?_
  refine pAny_quiet 16 rfl (by decide +kernel) rfl (fun L' => q_of_pops (N := 54) rfl rfl (by refine wo ?_; refine pops_nil ?_; exact ⟨upd_self _ _ _, rfl⟩)) ?_
  refine pAny_next (fuel := 6) [8] (by decide +kernel) (by simp) fun i hi => ?_
  simp only [List.mem_cons, List.not_mem_nil, or_false] at hi
  subst hi
  refine ⟨_, rfl, ?_⟩
  refine s_callR (xs := [.tmp 42]) [] _ (f := 75) (cs := []) (le_func _) rfl rfl (.refl _) _ (cloneT_fn b.asked .ro (by omega)) fun r L1 ⟨t1, e1, e2⟩ => ?_
  subst e1 e2
  rw [List.cons_append, List.nil_append]
  refine pops_nil ?_
  refine pAny_next (fuel := 5) [11] (by decide +kernel) (by simp) fun i hi => ?_
  simp only [List.mem_cons, List.not_mem_nil, or_false] at hi
  subst hi
  refine ⟨_, rfl, ?_⟩
  refine wfa fun t11 => ?_
  refine pAny_next (fuel := 4) [14] (by decide +kernel) (by simp) fun i hi => ?_
  simp only [List.mem_cons, List.not_mem_nil, or_false] at hi
  subst hi
  refine ⟨_, rfl, ?_⟩
  refine s_callR (xs := [.tmp 48]) [] _ (f := 76) (cs := []) (le_func _) rfl rfl (.refl _) _ (cloneB_fn b.bad .ro (by omega)) fun r L2 ⟨t2, e1, e2⟩ => ?_
  subst e1 e2
  rw [List.cons_append, List.nil_append]
  refine pops_nil ?_
  refine pAny_next (fuel := 3) [17] (by decide +kernel) (by simp) fun i hi => ?_
  simp only [List.mem_cons, List.not_mem_nil, or_false] at hi
  subst hi
  refine ⟨_, rfl, ?_⟩
  refine wfa fun t17 => ?_
  refine pAny_next (fuel := 2) [18] (by decide +kernel) (by simp) fun i hi => ?_
  simp only [List.mem_cons, List.not_mem_nil, or_false] at hi
  subst hi
  refine ⟨_, rfl, ?_⟩
  refine wf ?_
  refine pAny_next (fuel := 1) [19] (by decide +kernel) (by simp) fun i hi => ?_
  simp only [List.mem_cons, List.not_mem_nil, or_false] at hi
  subst hi
  refine ⟨_, rfl, ?_⟩
  refine wf ?_
  refine pAny_next (fuel := 0) [20] (by decide +kernel) (by simp) fun i hi => ?_
  simp only [List.mem_cons, List.not_mem_nil, or_false] at hi
  subst hi
  refine ⟨_, rfl, ?_⟩
  refine wf ?_
  refine pAny_end (by decide +kernel) ?_
  refine wf ?_
  refine endC1 rfl ?_
  rw [tellP, if_neg (by simp [h]), if_neg (by omega)]
  exact .refl _⟩
end Go.Proofs
