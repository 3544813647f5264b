/- Contracts: one more answer (the reference's layer 31); the law BisectState. -/
import Derived.Test.YtddlffkdpocmhaaGreatDoorWsaa
import Derived.Test.YtddlffkdpocmhaaGreatDoorWaq
set_option linter.unusedSimpArgs false
set_option linter.unusedVariables false
namespace Go.Proofs
open Go Go.Q
attribute [local irreducible] pwp pops pAny PCalls OpN

set_option maxHeartbeats 4000000 in
instance Tell31_ct (s : List Sto) (b : Bis) (bad : Bool) (t : Tag) [hs : Small (Valid s)] : FnC Tryz.prog 25 [.slice (s.map eSto) t, .agg (eBis b), .raw (.bool bad)] (.tuple [.agg (eBis (tellP s b bad).1), .raw (.int .i64 (tellP s b bad).2)]) := ⟨by
  have v := hs.out
  have h8 := v.close.1.1
  have i0 : Small (closeS s) := ⟨v.close⟩
  refine fn_of Tryz.func25 Tryz.ntmps25 rfl (rs := [.cell 6 28, .tmp 7]) rfl rfl fun hb LF => ?_
  refine wf ?_
  refine s_alloc fun b6 => ?_
  refine wf ?_
  refine pwp_condN (fun h => ?_) (fun h => ?_)
  · refine wf ?_
    refine endC1 rfl ?_
    rw [tellP, if_pos h]
    exact .refl _
  obtain ⟨k1, k2, k3, hal, hab⟩ := check_facts v h
  refine wf ?_
  refine pwp_condD (fun h2 => ?_) (fun h2 => ?_)
  · refine wf ?_
    refine endC1 rfl ?_
    rw [tellP, if_neg (by simp [h]), if_pos (by omega)]
    exact .refl _
  have e1 : tellP s b bad = (⟨aft s b.left (questR (cloS s) b.left) bad, b.asked ++ [questR (cloS s) b.left], b.bad ++ [bad]⟩, 0) := by
    rw [tellP, if_neg (by simp [h]), if_neg (by omega), questP_eq (cloS s) k3 (by omega)]
  refine wf ?_
  refine s_alloc fun b9 => ?_
  refine wo ?_
  refine pops_nil ?_
  refine pwp_freezeD 9 ?_
  refine wn ?_
  refine pwp_drawA [9, 12, 16, 19, 21] (by decide +kernel) ?_
  refine pAny_quiet 0 rfl (by decide +kernel) rfl (fun L' => q_of_pops (N := 55) rfl rfl (by refine wo ?_; refine pops_nil ?_; exact ⟨upd_self _ _ _, rfl⟩)) ?_
  refine pAny_quiet 1 rfl (by decide +kernel) rfl (fun L' => q_of_pops (N := 55) rfl rfl (by refine wo ?_; refine pops_nil ?_; exact ⟨upd_self _ _ _, rfl⟩)) ?_
  refine pAny_quiet 2 rfl (by decide +kernel) rfl (fun L' => q_of_pops (N := 55) rfl rfl (by refine wo ?_; refine pops_nil ?_; exact ⟨upd_self _ _ _, rfl⟩)) ?_
  refine pAny_quiet 3 rfl (by decide +kernel) rfl (fun L' => q_of_pops (N := 55) rfl rfl (by refine wo ?_; refine pops_nil ?_; exact ⟨upd_self _ _ _, rfl⟩)) ?_
  refine pAny_quiet 4 rfl (by decide +kernel) rfl (fun L' => q_of_pops (N := 55) rfl rfl (by refine wo ?_; refine pops_nil ?_; exact ⟨upd_self _ _ _, rfl⟩)) ?_
  refine pAny_quiet 5 rfl (by decide +kernel) rfl (fun L' => q_of_pops (N := 55) rfl rfl (by refine wo ?_; refine pops_nil ?_; exact ⟨upd_self _ _ _, rfl⟩)) ?_
  refine pAny_quiet 6 rfl (by decide +kernel) rfl (fun L' => q_of_pops (N := 55) rfl rfl (by refine wo ?_; refine pops_nil ?_; exact ⟨upd_self _ _ _, rfl⟩)) ?_
  refine pAny_quiet 7 rfl (by decide +kernel) rfl (fun L' => q_of_pops (N := 55) rfl rfl (by refine wo ?_; refine pops_nil ?_; exact ⟨upd_self _ _ _, rfl⟩)) ?_
  refine pAny_quiet 8 rfl (by decide +kernel) rfl (fun L' => q_of_pops (N := 55) rfl rfl (by refine wo ?_; refine pops_nil ?_; exact ⟨upd_self _ _ _, rfl⟩)) ?_
  refine pAny_quiet 10 rfl (by decide +kernel) rfl (fun L' => q_of_pops (N := 55) rfl rfl (by refine wo ?_; refine pops_nil ?_; exact ⟨upd_self _ _ _, rfl⟩)) ?_
  refine pAny_quiet 11 rfl (by decide +kernel) rfl (fun L' => q_of_pops (N := 55) rfl rfl (by refine wo ?_; refine pops_nil ?_; exact ⟨upd_self _ _ _, rfl⟩)) ?_
  refine pAny_quiet 13 rfl (by decide +kernel) rfl (fun L' => q_of_pops (N := 55) rfl rfl (by refine wo ?_; refine pops_nil ?_; exact ⟨upd_self _ _ _, rfl⟩)) ?_
  refine pAny_quiet 14 rfl (by decide +kernel) rfl (fun L' => q_of_pops (N := 55) rfl rfl (by refine wo ?_; refine pops_nil ?_; exact ⟨upd_self _ _ _, rfl⟩)) ?_
  refine pAny_quiet 15 rfl (by decide +kernel) rfl (fun L' => q_of_pops (N := 55) rfl rfl (by refine wo ?_; refine pops_nil ?_; exact ⟨upd_self _ _ _, rfl⟩)) ?_
  refine pAny_quiet 17 rfl (by decide +kernel) rfl (fun L' => q_of_pops (N := 55) rfl rfl (by refine wo ?_; refine pops_nil ?_; exact ⟨upd_self _ _ _, rfl⟩)) ?_
  refine pAny_quiet 18 rfl (by decide +kernel) rfl (fun L' => q_of_pops (N := 55) rfl rfl (by refine wo ?_; refine pops_nil ?_; exact ⟨upd_self _ _ _, rfl⟩)) ?_
  refine pAny_next (fuel := 6) [9] (by decide +kernel) (by simp) fun i hi => ?_
  simp only [List.mem_cons, List.not_mem_nil, or_false] at hi
  subst hi
  refine ⟨_, rfl, ?_⟩
  refine s_append0 (by rfl) (by rfl) (by omega) (by omega) fun t9 => ?_
  refine pops_nil ?_
  refine pAny_next (fuel := 5) [12] (by decide +kernel) (by simp) fun i hi => ?_
  simp only [List.mem_cons, List.not_mem_nil, or_false] at hi
  subst hi
  refine ⟨_, rfl, ?_⟩
  refine wfa fun t12 => ?_
  refine pAny_next (fuel := 4) [16] (by decide +kernel) (by simp) fun i hi => ?_
  simp only [List.mem_cons, List.not_mem_nil, or_false] at hi
  subst hi
  refine ⟨_, rfl, ?_⟩
  refine s_append0 (by rfl) (by rfl) (by omega) (by omega) fun t16 => ?_
  refine pops_nil ?_
  refine pAny_next (fuel := 3) [19] (by decide +kernel) (by simp) fun i hi => ?_
  simp only [List.mem_cons, List.not_mem_nil, or_false] at hi
  subst hi
  refine ⟨_, rfl, ?_⟩
  refine wfa fun t19 => ?_
  refine pAny_next (fuel := 2) [20] (by decide +kernel) (by simp) fun i hi => ?_
  simp only [List.mem_cons, List.not_mem_nil, or_false] at hi
  subst hi
  refine ⟨_, rfl, ?_⟩
  refine wf ?_
  refine pAny_next (fuel := 1) [21] (by decide +kernel) (by simp) fun i hi => ?_
  simp only [List.mem_cons, List.not_mem_nil, or_false] at hi
  subst hi
  refine ⟨_, rfl, ?_⟩
  refine wf ?_
  refine pAny_next (fuel := 0) [22] (by decide +kernel) (by simp) fun i hi => ?_
  simp only [List.mem_cons, List.not_mem_nil, or_false] at hi
  subst hi
  refine ⟨_, rfl, ?_⟩
  refine wf ?_
  refine pAny_end (by decide +kernel) ?_
  refine wf ?_
  refine endC1 rfl ?_
  rw [e1]
  exact .refl _⟩
set_option maxHeartbeats 2000000 in
theorem bisectState_fn (s : List Sto) (t : Tag) (b : Bis) (bad : Bool) : FnC Tryz.prog 5 [.slice (s.map eSto) t, .agg (eBis b), .raw (.bool bad)] (.raw (.bool true)) := ⟨by
  refine fn_of Tryz.func5 Tryz.ntmps5 rfl (rs := [.tmp 6]) rfl rfl fun hb LF => ?_
  refine wf ?_
  refine pwp_condB (fun h => ?_) (fun h => ?_)
  · refine wf ?_
    exact end1 (.refl _)
  have v : Valid s := small_valid (b := b) (nnot h)
  have i1 : Small (Valid s) := ⟨v⟩
  have s1 : ∀ a : Bis, FnC Tryz.prog 28 [.agg (eBis a), .agg (eBis a)] (.raw (.bool true)) := sameSelf
  have s2 : ∀ (l : List Sto) (t u : Tag), FnC Tryz.prog 31 [.slice (l.map eSto) t, .slice (l.map eSto) u] (.raw (.bool true)) := fun l t u => by
    have h := SameSet_ct l l t u
    have e : decide (l = l) = true := decide_eq_true rfl
    rwa [e] at h
  have g1 : decide ((startP s).2 = (startP s).2) = true := decide_eq_true rfl
  have g2 : decide (checkP s b = checkP s b) = true := decide_eq_true rfl
  have g3 : decide ((nextP s b).1 = (nextP s b).1) = true := decide_eq_true rfl
  have g4 : decide ((nextP s b).2.2 = (nextP s b).2.2) = true := decide_eq_true rfl
  have g5 : decide ((tellP s b bad).2 = (tellP s b bad).2) = true := decide_eq_true rfl
  have g6 : decide ((resultP s b).1 = (resultP s b).1) = true := decide_eq_true rfl
  have g7 : decide ((resultP s b).2 = (resultP s b).2) = true := decide_eq_true rfl
  clear h
  refine wf ?_
  refine s_alloc fun b7 => ?_
  refine wo ?_
  refine pops_nil ?_
  refine pwp_freezeD 7 ?_
  refine wf ?_
  refine s_alloc fun b9 => ?_
  refine wo ?_
  refine pops_nil ?_
  refine pwp_freezeD 9 ?_
  refine wf ?_
  refine s_alloc fun b11 => ?_
  refine wo ?_
  refine pops_nil ?_
  refine pwp_freezeD 11 ?_
  refine wf ?_
  refine s_alloc fun b14 => ?_
  refine wo ?_
  refine pops_nil ?_
  refine pwp_freezeD 14 ?_
  refine wf ?_
  refine s_alloc fun b17 => ?_
  refine wo ?_
  refine pops_nil ?_
  refine pwp_freezeD 17 ?_
  refine wf ?_
  refine s_alloc fun b19 => ?_
  refine wo ?_
  refine pops_nil ?_
  refine pwp_freezeD 19 ?_
  refine wf ?_
  refine s_alloc fun b21 => ?_
  refine wo ?_
  refine pops_nil ?_
  refine pwp_freezeD 21 ?_
  refine wf ?_
  refine s_alloc fun b23 => ?_
  refine wo ?_
  refine pops_nil ?_
  refine pwp_freezeD 23 ?_
  refine wf ?_
  refine end1 (.of_eq ?_)
  rfl⟩
end Go.Proofs
