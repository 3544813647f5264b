/- BisectFinds' contract: it answers true, whatever the set and the patches. -/
import Derived.Test.YtddlffkdpocmhaaGreatDoorWfaa
import Derived.Test.YtddlffkdpocmhaaGreatDoorWaq
set_option linter.unusedSimpArgs false
set_option linter.unusedVariables false
namespace Go.Proofs
open Go Go.Q
attribute [local irreducible] pwp pops pAny PCalls OpN

set_option maxHeartbeats 2000000 in
theorem bisectFinds_fn (s : List Sto) (t : Tag) (B : List Dig) (u : Tag) : FnC Tryz.prog 7 [.slice (s.map eSto) t, .slice (B.map eDig) u] (.raw (.bool true)) := ⟨by
  refine fn_of Tryz.func7 Tryz.ntmps7 rfl (rs := [.tmp 4]) rfl rfl fun hb LF => ?_
  refine wf ?_
  refine pops_if (fun hp => ?_) (fun hp => ?_)
  · refine wf ?_
    exact end1 (.refl _)
  have v : Valid s := small_valid (b := Bis.zero) (nnot hp)
  have h8 := v.close.1.1
  have i1 : Small (Valid s) := ⟨v⟩
  refine wf ?_
  refine pwp_condB (fun hA => ?_) (fun hA => ?_)
  · refine wf ?_
    exact end1 (.refl _)
  have hA : ((ids s).any fun d => decide (d ∈ B)) = true := nnot hA
  have h0 : s.length ≠ 0 := fun h => by
    rw [List.eq_nil_of_length_eq_zero h] at hA
    cases hA
  have hil := ids_len s
  have hst : startP s = (⟨ids s, [], []⟩, 0) := by rw [startP, if_neg h0]
  have sx := fun t => StartP_ct s t
  simp only [hst] at sx
  refine wf ?_
  refine s_alloc fun b6 => ?_
  refine wf ?_
  refine pwp_loopS (σ := Bis × Nat) (fun k => Hunt s B k.1 ∧ (k.2 : Int) + worst (cloS s) s.length k.1.left ≤ worst (cloS s) s.length (ids s) ∧ k.2 ≤ 1000 ∧ k.2 + k.1.left.length ≤ 8) (fun k => k.1.left.length) (fun k => [(0, .slice (s.map eSto) t), (3, .pt [.slice (B.map eDig) .ro] 0), (5, .slice ((ids s).map eDig) .ro), (6, .raw (.pointer (some ⟨b6, 0, none⟩))), (7, .raw (.int .i64 0)), (8, .raw (.int .i64 k.2))]) (fun k => .box b6 28 (eBis k.1) :: LF) (⟨ids s, [], []⟩, 0) ⟨hunt_start v hA, by dsimp only; omega, by omega, by dsimp only; omega⟩ ⟨rfl, rfl, rfl, rfl, rfl, rfl⟩ (.refl _) ?_
  rintro ⟨b, n⟩ ⟨hH, hW, hn, hn8⟩
  dsimp only at hH hW hn hn8 ⊢
  obtain ⟨hlen, _, hl, hnd⟩ := follow_facts v hH.fol
  have hpos := hH.pos
  have nx := fun t => NextP_ct s b t
  have rx := fun t => ResultB_ct s b t
  have tx := fun bad t => TellB_ct s b bad t
  have hne : ¬ (s.length = 0 ∨ followP s b (ids s) = false) := by simp [h0, hH.fol]
  have hch := check_of h0 hH.fol
  refine Decidable.byCases (p := b.left.length < 2) (fun hw => ?_) (fun hw => ?_)
  · have e1 : nextP s b = (Dig.zero, [], false) := by rw [nextP, if_neg hne, if_pos hw]
    have e2 : resultP s b = (b.left.getD 0 Dig.zero, true) := by rw [resultP, if_neg (by simp [hch]; omega)]
    simp only [e1] at nx
    simp only [e2] at rx
    have g1 : decide (b.left.getD 0 Dig.zero ∈ B) = true := decide_eq_true (hH.found (by omega))
    have g2 : decide (b.left.getD 0 Dig.zero ∈ ids s) = true := decide_eq_true (hl _ (by rw [List.getD_eq_getElem?_getD, List.getElem?_eq_getElem hpos]; exact List.getElem_mem _))
    refine wf ?_
    refine s_alloc fun b9 => ?_
    refine wo ?_
    refine pops_nil ?_
    refine pwp_freezeD 9 ?_
    refine wf ?_
    refine s_alloc fun b12 => ?_
    refine wo ?_
    refine pops_nil ?_
    refine pwp_freezeD 12 ?_
    refine wf ?_
    refine end1 (.of_eq ?_)
    rfl
  · have h2 : 2 ≤ b.left.length := by omega
    have e1 : nextP s b = (questP (cloS s) b.left, keepS s (cloS s (questP (cloS s) b.left)), true) := by rw [nextP, if_neg hne, if_neg hw]
    obtain ⟨hm, _, _⟩ := v.quest hl hnd h2
    have hnew := hH.tell v h2
    have hless := v.less hl hnd h2 (testB s B (questP (cloS s) b.left))
    have hwa := worst_aft v hl hnd h2 (n := s.length) (by omega) (testB s B (questP (cloS s) b.left))
    have htl := tell_of h0 hH.fol h2 (testB s B (questP (cloS s) b.left))
    have hnn := worst_nonneg (cloS s) s.length (aft s b.left (questP (cloS s) b.left) (testB s B (questP (cloS s) b.left)))
    simp only [e1] at nx
    have g1 : decide (worst (cloS s) s.length (ids s) ≤ (n : Int)) = false := decide_eq_false (by omega)
    have g2 : decide (questP (cloS s) b.left ∈ ids s) = true := decide_eq_true (hl _ hm)
    refine wf ?_
    refine s_alloc fun b9 => ?_
    refine wo ?_
    refine pops_nil ?_
    refine pwp_freezeD 9 ?_
    have tx : ∀ t, FnC Tryz.prog 24 [.slice (s.map eSto) t, .agg (eBis b), .raw (.bool ((keepS s (cloS s (questP (cloS s) b.left))).any fun x => decide (x.id ∈ B)))] (.tuple [.agg (eBis ⟨aft s b.left (questP (cloS s) b.left) (testB s B (questP (cloS s) b.left)), b.asked ++ [questP (cloS s) b.left], b.bad ++ [testB s B (questP (cloS s) b.left)]⟩), .raw (.int .i64 0)]) := fun t => by
      have h := tx (testB s B (questP (cloS s) b.left)) t
      rw [htl] at h
      exact h
    refine wn ?_
    refine pwp_condN (fun h => ?_) (fun h => ?_)
    · exact absurd (hl _ hm) h
    refine wn ?_
    refine pwp_drawA [1, 9] (by decide +kernel) ?_
    refine pAny_quiet 0 rfl (by decide +kernel) rfl (fun L' => q_of_pops (N := 88) rfl rfl (by refine wo ?_; refine pops_nil ?_; exact ⟨upd_self _ _ _, rfl⟩)) ?_
    refine pAny_quiet 2 rfl (by decide +kernel) rfl (fun L' => q_of_pops (N := 88) rfl rfl (by refine wo ?_; refine pops_nil ?_; exact ⟨upd_self _ _ _, rfl⟩)) ?_
    refine pAny_quiet 3 rfl (by decide +kernel) rfl (fun L' => q_of_pops (N := 88) rfl rfl (by refine wo ?_; refine pops_nil ?_; exact ⟨upd_self _ _ _, rfl⟩)) ?_
    refine pAny_quiet 4 rfl (by decide +kernel) rfl (fun L' => q_of_pops (N := 88) rfl rfl (by refine wo ?_; refine pops_nil ?_; exact ⟨upd_self _ _ _, rfl⟩)) ?_
    refine pAny_next (fuel := 6) [1] (by decide +kernel) (by simp) fun i hi => ?_
    simp only [List.mem_cons, List.not_mem_nil, or_false] at hi
    subst hi
    refine ⟨_, rfl, ?_⟩
    refine wf ?_
    refine pAny_quiet 5 rfl (by decide +kernel) rfl (fun L' => q_of_pops (N := 88) rfl rfl (by refine wo ?_; refine pops_nil ?_; exact ⟨upd_self _ _ _, rfl⟩)) ?_
    refine pAny_quiet 6 rfl (by decide +kernel) rfl (fun L' => q_of_pops (N := 88) rfl rfl (by refine wo ?_; refine pops_nil ?_; exact ⟨upd_self _ _ _, rfl⟩)) ?_
    refine pAny_quiet 7 rfl (by decide +kernel) rfl (fun L' => q_of_pops (N := 88) rfl rfl (by refine wo ?_; refine pops_nil ?_; exact ⟨upd_self _ _ _, rfl⟩)) ?_
    refine pAny_quiet 8 rfl (by decide +kernel) rfl (fun L' => q_of_pops (N := 88) rfl rfl (by refine wo ?_; refine pops_nil ?_; exact ⟨upd_self _ _ _, rfl⟩)) ?_
    refine pAny_next (fuel := 1) [9] (by decide +kernel) (by simp) fun i hi => ?_
    simp only [List.mem_cons, List.not_mem_nil, or_false] at hi
    subst hi
    refine ⟨_, rfl, ?_⟩
    refine wf ?_
    refine pAny_next (fuel := 0) [10] (by decide +kernel) (by simp) fun i hi => ?_
    simp only [List.mem_cons, List.not_mem_nil, or_false] at hi
    subst hi
    refine ⟨_, rfl, ?_⟩
    refine wf ?_
    refine pAny_end (by decide +kernel) ?_
    refine wf ?_
    exact ⟨(⟨aft s b.left (questP (cloS s) b.left) (testB s B (questP (cloS s) b.left)), b.asked ++ [questP (cloS s) b.left], b.bad ++ [testB s B (questP (cloS s) b.left)]⟩, n + 1), ⟨hnew, by dsimp only; omega, by dsimp only; omega, by dsimp only; omega⟩, hless, ⟨rfl, rfl, rfl, rfl, rfl, rfl⟩, .refl _⟩⟩
end Go.Proofs
