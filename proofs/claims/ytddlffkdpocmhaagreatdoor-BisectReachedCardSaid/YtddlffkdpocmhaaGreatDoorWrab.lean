/- BisectReached's contract: it answers true, whatever the set and the answers. -/
import Derived.Test.YtddlffkdpocmhaaGreatDoorWraa
import Derived.Test.YtddlffkdpocmhaaGreatDoorWaq
set_option linter.unusedSimpArgs false
set_option linter.unusedVariables false
namespace Go.Proofs
open Go Go.Q
attribute [local irreducible] pwp pops PCalls OpN

theorem reach_stop {s : List Sto} {k : Bis × Int} (h : k.2 ≠ 0 ∨ k.1.left.length < 2) (l : List Bool) : l.foldl (reachStep s) k = k := by
  induction l with
  | nil => rfl
  | cons x l ih => rw [List.foldl_cons, reachStep, if_pos h, ih]
theorem reach_end {s : List Sto} {l : List Bool} {k : Nat} (h : (reachP s (l.take k)).2 ≠ 0 ∨ (reachP s (l.take k)).1.left.length < 2) : reachP s l = reachP s (l.take k) := by
  conv => lhs; rw [← List.take_append_drop k l, reachP, List.foldl_append]
  exact reach_stop h _
set_option maxHeartbeats 1000000 in
instance Reached_ct (s : List Sto) (l : List Bool) (t u : Tag) [hs : Small (Valid s)] : FnC Tryz.prog 32 [.slice (s.map eSto) t, .slice (l.map eB) u] (.tuple [.agg (eBis (reachP s l).1), .raw (.bool (decide ((reachP s l).2 = 0)))]) := ⟨by
  refine fn_of Tryz.func32 Tryz.ntmps32 rfl (rs := [.cell 4 28, .tmp 5]) rfl rfl fun hb LF => ?_
  have hlen : l.length ≤ 140737488355328 := (hb (.slice (l.map eB) u) (by simp)).slice_map
  refine wf ?_
  refine s_alloc fun b4 => ?_
  refine wf ?_
  refine s_alloc fun b6 => ?_
  refine wf ?_
  refine pwp_loopS (σ := Nat) (fun k => k ≤ l.length) (fun k => l.length - k) (fun k => [(0, .slice (s.map eSto) t), (4, .raw (.pointer (some ⟨b4, 0, none⟩))), (6, .raw (.pointer (some ⟨b6, 0, none⟩))), (7, .raw (.int .i64 (reachP s (l.take k)).2)), (15, .slice (l.map eB) u), (16, .raw (.int .i64 l.length)), (17, .raw (.int .i64 k))]) (fun k => .box b6 28 (eBis (reachP s (l.take k)).1) :: .box b4 28 (eBis Bis.zero) :: LF) 0 (by simp) ⟨rfl, rfl, rfl, rfl, rfl, rfl, rfl⟩ (.refl _) ?_
  rintro k hk
  refine wf ?_
  refine pwp_condD (fun hc => ?_) (fun hc => ?_)
  · have hlt : k < l.length := by omega
    have hrs := reach_succ s hlt
    refine wf ?_
    refine pops_if (fun hp => ?_) (fun hp => ?_)
    · have he : (reachP s (l.take k)).2 ≠ 0 := by simpa using hp
      refine wf ?_
      refine endC1 rfl ?_
      rw [reach_end (k := k) (l := l) (.inl he)]
      exact .refl _
    have he : (reachP s (l.take k)).2 = 0 := by simpa using hp
    refine wf ?_
    refine pwp_condD (fun h => ?_) (fun h => ?_)
    · refine wf ?_
      refine endC1 rfl ?_
      rw [reach_end (k := k) (l := l) (.inr (by omega))]
      exact .refl _
    · refine wf ?_
      rw [reachStep, if_neg (by rintro (h' | h') <;> omega)] at hrs
      refine ⟨k + 1, by omega, by dsimp only; omega, ⟨rfl, rfl, rfl, by dsimp only; rw [hrs]; rfl, rfl, rfl, rfl⟩, ?_⟩
      dsimp only
      rw [hrs]
      exact .refl _
  · refine wf ?_
    refine endC1 rfl ?_
    rw [List.take_of_length_le (by omega)]
    exact .refl _⟩
set_option maxHeartbeats 2000000 in
theorem bisectReached_fn (s : List Sto) (t : Tag) (l : List Bool) (u : Tag) : FnC Tryz.prog 6 [.slice (s.map eSto) t, .slice (l.map eB) u] (.raw (.bool true)) := ⟨by
  refine fn_of Tryz.func6 Tryz.ntmps6 rfl (rs := [.tmp 4]) rfl rfl fun hb LF => ?_
  refine wf ?_
  refine pops_if (fun hp => ?_) (fun hp => ?_)
  · refine wf ?_
    exact end1 (.refl _)
  have v : Valid s := small_valid (b := Bis.zero) (nnot hp)
  have h8 := v.close.1.1
  have i1 : Small (Valid s) := ⟨v⟩
  refine wf ?_
  refine pops_if (fun hp2 => ?_) (fun hp2 => ?_)
  · refine wf ?_
    exact end1 (.refl _)
  have h0 : s.length ≠ 0 := by have := of_decide_eq_false hp2; omega
  refine wf ?_
  refine pwp_condD (fun h10 => ?_) (fun h10 => ?_)
  · refine wf ?_
    exact end1 (.refl _)
  obtain ⟨r0, hR⟩ := reach_all v h0 l
  have hrc := fun t u => Reached_ct s l t u
  simp only [r0] at hrc
  generalize (reachP s l).1 = b at hR hrc
  have hrc : ∀ t u, FnC Tryz.prog 32 [.slice (s.map eSto) t, .slice (l.map eB) u] (.tuple [.agg (eBis b), .raw (.bool true)]) := hrc
  obtain ⟨_, hab, hl, hn⟩ := follow_facts v hR.fol
  have hpos := hR.pos
  have hbl := hR.pre.length_le
  have c1 : ∀ t, FnC Tryz.prog 29 [.slice (s.map eSto) t, .agg (eBis b)] (.raw (.int .i64 0)) := fun t => by
    have h := CheckB_ct s b t
    rwa [check_of h0 hR.fol] at h
  refine wf ?_
  refine s_alloc fun b5 => ?_
  refine wo ?_
  refine pops_nil ?_
  refine pwp_freezeD 5 ?_
  refine wf ?_
  refine pops_if (fun hp => ?_) (fun hp => ?_)
  · exact absurd hab (by intro e; simp [e] at hp)
  refine wf ?_
  refine pwp_condD (fun h => ?_) (fun h => ?_)
  · omega
  refine wf ?_
  refine pwp_loopS (σ := Nat) (fun k => k ≤ b.asked.length) (fun k => b.asked.length - k) (fun k => [(0, .slice (s.map eSto) t), (1, .slice (l.map eB) u), (5, .pt (eBis b) 0), (62, .slice (b.asked.map eDig) .ro), (63, .raw (.int .i64 b.asked.length)), (64, .raw (.int .i64 k))]) (fun _ => LF) 0 (by simp) ⟨rfl, rfl, rfl, rfl, rfl, rfl⟩ (.refl _) ?_
  rintro k hk
  refine wf ?_
  refine pwp_condD (fun hc => ?_) (fun hc => ?_)
  · have hlt : k < b.asked.length := by omega
    have hltb : k < b.bad.length := by omega
    have hltl : k < l.length := by omega
    have g1 : decide (b.asked[k] ∈ b.asked.take k) = false := decide_eq_false fun h => by
      obtain ⟨i, hi, e⟩ := List.mem_take_iff_getElem.1 h
      exact List.pairwise_iff_getElem.1 hR.nd i k (by omega) hlt (by omega) e
    have g2 : b.bad[k] = l[k] := hR.pre.getElem hltb
    refine wf ?_
    refine s_alloc fun b8 => ?_
    refine wo ?_
    refine pops_nil ?_
    refine pwp_freezeD 8 ?_
    refine wf ?_
    refine pwp_condB (fun h => ?_) (fun h => ?_)
    · exact absurd g2 (by intro e; simp [e] at h)
    · refine wf ?_
      exact ⟨k + 1, by omega, by dsimp only; omega, ⟨rfl, rfl, rfl, rfl, rfl, rfl⟩, .refl _⟩
  · have c2 : ∀ t, FnC Tryz.prog 29 [.slice (s.map eSto) t, .agg (eBis ⟨b.left.drop 1, b.asked, b.bad⟩)] (.raw (.int .i64 10)) := fun t => by
      have h := CheckB_ct s ⟨b.left.drop 1, b.asked, b.bad⟩ t
      have e : checkP s ⟨b.left.drop 1, b.asked, b.bad⟩ = 10 := by
        rw [checkP, if_neg h0, if_pos]
        refine decide_eq_false fun h => ?_
        have e := (of_decide_eq_true hR.fol).2.symm.trans h.2
        injection e with e
        have := congrArg List.length e
        simp only [List.length_drop] at this
        omega
      rwa [e] at h
    have nx := fun t => NextP_ct s b t
    have rx := fun t => ResultB_ct s b t
    have tx := fun t => TellB_ct s b true t
    have hne : ¬ (s.length = 0 ∨ followP s b (ids s) = false) := by simp [h0, hR.fol]
    have hch := check_of h0 hR.fol
    refine Decidable.byCases (p := b.left.length < 2) (fun hw => ?_) (fun hw => ?_)
    · have e1 : nextP s b = (Dig.zero, [], false) := by rw [nextP, if_neg hne, if_pos hw]
      have e2 : resultP s b = (b.left.getD 0 Dig.zero, true) := by rw [resultP, if_neg (by simp [hch]; omega)]
      have e3 : tellP s b true = (Bis.zero, 16) := by rw [tellP, if_neg (by simp [hch]), if_pos hw]
      have g1 : decide (true = decide ((b.left.length : Int) = 1)) = true := by simp; omega
      simp only [e1] at nx
      simp only [e2] at rx
      simp only [e3] at tx
      refine wf ?_
      refine s_alloc fun b9 => ?_
      refine wo ?_
      refine pops_nil ?_
      refine pwp_freezeD 9 ?_
      refine wf ?_
      refine s_alloc fun b12 => ?_
      refine wo ?_
      refine pops_nil ?_
      refine pwp_freezeD 12 ?_
      refine wf ?_
      refine s_alloc fun b14 => ?_
      refine wo ?_
      refine pops_nil ?_
      refine pwp_freezeD 14 ?_
      refine wf ?_
      refine s_alloc fun b16 => ?_
      refine wf ?_
      refine s_cutL (i := 1) rfl rfl (by omega) ?_
      refine wf ?_
      refine end1 (.of_eq ?_)
      rfl
    · have e1 : nextP s b = (questP (cloS s) b.left, keepS s (cloS s (questP (cloS s) b.left)), true) := by rw [nextP, if_neg hne, if_neg hw]
      have e2 : resultP s b = (Dig.zero, false) := by rw [resultP, if_pos (.inr (by omega))]
      have e3 : (tellP s b true).2 = 0 := by rw [tellP, if_neg (by simp [hch]), if_neg hw]
      have g1 : decide (false = decide ((b.left.length : Int) = 1)) = true := by simp; omega
      simp only [e1] at nx
      simp only [e2] at rx
      simp only [e3] at tx
      refine wf ?_
      refine s_alloc fun b9 => ?_
      refine wo ?_
      refine pops_nil ?_
      refine pwp_freezeD 9 ?_
      refine wf ?_
      refine s_alloc fun b12 => ?_
      refine wo ?_
      refine pops_nil ?_
      refine pwp_freezeD 12 ?_
      refine wf ?_
      refine s_alloc fun b14 => ?_
      refine wo ?_
      refine pops_nil ?_
      refine pwp_freezeD 14 ?_
      refine wf ?_
      refine s_alloc fun b16 => ?_
      refine wf ?_
      refine s_cutL (i := 1) rfl rfl (by omega) ?_
      refine wf ?_
      refine end1 (.of_eq ?_)
      rfl⟩
end Go.Proofs
