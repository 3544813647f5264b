/- Contracts: states of a search (the reference's layer 31). -/
import Derived.Test.YtddlffkdpocmhaaGreatDoorWas
import Derived.Test.YtddlffkdpocmhaaGreatDoorWar
set_option linter.unusedSimpArgs false
set_option linter.unusedVariables false
namespace Go.Proofs
open Go Go.Q
attribute [local irreducible] pwp pops pAny PCalls OpN

instance Start31_ct (s : List Sto) (t : Tag) : FnC Tryz.prog 21 [.slice (s.map eSto) t] (.tuple [.agg (eBis (startP s).1), .raw (.int .i64 (startP s).2)]) := ⟨by
  refine fn_of Tryz.func21 Tryz.ntmps21 rfl (rs := [.cell 2 28, .tmp 3]) rfl rfl fun hb LF => ?_
  refine wf ?_
  refine s_alloc fun b2 => ?_
  refine wf ?_
  refine pwp_condD (fun h => ?_) (fun h => ?_)
  · refine wf ?_
    refine endC1 rfl ?_
    rw [startP, if_pos (by omega)]
    exact .refl _
  · refine wf ?_
    refine endC1 rfl ?_
    rw [startP, if_neg (by omega)]
    exact .refl _⟩
instance answered_ct (s : List Sto) (left : List Dig) (t u : Tag) (p : Dig) (bad : Bool) [hs : Small (closeS s)] : FnC Tryz.prog 77 [.slice (s.map eSto) t, .slice (left.map eDig) u, .agg (eDig p), .raw (.bool bad)] (.slice ((aft s left p bad).map eDig) .ro) := ⟨by
  refine fn_of Tryz.func77 Tryz.ntmps77 rfl (rs := [.tmp 8]) rfl rfl fun hb LF => ?_
  refine wf ?_
  refine pwp_condB (fun h => ?_) (fun h => ?_)
  · refine wf ?_
    refine end1 (.ros ?_)
    rw [aft, if_pos h]
  · refine wf ?_
    refine end1 (.ros ?_)
    rw [aft, if_neg (by simp [h])]⟩
set_option maxHeartbeats 1000000 in
instance Check31_ct (s : List Sto) (b : Bis) (t : Tag) [hs : Small (Valid s)] : FnC Tryz.prog 30 [.slice (s.map eSto) t, .agg (eBis b)] (.raw (.int .i64 (checkP s b))) := ⟨by
  have v := hs.out
  have i0 : Small (closeS s) := ⟨v.close⟩
  refine fn_of Tryz.func30 Tryz.ntmps30 rfl (rs := [.tmp 4]) rfl rfl fun hb LF => ?_
  have hlen : b.asked.length ≤ 140737488355328 := ((hb (.agg (eBis b)) (by simp)).agg_at (c := .slice (b.asked.map eDig) .ro) (by simp [eBis])).slice_map
  refine wf ?_
  refine pwp_condD (fun h => ?_) (fun h => ?_)
  · refine wf ?_
    refine end1 (.of_eq ?_)
    rw [checkP, if_pos (by omega)]
  have h0 : ¬ s.length = 0 := by omega
  have no : followP s b (ids s) = false → checkP s b = 10 := fun h => by rw [checkP, if_neg h0, if_pos h]
  refine wf ?_
  refine pwp_condN (fun h => ?_) (fun h => ?_)
  · refine wf ?_
    refine end1 (.of_eq ?_)
    have : ¬ b.asked.length = b.bad.length := by omega
    rw [no (by simp [followP, this])]
  have hab : b.asked.length = b.bad.length := by omega
  refine wf ?_
  refine pwp_loopS (σ := Nat × List Dig × Tag) (fun k => k.1 ≤ b.asked.length ∧ fol s b.asked b.bad (ids s) k.1 = some k.2.1) (fun k => b.asked.length - k.1) (fun k => [(0, .slice (s.map eSto) t), (3, .pt (eBis b) 0), (5, .slice (k.2.1.map eDig) k.2.2), (6, .raw (.int .i64 k.1))]) (fun _ => LF) (0, ids s, .ro) ⟨by simp, rfl⟩ ⟨rfl, rfl, rfl, rfl⟩ (.refl _) ?_
  rintro ⟨k, cur, tc⟩ ⟨hk, hf⟩
  dsimp only at hk hf ⊢
  obtain ⟨f1, f2, f3⟩ := fol_asked v (fun _ h => h) v.asc.nodup hf
  refine wf ?_
  refine pwp_condD (fun hc => ?_) (fun hc => ?_)
  · have hlt : k < b.asked.length := by omega
    have hltb : k < b.bad.length := by omega
    have e0 : b.asked.getD k Dig.zero = b.asked[k] := by simp [List.getD, hlt]
    have e1 : b.bad.getD k false = b.bad[k] := by simp [List.getD, hltb]
    have hs2 := fol_succ s b.asked b.bad (ids s) k
    rw [hf, folStep, e0, e1, Option.bind_some] at hs2
    have no2 : fol s b.asked b.bad (ids s) (k + 1) = none → checkP s b = 10 := fun h => by
      have := fol_none h b.asked.length (by omega)
      exact no (by simp [followP, this])
    refine wf ?_
    refine pops_if (fun hp => ?_) (fun hp => ?_)
    · have hp' : (cur.length : Int) < 2 := of_decide_eq_true hp
      rw [if_pos (.inl (by omega))] at hs2
      refine wf ?_
      refine end1 (.of_eq ?_)
      rw [no2 hs2]
    · have hp' : ¬ (cur.length : Int) < 2 := of_decide_eq_false hp
      have hq := questP_eq (cloS s) (v.parts f2 f3) (by omega)
      refine wf ?_
      refine pwp_condN (fun h2 => ?_) (fun h2 => ?_)
      · rw [if_pos (.inr (by rw [hq]; exact fun e => h2 e.symm))] at hs2
        refine wf ?_
        refine end1 (.of_eq ?_)
        rw [no2 hs2]
      · rw [if_neg (by rintro (h3 | h3); omega; exact h3 (by rw [hq, h2]))] at hs2
        refine wf ?_
        exact ⟨(k + 1, aft s cur b.asked[k] b.bad[k], .ro), ⟨by dsimp only; omega, hs2⟩, by dsimp only; omega, ⟨rfl, rfl, rfl, rfl⟩, .refl _⟩
  · have hke : k = b.asked.length := by omega
    subst hke
    refine wf ?_
    refine pwp_condB (fun h2 => ?_) (fun h2 => ?_)
    · have h3 : ¬ cur = b.left := by simpa using h2
      refine wf ?_
      refine end1 (.of_eq ?_)
      rw [no (by rw [followP, hf]; simp [h3])]
    · have h3 : cur = b.left := by simpa using h2
      refine wf ?_
      refine end1 (.of_eq ?_)
      rw [checkP, if_neg h0, if_neg (by rw [followP, hf]; simp [h3, hab])]⟩
theorem check_facts {s : List Sto} (v : Valid s) {b : Bis} (h : checkP s b = 0) : s.length ≠ 0 ∧ followP s b (ids s) = true ∧ Parts (cloS s) b.left ∧ b.left.length + b.asked.length ≤ s.length ∧ b.asked.length = b.bad.length := by
  obtain ⟨h1, h2⟩ := check_follow h
  obtain ⟨k1, k2, k3, k4⟩ := follow_facts v h2
  exact ⟨h1, h2, v.parts k3 k4, k1, k2⟩
theorem check_no {s : List Sto} {b : Bis} (h : checkP s b ≠ 0) : s.length = 0 ∨ followP s b (ids s) = false := by
  by_cases h0 : s.length = 0
  · exact .inl h0
  · right
    cases hf : followP s b (ids s) with
    | false => rfl
    | true => exact absurd (by rw [checkP, if_neg h0, if_neg (by simp [hf])]) h
set_option maxHeartbeats 1000000 in
instance Next31_ct (s : List Sto) (b : Bis) (t : Tag) [hs : Small (Valid s)] : FnC Tryz.prog 23 [.slice (s.map eSto) t, .agg (eBis b)] (.tuple [.agg (eDig (nextP s b).1), .slice ((nextP s b).2.1.map eSto) .ro, .raw (.bool (nextP s b).2.2)]) := ⟨by
  have v := hs.out
  have h8 := v.close.1.1
  have i0 : Small (closeS s) := ⟨v.close⟩
  have i1 : Small (s.length ≤ 1000000) := ⟨by omega⟩
  refine fn_of Tryz.func23 Tryz.ntmps23 rfl (rs := [.cell 4 37, .tmp 5, .tmp 6]) rfl rfl fun hb LF => ?_
  refine wf ?_
  refine s_alloc fun b4 => ?_
  refine wf ?_
  refine pops_if (fun hp => ?_) (fun hp => ?_)
  · have h1 : checkP s b ≠ 0 := by simpa using hp
    refine wf ?_
    refine endCTT rfl ?_
    rw [nextP, if_pos (check_no h1)]
    exact .tuple3 (.refl _) (.ros rfl) (.refl _)
  have h1 : checkP s b = 0 := by simpa using hp
  obtain ⟨k1, k2, k3, _, _⟩ := check_facts v h1
  have e1 : nextP s b = if b.left.length < 2 then (Dig.zero, [], false) else (questP (cloS s) b.left, keepS s (cloS s (questP (cloS s) b.left)), true) := by rw [nextP, if_neg (by simp [k1, k2])]
  refine wf ?_
  refine pwp_condD (fun h => ?_) (fun h => ?_)
  · rw [if_pos (by omega)] at e1
    refine wf ?_
    refine endCTT rfl ?_
    rw [e1]
    exact .tuple3 (.refl _) (.ros rfl) (.refl _)
  · rw [if_neg (by omega), questP_eq (cloS s) k3 (by omega)] at e1
    refine wf ?_
    refine s_alloc fun b7 => ?_
    refine wo ?_
    refine pops_nil ?_
    refine pwp_freezeD 7 ?_
    refine wn ?_
    refine pwp_drawN 6 ?_ ?_
    · decide +kernel
    refine wf ?_
    refine endCTT rfl ?_
    rw [e1]
    exact .tuple3 (.refl _) (.ros rfl) (.refl _)⟩
instance Result31_ct (s : List Sto) (b : Bis) (t : Tag) [hs : Small (Valid s)] : FnC Tryz.prog 27 [.slice (s.map eSto) t, .agg (eBis b)] (.tuple [.agg (eDig (resultP s b).1), .raw (.bool (resultP s b).2)]) := ⟨by
  refine fn_of Tryz.func27 Tryz.ntmps27 rfl (rs := [.cell 4 37, .tmp 5]) rfl rfl fun hb LF => ?_
  refine wf ?_
  refine s_alloc fun b4 => ?_
  refine wf ?_
  refine pops_if (fun hp => ?_) (fun hp => ?_)
  · refine wf ?_
    refine endC1 rfl ?_
    rw [resultP, if_pos (.inl (by simpa using hp))]
    exact .refl _
  have h0 : checkP s b = 0 := by simpa using hp
  refine wf ?_
  refine pwp_condN (fun h => ?_) (fun h => ?_)
  · refine wf ?_
    refine endC1 rfl ?_
    rw [resultP, if_pos (.inr (by omega))]
    exact .refl _
  · have h1 : b.left.length = 1 := by omega
    have e : b.left.getD 0 Dig.zero = b.left[0] := by simp [List.getD, h1]
    refine wf ?_
    refine endC1 rfl ?_
    rw [resultP, if_neg (by simp [h0, h1]), e]
    exact .refl _⟩
/-- A state is itself. -/
theorem sameSelf (a : Bis) : FnC Tryz.prog 28 [.agg (eBis a), .agg (eBis a)] (.raw (.bool true)) := ⟨by
  have g1 : decide (a.left = a.left) = true := decide_eq_true rfl
  have g2 : decide (a.asked = a.asked) = true := decide_eq_true rfl
  refine fn_of Tryz.func28 Tryz.ntmps28 rfl (rs := [.tmp 4]) rfl rfl fun hb LF => ?_
  have hlen : a.bad.length ≤ 140737488355328 := ((hb (.agg (eBis a)) (by simp)).agg_at (c := .slice (a.bad.map eB) .ro) (by simp [eBis])).slice_map
  refine wf ?_
  refine pops_if (fun hp => ?_) (fun hp => ?_)
  · simp at hp
  refine wf ?_
  refine pops_if (fun hp => ?_) (fun hp => ?_)
  · simp at hp
  refine wf ?_
  refine pwp_condN (fun h => ?_) (fun h => ?_)
  · exact absurd rfl h
  refine wf ?_
  refine pwp_loopS (σ := Nat) (fun k => k ≤ a.bad.length) (fun k => a.bad.length - k) (fun k => [(2, .pt (eBis a) 0), (3, .pt (eBis a) 0), (5, .raw (.int .i64 k))]) (fun _ => LF) 0 (by simp) ⟨rfl, rfl, rfl⟩ (.refl _) ?_
  intro k hk
  refine wf ?_
  refine pwp_condD (fun hc => ?_) (fun hc => ?_)
  · have hlt : k < a.bad.length := by omega
    refine wf ?_
    refine pwp_condN (fun h => ?_) (fun h => ?_)
    · exact absurd rfl h
    · refine wf ?_
      exact ⟨k + 1, by omega, by dsimp only; omega, ⟨rfl, rfl, rfl⟩, .refl _⟩
  · refine wf ?_
    exact end1 (.refl _)⟩
end Go.Proofs
