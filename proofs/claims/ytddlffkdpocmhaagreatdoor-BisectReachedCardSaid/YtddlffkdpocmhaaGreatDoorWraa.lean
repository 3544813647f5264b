/- Plain: the states that answers reach. -/
import Derived.Test.YtddlffkdpocmhaaGreatDoorWas
import Derived.Test.YtddlffkdpocmhaaGreatDoorWar
set_option linter.unusedSimpArgs false
set_option linter.unusedVariables false
namespace Go.Proofs
open Go Go.Q

def reachStep (s : List Sto) (k : Bis × Int) (bad : Bool) : Bis × Int := if k.2 ≠ 0 ∨ k.1.left.length < 2 then k else tellP s k.1 bad
def reachP (s : List Sto) (l : List Bool) : Bis × Int := l.foldl (reachStep s) (startP s)
theorem reach_succ (s : List Sto) {l : List Bool} {k : Nat} (h : k < l.length) : reachP s (l.take (k + 1)) = reachStep s (reachP s (l.take k)) l[k] := by
  rw [List.take_succ_eq_append_getElem h, reachP, List.foldl_append]; rfl
/-- A state that some answers reach. -/
structure Reached (s : List Sto) (l : List Bool) (b : Bis) : Prop where
  fol : followP s b (ids s) = true
  pos : 0 < b.left.length
  pre : b.bad <+: l
  full : 2 ≤ b.left.length → b.bad = l
  nd : b.asked.Nodup
  apart : ∀ p ∈ b.asked, p ∈ b.left → ∀ x ∈ b.left, x ∈ cloS s p
theorem check_of {s : List Sto} {b : Bis} (h0 : s.length ≠ 0) (h : followP s b (ids s) = true) : checkP s b = 0 := by
  rw [checkP, if_neg h0, if_neg (by simp [h])]
theorem tell_of {s : List Sto} {b : Bis} (h0 : s.length ≠ 0) (h : followP s b (ids s) = true) (h2 : 2 ≤ b.left.length) (bad : Bool) : tellP s b bad = (⟨aft s b.left (questP (cloS s) b.left) bad, b.asked ++ [questP (cloS s) b.left], b.bad ++ [bad]⟩, 0) := by
  rw [tellP, if_neg (by simp [check_of h0 h]), if_neg (by omega)]
theorem mem_aft_true {s : List Sto} {left : List Dig} {p x : Dig} (h : x ∈ aft s left p true) : x ∈ cloS s p := by
  have h := (List.mem_filter.1 h).2
  simpa using h
theorem mem_aft_false {s : List Sto} {left : List Dig} {p x : Dig} (h : x ∈ aft s left p false) : x ∉ cloS s p := by
  have h := (List.mem_filter.1 h).2
  simpa using h
theorem Valid.self {s : List Sto} (v : Valid s) {p : Dig} (hp : p ∈ ids s) : p ∈ cloS s p := (v.mem_clo hp p).2 (.base (by simp))
/-- What is known of the question that is due. -/
theorem Valid.quest {s : List Sto} (v : Valid s) {left : List Dig} (hl : ∀ x ∈ left, x ∈ ids s) (hn : left.Nodup) (h2 : 2 ≤ left.length) :
    questP (cloS s) left ∈ left ∧ 0 < (inC (cloS s (questP (cloS s) left)) left).length ∧ 0 < (outC (cloS s (questP (cloS s) left)) left).length := by
  have hP := v.parts hl hn
  obtain ⟨h, hm⟩ := questR_pos (cloS s) hP h2
  rw [← questP_eq (cloS s) hP h2] at h hm
  unfold even at h
  exact ⟨hm, by omega, by omega⟩
theorem Reached.tell {s : List Sto} (v : Valid s) {l : List Bool} {b : Bis} (h : Reached s l b) (h2 : 2 ≤ b.left.length) (bad : Bool) :
    Reached s (l ++ [bad]) ⟨aft s b.left (questP (cloS s) b.left) bad, b.asked ++ [questP (cloS s) b.left], b.bad ++ [bad]⟩ := by
  obtain ⟨_, _, hl, hn⟩ := follow_facts v h.fol
  obtain ⟨hm, hi, ho⟩ := v.quest hl hn h2
  have hb := h.full h2
  refine ⟨tell_follow h.fol h2 bad, ?_, ?_, fun _ => ?_, ?_, ?_⟩
  · dsimp only [aft]; split <;> assumption
  · dsimp only; rw [hb]; exact List.prefix_refl _
  · dsimp only; rw [hb]
  · refine List.nodup_append.2 ⟨h.nd, by simp, ?_⟩
    intro a ha c hc e
    simp only [List.mem_singleton] at hc
    rw [hc] at e
    rw [e] at ha
    have := h.apart _ ha hm
    have e : outC (cloS s (questP (cloS s) b.left)) b.left = [] := List.filter_eq_nil_iff.2 fun x hx => by simp [this x hx]
    rw [e] at ho
    exact absurd ho (by simp)
  · intro p hp hpl x hx
    dsimp only at hp hpl hx
    rcases List.mem_append.1 hp with hp | hp
    · exact h.apart p hp (aft_sub hpl) x (aft_sub hx)
    · simp only [List.mem_singleton] at hp
      subst hp
      cases bad with
      | true => exact mem_aft_true hx
      | false => exact absurd (v.self (hl _ hm)) (mem_aft_false hpl)
theorem reach_facts {s : List Sto} (v : Valid s) (h0 : s.length ≠ 0) (l : List Bool) : ∀ k, k ≤ l.length → (reachP s (l.take k)).2 = 0 ∧ Reached s (l.take k) (reachP s (l.take k)).1
  | 0, _ => by
    have e : reachP s (l.take 0) = (⟨ids s, [], []⟩, 0) := by
      rw [List.take_zero]
      show startP s = _
      rw [startP, if_neg h0]
    rw [e]
    refine ⟨rfl, decide_eq_true ⟨rfl, rfl⟩, ?_, List.prefix_refl _, fun _ => rfl, List.nodup_nil, fun p hp => ?_⟩
    · dsimp only; rw [ids_len]; omega
    · cases hp
  | k + 1, hk => by
    obtain ⟨h1, h2⟩ := reach_facts v h0 l k (by omega)
    rw [reach_succ s (by omega), reachStep]
    by_cases h3 : (reachP s (l.take k)).1.left.length < 2
    · rw [if_pos (.inr h3)]
      have ht := List.take_succ_eq_append_getElem (show k < l.length by omega)
      refine ⟨h1, h2.fol, h2.pos, ?_, fun h => absurd h (by omega), h2.nd, h2.apart⟩
      rw [ht]
      exact h2.pre.trans (List.prefix_append _ _)
    · rw [if_neg (by omega), tell_of h0 h2.fol (by omega)]
      refine ⟨rfl, ?_⟩
      rw [List.take_succ_eq_append_getElem (show k < l.length by omega)]
      exact h2.tell v (by omega) _
theorem reach_all {s : List Sto} (v : Valid s) (h0 : s.length ≠ 0) (l : List Bool) : (reachP s l).2 = 0 ∧ Reached s l (reachP s l).1 := by
  have := reach_facts v h0 l l.length (Nat.le_refl _)
  rwa [List.take_length] at this
end Go.Proofs
