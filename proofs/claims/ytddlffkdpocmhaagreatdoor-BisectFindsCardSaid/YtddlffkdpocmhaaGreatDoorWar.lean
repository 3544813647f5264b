/- Plain: how many questions some candidates need; the greatest number of questions over all answers. -/
import Derived.Test.YtddlffkdpocmhaaGreatDoorWaq
set_option linter.unusedSimpArgs false
set_option linter.unusedVariables false
namespace Go.Proofs
open Go Go.Q

theorem worst_fuel (clo : Dig → List Dig) : ∀ (n m : Nat) (left : List Dig), (∀ l : List Dig, 2 ≤ l.length → (∀ x ∈ l, x ∈ left) → l.Nodup → Parts clo l) → left.Nodup → left.length ≤ n → left.length ≤ m → worst clo n left = worst clo m left
  | 0, 0, _, _, _, _, _ => rfl
  | 0, m + 1, left, _, _, h, _ => by
    have : left.length < 2 := by omega
    rw [worst, worst, if_pos this]
  | n + 1, 0, left, _, _, _, h => by
    have : left.length < 2 := by omega
    rw [worst, worst, if_pos this]
  | n + 1, m + 1, left, hP, hn, h1, h2 => by
    rw [worst, worst]
    by_cases hl : left.length < 2
    · rw [if_pos hl, if_pos hl]
    rw [if_neg hl, if_neg hl]
    split
    · rfl
    rename_i hne
    have hs := inC_len_add (clo (questR clo left)) left
    have e1 := worst_fuel clo n m (inC (clo (questR clo left)) left) (fun l h2 hx => hP l h2 fun x hx' => (List.mem_filter.1 (hx x hx')).1) (hn.filter _) (by omega) (by omega)
    have e2 := worst_fuel clo n m (outC (clo (questR clo left)) left) (fun l h2 hx => hP l h2 fun x hx' => (List.mem_filter.1 (hx x hx')).1) (hn.filter _) (by omega) (by omega)
    rw [e1, e2]
theorem worst_bounds {s : List Sto} (v : Valid s) : ∀ (n : Nat) (left : List Dig), (∀ x ∈ left, x ∈ ids s) → left.Nodup → left.length ≤ n → (0 < left.length → worst (cloS s) n left < left.length) ∧ left.length ≤ 2 ^ (worst (cloS s) n left).toNat
  | 0, left, _, _, h => by
    have : left = [] := List.eq_nil_of_length_eq_zero (by omega)
    subst this
    simp [worst]
  | n + 1, left, hl, hn, h => by
    have hnn := worst_nonneg (cloS s) (n + 1) left
    rw [worst] at hnn ⊢
    by_cases h2 : left.length < 2
    · rw [if_pos h2]
      simp
      omega
    rw [if_neg h2] at hnn ⊢
    have hpos := (questR_pos (cloS s) (v.parts hl hn) (by omega)).1
    unfold even at hpos
    have hs := inC_len_add (cloS s (questR (cloS s) left)) left
    rw [if_neg (by omega)] at hnn ⊢
    obtain ⟨a1, a2⟩ := worst_bounds v n (inC (cloS s (questR (cloS s) left)) left) (fun x hx => hl x (List.mem_filter.1 hx).1) (hn.filter _) (by omega)
    obtain ⟨b1, b2⟩ := worst_bounds v n (outC (cloS s (questR (cloS s) left)) left) (fun x hx => hl x (List.mem_filter.1 hx).1) (hn.filter _) (by omega)
    have na := worst_nonneg (cloS s) n (inC (cloS s (questR (cloS s) left)) left)
    have nb := worst_nonneg (cloS s) n (outC (cloS s (questR (cloS s) left)) left)
    generalize worst (cloS s) n (inC (cloS s (questR (cloS s) left)) left) = wa at *
    generalize worst (cloS s) n (outC (cloS s (questR (cloS s) left)) left) = wb at *
    have a1 := a1 (by omega)
    have b1 := b1 (by omega)
    refine ⟨fun _ => by omega, ?_⟩
    have e : (1 + max wa wb).toNat = (max wa wb).toNat + 1 := by omega
    rw [e, Nat.pow_succ]
    have p1 : 2 ^ wa.toNat ≤ 2 ^ (max wa wb).toNat := Nat.pow_le_pow_right (by omega) (by omega)
    have p2 : 2 ^ wb.toNat ≤ 2 ^ (max wa wb).toNat := Nat.pow_le_pow_right (by omega) (by omega)
    omega
/-- One more answer. -/
theorem fol_more {s : List Sto} {asked : List Dig} {bad : List Bool} {left : List Dig} {p : Dig} {b : Bool} (hab : asked.length = bad.length) : ∀ k, k ≤ asked.length → fol s (asked ++ [p]) (bad ++ [b]) left k = fol s asked bad left k
  | 0, _ => rfl
  | k + 1, hk => by
    rw [fol_succ, fol_succ, fol_more hab k (by omega)]
    have e1 : (asked ++ [p]).getD k Dig.zero = asked.getD k Dig.zero := by simp [List.getD, List.getElem?_append_left (show k < asked.length by omega)]
    have e2 : (bad ++ [b]).getD k false = bad.getD k false := by simp [List.getD, List.getElem?_append_left (show k < bad.length by omega)]
    unfold folStep
    rw [e1, e2]
theorem tell_follow {s : List Sto} {b : Bis} {left : List Dig} (h : followP s b left = true) (h2 : 2 ≤ b.left.length) (bad : Bool) :
    followP s ⟨aft s b.left (questP (cloS s) b.left) bad, b.asked ++ [questP (cloS s) b.left], b.bad ++ [bad]⟩ left = true := by
  obtain ⟨h3, h4⟩ := of_decide_eq_true h
  refine decide_eq_true ⟨by simp [h3], ?_⟩
  have e : (b.asked ++ [questP (cloS s) b.left]).length = b.asked.length + 1 := by simp
  dsimp only
  rw [e, fol_succ, fol_more h3 _ (Nat.le_refl _), h4]
  have e1 : (b.asked ++ [questP (cloS s) b.left]).getD b.asked.length Dig.zero = questP (cloS s) b.left := by simp [List.getD]
  have e2 : (b.bad ++ [bad]).getD b.asked.length false = bad := by rw [h3]; simp [List.getD]
  unfold folStep
  rw [Option.bind_some, e1, e2, if_neg (by simp; omega)]
/-- What deepest answers. -/
def deepF (s : List Sto) : Nat → Bis → Int
  | 0, _ => 0
  | n + 1, b => if (nextP s b).2.2 = false then 0 else
    [false, true].foldl (fun m bad => if (tellP s b bad).2 = 0 then max m (1 + deepF s n (tellP s b bad).1) else m) 0
theorem deep_worst {s : List Sto} (v : Valid s) (h0 : s.length ≠ 0) : ∀ (n : Nat) (b : Bis), followP s b (ids s) = true → b.left.length ≤ n → deepF s n b = worst (cloS s) n b.left
  | 0, b, _, _ => rfl
  | n + 1, b, hf, hn => by
    obtain ⟨_, _, hl, hd⟩ := follow_facts v hf
    have hnx : (nextP s b).2.2 = !decide (b.left.length < 2) := by
      rw [nextP, if_neg (by simp [h0, hf])]
      by_cases h : b.left.length < 2 <;> simp [h]
    rw [deepF, hnx, worst]
    by_cases h2 : b.left.length < 2
    · simp [h2]
    rw [if_neg (by simp [h2]), if_neg h2]
    have hc : checkP s b = 0 := by rw [checkP, if_neg h0, if_neg (by simp [hf])]
    have ht : ∀ bad, tellP s b bad = (⟨aft s b.left (questP (cloS s) b.left) bad, b.asked ++ [questP (cloS s) b.left], b.bad ++ [bad]⟩, 0) := fun bad => by
      rw [tellP, if_neg (by simp [hc]), if_neg h2]
    have ih : ∀ bad, deepF s n (tellP s b bad).1 = worst (cloS s) n (aft s b.left (questP (cloS s) b.left) bad) := fun bad => by
      rw [ht]
      exact deep_worst v h0 n _ (tell_follow hf (by omega) bad) (by have := v.less hl hd (by omega) bad; dsimp only; omega)
    have hP := v.parts hl hd
    have hq := questP_eq (cloS s) hP (by omega)
    have hpos := (questR_pos (cloS s) hP (by omega)).1
    unfold even at hpos
    rw [if_neg (by omega)]
    simp only [List.foldl_cons, List.foldl_nil, ih]
    rw [ht, ht, hq]
    have e1 : aft s b.left (questR (cloS s) b.left) true = inC (cloS s (questR (cloS s) b.left)) b.left := by simp [aft]
    have e2 : aft s b.left (questR (cloS s) b.left) false = outC (cloS s (questR (cloS s) b.left)) b.left := by simp [aft]
    rw [e1, e2]
    have na := worst_nonneg (cloS s) n (inC (cloS s (questR (cloS s) b.left)) b.left)
    have nb := worst_nonneg (cloS s) n (outC (cloS s (questR (cloS s) b.left)) b.left)
    simp only [if_true]
    omega
end Go.Proofs
