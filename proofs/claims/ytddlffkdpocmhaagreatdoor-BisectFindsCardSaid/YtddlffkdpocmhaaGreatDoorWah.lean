/- Plain laws: the questions of a search; how many there can be. No program in sight. -/
import Derived.Test.YtddlffkdpocmhaaGreatDoorWag
import Derived.Test.YtddlffkdpocmhaaGreatDoorWaf
set_option linter.unusedSimpArgs false
set_option linter.unusedVariables false
namespace Go.Q
open Go

def inC (c : List Dig) (l : List Dig) : List Dig := l.filter fun d => decide (d ∈ c)
def outC (c : List Dig) (l : List Dig) : List Dig := l.filter fun d => !decide (d ∈ c)
theorem inC_len_add (c l : List Dig) : (inC c l).length + (outC c l).length = l.length := by
  induction l with
  | nil => rfl
  | cons x l ih =>
    unfold inC outC at *
    by_cases h : x ∈ c <;> simp [h] <;> omega

section
variable (clo : Dig → List Dig)
/-- How evenly a question parts the candidates. -/
def even (left : List Dig) (p : Dig) : Nat := min (inC (clo p) left).length (outC (clo p) left).length
/-- The first question that parts them best, of those behind a number. -/
def quest (left : List Dig) (l : List Dig) (b : Dig × Int) : Dig × Int := l.foldl (fun b p => if b.2 < (even clo left p : Int) then (p, (even clo left p : Int)) else b) b
def questR (left : List Dig) : Dig := (quest clo left left (Dig.zero, 0)).1
def questP (left : List Dig) : Dig := (quest clo left left (Dig.zero, -1)).1

theorem quest_same (left : List Dig) : ∀ (l : List Dig) (b : Dig), (∃ p ∈ l, 0 < even clo left p) → quest clo left l (b, -1) = quest clo left l (b, 0)
  | [], _, h => by obtain ⟨p, hp, _⟩ := h; cases hp
  | x :: l, b, h => by
    unfold quest
    simp only [List.foldl_cons]
    by_cases hx : 0 < even clo left x
    · have h1 : (-1 : Int) < (even clo left x : Int) := by omega
      have h2 : (0 : Int) < (even clo left x : Int) := by omega
      simp only [h1, h2, if_true]
    · have h0 : even clo left x = 0 := by omega
      have h1 : (-1 : Int) < (even clo left x : Int) := by omega
      have h2 : ¬ (0 : Int) < (even clo left x : Int) := by omega
      simp only [h1, h2, if_true, if_false, h0]
      have hr : ∃ p ∈ l, 0 < even clo left p := by
        obtain ⟨p, hp, h3⟩ := h
        rcases List.mem_cons.1 hp with rfl | hp
        · omega
        · exact ⟨p, hp, h3⟩
      have key : ∀ (l : List Dig) (b b' : Dig), (∃ p ∈ l, 0 < even clo left p) → quest clo left l (b, 0) = quest clo left l (b', 0) := by
        intro l
        induction l with
        | nil => rintro b b' ⟨p, hp, _⟩; cases hp
        | cons y l ih =>
          rintro b b' ⟨p, hp, h3⟩
          unfold quest
          simp only [List.foldl_cons]
          by_cases hy : (0 : Int) < (even clo left y : Int)
          · simp only [hy, if_true]
          · simp only [hy, if_false]
            refine ih b b' ?_
            rcases List.mem_cons.1 hp with rfl | hp
            · omega
            · exact ⟨p, hp, h3⟩
      exact key l x b hr

theorem quest_pos (left : List Dig) : ∀ (l : List Dig) (b : Dig × Int), (0 < b.2 → (even clo left b.1 : Int) = b.2) → 0 ≤ b.2 → (0 < b.2 ∨ ∃ p ∈ l, 0 < even clo left p) →
    0 < even clo left (quest clo left l b).1 ∧ ((quest clo left l b).1 = b.1 ∨ (quest clo left l b).1 ∈ l)
  | [], b, hb, h0, h => by
    rcases h with h | ⟨p, hp, _⟩
    · refine ⟨?_, .inl rfl⟩
      show 0 < even clo left b.1
      have := hb h; omega
    · cases hp
  | x :: l, b, hb, h0, h => by
    show 0 < even clo left (quest clo left l _).1 ∧ _
    by_cases hx : b.2 < (even clo left x : Int)
    · simp only [quest, List.foldl_cons, hx, if_true]
      have := quest_pos left l (x, (even clo left x : Int)) (fun _ => rfl) (by omega) (.inl (by show (0 : Int) < _; omega))
      refine ⟨this.1, .inr ?_⟩
      rcases this.2 with h' | h'
      · simp only [quest] at h'; rw [h']; simp
      · exact List.mem_cons_of_mem _ h'
    · simp only [quest, List.foldl_cons, hx, if_false]
      have := quest_pos left l b hb h0 (by
        rcases h with h | ⟨p, hp, h3⟩
        · exact .inl h
        · rcases List.mem_cons.1 hp with rfl | hp
          · exact .inl (by omega)
          · exact .inr ⟨p, hp, h3⟩)
      refine ⟨this.1, ?_⟩
      rcases this.2 with h' | h'
      · exact .inl h'
      · exact .inr (List.mem_cons_of_mem _ h')

/-- How many questions some candidates can need. -/
def worst : Nat → List Dig → Int
  | 0, _ => 0
  | n + 1, left => if left.length < 2 then 0 else
    if (inC (clo (questR clo left)) left).length = 0 ∨ (outC (clo (questR clo left)) left).length = 0 then 0
    else 1 + max (worst n (inC (clo (questR clo left)) left)) (worst n (outC (clo (questR clo left)) left))
/-- All questions that can be due, each by how many there are up to it. -/
def depthsP : Nat → List Dig → Int → List Int
  | 0, _, _ => []
  | n + 1, left, b => if left.length < 2 then [] else
    (b + 1) :: (depthsP n (inC (clo (questP clo left)) left) (b + 1) ++ depthsP n (outC (clo (questP clo left)) left) (b + 1))

/-- The candidates can be parted. -/
def Parts (left : List Dig) : Prop := 2 ≤ left.length → ∃ p ∈ left, 0 < even clo left p
theorem questP_eq {left : List Dig} (h : Parts clo left) (h2 : 2 ≤ left.length) : questP clo left = questR clo left := by
  unfold questP questR; rw [quest_same clo left left _ (h h2)]
theorem questR_pos {left : List Dig} (h : Parts clo left) (h2 : 2 ≤ left.length) : 0 < even clo left (questR clo left) ∧ questR clo left ∈ left := by
  obtain ⟨p, hp, h3⟩ := h h2
  have := quest_pos clo left left (Dig.zero, 0) (fun h => absurd h (by show ¬ (0 : Int) < 0; omega)) (by show (0 : Int) ≤ 0; omega) (.inr ⟨p, hp, h3⟩)
  refine ⟨this.1, ?_⟩
  have mem : ∀ (l : List Dig) (b : Dig × Int), (quest clo left l b).1 ∈ l ∨ quest clo left l b = b := by
    intro l
    induction l with
    | nil => intro b; exact .inr rfl
    | cons x l ih =>
      intro b
      unfold quest
      simp only [List.foldl_cons]
      by_cases hx : b.2 < (even clo left x : Int)
      · simp only [hx, if_true]
        rcases ih (x, (even clo left x : Int)) with h | h
        · exact .inl (List.mem_cons_of_mem _ h)
        · refine .inl ?_
          unfold quest at h; rw [h]; simp
      · simp only [hx, if_false]
        rcases ih b with h | h
        · exact .inl (List.mem_cons_of_mem _ h)
        · exact .inr h
  rcases mem left (Dig.zero, 0) with h | h
  · exact h
  · -- the start would have stayed: then no candidate parts
    exfalso
    have stay : ∀ (l : List Dig) (b : Dig × Int), (quest clo left l b).2 = b.2 → ∀ p ∈ l, (even clo left p : Int) ≤ b.2 := by
      have grow : ∀ (l : List Dig) (b : Dig × Int), b.2 ≤ (quest clo left l b).2 := by
        intro l
        induction l with
        | nil => intro b; exact Int.le_refl _
        | cons x l ih =>
          intro b
          unfold quest
          simp only [List.foldl_cons]
          by_cases hx : b.2 < (even clo left x : Int)
          · simp only [hx, if_true]
            have := ih (x, (even clo left x : Int))
            simp only [quest] at this; omega
          · simp only [hx, if_false]; exact ih b
      intro l
      induction l with
      | nil => intro b _ p hp; cases hp
      | cons x l ih =>
        intro b hb p hp
        unfold quest at hb
        simp only [List.foldl_cons] at hb
        by_cases hx : b.2 < (even clo left x : Int)
        · simp only [hx, if_true] at hb
          have := grow l (x, (even clo left x : Int))
          simp only [quest] at this; omega
        · simp only [hx, if_false] at hb
          rcases List.mem_cons.1 hp with rfl | hp
          · omega
          · exact ih b hb p hp
    have := stay left (Dig.zero, 0) (by rw [h]) p hp
    have e : ((Dig.zero, 0) : Dig × Int).2 = 0 := rfl
    omega

theorem worst_nonneg : ∀ (n : Nat) (left : List Dig), 0 ≤ worst clo n left
  | 0, _ => by simp [worst]
  | n + 1, left => by
    unfold worst
    have h1 := worst_nonneg n (inC (clo (questR clo left)) left)
    split
    · exact Int.le_refl _
    · split
      · exact Int.le_refl _
      · omega
theorem depths_worst {G : List Dig → Prop} (hP : ∀ left, G left → Parts clo left) (hG : ∀ left f, G left → G (left.filter f)) : ∀ (n : Nat) (left : List Dig) (b m : Int), G left → b ≤ m → (depthsP clo n left b).foldl max m = max m (b + worst clo n left)
  | 0, left, b, m, _, h => by simp only [depthsP, worst, List.foldl_nil]; omega
  | n + 1, left, b, m, hn, h => by
    unfold depthsP worst
    by_cases h2 : left.length < 2
    · simp only [h2, if_true, List.foldl_nil]; omega
    · simp only [h2, if_false]
      rw [questP_eq clo (hP left hn) (by omega)]
      obtain ⟨hp, _⟩ := questR_pos clo (hP left hn) (by omega)
      unfold even at hp
      have h3 : ¬ ((inC (clo (questR clo left)) left).length = 0 ∨ (outC (clo (questR clo left)) left).length = 0) := by omega
      simp only [h3, if_false]
      rw [List.foldl_cons, List.foldl_append, depths_worst hP hG n (inC (clo (questR clo left)) left) (b + 1) (max m (b + 1)) (hG _ _ hn) (by omega), depths_worst hP hG n (outC (clo (questR clo left)) left) (b + 1) _ (hG _ _ hn) (by omega)]
      have w1 := worst_nonneg clo n (inC (clo (questR clo left)) left)
      have w2 := worst_nonneg clo n (outC (clo (questR clo left)) left)
      omega
end

/-- In a graph without cycles candidates can be parted. -/
theorem parts_of_rank {nd : Dig → List Dig} {clo : Dig → List Dig} {U : List Dig} (r : Dig → Nat) (hr : ∀ x ∈ U, ∀ d ∈ nd x, r d < r x) (hU : ∀ x ∈ U, ∀ d ∈ nd x, d ∈ U)
    (hclo : ∀ x ∈ U, ∀ d, d ∈ clo x ↔ Reach nd [x] d) {left : List Dig} (hl : ∀ x ∈ left, x ∈ U) (hn : left.Nodup) : Parts clo left := by
  intro h2
  -- one with the least rank
  have ⟨p, hp, hmin⟩ : ∃ p ∈ left, ∀ y ∈ left, r p ≤ r y := by
    have : ∀ l : List Dig, l ≠ [] → ∃ p ∈ l, ∀ y ∈ l, r p ≤ r y := by
      intro l
      induction l with
      | nil => intro h; exact absurd rfl h
      | cons x l ih =>
        intro _
        cases l with
        | nil => exact ⟨x, by simp, by simp⟩
        | cons z l =>
          obtain ⟨p, hp, h⟩ := ih (by simp)
          rcases Nat.le_total (r x) (r p) with h' | h'
          · refine ⟨x, by simp, fun y hy => ?_⟩
            rcases List.mem_cons.1 hy with rfl | hy
            · exact Nat.le_refl _
            · exact Nat.le_trans h' (h y hy)
          · refine ⟨p, List.mem_cons_of_mem _ hp, fun y hy => ?_⟩
            rcases List.mem_cons.1 hy with rfl | hy
            · exact h'
            · exact h y hy
    exact this left (fun e => by rw [e] at h2; simp at h2)
  have hreach : ∀ d, Reach nd [p] d → d = p ∨ r d < r p := by
    intro d h
    induction h with
    | base h => exact .inl (by simpa using h)
    | step h hd ih =>
      rename_i x d
      have hx : x ∈ U := h.in_ hU (fun d hd => by rw [List.mem_singleton.1 hd]; exact hl p hp)
      have := hr _ hx _ hd
      rcases ih with e | h'
      · subst e; exact .inr this
      · exact .inr (by omega)
  have hself : p ∈ clo p := (hclo p (hl p hp) p).2 (.base (by simp))
  refine ⟨p, hp, ?_⟩
  have hin : p ∈ inC (clo p) left := List.mem_filter.2 ⟨hp, by simpa using hself⟩
  have hout : ∃ y, y ∈ outC (clo p) left := by
    match left, h2, hp, hn with
    | a :: b :: l, _, hp, hn =>
      have hab : a ≠ b := fun e => by subst e; exact (List.nodup_cons.1 hn).1 (by simp)
      have no : ∀ y ∈ a :: b :: l, y ≠ p → y ∈ outC (clo p) (a :: b :: l) := fun y hy hne => List.mem_filter.2 ⟨hy, by
        have : ¬ y ∈ clo p := fun h => by
          rcases hreach y ((hclo p (hl p hp) y).1 h) with e | h'
          · exact hne e
          · have := hmin y hy; omega
        simpa using this⟩
      by_cases e : a = p
      · exact ⟨b, no b (by simp) (fun e' => hab (e.trans e'.symm))⟩
      · exact ⟨a, no a (by simp) e⟩
  have h1 := List.length_pos_of_mem hin
  obtain ⟨y, hy⟩ := hout
  have h3 := List.length_pos_of_mem hy
  unfold even; omega
end Go.Q
/- The small logic: cuts within a region; more steps. Library, no statement of its own. -/
namespace Go.Q
open Go
theorem Le.trans' {x y z : PV} (h : Le x y) (k : Le y z) : Le x z := fun g v hv => k g v (h g v hv)
section
variable {P : Program} {N : Nat} {all : Array Oper} {K : Env → List Res → Prop} {fl : List Bool} {os : List Oper} {ρ : Env} {L : List Res} {Q : PPost} {c : Code} {d : Nat} {ty : TypeId} {pos : String} {af : Array Edge}

theorem pops_mono {K' : Env → List Res → Prop} (hk : ∀ ρ L, K' ρ L → K ρ L) : ∀ {os : List Oper} {fl : List Bool} {ρ : Env} {L : List Res}, pops P N all K' fl os ρ L → pops P N all K fl os ρ L
  | [], _, _, _, h => hk _ _ h
  | o :: os, fl, ρ, L, h => by
    obtain ⟨hd, h⟩ := h
    refine ⟨hd, ?_⟩
    rcases h with ⟨hno, h⟩ | ⟨hy, h⟩
    · exact .inl ⟨hno, pops_mono hk h⟩
    · refine .inr ⟨hy, ?_⟩
      rcases h with ⟨x, hq, h⟩ | ⟨hf, h⟩
      · exact .inl ⟨x, hq, pops_mono hk h⟩
      · exact .inr ⟨hf, h.mono fun x L' h => pops_mono hk h⟩

/-- What a region leaves, said at once. -/
theorem pops_cutE {y : Code} (E : List (Nat × PV)) (LL : List Res) (h : pops P N all (fun ρ L => Holds ρ E ∧ LL.Sublist L) fl os ρ L) (k : pwp P N y Q (env E) LL)
    (hK : ∀ ρ L, pwp P N y Q ρ L → K ρ L := by intro _ _ h; exact h) : pops P N all K fl os ρ L :=
  pops_mono (fun ρ' L' ⟨h1, h2⟩ => hK _ _ (pwp_env E h1 h2 k)) h
/-- Two ways that meet again: what is known there, said at once. -/
theorem pwp_join {c y : Code} (F : Prop) (E : List (Nat × PV)) (LL : List Res) (h : pwp P N c (PThen (fun ρ L => F ∧ Holds ρ E ∧ LL.Sublist L) Q) ρ L) (k : F → pwp P N y Q (env E) LL) : pwp P N c (PThen (pwp P N y Q) Q) ρ L :=
  pwp_mono h fun e ρ' L' hq => by
    cases e with
    | normal => obtain ⟨h1, h2, h3⟩ := hq; exact pwp_env E h2 h3 (k h1)
    | _ => exact hq
/-- Goes on by itself; not into a region whose order is drawn. -/
theorem walkn {A B : Prop} (k : B) (h : Wrap B → A := by
    intro hB
    repeat (first
      | refine pops_nil ?_
      | (refine g_guard ?_; first | refine pops_yes rfl (by rfl) ?_ | refine pops_yesA rfl (by first | ((conv => lhs; whnf); done) | fail) (by assumption) ?_ | refine pops_noT rfl (by first | ((conv => lhs; whnf); done) | fail) (by assumption) ?_ | refine pops_noF rfl (by first | ((conv => lhs; whnf); done) | fail) (by assumption) ?_ | refine pops_noU rfl (by rfl) ?_ | refine pops_noT rfl (by rfl) rfl ?_ | refine pops_noF rfl (by rfl) rfl ?_)
      | (refine g_move ?_; first | refine s_moveN (by (conv => lhs; whnf); done) ?_)
      | (refine g_assign ?_; first | refine s_assignN (by (conv => lhs; whnf); done) ?_)
      | (refine g_load ?_; first | refine s_loadAL (by rfl) (hl := (by first | infer_instance | fail)) ?_ | refine s_loadS (by rfl) rfl ?_ | refine s_loadBL (by rfl) (by repeat (first | exact List.mem_cons_self | apply List.mem_cons_of_mem)) (hl := (by first | infer_instance | fail)) ?_ | refine s_loadBF (by rfl) (by repeat (first | exact List.mem_cons_self | apply List.mem_cons_of_mem)) (hs := (by first | infer_instance | fail)) ?_ | refine s_loadBG (by rfl) (by repeat (first | exact List.mem_cons_self | apply List.mem_cons_of_mem)) (hs := (by first | infer_instance | fail)) ?_ | refine s_loadD (by rfl) (by repeat (first | exact List.mem_cons_self | apply List.mem_cons_of_mem)) (by omega) ?_ | refine s_loadW (by rfl) (by repeat (first | exact List.mem_cons_self | apply List.mem_cons_of_mem)) (by omega) ?_)
      | (refine g_fld ?_; first | refine s_fldF (by rfl) (hr := (by first | infer_instance | fail)) ?_ | refine s_fldBq (by rfl) (by (conv => lhs; whnf); done) ?_)
      | (refine g_len ?_; first | refine s_lenM (by rfl) ?_ | refine s_lenS (by (conv => lhs; whnf); done) (jx := (by first | infer_instance | fail)) ?_ | refine s_len (by rfl) ?_)
      | (refine g_call ?_; first | refine j_call1 (by (conv => lhs; whnf); done) (hN0 := (by first | infer_instance | fail)) (hc := (by first | infer_instance | fail)) ?_ | refine j_call2 (by (conv => lhs; whnf); done) (by (conv => lhs; whnf); done) (hN0 := (by first | infer_instance | fail)) (hN1 := (by first | infer_instance | fail)) (hc := (by first | infer_instance | fail)) ?_ | refine j_call3 (by (conv => lhs; whnf); done) (by (conv => lhs; whnf); done) (by (conv => lhs; whnf); done) (hN0 := (by first | infer_instance | fail)) (hN1 := (by first | infer_instance | fail)) (hN2 := (by first | infer_instance | fail)) (hc := (by first | infer_instance | fail)) ?_ | refine j_call0 (hc := (by first | infer_instance | fail)) ?_ | refine j_call4 (by (conv => lhs; whnf); done) (by (conv => lhs; whnf); done) (by (conv => lhs; whnf); done) (by (conv => lhs; whnf); done) (hN0 := (by first | infer_instance | fail)) (hN1 := (by first | infer_instance | fail)) (hN2 := (by first | infer_instance | fail)) (hN3 := (by first | infer_instance | fail)) (hc := (by first | infer_instance | fail)) ?_ | refine j_call5 (by (conv => lhs; whnf); done) (by (conv => lhs; whnf); done) (by (conv => lhs; whnf); done) (by (conv => lhs; whnf); done) (by (conv => lhs; whnf); done) (hN0 := (by first | infer_instance | fail)) (hN1 := (by first | infer_instance | fail)) (hN2 := (by first | infer_instance | fail)) (hN3 := (by first | infer_instance | fail)) (hN4 := (by first | infer_instance | fail)) (hc := (by first | infer_instance | fail)) ?_ | refine j_call6 (by (conv => lhs; whnf); done) (by (conv => lhs; whnf); done) (by (conv => lhs; whnf); done) (by (conv => lhs; whnf); done) (by (conv => lhs; whnf); done) (by (conv => lhs; whnf); done) (hN0 := (by first | infer_instance | fail)) (hN1 := (by first | infer_instance | fail)) (hN2 := (by first | infer_instance | fail)) (hN3 := (by first | infer_instance | fail)) (hN4 := (by first | infer_instance | fail)) (hN5 := (by first | infer_instance | fail)) (hc := (by first | infer_instance | fail)) ?_)
      | (refine g_bi ?_; first | refine s_min (by rfl) (by rfl) ?_ | refine s_max (by rfl) (by rfl) ?_)
      | (refine g_bin ?_; first | refine s_lss (by rfl) (by rfl) ?_ | refine s_leq (by rfl) (by rfl) ?_ | refine s_gtr (by rfl) (by rfl) ?_ | refine s_geq (by rfl) (by rfl) ?_ | refine s_eqi (by rfl) (by rfl) ?_ | refine s_nei (by rfl) (by rfl) ?_ | refine s_add (by rfl) (by rfl) (by constructor <;> omega) ?_ | refine s_sub (by rfl) (by rfl) (by constructor <;> omega) ?_ | refine s_eqDig (by rfl) (by rfl) ?_ | refine s_neDig (by rfl) (by rfl) ?_ | refine s_eqId (by rfl) (by rfl) ?_ | refine s_neId (by rfl) (by rfl) ?_ | refine s_eqS (by (conv => lhs; whnf); done) (by (conv => lhs; whnf); done) (jx := (by first | infer_instance | fail)) (jy := (by first | infer_instance | fail)) ?_ | refine s_neS (by (conv => lhs; whnf); done) (by (conv => lhs; whnf); done) (jx := (by first | infer_instance | fail)) (jy := (by first | infer_instance | fail)) ?_ | refine s_eqB (by rfl) (by rfl) ?_ | refine s_neB (by rfl) (by rfl) ?_ | refine s_cat (by (conv => lhs; whnf); done) (by (conv => lhs; whnf); done) (jx := (by first | infer_instance | fail)) (jy := (by first | infer_instance | fail)) (by first | omega | (simp only [List.length_append, List.length_cons, List.length_nil, Nat.zero_add]; omega)) ?_ | refine s_mul (by rfl) (by rfl) (by constructor <;> omega) ?_ | refine s_quo (by rfl) (by rfl) (by first | omega | decide) (by omega) ?_ | refine s_rem (by rfl) (by rfl) (by first | omega | decide) ?_ | refine s_addW (by rfl) (by rfl) ?_ | refine s_xorW (by rfl) (by rfl) ?_ | refine s_andW (by rfl) (by rfl) ?_ | refine s_orW (by rfl) (by rfl) ?_ | refine s_shrW (by rfl) (by rfl) ?_ | refine s_shlW (by rfl) (by rfl) ?_ | refine s_shrU (by rfl) (by rfl) ?_ | refine s_subU (by rfl) (by rfl) (by omega) (by omega) ?_ | refine s_mulU (by rfl) (by rfl) (by omega) ?_)
      | (refine g_ix ?_; first | refine s_indexN (by rfl) (by rfl) (by omega) ?_ | refine s_indexB (by rfl) (by rfl) (by omega) ?_ | refine s_indexZ (by rfl) (by rfl) (by omega) (by omega) ?_)
      | (refine g_ext ?_; first | refine s_extract (by rfl) rfl ?_)
      | (refine g_pick ?_; first | refine s_pickTA (by rfl) rfl (by (conv => lhs; whnf); done) ?_ | refine s_pickFA (by rfl) rfl (by (conv => lhs; whnf); done) ?_ | refine s_pickTA (by first | ((conv => lhs; whnf); done) | fail) (by assumption) (by (conv => lhs; whnf); done) ?_ | refine s_pickFA (by first | ((conv => lhs; whnf); done) | fail) (by assumption) (by (conv => lhs; whnf); done) ?_)
      | (refine g_un ?_; first | refine s_not (by rfl) ?_ | refine s_neg (by rfl) (by constructor <;> omega) ?_ | refine s_notW (by rfl) ?_)
      | (refine g_store ?_; first | refine s_storeC (by rfl) (by (conv => lhs; whnf); done) (hC := (by first | infer_instance | fail)) (hB := (by first | infer_instance | fail)) (hp := (by first | infer_instance | fail)) (hu := (by first | infer_instance | fail)) (hf := (by first | infer_instance | fail)) (hlen := (by first | infer_instance | fail)) ?_ | refine s_storeX (by rfl) (by rfl) (hB := (by first | infer_instance | fail)) (hu := (by first | infer_instance | fail)) (hf := (by first | infer_instance | fail)) (hlen := (by first | infer_instance | fail)) (hcs := (by first | infer_instance | fail)) ?_ | refine s_storeW32 (by rfl) (by rfl) (by repeat (first | exact List.mem_cons_self | apply List.mem_cons_of_mem)) (by omega) (hu := (by first | infer_instance | fail)) ?_ | refine s_storeD (by rfl) (by rfl) (by repeat (first | exact List.mem_cons_self | apply List.mem_cons_of_mem)) (by omega) (hu := (by first | infer_instance | fail)) ?_)
      | (refine g_bs ?_; first | refine s_bs0 ?_ | refine s_bs1 (by (conv => lhs; whnf); done) (hC0 := (by first | infer_instance | fail)) (hf := (by first | infer_instance | fail)) (by decide) ?_ | refine s_bs2 (by (conv => lhs; whnf); done) (by (conv => lhs; whnf); done) (hC0 := (by first | infer_instance | fail)) (hC1 := (by first | infer_instance | fail)) (hf := (by first | infer_instance | fail)) (by decide) ?_ | refine s_bs3 (by (conv => lhs; whnf); done) (by (conv => lhs; whnf); done) (by (conv => lhs; whnf); done) (hC0 := (by first | infer_instance | fail)) (hC1 := (by first | infer_instance | fail)) (hC2 := (by first | infer_instance | fail)) (hf := (by first | infer_instance | fail)) (by decide) ?_ | refine s_bs4 (by (conv => lhs; whnf); done) (by (conv => lhs; whnf); done) (by (conv => lhs; whnf); done) (by (conv => lhs; whnf); done) (hC0 := (by first | infer_instance | fail)) (hC1 := (by first | infer_instance | fail)) (hC2 := (by first | infer_instance | fail)) (hC3 := (by first | infer_instance | fail)) (hf := (by first | infer_instance | fail)) (by decide) ?_ | refine s_bs5 (by (conv => lhs; whnf); done) (by (conv => lhs; whnf); done) (by (conv => lhs; whnf); done) (by (conv => lhs; whnf); done) (by (conv => lhs; whnf); done) (hC0 := (by first | infer_instance | fail)) (hC1 := (by first | infer_instance | fail)) (hC2 := (by first | infer_instance | fail)) (hC3 := (by first | infer_instance | fail)) (hC4 := (by first | infer_instance | fail)) (hf := (by first | infer_instance | fail)) (by decide) ?_ | refine s_bs6 (by (conv => lhs; whnf); done) (by (conv => lhs; whnf); done) (by (conv => lhs; whnf); done) (by (conv => lhs; whnf); done) (by (conv => lhs; whnf); done) (by (conv => lhs; whnf); done) (hC0 := (by first | infer_instance | fail)) (hC1 := (by first | infer_instance | fail)) (hC2 := (by first | infer_instance | fail)) (hC3 := (by first | infer_instance | fail)) (hC4 := (by first | infer_instance | fail)) (hC5 := (by first | infer_instance | fail)) (hf := (by first | infer_instance | fail)) (by decide) ?_)
      | (refine g_build ?_; first | refine s_build0 ?_ | refine s_buildA0 ?_ | refine b_build1 (by (conv => lhs; whnf); done) (hC0 := (by first | infer_instance | fail)) (hP0 := (by first | infer_instance | fail)) (hl0 := (by first | infer_instance | fail)) ?_ | refine b_build2 (by (conv => lhs; whnf); done) (by (conv => lhs; whnf); done) (hC0 := (by first | infer_instance | fail)) (hC1 := (by first | infer_instance | fail)) (hP0 := (by first | infer_instance | fail)) (hP1 := (by first | infer_instance | fail)) (hl0 := (by first | infer_instance | fail)) (hl1 := (by first | infer_instance | fail)) ?_ | refine b_build3 (by (conv => lhs; whnf); done) (by (conv => lhs; whnf); done) (by (conv => lhs; whnf); done) (hC0 := (by first | infer_instance | fail)) (hC1 := (by first | infer_instance | fail)) (hC2 := (by first | infer_instance | fail)) (hP0 := (by first | infer_instance | fail)) (hP1 := (by first | infer_instance | fail)) (hP2 := (by first | infer_instance | fail)) (hl0 := (by first | infer_instance | fail)) (hl1 := (by first | infer_instance | fail)) (hl2 := (by first | infer_instance | fail)) ?_ | refine b_build4 (by (conv => lhs; whnf); done) (by (conv => lhs; whnf); done) (by (conv => lhs; whnf); done) (by (conv => lhs; whnf); done) (hC0 := (by first | infer_instance | fail)) (hC1 := (by first | infer_instance | fail)) (hC2 := (by first | infer_instance | fail)) (hC3 := (by first | infer_instance | fail)) (hP0 := (by first | infer_instance | fail)) (hP1 := (by first | infer_instance | fail)) (hP2 := (by first | infer_instance | fail)) (hP3 := (by first | infer_instance | fail)) (hl0 := (by first | infer_instance | fail)) (hl1 := (by first | infer_instance | fail)) (hl2 := (by first | infer_instance | fail)) (hl3 := (by first | infer_instance | fail)) ?_ | refine b_build5 (by (conv => lhs; whnf); done) (by (conv => lhs; whnf); done) (by (conv => lhs; whnf); done) (by (conv => lhs; whnf); done) (by (conv => lhs; whnf); done) (hC0 := (by first | infer_instance | fail)) (hC1 := (by first | infer_instance | fail)) (hC2 := (by first | infer_instance | fail)) (hC3 := (by first | infer_instance | fail)) (hC4 := (by first | infer_instance | fail)) (hP0 := (by first | infer_instance | fail)) (hP1 := (by first | infer_instance | fail)) (hP2 := (by first | infer_instance | fail)) (hP3 := (by first | infer_instance | fail)) (hP4 := (by first | infer_instance | fail)) (hl0 := (by first | infer_instance | fail)) (hl1 := (by first | infer_instance | fail)) (hl2 := (by first | infer_instance | fail)) (hl3 := (by first | infer_instance | fail)) (hl4 := (by first | infer_instance | fail)) ?_ | refine b_build6 (by (conv => lhs; whnf); done) (by (conv => lhs; whnf); done) (by (conv => lhs; whnf); done) (by (conv => lhs; whnf); done) (by (conv => lhs; whnf); done) (by (conv => lhs; whnf); done) (hC0 := (by first | infer_instance | fail)) (hC1 := (by first | infer_instance | fail)) (hC2 := (by first | infer_instance | fail)) (hC3 := (by first | infer_instance | fail)) (hC4 := (by first | infer_instance | fail)) (hC5 := (by first | infer_instance | fail)) (hP0 := (by first | infer_instance | fail)) (hP1 := (by first | infer_instance | fail)) (hP2 := (by first | infer_instance | fail)) (hP3 := (by first | infer_instance | fail)) (hP4 := (by first | infer_instance | fail)) (hP5 := (by first | infer_instance | fail)) (hl0 := (by first | infer_instance | fail)) (hl1 := (by first | infer_instance | fail)) (hl2 := (by first | infer_instance | fail)) (hl3 := (by first | infer_instance | fail)) (hl4 := (by first | infer_instance | fail)) (hl5 := (by first | infer_instance | fail)) ?_ | refine b_build7 (by (conv => lhs; whnf); done) (by (conv => lhs; whnf); done) (by (conv => lhs; whnf); done) (by (conv => lhs; whnf); done) (by (conv => lhs; whnf); done) (by (conv => lhs; whnf); done) (by (conv => lhs; whnf); done) (hC0 := (by first | infer_instance | fail)) (hC1 := (by first | infer_instance | fail)) (hC2 := (by first | infer_instance | fail)) (hC3 := (by first | infer_instance | fail)) (hC4 := (by first | infer_instance | fail)) (hC5 := (by first | infer_instance | fail)) (hC6 := (by first | infer_instance | fail)) (hP0 := (by first | infer_instance | fail)) (hP1 := (by first | infer_instance | fail)) (hP2 := (by first | infer_instance | fail)) (hP3 := (by first | infer_instance | fail)) (hP4 := (by first | infer_instance | fail)) (hP5 := (by first | infer_instance | fail)) (hP6 := (by first | infer_instance | fail)) (hl0 := (by first | infer_instance | fail)) (hl1 := (by first | infer_instance | fail)) (hl2 := (by first | infer_instance | fail)) (hl3 := (by first | infer_instance | fail)) (hl4 := (by first | infer_instance | fail)) (hl5 := (by first | infer_instance | fail)) (hl6 := (by first | infer_instance | fail)) ?_ | refine b_build8 (by (conv => lhs; whnf); done) (by (conv => lhs; whnf); done) (by (conv => lhs; whnf); done) (by (conv => lhs; whnf); done) (by (conv => lhs; whnf); done) (by (conv => lhs; whnf); done) (by (conv => lhs; whnf); done) (by (conv => lhs; whnf); done) (hC0 := (by first | infer_instance | fail)) (hC1 := (by first | infer_instance | fail)) (hC2 := (by first | infer_instance | fail)) (hC3 := (by first | infer_instance | fail)) (hC4 := (by first | infer_instance | fail)) (hC5 := (by first | infer_instance | fail)) (hC6 := (by first | infer_instance | fail)) (hC7 := (by first | infer_instance | fail)) (hP0 := (by first | infer_instance | fail)) (hP1 := (by first | infer_instance | fail)) (hP2 := (by first | infer_instance | fail)) (hP3 := (by first | infer_instance | fail)) (hP4 := (by first | infer_instance | fail)) (hP5 := (by first | infer_instance | fail)) (hP6 := (by first | infer_instance | fail)) (hP7 := (by first | infer_instance | fail)) (hl0 := (by first | infer_instance | fail)) (hl1 := (by first | infer_instance | fail)) (hl2 := (by first | infer_instance | fail)) (hl3 := (by first | infer_instance | fail)) (hl4 := (by first | infer_instance | fail)) (hl5 := (by first | infer_instance | fail)) (hl6 := (by first | infer_instance | fail)) (hl7 := (by first | infer_instance | fail)) ?_)
      | (refine g_slice ?_; first | refine s_cutL (by rfl) (by rfl) (by omega) ?_ | refine s_cutH (by rfl) (by rfl) (by omega) ?_ | refine s_cutS (by (conv => lhs; whnf); done) (by rfl) (by rfl) (jx := (by first | infer_instance | fail)) (by omega) (by omega) (by omega) ?_ | refine s_cutSL (by (conv => lhs; whnf); done) (by rfl) (jx := (by first | infer_instance | fail)) (by omega) (by omega) ?_ | refine s_sliceD (by rfl) ?_)
      | (refine g_conv ?_; first | refine s_convB (by rfl) ?_ | refine s_convW (by rfl) ?_ | refine s_convU (by rfl) (by omega) ?_ | refine s_strB (by rfl) ?_ | refine s_strBox (by rfl) (by repeat (first | exact List.mem_cons_self | apply List.mem_cons_of_mem)) (hs := (by first | infer_instance | fail)) ?_)
      | (refine g_index ?_; first | refine s_indexS (by (conv => lhs; whnf); done) (by rfl) (jx := (by first | infer_instance | fail)) (by omega) ?_)
      | (refine g_nck ?_; first | refine s_nilCheckP (by rfl) ?_)
      | refine pwp_seq ?_
      | refine pwp_region (by kernel_rfl) ?_
      | refine pwp_block ?_
      | refine pwp_skip ?_
      | refine pwp_ret ?_
      | refine pwp_exit ?_
      | refine pwp_condT (by rfl) ?_
      | refine pwp_condF (by rfl) ?_)
    exact hB.out) : A := h ⟨k⟩
/-- Up to a new variable, and on; not into a region whose order is drawn. -/
theorem walkbn {A : Prop} {B : Nat → Prop} (k : ∀ b, B b) (h : WrapF B → A := by
    intro hB
    refine walkn ?_
    first | refine s_box (by rfl) fun b => ?_ | refine s_alloc fun b => ?_
    refine walkn ?_
    exact hB.out b) : A := h ⟨k⟩
/-- The same, from within a region. -/
theorem walkbnp {A : Prop} {B : Nat → Prop} (k : ∀ b, B b) (h : WrapF B → A := by
    intro hB
    refine walkbn fun b => ?_
    exact hB.out b) : A := h ⟨k⟩
/-- A new list that may grow. -/
theorem opN_bsT {T n sz by_ : Nat} [hE : TApp P T sz by_] {xs : List Operand} {cs : List (List PV)} {dst : Option Nat} {gd : Option (Nat × Bool)} (hn : xs.length = n) (hl : cs.length = n) (h24 : n * sz ≤ 16777216) (hm : n ≤ maxN)
    (hx : ∀ i (h1 : i < xs.length) (h2 : i < cs.length), Cells (ρ.ev xs[i]) cs[i] ∧ cs[i].length = sz) {Ψ : PV → List Res → Prop} (k : ∀ t', Ψ (.slice cs t') (.tok t' n sz :: L)) : OpN P ⟨dst, .buildSlice T n ((xs.zipIdx.map fun p => (p.2, p.1)).toArray), ty, pos, af, gd⟩ ρ L Ψ := by
  intro a w g ha hi
  obtain ⟨E, i, z, t1, t2, t3, t4, t5, t6, t7, t8⟩ := hE.out
  have hcell : ∀ i, i < n → ∃ us : List Value, (∀ (h1 : i < xs.length), (a.eval xs[i]).cells = us.toArray) ∧ (∀ (h2 : i < cs.length), VRl g us cs[i]) := fun i h1 => by
    obtain ⟨us, e1, e2⟩ := (hx i (by omega) (by omega)).1 g _ (ha xs[i] (bs_operand (by omega)))
    exact ⟨us, fun _ => e1, fun _ => e2⟩
  let F : Nat → List Value := fun i => by classical exact if h : i < n then Classical.choose (hcell i h) else []
  have hF : ∀ i (h : i < n), (∀ (h1 : i < xs.length), (a.eval xs[i]).cells = (F i).toArray) ∧ (∀ (h2 : i < cs.length), VRl g (F i) cs[i]) := fun i h => by
    have := Classical.choose_spec (hcell i h)
    simp only [F, dif_pos h]; exact this
  let vs : List (List Value) := (List.range n).map F
  have hvl : vs.length = n := by simp [vs]
  have hvi : ∀ i (h : i < vs.length), vs[i] = F i := fun i h => by simp [vs]
  have hFl : ∀ i, i < n → (F i).length = sz := fun i h => by rw [((hF i h).2 (by omega)).len, (hx i (by omega) (by omega)).2]
  have hflat : VRl g vs.flatten cs.flatten := by
    have : ∀ m, m ≤ n → VRl g (vs.take m).flatten (cs.take m).flatten := by
      intro m
      induction m with
      | zero => intro _; simp; exact .nil g
      | succ m ih =>
        intro hm'
        rw [List.take_succ_eq_append_getElem (by omega : m < vs.length), List.take_succ_eq_append_getElem (by omega : m < cs.length), List.flatten_append, List.flatten_append]
        refine (ih (by omega)).append ?_
        simp only [List.flatten_cons, List.flatten_nil, List.append_nil, hvi]
        exact (hF m (by omega)).2 (by omega)
    have := this n (Nat.le_refl _)
    rwa [List.take_of_length_le (by omega), List.take_of_length_le (by omega)] at this
  have hcs : ∀ e ∈ cs, e.length = sz := fun e he => by
    obtain ⟨j, hj, rfl⟩ := List.mem_iff_getElem.1 he
    exact (hx j (by omega) hj).2
  have hparts : (((xs.zipIdx.map fun p => (p.2, p.1)).toArray).map fun (p : Nat × Operand) => (p.1, a.eval p.2)).toList = ((xs.map a.eval).zipIdx 0).map fun p => (p.2, p.1) := by
    simp only [List.map_toArray, List.map_map]
    rw [List.zipIdx_map, List.map_map]
    rfl
  obtain ⟨j1, j2, j3⟩ := hi.lay vs.flatten E
  have hr : (execOp a.eval ⟨dst, .buildSlice T n ((xs.zipIdx.map fun p => (p.2, p.1)).toArray), ty, pos, af, gd⟩).run P w = .ok (.value (.slice (some ⟨w.heap.size, 0, none⟩) n n)) { w with heap := w.heap.push (.cells vs.flatten.toArray E (0, 0)) } := by
    have hz : ∀ (zz : Array Value), Instr.fill (fun i => some (i * sz, sz)) ((Array.range (n * sz)).map (zz[· % zz.size]!)) (((xs.map a.eval).zipIdx 0).map fun p => (p.2, p.1)) = some vs.flatten.toArray := fun zz => by
      have e : (Array.range (n * sz)).map (zz[· % zz.size]!) = ((List.range (n * sz)).map (zz[· % zz.size]!)).toArray := by
        apply Array.ext'; simp
      rw [e, fill_all vs (xs.map a.eval) 0 _ (by simp [hvl, hn]) (fun i h1 h2 => by
        simp only [List.length_map] at h1
        rw [hvi]
        simp only [List.getElem_map]
        exact ⟨(hF i (by omega)).1 h1, hFl i (by omega)⟩) (by simp [hvl])]
      simp
    show (do pure (Next.value (← Instr.buildSlice T n (((xs.zipIdx.map fun p => (p.2, p.1)).toArray).map fun (p : Nat × Operand) => (p.1, a.eval p.2)))) : Sem Next).run P w = _
    simp only [Instr.buildSlice, Sem.run_bind, run_underlying t1, Result.andThen_ok, sizeOf, typeInfo, run_program, t2, Sem.run_pure, t3, hparts]
    rw [if_neg (by have : (2 : Nat) ^ 24 = 16777216 := by decide
                   omega)]
    have hzv : (zeroValue E).run P w = .ok z w := by simp [zeroValue, typeInfo, t2, t5]
    split
    · simp only [Sem.run_bind, Sem.run_pure, Result.andThen_ok, hz #[], newRow, run_newObj]
    · simp only [Sem.run_bind, hzv, Sem.run_pure, Result.andThen_ok, hz z.cells, newRow, run_newObj]
  refine Oper.wq_of_run hr ?_
  have hH0 : ∀ o, g.H w.heap.size o = none := fun o => by
    cases h : g.H w.heap.size o with
    | none => rfl
    | some v => have := hi.sat _ _ _ h; simp [World.cell?] at this
  have hM0 : g.M w.heap.size = none := by
    cases h : g.M w.heap.size with
    | none => rfl
    | some v => exact absurd (hi.satM _ _ h).lt (Nat.lt_irrefl _)
  have hfl : vs.flatten.length = n * sz := by
    rw [hflat.len]
    have : ∀ (l : List (List PV)), (∀ e ∈ l, e.length = sz) → l.flatten.length = l.length * sz := by
      intro l
      induction l with
      | nil => simp
      | cons e l ih => intro h; simp only [List.flatten_cons, List.length_append, h e (by simp), ih fun e' he => h e' (by simp [he]), List.length_cons, Nat.add_mul]; omega
    rw [this cs hcs, hl]
  refine ⟨_, .slice cs (.own w.heap.size n), _, .tok (.own w.heap.size n) n sz :: L, rfl, ?_, ⟨j1.sat, j1.satM, fun r hr => ?_, ?_, j1.glob⟩, ?_, ?_, k _⟩
  · have := VR.of_cells (g := g.lay w.heap.size 0 vs.flatten) (xs := cs) (t := .own w.heap.size n) (sz := sz) (b := w.heap.size) (off := 0) (cap := n) hcs (by omega) ⟨by omega, by rw [hl]; exact Nat.le_trans h24 (by decide)⟩ (us := vs.flatten) (hflat.mono j3) (fun j hj => Gh.lay_in hj) (fun b' cap' e => by cases e; exact ⟨rfl, rfl, rfl⟩) (by simp)
    rw [hl] at this
    exact this
  · rcases List.mem_cons.1 hr with rfl | hr
    · refine ⟨vs.flatten.toArray, E, by simp, by simp [hfl], Nat.le_refl _, fun o ho => ?_, hM0⟩
      rw [Gh.lay_out (fun h => by have := h.2.2; omega)]; exact hH0 o
    · exact j1.res r hr
  · have hb : w.heap.size ∉ blocks L := fun h => by
      obtain ⟨r, hr, e⟩ := List.mem_filterMap.1 h
      have := Res.holds_lt (hi.res r hr) e
      omega
    simp only [blocks, List.filterMap_cons, Res.block]
    exact List.nodup_cons.2 ⟨hb, hi.nodup⟩
  · exact j2
  · intro b' hb' hlt
    simp only [blocks, List.filterMap_cons, Res.block, List.mem_cons] at hb'
    rcases hb' with h | h
    · omega
    · exact h
theorem s_bsT1 {T sz by_ : Nat} [hE : TApp P T sz by_] {x0 : Operand} {a0 : PV} {α : Type} {f : α → List PV} {e0 : α} (q0 : ρ.ev x0 = a0) [hC0 : EncC a0 f e0] [hf : Len f sz] (h24 : 1 * sz ≤ 16777216)
    (k : ∀ t, pops P N all K fl.tail os (upd ρ d (.slice ([e0].map f) t)) (.tok t [e0].length sz :: L)) (hd : Nat.blt d N = true := by rfl) (hfl : fl.headD true = true := by rfl) : pops P N all K fl (⟨some d, .buildSlice T 1 #[(0, x0)], ty, pos, af, none⟩ :: os) ρ L :=
  pops_n rfl (dlt hd) hfl (opN_bsT (n := 1) (xs := [x0]) (cs := [e0].map f) rfl rfl h24 (by decide) (fun i h1 h2 => by
    match i, h1, h2 with
    | 0, _, _ => exact ⟨q0 ▸ hC0.out, hf.out e0⟩
    | m + 1, h1, _ => exact absurd h1 (by simp only [List.length_cons, List.length_nil]; omega)) k)
/-- Goes on by itself; no new list. -/
theorem walkx {A B : Prop} (k : B) (h : Wrap B → A := by
    intro hB
    repeat (first
      | refine pops_nil ?_
      | (refine g_guard ?_; first | refine pops_yes rfl (by rfl) ?_ | refine pops_yesA rfl (by first | ((conv => lhs; whnf); done) | fail) (by assumption) ?_ | refine pops_noT rfl (by first | ((conv => lhs; whnf); done) | fail) (by assumption) ?_ | refine pops_noF rfl (by first | ((conv => lhs; whnf); done) | fail) (by assumption) ?_ | refine pops_noU rfl (by rfl) ?_ | refine pops_noT rfl (by rfl) rfl ?_ | refine pops_noF rfl (by rfl) rfl ?_)
      | (refine g_move ?_; first | refine s_moveN (by (conv => lhs; whnf); done) ?_)
      | (refine g_assign ?_; first | refine s_assignN (by (conv => lhs; whnf); done) ?_)
      | (refine g_load ?_; first | refine s_loadAL (by rfl) (hl := (by first | infer_instance | fail)) ?_ | refine s_loadS (by rfl) rfl ?_ | refine s_loadBL (by rfl) (by repeat (first | exact List.mem_cons_self | apply List.mem_cons_of_mem)) (hl := (by first | infer_instance | fail)) ?_ | refine s_loadBF (by rfl) (by repeat (first | exact List.mem_cons_self | apply List.mem_cons_of_mem)) (hs := (by first | infer_instance | fail)) ?_ | refine s_loadBG (by rfl) (by repeat (first | exact List.mem_cons_self | apply List.mem_cons_of_mem)) (hs := (by first | infer_instance | fail)) ?_ | refine s_loadD (by rfl) (by repeat (first | exact List.mem_cons_self | apply List.mem_cons_of_mem)) (by omega) ?_ | refine s_loadW (by rfl) (by repeat (first | exact List.mem_cons_self | apply List.mem_cons_of_mem)) (by omega) ?_)
      | (refine g_fld ?_; first | refine s_fldF (by rfl) (hr := (by first | infer_instance | fail)) ?_ | refine s_fldBq (by rfl) (by (conv => lhs; whnf); done) ?_)
      | (refine g_len ?_; first | refine s_lenM (by rfl) ?_ | refine s_lenS (by (conv => lhs; whnf); done) (jx := (by first | infer_instance | fail)) ?_ | refine s_len (by rfl) ?_)
      | (refine g_call ?_; first | refine j_call1 (by (conv => lhs; whnf); done) (hN0 := (by first | infer_instance | fail)) (hc := (by first | infer_instance | fail)) ?_ | refine j_call2 (by (conv => lhs; whnf); done) (by (conv => lhs; whnf); done) (hN0 := (by first | infer_instance | fail)) (hN1 := (by first | infer_instance | fail)) (hc := (by first | infer_instance | fail)) ?_ | refine j_call3 (by (conv => lhs; whnf); done) (by (conv => lhs; whnf); done) (by (conv => lhs; whnf); done) (hN0 := (by first | infer_instance | fail)) (hN1 := (by first | infer_instance | fail)) (hN2 := (by first | infer_instance | fail)) (hc := (by first | infer_instance | fail)) ?_ | refine j_call0 (hc := (by first | infer_instance | fail)) ?_ | refine j_call4 (by (conv => lhs; whnf); done) (by (conv => lhs; whnf); done) (by (conv => lhs; whnf); done) (by (conv => lhs; whnf); done) (hN0 := (by first | infer_instance | fail)) (hN1 := (by first | infer_instance | fail)) (hN2 := (by first | infer_instance | fail)) (hN3 := (by first | infer_instance | fail)) (hc := (by first | infer_instance | fail)) ?_ | refine j_call5 (by (conv => lhs; whnf); done) (by (conv => lhs; whnf); done) (by (conv => lhs; whnf); done) (by (conv => lhs; whnf); done) (by (conv => lhs; whnf); done) (hN0 := (by first | infer_instance | fail)) (hN1 := (by first | infer_instance | fail)) (hN2 := (by first | infer_instance | fail)) (hN3 := (by first | infer_instance | fail)) (hN4 := (by first | infer_instance | fail)) (hc := (by first | infer_instance | fail)) ?_ | refine j_call6 (by (conv => lhs; whnf); done) (by (conv => lhs; whnf); done) (by (conv => lhs; whnf); done) (by (conv => lhs; whnf); done) (by (conv => lhs; whnf); done) (by (conv => lhs; whnf); done) (hN0 := (by first | infer_instance | fail)) (hN1 := (by first | infer_instance | fail)) (hN2 := (by first | infer_instance | fail)) (hN3 := (by first | infer_instance | fail)) (hN4 := (by first | infer_instance | fail)) (hN5 := (by first | infer_instance | fail)) (hc := (by first | infer_instance | fail)) ?_)
      | (refine g_bi ?_; first | refine s_min (by rfl) (by rfl) ?_ | refine s_max (by rfl) (by rfl) ?_)
      | (refine g_bin ?_; first | refine s_lss (by rfl) (by rfl) ?_ | refine s_leq (by rfl) (by rfl) ?_ | refine s_gtr (by rfl) (by rfl) ?_ | refine s_geq (by rfl) (by rfl) ?_ | refine s_eqi (by rfl) (by rfl) ?_ | refine s_nei (by rfl) (by rfl) ?_ | refine s_add (by rfl) (by rfl) (by constructor <;> omega) ?_ | refine s_sub (by rfl) (by rfl) (by constructor <;> omega) ?_ | refine s_eqDig (by rfl) (by rfl) ?_ | refine s_neDig (by rfl) (by rfl) ?_ | refine s_eqId (by rfl) (by rfl) ?_ | refine s_neId (by rfl) (by rfl) ?_ | refine s_eqS (by (conv => lhs; whnf); done) (by (conv => lhs; whnf); done) (jx := (by first | infer_instance | fail)) (jy := (by first | infer_instance | fail)) ?_ | refine s_neS (by (conv => lhs; whnf); done) (by (conv => lhs; whnf); done) (jx := (by first | infer_instance | fail)) (jy := (by first | infer_instance | fail)) ?_ | refine s_eqB (by rfl) (by rfl) ?_ | refine s_neB (by rfl) (by rfl) ?_ | refine s_cat (by (conv => lhs; whnf); done) (by (conv => lhs; whnf); done) (jx := (by first | infer_instance | fail)) (jy := (by first | infer_instance | fail)) (by first | omega | (simp only [List.length_append, List.length_cons, List.length_nil, Nat.zero_add]; omega)) ?_ | refine s_mul (by rfl) (by rfl) (by constructor <;> omega) ?_ | refine s_quo (by rfl) (by rfl) (by first | omega | decide) (by omega) ?_ | refine s_rem (by rfl) (by rfl) (by first | omega | decide) ?_ | refine s_addW (by rfl) (by rfl) ?_ | refine s_xorW (by rfl) (by rfl) ?_ | refine s_andW (by rfl) (by rfl) ?_ | refine s_orW (by rfl) (by rfl) ?_ | refine s_shrW (by rfl) (by rfl) ?_ | refine s_shlW (by rfl) (by rfl) ?_ | refine s_shrU (by rfl) (by rfl) ?_ | refine s_subU (by rfl) (by rfl) (by omega) (by omega) ?_ | refine s_mulU (by rfl) (by rfl) (by omega) ?_)
      | (refine g_ix ?_; first | refine s_indexN (by rfl) (by rfl) (by omega) ?_ | refine s_indexB (by rfl) (by rfl) (by omega) ?_ | refine s_indexZ (by rfl) (by rfl) (by omega) (by omega) ?_)
      | (refine g_ext ?_; first | refine s_extract (by rfl) rfl ?_)
      | (refine g_pick ?_; first | refine s_pickTA (by rfl) rfl (by (conv => lhs; whnf); done) ?_ | refine s_pickFA (by rfl) rfl (by (conv => lhs; whnf); done) ?_ | refine s_pickTA (by first | ((conv => lhs; whnf); done) | fail) (by assumption) (by (conv => lhs; whnf); done) ?_ | refine s_pickFA (by first | ((conv => lhs; whnf); done) | fail) (by assumption) (by (conv => lhs; whnf); done) ?_)
      | (refine g_un ?_; first | refine s_not (by rfl) ?_ | refine s_neg (by rfl) (by constructor <;> omega) ?_ | refine s_notW (by rfl) ?_)
      | (refine g_store ?_; first | refine s_storeC (by rfl) (by (conv => lhs; whnf); done) (hC := (by first | infer_instance | fail)) (hB := (by first | infer_instance | fail)) (hp := (by first | infer_instance | fail)) (hu := (by first | infer_instance | fail)) (hf := (by first | infer_instance | fail)) (hlen := (by first | infer_instance | fail)) ?_ | refine s_storeX (by rfl) (by rfl) (hB := (by first | infer_instance | fail)) (hu := (by first | infer_instance | fail)) (hf := (by first | infer_instance | fail)) (hlen := (by first | infer_instance | fail)) (hcs := (by first | infer_instance | fail)) ?_ | refine s_storeW32 (by rfl) (by rfl) (by repeat (first | exact List.mem_cons_self | apply List.mem_cons_of_mem)) (by omega) (hu := (by first | infer_instance | fail)) ?_ | refine s_storeD (by rfl) (by rfl) (by repeat (first | exact List.mem_cons_self | apply List.mem_cons_of_mem)) (by omega) (hu := (by first | infer_instance | fail)) ?_)
      | (refine g_build ?_; first | refine s_build0 ?_ | refine s_buildA0 ?_ | refine b_build1 (by (conv => lhs; whnf); done) (hC0 := (by first | infer_instance | fail)) (hP0 := (by first | infer_instance | fail)) (hl0 := (by first | infer_instance | fail)) ?_ | refine b_build2 (by (conv => lhs; whnf); done) (by (conv => lhs; whnf); done) (hC0 := (by first | infer_instance | fail)) (hC1 := (by first | infer_instance | fail)) (hP0 := (by first | infer_instance | fail)) (hP1 := (by first | infer_instance | fail)) (hl0 := (by first | infer_instance | fail)) (hl1 := (by first | infer_instance | fail)) ?_ | refine b_build3 (by (conv => lhs; whnf); done) (by (conv => lhs; whnf); done) (by (conv => lhs; whnf); done) (hC0 := (by first | infer_instance | fail)) (hC1 := (by first | infer_instance | fail)) (hC2 := (by first | infer_instance | fail)) (hP0 := (by first | infer_instance | fail)) (hP1 := (by first | infer_instance | fail)) (hP2 := (by first | infer_instance | fail)) (hl0 := (by first | infer_instance | fail)) (hl1 := (by first | infer_instance | fail)) (hl2 := (by first | infer_instance | fail)) ?_ | refine b_build4 (by (conv => lhs; whnf); done) (by (conv => lhs; whnf); done) (by (conv => lhs; whnf); done) (by (conv => lhs; whnf); done) (hC0 := (by first | infer_instance | fail)) (hC1 := (by first | infer_instance | fail)) (hC2 := (by first | infer_instance | fail)) (hC3 := (by first | infer_instance | fail)) (hP0 := (by first | infer_instance | fail)) (hP1 := (by first | infer_instance | fail)) (hP2 := (by first | infer_instance | fail)) (hP3 := (by first | infer_instance | fail)) (hl0 := (by first | infer_instance | fail)) (hl1 := (by first | infer_instance | fail)) (hl2 := (by first | infer_instance | fail)) (hl3 := (by first | infer_instance | fail)) ?_ | refine b_build5 (by (conv => lhs; whnf); done) (by (conv => lhs; whnf); done) (by (conv => lhs; whnf); done) (by (conv => lhs; whnf); done) (by (conv => lhs; whnf); done) (hC0 := (by first | infer_instance | fail)) (hC1 := (by first | infer_instance | fail)) (hC2 := (by first | infer_instance | fail)) (hC3 := (by first | infer_instance | fail)) (hC4 := (by first | infer_instance | fail)) (hP0 := (by first | infer_instance | fail)) (hP1 := (by first | infer_instance | fail)) (hP2 := (by first | infer_instance | fail)) (hP3 := (by first | infer_instance | fail)) (hP4 := (by first | infer_instance | fail)) (hl0 := (by first | infer_instance | fail)) (hl1 := (by first | infer_instance | fail)) (hl2 := (by first | infer_instance | fail)) (hl3 := (by first | infer_instance | fail)) (hl4 := (by first | infer_instance | fail)) ?_ | refine b_build6 (by (conv => lhs; whnf); done) (by (conv => lhs; whnf); done) (by (conv => lhs; whnf); done) (by (conv => lhs; whnf); done) (by (conv => lhs; whnf); done) (by (conv => lhs; whnf); done) (hC0 := (by first | infer_instance | fail)) (hC1 := (by first | infer_instance | fail)) (hC2 := (by first | infer_instance | fail)) (hC3 := (by first | infer_instance | fail)) (hC4 := (by first | infer_instance | fail)) (hC5 := (by first | infer_instance | fail)) (hP0 := (by first | infer_instance | fail)) (hP1 := (by first | infer_instance | fail)) (hP2 := (by first | infer_instance | fail)) (hP3 := (by first | infer_instance | fail)) (hP4 := (by first | infer_instance | fail)) (hP5 := (by first | infer_instance | fail)) (hl0 := (by first | infer_instance | fail)) (hl1 := (by first | infer_instance | fail)) (hl2 := (by first | infer_instance | fail)) (hl3 := (by first | infer_instance | fail)) (hl4 := (by first | infer_instance | fail)) (hl5 := (by first | infer_instance | fail)) ?_ | refine b_build7 (by (conv => lhs; whnf); done) (by (conv => lhs; whnf); done) (by (conv => lhs; whnf); done) (by (conv => lhs; whnf); done) (by (conv => lhs; whnf); done) (by (conv => lhs; whnf); done) (by (conv => lhs; whnf); done) (hC0 := (by first | infer_instance | fail)) (hC1 := (by first | infer_instance | fail)) (hC2 := (by first | infer_instance | fail)) (hC3 := (by first | infer_instance | fail)) (hC4 := (by first | infer_instance | fail)) (hC5 := (by first | infer_instance | fail)) (hC6 := (by first | infer_instance | fail)) (hP0 := (by first | infer_instance | fail)) (hP1 := (by first | infer_instance | fail)) (hP2 := (by first | infer_instance | fail)) (hP3 := (by first | infer_instance | fail)) (hP4 := (by first | infer_instance | fail)) (hP5 := (by first | infer_instance | fail)) (hP6 := (by first | infer_instance | fail)) (hl0 := (by first | infer_instance | fail)) (hl1 := (by first | infer_instance | fail)) (hl2 := (by first | infer_instance | fail)) (hl3 := (by first | infer_instance | fail)) (hl4 := (by first | infer_instance | fail)) (hl5 := (by first | infer_instance | fail)) (hl6 := (by first | infer_instance | fail)) ?_ | refine b_build8 (by (conv => lhs; whnf); done) (by (conv => lhs; whnf); done) (by (conv => lhs; whnf); done) (by (conv => lhs; whnf); done) (by (conv => lhs; whnf); done) (by (conv => lhs; whnf); done) (by (conv => lhs; whnf); done) (by (conv => lhs; whnf); done) (hC0 := (by first | infer_instance | fail)) (hC1 := (by first | infer_instance | fail)) (hC2 := (by first | infer_instance | fail)) (hC3 := (by first | infer_instance | fail)) (hC4 := (by first | infer_instance | fail)) (hC5 := (by first | infer_instance | fail)) (hC6 := (by first | infer_instance | fail)) (hC7 := (by first | infer_instance | fail)) (hP0 := (by first | infer_instance | fail)) (hP1 := (by first | infer_instance | fail)) (hP2 := (by first | infer_instance | fail)) (hP3 := (by first | infer_instance | fail)) (hP4 := (by first | infer_instance | fail)) (hP5 := (by first | infer_instance | fail)) (hP6 := (by first | infer_instance | fail)) (hP7 := (by first | infer_instance | fail)) (hl0 := (by first | infer_instance | fail)) (hl1 := (by first | infer_instance | fail)) (hl2 := (by first | infer_instance | fail)) (hl3 := (by first | infer_instance | fail)) (hl4 := (by first | infer_instance | fail)) (hl5 := (by first | infer_instance | fail)) (hl6 := (by first | infer_instance | fail)) (hl7 := (by first | infer_instance | fail)) ?_)
      | (refine g_slice ?_; first | refine s_cutL (by rfl) (by rfl) (by omega) ?_ | refine s_cutH (by rfl) (by rfl) (by omega) ?_ | refine s_cutS (by (conv => lhs; whnf); done) (by rfl) (by rfl) (jx := (by first | infer_instance | fail)) (by omega) (by omega) (by omega) ?_ | refine s_cutSL (by (conv => lhs; whnf); done) (by rfl) (jx := (by first | infer_instance | fail)) (by omega) (by omega) ?_ | refine s_sliceD (by rfl) ?_)
      | (refine g_conv ?_; first | refine s_convB (by rfl) ?_ | refine s_convW (by rfl) ?_ | refine s_convU (by rfl) (by omega) ?_ | refine s_strB (by rfl) ?_ | refine s_strBox (by rfl) (by repeat (first | exact List.mem_cons_self | apply List.mem_cons_of_mem)) (hs := (by first | infer_instance | fail)) ?_)
      | (refine g_index ?_; first | refine s_indexS (by (conv => lhs; whnf); done) (by rfl) (jx := (by first | infer_instance | fail)) (by omega) ?_)
      | (refine g_nck ?_; first | refine s_nilCheckP (by rfl) ?_)
      | refine pwp_seq ?_
      | refine pwp_region (by kernel_rfl) ?_
      | refine pwp_block ?_
      | refine pwp_skip ?_
      | refine pwp_ret ?_
      | refine pwp_exit ?_
      | refine pwp_drawQ (by decide +kernel) ?_
      | refine pwp_condT (by rfl) ?_
      | refine pwp_condF (by rfl) ?_)
    exact hB.out) : A := h ⟨k⟩
/-- Up to a new list with one element that may grow, and on. -/
theorem walkt {A : Prop} {B : Tag → Prop} (k : ∀ t, B t) (h : WrapF B → A := by
    intro hB
    refine walkx ?_
    refine s_bsT1 (by (conv => lhs; whnf); done) (hC0 := (by first | infer_instance | fail)) (hf := (by first | infer_instance | fail)) (by decide) fun t => ?_
    refine walk ?_
    exact hB.out t) : A := h ⟨k⟩
/-- The same, from within a region. -/
theorem walktp {A : Prop} {B : Tag → Prop} (k : ∀ t, B t) (h : WrapF B → A := by
    intro hB
    refine walkt fun t => ?_
    exact hB.out t) : A := h ⟨k⟩
theorem holdsB {s : Nat} {v t : Bool} (h : ρ s = .raw (.bool v)) (e : v = t) : ρ s = .raw (.bool t) := e ▸ h
end
end Go.Q
/- The small logic: ways that meet with a ghost state; sums that may wrap. Library, no statement of its own. -/
namespace Go.Q
open Go
section
variable {P : Program} {N : Nat} {all : Array Oper} {K : Env → List Res → Prop} {fl : List Bool} {os : List Oper} {ρ : Env} {L : List Res} {Q : PPost} {d : Nat} {ty : TypeId} {pos : String} {af : Array Edge}
theorem pwp_joinS {σ : Type} {c y : Code} (F : σ → Prop) (E : σ → List (Nat × PV)) (LL : σ → List Res) (h : pwp P N c (PThen (fun ρ L => ∃ s, F s ∧ Holds ρ (E s) ∧ (LL s).Sublist L) Q) ρ L) (k : ∀ s, F s → pwp P N y Q (env (E s)) (LL s)) : pwp P N c (PThen (pwp P N y Q) Q) ρ L :=
  pwp_mono h fun e ρ' L' hq => by
    cases e with
    | normal => obtain ⟨s, h1, h2, h3⟩ := hq; exact pwp_env (E s) h2 h3 (k s h1)
    | _ => exact hq
theorem pwp_joinG {σ : Type} {c y : Code} {Q0 : PPost} (F : σ → Prop) (E : σ → List (Nat × PV)) (LL : σ → List Res) (h : pwp P N c (PThen (fun ρ L => ∃ s, F s ∧ Holds ρ (E s) ∧ (LL s).Sublist L) Q0) ρ L) (k : ∀ s, F s → pwp P N y Q (env (E s)) (LL s))
    (hQ : ∀ ρ L, pwp P N y Q ρ L → Q0 .normal ρ L := by intro _ _ h; exact h) : pwp P N c Q0 ρ L :=
  pwp_mono h fun e ρ' L' hq => by
    cases e with
    | normal => obtain ⟨s, h1, h2, h3⟩ := hq; exact hQ _ _ (pwp_env (E s) h2 h3 (k s h1))
    | _ => exact hq
theorem s_addX {T T' : TypeId} {x y : Operand} {m n : Int} (hx : ρ.ev x = .raw (.int .i64 m)) (hy : ρ.ev y = .raw (.int .i64 n)) (k : pops P N all K fl.tail os (upd ρ d (.raw (.int .i64 (IntKind.i64.wrap (m + n))))) L) (hd : Nat.blt d N = true := by rfl) :
    pops P N all K fl (⟨some d, .binOp .add T x y T', ty, pos, af, none⟩ :: os) ρ L := s_int hx hy (fun w => by simp [binOp, Op.intArith]) k hd
theorem s_addG {T T' : TypeId} {x y : Operand} {m n : Int} {vx : Value} (hx : ρ.ev x = .raw vx) (hy : ρ.ev y = .raw (.int .i64 n)) (ex : vx = .int .i64 m) (k : ∀ v, v = .int .i64 (IntKind.i64.wrap (m + n)) → pops P N all K fl.tail os (upd ρ d (.raw v)) L) (hd : Nat.blt d N = true := by rfl) :
    pops P N all K fl (⟨some d, .binOp .add T x y T', ty, pos, af, none⟩ :: os) ρ L := s_addX (by rw [hx, ex]) hy (k _ rfl) hd
end
end Go.Q
/- The small logic: regions whose order is drawn, the first operations in the text's order, the others in all orders. Library, no statement of its own. -/
namespace Go.Q
open Go
section
variable {P : Program} {N : Nat} {Q : PPost} {all : Array Oper} {K : Env → List Res → Prop}

def listedAt (listed : Array Bool) (k : Nat) : Nat → Array Bool
  | 0 => listed
  | n + 1 => listedAt (listed.setIfInBounds k true) (k + 1) n
def lexPre (all : Array Oper) (bar : Nat → Bool) : Nat → Nat → Array Bool → Bool
  | 0, _, _ => true
  | fuel + 1, k, listed => !bar k && (Region.ready .any all listed).contains k && Region.free .any all listed k && lexPre all bar fuel (k + 1) (listed.setIfInBounds k true)

theorem pAny_pre {bar : Nat → Bool} {m : Nat} (hsk : ∀ j oj, all[j]? = some oj → bar j = true → sink all j = true) : ∀ (l : List Oper) (k : Nat) (listed : Array Bool) (ρ : Env) (L : List Res), (∀ j, j < l.length → l[j]? = all[k + j]?) → Closed all listed → (∀ j, j < k → listed.getD j true = true) →
    lexPre all bar l.length k listed = true → pops P N all (fun ρ L => pAny P N all bar K m (listedAt listed k l.length) ρ L) (List.replicate l.length false) l ρ L → pAny P N all bar K (l.length + m) listed ρ L
  | [], _, _, _, _, _, _, _, _, h => by simpa [listedAt, pops] using h
  | o :: l, k, listed, ρ, L, hl, hc, hlow, hB, h => by
    have h0 : all[k]? = some o := by simpa using (hl 0 (by simp)).symm
    have hl' : ∀ j, j < l.length → l[j]? = all[k + 1 + j]? := fun j hj => by have := hl (j + 1) (by simpa using hj); simpa [Nat.add_assoc, Nat.add_comm 1 j] using this
    simp only [List.length_cons, lexPre, Bool.and_eq_true, Bool.not_eq_true'] at hB
    obtain ⟨⟨⟨hb, hr⟩, hfr⟩, hB'⟩ := hB
    have hready : k ∈ Region.ready .any all listed := by simpa using hr
    have hc' := hc.set hready
    have hlow' : ∀ j, j < k + 1 → (listed.setIfInBounds k true).getD j true = true := fun j hj => by
      by_cases hjk : k = j
      · subst hjk
        have hks : k < listed.size := by rw [hc.size]; exact (Array.getElem?_eq_some_iff.1 h0).1
        simp [hks]
      · rw [getD_set_ne true hjk]; exact hlow j (by omega)
    obtain ⟨hd, h⟩ := h
    have : ∃ x, YQ P all o ρ L x ∧ pops P N all (fun ρ L => pAny P N all bar K m (listedAt (listed.setIfInBounds k true) (k + 1) l.length) ρ L) (List.replicate l.length false) l (updo ρ o.dst x) L := by
      rcases h with ⟨hno, h⟩ | ⟨hyes, h⟩
      · exact ⟨_, .inl ⟨hno, rfl⟩, h⟩
      · rcases h with ⟨x, hq, h⟩ | ⟨hf, _⟩
        · exact ⟨x, .inr ⟨hyes, hq⟩, h⟩
        · cases hf
    obtain ⟨x, hy, hp⟩ := this
    have rec' := pAny_pre hsk l (k + 1) _ _ L hl' hc' hlow' hB' hp
    have := pAny_first (P := P) (N := N) (K := K) (bar := bar) h0 hd (fun j oj hoj _ hbj _ => hsk j oj hoj hbj) (l.length + m) listed ρ L hc hlow (Region.free_spec h0 hfr) hready hy rec'
    rwa [show (o :: l).length + m = l.length + m + 1 by simp; omega]

/-- One of those that are ready comes next. -/
theorem pAny_next {bar : Nat → Bool} {fuel : Nat} {listed : Array Bool} {ρ : Env} {L : List Res} (is : List Nat) (hr : Region.ready .any all listed = is) (hne : is ≠ [])
    (h : ∀ i ∈ is, ∃ o, all[i]? = some o ∧ pops P N all (fun ρ L => pAny P N all bar K fuel (listed.setIfInBounds i true) ρ L) [bar i] [o] ρ L) : pAny P N all bar K (fuel + 1) listed ρ L := by
  refine ⟨fun h0 => absurd (hr.symm.trans h0) hne, fun i hi => ?_⟩
  rw [hr] at hi
  obtain ⟨o, h0, hd, h⟩ := h i hi
  unfold pOp
  simp only [h0]
  refine ⟨hd, ?_⟩
  rcases h with ⟨hno, h⟩ | ⟨hyes, h⟩
  · exact .inl ⟨_, .inl ⟨hno, rfl⟩, h⟩
  · rcases h with ⟨x, hq, h⟩ | ⟨hf, h⟩
    · exact .inl ⟨x, .inr ⟨hyes, hq⟩, h⟩
    · exact .inr ⟨hf, hyes, h⟩
theorem pAny_end {bar : Nat → Bool} {listed : Array Bool} {ρ : Env} {L : List Res} (hr : Region.ready .any all listed = []) (h : K ρ L) : pAny P N all bar K 0 listed ρ L := ⟨hr, h⟩

/-- The first n operations are quiet; behind them all orders. -/
theorem pwp_drawP {id : Nat} {l : List Oper} {ρ : Env} {L : List Res} (n : Nat) (bs : List Nat) [hm : TMix P]
    (hB : (guardsIn l.toArray N && lexPre l.toArray (fun k => bs.contains k) n 0 (Array.replicate l.length false) && bs.all (fun j => sink l.toArray j) && decide (n ≤ l.length)) = true)
    (h : pops P N l.toArray (fun ρ L => pAny P N l.toArray (fun k => bs.contains k) (Q .normal) (l.length - n) (listedAt (Array.replicate l.length false) 0 n) ρ L) (List.replicate n false) (l.take n) ρ L) : pwp P N (.region id l.toArray true) Q ρ L := fun ro base a w g hst => by
  simp only [Bool.and_eq_true, decide_eq_true_eq] at hB
  obtain ⟨⟨⟨hG, hB⟩, hS⟩, hn⟩ := hB
  refine wpIn_region_any hm.out ?_
  have hi := hst.inv
  have hst0 : Step (blocks L) w g { w with drawn := w.drawn + 1 } g := ⟨rfl, rfl, ⟨rfl, Nat.le_succ _⟩, Nat.le_refl _, fun _ _ _ => rfl, .refl g, fun _ _ _ => ⟨fun _ => rfl, rfl⟩⟩
  have hi' : Inv { w with drawn := w.drawn + 1 } g L := ⟨hi.sat, fun b z hz => (hi.satM b z hz).congr rfl, fun r hr => by have := hi.res r hr; cases r <;> first | exact this | (rename_i t _ _; cases t <;> exact this), hi.nodup, hi.glob⟩
  have hln : (l.take n).length = n := by rw [List.length_take]; omega
  have := pAny_pre (P := P) (N := N) (all := l.toArray) (K := Q .normal) (bar := fun k => bs.contains k) (m := l.length - n) (fun j oj _ hb => List.all_eq_true.1 hS j (by simpa using hb)) (l.take n) 0 (Array.replicate l.length false) ρ L
    (fun j hj => by rw [hln] at hj; simp [hj])
    ⟨by simp, fun j oj _ hl => by
      have : (Array.replicate l.length false).getD j false = false := by
        rcases Nat.lt_or_ge j l.length with h | h <;> simp [h]
      rw [this] at hl; cases hl⟩ (fun j hj => absurd hj (Nat.not_lt_zero _)) (by rw [hln]; exact hB) (by rw [hln]; exact h)
  rw [hln, show n + (l.length - n) = l.length by omega] at this
  have k := wpAny_of_pAny (ro := ro) (base := base) (Q := Q) (w₀ := w) (g₀ := g) (L₀ := L) (fun _ _ h => h) hG _ _ ρ L a _ g hst.agr hi' hst0 (.refl _ _) this
  simpa using k
end
end Go.Q
/- The small logic: variables that no longer turn, closures, calls with resources. Library, no statement of its own. -/
namespace Go.Q
open Go

theorem Step.grow {B B' : List Nat} {w w' : World} {g g' : Gh} (hb : ∀ b, b ∈ B' → b ∈ B) (h : Step B' w g w' g') : Step B w g w' g' :=
  ⟨h.os, h.tape, h.output, h.size, fun k hk hn => h.keep k hk (fun x => hn (hb k x)), h.le, fun k hk hn => h.new k hk (fun x => hn (hb k x))⟩
theorem blocks_perm {L L' : List Res} (h : L.Perm L') : (blocks L).Perm (blocks L') := h.filterMap _

instance {f : Nat} : Norm (.raw (.func (.func f) #[] #[])) (.clo f []) := ⟨fun g v h => by cases h; exact .clo _ rfl (by simp)⟩
theorem flat_clo {f : Nat} {vs cs : List PV} (h : flat cs) : flat (.clo f vs :: cs) := fun x hx => by
  rcases List.mem_cons.1 hx with rfl | h'
  · exact ⟨by simp, by simp, by simp, by simp⟩
  · exact h x h'
instance {cs vs : List PV} {f : Nat} [h : Flat cs] : Flat (.clo f vs :: cs) := ⟨flat_clo h.out⟩
theorem flat_at {n : Nat} {vs cs : List PV} (h : flat cs) : flat (.pt vs n :: cs) := fun x hx => by
  rcases List.mem_cons.1 hx with rfl | h'
  · exact ⟨by simp, by simp, by simp, by simp⟩
  · exact h x h'
instance {cs vs : List PV} {n : Nat} [h : Flat cs] : Flat (.pt vs n :: cs) := ⟨flat_at h.out⟩
instance {f : Nat} {vs : List PV} : CellsC (.clo f vs) [.clo f vs] := ⟨.one (Flat.out)⟩
instance {n : Nat} {vs : List PV} : CellsC (.pt vs n) [.pt vs n] := ⟨.one (Flat.out)⟩

section
variable {P : Program} {N : Nat} {all : Array Oper} {K : Env → List Res → Prop} {fl : List Bool} {os : List Oper} {ρ : Env} {L : List Res} {Q : PPost} {c : Code} {d : Nat} {ty : TypeId} {pos : String} {af : Array Edge}

theorem OpN.conv {o : Oper} {L' : List Res} {Ψ : PV → List Res → Prop} (hg : ∀ w g, Inv w g L → ∃ g', Inv w g' L' ∧ Step (blocks L) w g w g' ∧ Within w L L') (h : OpN P o ρ L' Ψ) : OpN P o ρ L Ψ := fun a w g ha hi => by
  obtain ⟨g', h1, h2, h3⟩ := hg w g hi
  exact (h a w g' (fun x hx => (ha x hx).mono h2.le) h1).mono fun a' w' ⟨v, x, g'', L'', k1, k2, k3, k4, k5, k6⟩ => ⟨v, x, g'', L'', k1, k2, k3, h2.trans h3 k4, h3.trans h2.size k5, k6⟩
theorem OpN.perm {o : Oper} {L' : List Res} {Ψ : PV → List Res → Prop} (hp : L.Perm L') (h : OpN P o ρ L' Ψ) : OpN P o ρ L Ψ :=
  h.conv fun w g hi => ⟨g, hi.perm hp, .refl _ _ _, fun b hb _ => (blocks_perm hp).symm.subset hb⟩
theorem pops_perm {o : Oper} {L' : List Res} (hp : L.Perm L') (hf : fl.headD true = true) (h : pops P N all K fl (o :: os) ρ L') (hno : ¬ GNo all o ρ) : pops P N all K fl (o :: os) ρ L := by
  obtain ⟨hd, h⟩ := h
  rcases h with ⟨hn, _⟩ | ⟨hy, h⟩
  · exact absurd hn hno
  · refine ⟨hd, .inr ⟨hy, .inr ⟨hf, ?_⟩⟩⟩
    rcases h with ⟨x, hq, h⟩ | ⟨_, h⟩
    · exact (OpN.mono hq fun x' L'' ⟨e1, e2⟩ => by subst e1; subst e2; exact h).perm hp
    · exact h.perm hp

/-! ### A variable turns no more -/
theorem Inv.freeze {w : World} {g : Gh} {L' : List Res} {b T : Nat} {cs : List PV} (hi : Inv w g L) (hp : L.Perm (.box b T cs :: L')) :
    ∃ g', Inv w g' L' ∧ Step (blocks L) w g w g' ∧ Within w L L' ∧ VR g' (.pointer (some ⟨b, 0, none⟩)) (.pt cs 0) := by
  have hi2 := hi.perm hp
  obtain ⟨vs, h1, h2, h3, h4⟩ := hi2.res _ (List.mem_cons_self)
  have hle := Gh.le_lay (g := g) (b := b) (from_ := 0) (us := vs) (fun o _ => h3 o)
  have hbl : b ∈ blocks L := (blocks_perm hp).symm.subset (by simp [blocks, Res.block])
  have hnb : ∀ r ∈ L', r.block ≠ some b := fun r hr e => by
    have hnd := hi2.nodup
    simp only [blocks, List.filterMap_cons, Res.block] at hnd
    exact (List.nodup_cons.1 hnd).1 (List.mem_filterMap.2 ⟨r, hr, e⟩)
  refine ⟨g.lay b 0 vs, ⟨fun b' o v hv => ?_, fun b' z hz => hi.satM b' z hz, fun r hr => ?_, ?_, hi.glob.mono hle⟩, ⟨rfl, rfl, ⟨rfl, Nat.le_refl _⟩, Nat.le_refl _, fun _ _ _ => rfl, hle, fun k _ hn => ⟨fun o => Gh.lay_out (fun h => hn (h.1 ▸ hbl)), rfl⟩⟩, fun b' hb' _ => (blocks_perm hp).symm.subset ?_, ?_⟩
  · by_cases hin : b' = b ∧ 0 ≤ o ∧ o < 0 + vs.length
    · obtain ⟨rfl, _, h6⟩ := hin
      have hj : o < vs.length := by omega
      have := Gh.lay_in (g := g) (b := b') (from_ := 0) hj
      rw [Nat.zero_add, hv] at this
      cases this
      exact cell_of_box h1 o hj
    · rw [Gh.lay_out hin] at hv; exact hi.sat b' o v hv
  · refine Res.holds_kept hle (hi2.res r (List.mem_cons_of_mem _ hr)) fun b' hb' => ⟨rfl, fun o => Gh.lay_out (fun h => hnb r hr (h.1 ▸ hb')), rfl⟩
  · have hnd := hi2.nodup
    simp only [blocks, List.filterMap_cons, Res.block] at hnd
    exact (List.nodup_cons.1 hnd).2
  · simp only [blocks, List.filterMap_cons, Res.block]; exact List.mem_cons_of_mem _ hb'
  · refine VR.pt (g := g.lay b 0 vs) (b := b) (o := 0) (off := 0) (cs := cs) (fun j => (vs[j]?).getD undef) (fun j hj => ?_) (fun j hj => ?_)
    · have hj' : j < vs.length := by rw [h2.len]; exact hj
      rw [Gh.lay_in hj']; simp [hj']
    · have hj' : j < vs.length := by rw [h2.len]; exact hj
      have := (h2.mono hle).at_ j hj' hj
      simpa [hj'] using this

/-- The slots, some of them known otherwise. -/
@[reducible] def HoldsR (R : PV → PV → Prop) (ρ : Env) : List (Nat × PV) → Prop
  | [] => True
  | [(i, v)] => R (ρ i) v
  | (i, v) :: p :: E => R (ρ i) v ∧ HoldsR R ρ (p :: E)
theorem env_leR {R : PV → PV → Prop} {ρ : Env} : ∀ {E : List (Nat × PV)}, HoldsR R ρ E → ∀ i, R (ρ i) (env E i) ∨ env E i = .junk
  | [], _, i => .inr rfl
  | [(j, v)], h, i => by
    by_cases e : i = j
    · subst e; left; show R _ (upd _ _ _ _); rw [upd_self]; exact h
    · right; show upd _ _ _ _ = _; rw [upd_ne _ _ e]
  | (j, v) :: (p :: E), h, i => by
    by_cases e : i = j
    · subst e; left; show R _ (upd _ _ _ _); rw [upd_self]; exact h.1
    · show R _ (upd _ _ _ _) ∨ upd _ _ _ _ = _; rw [upd_ne _ _ e]; exact env_leR h.2 i
/-- x, or the pointer to b, which turns no more. -/
def Fz (b : Nat) (cs : List PV) (x y : PV) : Prop := x = y ∨ (x = .raw (.pointer (some ⟨b, 0, none⟩)) ∧ y = .pt cs 0)
theorem pwp_freeze {b T : Nat} {cs : List PV} {L' : List Res} (E : List (Nat × PV)) (hE : HoldsR (Fz b cs) ρ E) (hp : L.Perm (.box b T cs :: L')) (k : pwp P N c Q (env E) L') : pwp P N c Q ρ L :=
  pwp_ghost (fun base a w g ha hi => by
    obtain ⟨g', h1, h2, h3, h4⟩ := hi.freeze hp
    refine ⟨g', ⟨ha.size, ha.defers.mono h2.le, fun i => ?_⟩, h1, h2, h3⟩
    rcases env_leR hE i with (e | ⟨e1, e2⟩) | e
    · rw [← e]; exact (ha.slot i).mono h2.le
    · rw [e2]
      have := (ha.slot i).mono h2.le
      rw [e1] at this
      rw [this.raw_inv]; exact h4
    · rw [e]; exact .junk _) k

/-- A new variable with a value. -/
theorem opN_boxC {T : TypeId} {x : Operand} {cs : List PV} {dst : Option Nat} {gd : Option (Nat × Bool)} (hx : Cells (ρ.ev x) cs) {Ψ : PV → List Res → Prop} (k : ∀ b, Ψ (.raw (.pointer (some ⟨b, 0, none⟩))) (.box b T cs :: L)) : OpN P ⟨dst, .box T x, ty, pos, af, gd⟩ ρ L Ψ := fun a w g ha hi => by
  have h1 := ha x (by simp [Op.operands])
  obtain ⟨vs, h2, h3⟩ := hx g _ h1
  obtain ⟨i1, i2, i3⟩ := hi.alloc h3 T
  have hr : (execOp a.eval ⟨dst, .box T x, ty, pos, af, gd⟩).run P w = .ok (.value (.pointer (some ⟨w.heap.size, 0, none⟩))) { w with heap := w.heap.push (.cells vs.toArray T (0, 0)) } := by
    simp [execOp, Instr.box, newVar, newRow, h2]
  refine Oper.wq_of_run hr ?_
  exact ⟨_, _, g, _, rfl, .raw _, i1, i2, i3, k _⟩
theorem s_boxC {T : TypeId} {x : Operand} {ax : PV} {cs : List PV} (hx : ρ.ev x = ax) [hC : CellsC ax cs] (k : ∀ b, pops P N all K fl.tail os (upd ρ d (.raw (.pointer (some ⟨b, 0, none⟩)))) (.box b T cs :: L)) (hd : Nat.blt d N = true := by rfl) (hf : fl.headD true = true := by rfl) :
    pops P N all K fl (⟨some d, .box T x, ty, pos, af, none⟩ :: os) ρ L :=
  pops_n rfl (dlt hd) hf (opN_boxC (hx ▸ hC.out) k)
/-- A new variable with a value; it never turns. -/
theorem s_boxF {T : TypeId} {x : Operand} {ax : PV} {cs : List PV} (hx : ρ.ev x = ax) [hC : CellsC ax cs] (k : pops P N all K fl.tail os (upd ρ d (.pt cs 0)) L) (hd : Nat.blt d N = true := by rfl) :
    pops P N all K fl (⟨some d, .box T x, ty, pos, af, none⟩ :: os) ρ L :=
  step_q hd (fun a w g ha hi => by
    have h := opN_boxC (P := P) (T := T) (dst := some d) (gd := none) (ty := ty) (pos := pos) (af := af) (L := L) (Ψ := fun x L' => ∃ b, x = .raw (.pointer (some ⟨b, 0, none⟩)) ∧ L' = .box b T cs :: L) (hx ▸ hC.out) (fun b => ⟨b, rfl, rfl⟩) a w g ha hi
    refine h.mono ?_
    rintro a' w' ⟨v, x, g', L', rfl, hv, hi', hs, hw, b, rfl, rfl⟩
    obtain ⟨g'', k1, k2, k3, k4⟩ := hi'.freeze (.refl _)
    refine ⟨v, _, g'', L, rfl, ?_, k1, hs.trans hw k2, hw.trans hs.size k3, rfl, rfl⟩
    rw [hv.raw_inv]; exact k4) k

/-- The last variable turns no more; slot i points to it. -/
theorem pwp_freezeP (i : Nat) {b T : Nat} {cs : List PV} {L' : List Res} (hp : L.Perm (.box b T cs :: L')) (hi : ρ i = .raw (.pointer (some ⟨b, 0, none⟩))) (k : pwp P N c Q (upd ρ i (.pt cs 0)) L') : pwp P N c Q ρ L :=
  pwp_ghost (fun base a w g ha hI => by
    obtain ⟨g', h1, h2, h3, h4⟩ := hI.freeze hp
    refine ⟨g', ⟨ha.size, ha.defers.mono h2.le, fun j => ?_⟩, h1, h2, h3⟩
    have hj := (ha.slot j).mono h2.le
    by_cases e : j = i
    · subst e
      rw [hi] at hj
      show VR g' _ (upd ρ j _ j)
      rw [upd_self, hj.raw_inv]; exact h4
    · show VR g' _ (upd ρ i _ j)
      rw [upd_ne _ _ e]; exact hj) k
theorem pwp_freezeD (i : Nat) {b T : Nat} {cs : List PV} (k : pwp P N c Q (upd ρ i (.pt cs 0)) L) (hi : ρ i = .raw (.pointer (some ⟨b, 0, none⟩)) := by rfl) : pwp P N c Q ρ (.box b T cs :: L) := pwp_freezeP i (.refl _) hi k
/-- The one behind the first. -/
theorem pwp_freezeD2 (i : Nat) {b T : Nat} {r : Res} {cs : List PV} (k : pwp P N c Q (upd ρ i (.pt cs 0)) (r :: L)) (hi : ρ i = .raw (.pointer (some ⟨b, 0, none⟩)) := by rfl) : pwp P N c Q ρ (r :: .box b T cs :: L) := pwp_freezeP i (.swap _ _ _) hi k
/-! ### Closures -/
theorem q_makeFunc {f : Nat} {xs : List Operand} {dst : Option Nat} {gd : Option (Nat × Bool)} {cs : List PV} (hx : xs.map ρ.ev = cs) : QOp P ⟨dst, .makeFunc (.func f) #[] xs.toArray, ty, pos, af, gd⟩ ρ L (.clo f cs) := qop_of_run fun a w g ha hi => by
  refine ⟨.func (.func f) #[] (xs.map a.eval).toArray, by simp [execOp, Instr.makeFunc], VRl.clo f ?_⟩
  subst hx
  refine ⟨by simp, fun i h1 h2 => ?_⟩
  simp only [List.getElem_map]
  exact ha _ (by simp [Op.operands])
theorem s_clo1 {f : Nat} {x0 : Operand} {a0 : PV} (q0 : ρ.ev x0 = a0) (k : pops P N all K fl.tail os (upd ρ d (.clo f [a0])) L) (hd : Nat.blt d N = true := by rfl) : pops P N all K fl (⟨some d, .makeFunc (.func f) #[] #[x0], ty, pos, af, none⟩ :: os) ρ L :=
  step_q hd (q_makeFunc (xs := [x0]) (by simp [q0])) k
theorem s_clo2 {f : Nat} {x0 x1 : Operand} {a0 a1 : PV} (q0 : ρ.ev x0 = a0) (q1 : ρ.ev x1 = a1) (k : pops P N all K fl.tail os (upd ρ d (.clo f [a0, a1])) L) (hd : Nat.blt d N = true := by rfl) : pops P N all K fl (⟨some d, .makeFunc (.func f) #[] #[x0, x1], ty, pos, af, none⟩ :: os) ρ L :=
  step_q hd (q_makeFunc (xs := [x0, x1]) (by simp [q0, q1])) k
theorem s_clo3 {f : Nat} {x0 x1 x2 : Operand} {a0 a1 a2 : PV} (q0 : ρ.ev x0 = a0) (q1 : ρ.ev x1 = a1) (q2 : ρ.ev x2 = a2) (k : pops P N all K fl.tail os (upd ρ d (.clo f [a0, a1, a2])) L) (hd : Nat.blt d N = true := by rfl) : pops P N all K fl (⟨some d, .makeFunc (.func f) #[] #[x0, x1, x2], ty, pos, af, none⟩ :: os) ρ L :=
  step_q hd (q_makeFunc (xs := [x0, x1, x2]) (by simp [q0, q1, q2])) k

/-! ### Calls with resources; calls of function values -/
theorem ofValue_fn (f : Nat) (cs : Array Value) (args : Array Value) (w : World) : (Deferred.ofValue (.func (.func f) #[] cs) args).run P w = .ok { target := .fn (.func f) cs, args := args } w := by
  simp [Deferred.ofValue]
theorem execCall {dst : Option Nat} {x : Operand} {xs : List Operand} {ats : Array TypeId} {gd : Option (Nat × Bool)} {f : Nat} {cs : List Value} {ev : Operand → Value} {w : World} (hent : ∀ vs w, (callFunc f vs).run P w = .ok (.enter f vs) w) (hx : ev x = .func (.func f) #[] cs.toArray) :
    (execOp ev ⟨dst, .call { callee := .value x, args := xs.toArray, argTypes := ats }, ty, pos, af, gd⟩).run P w = .ok (.enter f (xs.map ev ++ cs).toArray) w := by
  simp only [execOp, resolve, hx, Sem.run_bind, ofValue_fn, Result.andThen_ok, invoke, hent]
  simp
/-- The callee is known as this closure. -/
theorem opN_callC {dst : Option Nat} {x : Operand} {xs : List Operand} {ats : Array TypeId} {gd : Option (Nat × Bool)} {f : Nat} {cs : List PV} {L₁ LF : List Res} {Ψ : PV → List Res → Prop} {args : List PV} [hf : TFun P f]
    (hx : Le (ρ.ev x) (.clo f cs)) (hargs : xs.map ρ.ev ++ cs = args) (hp : L.Perm (L₁ ++ LF)) (hc : PCalls P f args L₁ (fun r L' => Ψ r (L' ++ LF))) :
    OpN P ⟨dst, .call { callee := .value x, args := xs.toArray, argTypes := ats }, ty, pos, af, gd⟩ ρ L Ψ := by
  refine OpN.perm hp fun a w g ha hi => ?_
  obtain ⟨vs, h1, h2⟩ := (hx g _ (ha x (by simp [Op.operands, Call.operands]))).clo_inv
  have hvs : VRl g (xs.map a.eval ++ vs) args := by
    subst hargs
    refine VRl.append ⟨by simp, fun i h1 h2 => ?_⟩ h2
    simp only [List.getElem_map]
    exact ha _ (by simp [Op.operands, Call.operands])
  refine Oper.wq_of_run (execCall hf.out h1) ?_
  refine (hc _ w g LF hvs hi).mono ?_
  rintro e w' ⟨v, x, g', L', rfl, h2, h3, h4, h5, h6⟩
  exact ⟨v, x, g', L' ++ LF, rfl, h2, h3, h4, h5, h6⟩
/-- A contract over arguments that are known as more. -/
theorem PCalls.args {f : FuncId} {ys bs : List PV} {L₁ : List Res} {R : PV → List Res → Prop} (hl : ys.length = bs.length) (h : ∀ i (h1 : i < ys.length) (h2 : i < bs.length), Le ys[i] bs[i]) (hc : PCalls P f bs L₁ R) : PCalls P f ys L₁ R :=
  fun vs w g LF hv hi => hc vs w g LF ⟨hv.len.trans hl, fun i h1 h2 => h i (by omega) h2 g _ (hv.at_ i h1 (by omega))⟩ hi
theorem PCalls.le0 {f : FuncId} {args : List PV} {X : PV} {Ψ : PV → List Res → Prop} {LF : List Res} (h : Fn P f args X) (k : Ψ X LF) : PCalls P f args [] (fun r L' => Ψ r (L' ++ LF)) := h.mono fun r L' ⟨e1, e2⟩ => by subst e1; subst e2; exact k
/-- A call with resources L₁; the others, LF, are left alone. -/
theorem s_callR {x : Operand} {xs : List Operand} {xa : Array Operand} {ats : Array TypeId} {f : Nat} {cs args : List PV} (L₁ LF : List Res) [hf : TFun P f]
    (hx : Le (ρ.ev x) (.clo f cs)) (hxa : xa = xs.toArray) (hargs : xs.map ρ.ev ++ cs = args) (hp : L.Perm (L₁ ++ LF)) (R : PV → List Res → Prop) (hc : PCalls P f args L₁ R) (k : ∀ r L', R r L' → pops P N all K fl.tail os (upd ρ d r) (L' ++ LF)) (hd : Nat.blt d N = true := by rfl) (hfl : fl.headD true = true := by rfl) :
    pops P N all K fl (⟨some d, .call { callee := .value x, args := xa, argTypes := ats }, ty, pos, af, none⟩ :: os) ρ L := by
  subst hxa
  exact pops_n rfl (dlt hd) hfl (opN_callC hx hargs hp (hc.mono fun r L' h => k r L' h))
theorem s_callR0 {x : Operand} {xs : List Operand} {xa : Array Operand} {ats : Array TypeId} {f : Nat} {cs args : List PV} (L₁ LF : List Res) [hf : TFun P f]
    (hx : Le (ρ.ev x) (.clo f cs)) (hxa : xa = xs.toArray) (hargs : xs.map ρ.ev ++ cs = args) (hp : L.Perm (L₁ ++ LF)) (R : PV → List Res → Prop) (hc : PCalls P f args L₁ R) (k : ∀ r L', R r L' → pops P N all K fl.tail os ρ (L' ++ LF)) (hfl : fl.headD true = true := by rfl) :
    pops P N all K fl (⟨none, .call { callee := .value x, args := xa, argTypes := ats }, ty, pos, af, none⟩ :: os) ρ L := by
  subst hxa
  exact pops_n rfl (fun _ e => by cases e) hfl (opN_callC hx hargs hp (hc.mono fun r L' h => k r L' h))
/-- A call of a closure whose contract asks no resources. -/
theorem s_callV {x : Operand} {xs : List Operand} {xa : Array Operand} {ats : Array TypeId} {f : Nat} {cs args : List PV} {X : PV} [hf : TFun P f]
    (hx : Le (ρ.ev x) (.clo f cs)) (hxa : xa = xs.toArray) (hargs : xs.map ρ.ev ++ cs = args) (hc : Fn P f args X) (k : pops P N all K fl.tail os (upd ρ d X) L) (hd : Nat.blt d N = true := by rfl) :
    pops P N all K fl (⟨some d, .call { callee := .value x, args := xa, argTypes := ats }, ty, pos, af, none⟩ :: os) ρ L := by
  subst hxa
  exact step_q hd (opN_callC hx hargs (.refl _) (L₁ := []) (hc.mono fun r L' ⟨e1, e2⟩ => by subst e1; subst e2; exact ⟨rfl, rfl⟩)) k
end
end Go.Q
