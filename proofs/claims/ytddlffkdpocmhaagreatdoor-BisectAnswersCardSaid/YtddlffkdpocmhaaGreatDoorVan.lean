/- Plain laws: the questions of a search; how many there can be. No program in sight. -/
import Derived.Test.YtddlffkdpocmhaaGreatDoorVam
import Derived.Test.YtddlffkdpocmhaaGreatDoorVai
set_option linter.unusedSimpArgs false
set_option linter.unusedVariables false
namespace Go.Q
open Go

def inC (c : List Dig) (l : List Dig) : List Dig := l.filter fun d => decide (d ∈ c)
def outC (c : List Dig) (l : List Dig) : List Dig := l.filter fun d => !decide (d ∈ c)
theorem inC_len_add (c l : List Dig) : (inC c l).length + (outC c l).length = l.length := by
  induction l with
  | nil => rfl
  | cons x l ih =>
    unfold inC outC at *
    by_cases h : x ∈ c <;> simp [h] <;> omega

section
variable (clo : Dig → List Dig)
/-- How evenly a question parts the candidates. -/
def even (left : List Dig) (p : Dig) : Nat := min (inC (clo p) left).length (outC (clo p) left).length
/-- The first question that parts them best, of those behind a number. -/
def quest (left : List Dig) (l : List Dig) (b : Dig × Int) : Dig × Int := l.foldl (fun b p => if b.2 < (even clo left p : Int) then (p, (even clo left p : Int)) else b) b
def questR (left : List Dig) : Dig := (quest clo left left (Dig.zero, 0)).1
def questP (left : List Dig) : Dig := (quest clo left left (Dig.zero, -1)).1

theorem quest_same (left : List Dig) : ∀ (l : List Dig) (b : Dig), (∃ p ∈ l, 0 < even clo left p) → quest clo left l (b, -1) = quest clo left l (b, 0)
  | [], _, h => by obtain ⟨p, hp, _⟩ := h; cases hp
  | x :: l, b, h => by
    unfold quest
    simp only [List.foldl_cons]
    by_cases hx : 0 < even clo left x
    · have h1 : (-1 : Int) < (even clo left x : Int) := by omega
      have h2 : (0 : Int) < (even clo left x : Int) := by omega
      simp only [h1, h2, if_true]
    · have h0 : even clo left x = 0 := by omega
      have h1 : (-1 : Int) < (even clo left x : Int) := by omega
      have h2 : ¬ (0 : Int) < (even clo left x : Int) := by omega
      simp only [h1, h2, if_true, if_false, h0]
      have hr : ∃ p ∈ l, 0 < even clo left p := by
        obtain ⟨p, hp, h3⟩ := h
        rcases List.mem_cons.1 hp with rfl | hp
        · omega
        · exact ⟨p, hp, h3⟩
      have key : ∀ (l : List Dig) (b b' : Dig), (∃ p ∈ l, 0 < even clo left p) → quest clo left l (b, 0) = quest clo left l (b', 0) := by
        intro l
        induction l with
        | nil => rintro b b' ⟨p, hp, _⟩; cases hp
        | cons y l ih =>
          rintro b b' ⟨p, hp, h3⟩
          unfold quest
          simp only [List.foldl_cons]
          by_cases hy : (0 : Int) < (even clo left y : Int)
          · simp only [hy, if_true]
          · simp only [hy, if_false]
            refine ih b b' ?_
            rcases List.mem_cons.1 hp with rfl | hp
            · omega
            · exact ⟨p, hp, h3⟩
      exact key l x b hr

theorem quest_pos (left : List Dig) : ∀ (l : List Dig) (b : Dig × Int), (0 < b.2 → (even clo left b.1 : Int) = b.2) → 0 ≤ b.2 → (0 < b.2 ∨ ∃ p ∈ l, 0 < even clo left p) →
    0 < even clo left (quest clo left l b).1 ∧ ((quest clo left l b).1 = b.1 ∨ (quest clo left l b).1 ∈ l)
  | [], b, hb, h0, h => by
    rcases h with h | ⟨p, hp, _⟩
    · refine ⟨?_, .inl rfl⟩
      show 0 < even clo left b.1
      have := hb h; omega
    · cases hp
  | x :: l, b, hb, h0, h => by
    show 0 < even clo left (quest clo left l _).1 ∧ _
    by_cases hx : b.2 < (even clo left x : Int)
    · simp only [quest, List.foldl_cons, hx, if_true]
      have := quest_pos left l (x, (even clo left x : Int)) (fun _ => rfl) (by omega) (.inl (by show (0 : Int) < _; omega))
      refine ⟨this.1, .inr ?_⟩
      rcases this.2 with h' | h'
      · simp only [quest] at h'; rw [h']; simp
      · exact List.mem_cons_of_mem _ h'
    · simp only [quest, List.foldl_cons, hx, if_false]
      have := quest_pos left l b hb h0 (by
        rcases h with h | ⟨p, hp, h3⟩
        · exact .inl h
        · rcases List.mem_cons.1 hp with rfl | hp
          · exact .inl (by omega)
          · exact .inr ⟨p, hp, h3⟩)
      refine ⟨this.1, ?_⟩
      rcases this.2 with h' | h'
      · exact .inl h'
      · exact .inr (List.mem_cons_of_mem _ h')

/-- How many questions some candidates can need. -/
def worst : Nat → List Dig → Int
  | 0, _ => 0
  | n + 1, left => if left.length < 2 then 0 else
    if (inC (clo (questR clo left)) left).length = 0 ∨ (outC (clo (questR clo left)) left).length = 0 then 0
    else 1 + max (worst n (inC (clo (questR clo left)) left)) (worst n (outC (clo (questR clo left)) left))
/-- All questions that can be due, each by how many there are up to it. -/
def depthsP : Nat → List Dig → Int → List Int
  | 0, _, _ => []
  | n + 1, left, b => if left.length < 2 then [] else
    (b + 1) :: (depthsP n (inC (clo (questP clo left)) left) (b + 1) ++ depthsP n (outC (clo (questP clo left)) left) (b + 1))

/-- The candidates can be parted. -/
def Parts (left : List Dig) : Prop := 2 ≤ left.length → ∃ p ∈ left, 0 < even clo left p
theorem questP_eq {left : List Dig} (h : Parts clo left) (h2 : 2 ≤ left.length) : questP clo left = questR clo left := by
  unfold questP questR; rw [quest_same clo left left _ (h h2)]
theorem questR_pos {left : List Dig} (h : Parts clo left) (h2 : 2 ≤ left.length) : 0 < even clo left (questR clo left) ∧ questR clo left ∈ left := by
  obtain ⟨p, hp, h3⟩ := h h2
  have := quest_pos clo left left (Dig.zero, 0) (fun h => absurd h (by show ¬ (0 : Int) < 0; omega)) (by show (0 : Int) ≤ 0; omega) (.inr ⟨p, hp, h3⟩)
  refine ⟨this.1, ?_⟩
  have mem : ∀ (l : List Dig) (b : Dig × Int), (quest clo left l b).1 ∈ l ∨ quest clo left l b = b := by
    intro l
    induction l with
    | nil => intro b; exact .inr rfl
    | cons x l ih =>
      intro b
      unfold quest
      simp only [List.foldl_cons]
      by_cases hx : b.2 < (even clo left x : Int)
      · simp only [hx, if_true]
        rcases ih (x, (even clo left x : Int)) with h | h
        · exact .inl (List.mem_cons_of_mem _ h)
        · refine .inl ?_
          unfold quest at h; rw [h]; simp
      · simp only [hx, if_false]
        rcases ih b with h | h
        · exact .inl (List.mem_cons_of_mem _ h)
        · exact .inr h
  rcases mem left (Dig.zero, 0) with h | h
  · exact h
  · -- the start would have stayed: then no candidate parts
    exfalso
    have stay : ∀ (l : List Dig) (b : Dig × Int), (quest clo left l b).2 = b.2 → ∀ p ∈ l, (even clo left p : Int) ≤ b.2 := by
      have grow : ∀ (l : List Dig) (b : Dig × Int), b.2 ≤ (quest clo left l b).2 := by
        intro l
        induction l with
        | nil => intro b; exact Int.le_refl _
        | cons x l ih =>
          intro b
          unfold quest
          simp only [List.foldl_cons]
          by_cases hx : b.2 < (even clo left x : Int)
          · simp only [hx, if_true]
            have := ih (x, (even clo left x : Int))
            simp only [quest] at this; omega
          · simp only [hx, if_false]; exact ih b
      intro l
      induction l with
      | nil => intro b _ p hp; cases hp
      | cons x l ih =>
        intro b hb p hp
        unfold quest at hb
        simp only [List.foldl_cons] at hb
        by_cases hx : b.2 < (even clo left x : Int)
        · simp only [hx, if_true] at hb
          have := grow l (x, (even clo left x : Int))
          simp only [quest] at this; omega
        · simp only [hx, if_false] at hb
          rcases List.mem_cons.1 hp with rfl | hp
          · omega
          · exact ih b hb p hp
    have := stay left (Dig.zero, 0) (by rw [h]) p hp
    have e : ((Dig.zero, 0) : Dig × Int).2 = 0 := rfl
    omega

theorem worst_nonneg : ∀ (n : Nat) (left : List Dig), 0 ≤ worst clo n left
  | 0, _ => by simp [worst]
  | n + 1, left => by
    unfold worst
    have h1 := worst_nonneg n (inC (clo (questR clo left)) left)
    split
    · exact Int.le_refl _
    · split
      · exact Int.le_refl _
      · omega
theorem depths_worst {G : List Dig → Prop} (hP : ∀ left, G left → Parts clo left) (hG : ∀ left f, G left → G (left.filter f)) : ∀ (n : Nat) (left : List Dig) (b m : Int), G left → b ≤ m → (depthsP clo n left b).foldl max m = max m (b + worst clo n left)
  | 0, left, b, m, _, h => by simp only [depthsP, worst, List.foldl_nil]; omega
  | n + 1, left, b, m, hn, h => by
    unfold depthsP worst
    by_cases h2 : left.length < 2
    · simp only [h2, if_true, List.foldl_nil]; omega
    · simp only [h2, if_false]
      rw [questP_eq clo (hP left hn) (by omega)]
      obtain ⟨hp, _⟩ := questR_pos clo (hP left hn) (by omega)
      unfold even at hp
      have h3 : ¬ ((inC (clo (questR clo left)) left).length = 0 ∨ (outC (clo (questR clo left)) left).length = 0) := by omega
      simp only [h3, if_false]
      rw [List.foldl_cons, List.foldl_append, depths_worst hP hG n (inC (clo (questR clo left)) left) (b + 1) (max m (b + 1)) (hG _ _ hn) (by omega), depths_worst hP hG n (outC (clo (questR clo left)) left) (b + 1) _ (hG _ _ hn) (by omega)]
      have w1 := worst_nonneg clo n (inC (clo (questR clo left)) left)
      have w2 := worst_nonneg clo n (outC (clo (questR clo left)) left)
      omega
end

/-- In a graph without cycles candidates can be parted. -/
theorem parts_of_rank {nd : Dig → List Dig} {clo : Dig → List Dig} {U : List Dig} (r : Dig → Nat) (hr : ∀ x ∈ U, ∀ d ∈ nd x, r d < r x) (hU : ∀ x ∈ U, ∀ d ∈ nd x, d ∈ U)
    (hclo : ∀ x ∈ U, ∀ d, d ∈ clo x ↔ Reach nd [x] d) {left : List Dig} (hl : ∀ x ∈ left, x ∈ U) (hn : left.Nodup) : Parts clo left := by
  intro h2
  -- one with the least rank
  have ⟨p, hp, hmin⟩ : ∃ p ∈ left, ∀ y ∈ left, r p ≤ r y := by
    have : ∀ l : List Dig, l ≠ [] → ∃ p ∈ l, ∀ y ∈ l, r p ≤ r y := by
      intro l
      induction l with
      | nil => intro h; exact absurd rfl h
      | cons x l ih =>
        intro _
        cases l with
        | nil => exact ⟨x, by simp, by simp⟩
        | cons z l =>
          obtain ⟨p, hp, h⟩ := ih (by simp)
          rcases Nat.le_total (r x) (r p) with h' | h'
          · refine ⟨x, by simp, fun y hy => ?_⟩
            rcases List.mem_cons.1 hy with rfl | hy
            · exact Nat.le_refl _
            · exact Nat.le_trans h' (h y hy)
          · refine ⟨p, List.mem_cons_of_mem _ hp, fun y hy => ?_⟩
            rcases List.mem_cons.1 hy with rfl | hy
            · exact h'
            · exact h y hy
    exact this left (fun e => by rw [e] at h2; simp at h2)
  have hreach : ∀ d, Reach nd [p] d → d = p ∨ r d < r p := by
    intro d h
    induction h with
    | base h => exact .inl (by simpa using h)
    | step h hd ih =>
      rename_i x d
      have hx : x ∈ U := h.in_ hU (fun d hd => by rw [List.mem_singleton.1 hd]; exact hl p hp)
      have := hr _ hx _ hd
      rcases ih with e | h'
      · subst e; exact .inr this
      · exact .inr (by omega)
  have hself : p ∈ clo p := (hclo p (hl p hp) p).2 (.base (by simp))
  refine ⟨p, hp, ?_⟩
  have hin : p ∈ inC (clo p) left := List.mem_filter.2 ⟨hp, by simpa using hself⟩
  have hout : ∃ y, y ∈ outC (clo p) left := by
    match left, h2, hp, hn with
    | a :: b :: l, _, hp, hn =>
      have hab : a ≠ b := fun e => by subst e; exact (List.nodup_cons.1 hn).1 (by simp)
      have no : ∀ y ∈ a :: b :: l, y ≠ p → y ∈ outC (clo p) (a :: b :: l) := fun y hy hne => List.mem_filter.2 ⟨hy, by
        have : ¬ y ∈ clo p := fun h => by
          rcases hreach y ((hclo p (hl p hp) y).1 h) with e | h'
          · exact hne e
          · have := hmin y hy; omega
        simpa using this⟩
      by_cases e : a = p
      · exact ⟨b, no b (by simp) (fun e' => hab (e.trans e'.symm))⟩
      · exact ⟨a, no a (by simp) e⟩
  have h1 := List.length_pos_of_mem hin
  obtain ⟨y, hy⟩ := hout
  have h3 := List.length_pos_of_mem hy
  unfold even; omega
end Go.Q
/- Contracts: what a patch needs (the reference's layer 16). -/
namespace Go.Proofs
open Go Go.Q
attribute [local irreducible] pwp pops PCalls OpN

def rIds (c : Chg) : List Ident := [c.file, c.parent, c.after, c.before] ++ c.over
def rForeign (l : List Ident) : List Dig := (l.filter fun x => !decide (x.patch = Dig.zero)).map (·.patch)
def rNeedsC (m : List Dig) (c : Chg) : List Dig := withAll m (rForeign (rIds c))
def rNeeds (p : Pat) : List Dig := if (rEncodeP p).2 ≠ 0 then [] else p.changes.foldl rNeedsC (withAll [] p.deps)
theorem withAll_snoc (l m : List Dig) (d : Dig) : withAll l (m ++ [d]) = withD (withAll l m) d := by
  unfold withAll; rw [List.foldl_append]; rfl
theorem rForeign_len (l : List Ident) : (rForeign l).length ≤ l.length := by
  unfold rForeign; rw [List.length_map]; exact List.length_filter_le _ _
theorem rForeign_take {l : List Ident} {k : Nat} (h : k < l.length) : rForeign (l.take (k + 1)) = rForeign (l.take k) ++ (if l[k].patch = Dig.zero then [] else [l[k].patch]) := by
  unfold rForeign
  rw [List.take_succ_eq_append_getElem h, List.filter_append, List.map_append]
  by_cases hz : l[k].patch = Dig.zero <;> simp [hz]

set_option maxHeartbeats 2000000 in
instance Needs_ct (p : Pat) [hs : Small (rGreat p = false)] : FnC Tryz.prog 91 [.agg (ePat p)] (.slice ((rNeeds p).map eDig) .ro) := ⟨by
  obtain ⟨_, _, hd, hch, hcs⟩ := great_facts hs.out
  refine fn_of Tryz.func91 Tryz.ntmps91 rfl (rs := [.tmp 2]) rfl rfl fun hb LF => ?_
  refine walkb fun b => ?_
  refine pwp_condN (fun h => ?_) (fun h => ?_)
  · refine walk ?_
    refine end1 ?_
    rw [rNeeds, if_pos h]
    exact .ro _ _
  rw [rNeeds, if_neg (by simp [h])]
  refine walk ?_
  refine pwp_loopS (σ := Nat × List Dig × Tag) (fun k => k.1 ≤ p.deps.length ∧ k.2.1 = withAll [] (p.deps.take k.1)) (fun k => p.deps.length - k.1) (fun k => [(1, .raw (.pointer (some ⟨b, 0, none⟩))), (3, .slice (k.2.1.map eDig) k.2.2), (4, .raw (.int .i64 k.1))]) (fun _ => .box b 57 (ePat p) :: LF) (0, [], .nil) ⟨by simp, by simp [withAll]⟩ ⟨rfl, rfl, rfl⟩ (.refl _) ?_
  rintro ⟨k, out, t⟩ ⟨hk, ho⟩
  dsimp only at hk ho ⊢
  have hol : out.length ≤ 20 := by
    rw [ho]
    have := withAll_len (m := p.deps.take k) (l := [])
    simp only [List.length_take, List.length_nil] at this; omega
  refine walk ?_
  refine pwp_condD (fun hc => ?_) (fun hc => ?_)
  · have hlt : k < p.deps.length := by omega
    have : Small (out.length ≤ 1000000) := ⟨by omega⟩
    refine walk ?_
    refine ⟨(k + 1, withD out p.deps[k], .ro), ⟨by dsimp only; omega, by dsimp only; rw [List.take_succ_eq_append_getElem hlt, withAll_snoc, ho]⟩, by dsimp only; omega, ⟨rfl, rfl, rfl⟩, .refl _⟩
  rw [List.take_of_length_le (by omega)] at ho
  refine walk ?_
  refine pwp_loopS (σ := Nat × List Dig × Tag) (fun k => k.1 ≤ p.changes.length ∧ k.2.1.length ≤ 20 + k.1 * 44 ∧ k.2.1 = (p.changes.take k.1).foldl rNeedsC (withAll [] p.deps)) (fun k => p.changes.length - k.1) (fun k => [(1, .raw (.pointer (some ⟨b, 0, none⟩))), (3, .slice (k.2.1.map eDig) k.2.2), (5, .raw (.int .i64 k.1))]) (fun _ => .box b 57 (ePat p) :: LF) (0, out, t) ⟨by simp, by simp; omega, by simp [ho]⟩ ⟨rfl, rfl, rfl⟩ (.refl _) ?_
  clear ho hol hk hc k out t
  rintro ⟨k, out, t⟩ ⟨hk, hol, ho⟩
  dsimp only at hk hol ho ⊢
  refine walk ?_
  refine pwp_condD (fun hc => ?_) (fun hc => ?_)
  · have hlt : k < p.changes.length := by omega
    have hov := (hcs _ (List.getElem_mem hlt)).over
    refine walkbt4 fun b2 t2 => ?_
    refine walkap fun t3 => ?_
    generalize hl : [p.changes[k].file, p.changes[k].parent, p.changes[k].after, p.changes[k].before] ++ p.changes[k].over = l
    have hll : l.length ≤ 44 := by rw [← hl]; simp only [List.length_append, List.length_cons, List.length_nil]; omega
    refine pwp_loopS (σ := Nat × List Dig × Tag) (fun j => j.1 ≤ l.length ∧ j.2.1 = withAll out (rForeign (l.take j.1))) (fun j => l.length - j.1) (fun j => [(1, .raw (.pointer (some ⟨b, 0, none⟩))), (3, .slice (j.2.1.map eDig) j.2.2), (5, .raw (.int .i64 k)), (7, .slice (l.map eIdent) t3), (8, .raw (.int .i64 j.1))]) (fun _ => .box b 57 (ePat p) :: LF) (0, out, t) ⟨by simp, by simp [rForeign, withAll]⟩ ⟨rfl, rfl, rfl, rfl, rfl⟩ (.cons _ (.cons _ (.refl _))) ?_
    rintro ⟨j, m, u⟩ ⟨hj, hm⟩
    dsimp only at hj hm ⊢
    have hml : m.length ≤ 20 + k * 44 + 44 := by
      rw [hm]
      have h1 := withAll_len (m := rForeign (l.take j)) (l := out)
      have h2 := rForeign_len (l.take j)
      have h3 : (l.take j).length ≤ 44 := by rw [List.length_take]; omega
      omega
    refine walk ?_
    refine pwp_condD (fun hc2 => ?_) (fun hc2 => ?_)
    · have hlt2 : j < l.length := by omega
      have e := rForeign_take hlt2
      refine walk ?_
      refine pwp_condN (fun hz => ?_) (fun hz => ?_)
      · have : Small (m.length ≤ 1000000) := ⟨by omega⟩
        refine walk ?_
        rw [if_neg hz] at e
        refine ⟨(j + 1, withD m l[j].patch, .ro), ⟨by dsimp only; omega, by dsimp only; rw [e, withAll_snoc, hm]⟩, by dsimp only; omega, ⟨rfl, rfl, rfl, rfl, rfl⟩, .refl _⟩
      · refine walk ?_
        rw [if_pos hz, List.append_nil] at e
        refine ⟨(j + 1, m, u), ⟨by dsimp only; omega, by dsimp only; rw [e, hm]⟩, by dsimp only; omega, ⟨rfl, rfl, rfl, rfl, rfl⟩, .refl _⟩
    · refine walk ?_
      rw [List.take_of_length_le (by omega)] at hm
      have e : (p.changes.take (k + 1)).foldl rNeedsC (withAll [] p.deps) = m := by
        rw [List.take_succ_eq_append_getElem hlt, List.foldl_append, ← ho, hm, ← hl]; rfl
      refine ⟨(k + 1, m, u), ⟨by dsimp only; omega, by dsimp only; omega, e.symm⟩, by dsimp only; omega, ⟨rfl, rfl, rfl⟩, .refl _⟩
  · refine walk ?_
    refine end1 ?_
    rw [List.take_of_length_le (by omega)] at ho
    rw [← ho]
    exact .ro _ _⟩
end Go.Proofs
/- Contracts: sets that are too large; the order of a set (the reference's layer 17). -/
namespace Go.Proofs
open Go Go.Q
attribute [local irreducible] pwp pops PCalls OpN

def rHvC (c : Chg) : Nat := 1 + c.lines.length + c.over.length
def rHv (x : Sto) : Nat := (x.patch.changes.map rHvC).sum
def rGreatS (s : List Sto) : Bool := (s.take 9).any (fun x => rGreat x.patch) || decide (8 < (s.length : Int)) || decide (300 < (((s.take 9).map rHv).sum : Int))
theorem rHvC_le {c : Chg} (h : chgOk c) : rHvC c ≤ 81 := by have := h.lines; have := h.over; unfold rHvC; omega
set_option maxHeartbeats 1000000 in
instance Heavy_ct (s : List Sto) (t : Tag) : FnC Tryz.prog 87 [.slice (s.map eSto) t, .raw (.int .i64 8)] (.raw (.bool (rGreatS s))) := ⟨by
  refine fn_of Tryz.func87 Tryz.ntmps87 rfl (rs := [.tmp 4]) rfl rfl fun hb LF => ?_
  have hlen : s.length ≤ 140737488355328 := (hb (.slice (s.map eSto) t) (by simp)).slice_map
  refine walk ?_
  refine pwp_loopS (σ := Nat × Nat) (fun k => k.1 ≤ s.length ∧ k.1 ≤ 9 ∧ (∀ i (h : i < s.length), i < k.1 → rGreat s[i].patch = false) ∧ k.2 ≤ k.1 * 1620 ∧ k.2 = ((s.take k.1).map rHv).sum) (fun k => s.length - k.1) (fun k => [(0, .slice (s.map eSto) t), (1, .raw (.int .i64 8)), (5, .raw (.int .i64 (k.2 : Int))), (6, .raw (.int .i64 (k.1 : Int)))]) (fun _ => LF) (0, 0) ⟨by simp, by simp, by simp, by simp, by simp⟩ ⟨rfl, rfl, rfl, rfl⟩ (.refl _) ?_
  rintro ⟨i, n⟩ ⟨hi, hi9, hg, hn, hs⟩
  dsimp only at hi hi9 hg hn hs ⊢
  have fin : (i : Int) < s.length ∧ (i : Int) ≤ 8 ∨ ¬ ((i : Int) < s.length ∧ (i : Int) ≤ 8) := Classical.em _
  refine walk ?_
  refine pops_cutE [(16, .raw (.bool (decide ((i : Int) < s.length ∧ (i : Int) ≤ 8)))), (0, .slice (s.map eSto) t), (1, .raw (.int .i64 8)), (5, .raw (.int .i64 (n : Int))), (6, .raw (.int .i64 (i : Int)))] (LF) ?_ ?_
  · repeat' (first | (refine pwp_condD (fun h => ?_) (fun h => ?_) <;> refine walk ?_) | (refine pwp_condN (fun h => ?_) (fun h => ?_) <;> refine walk ?_) | (refine pwp_condB (fun h => ?_) (fun h => ?_) <;> refine walk ?_) | (refine pops_if (fun h => ?_) (fun h => ?_) <;> (have h2 := h; (try simp only [decide_eq_true_eq, decide_eq_false_iff_not, Bool.not_eq_true', Bool.not_eq_false'] at h2); refine walkp ?_)))
    all_goals (refine ⟨⟨holdsB (by rfl) ?_, rfl, rfl, rfl, rfl⟩, .refl _⟩; first | (simp_all; done) | (simp_all; omega) | grind)
  refine walk ?_
  clear fin
  refine pwp_condD (fun hc => ?_) (fun hc => ?_)
  · have hlt : i < s.length := by omega
    refine walk ?_
    refine pwp_condB (fun h => ?_) (fun h => ?_)
    · refine walk ?_
      refine end1 (.of_eq ?_)
      have : (s.take 9).any (fun x => rGreat x.patch) = true := by
        rw [List.any_eq_true]
        exact ⟨s[i], List.mem_iff_getElem.2 ⟨i, by rw [List.length_take]; omega, by simp⟩, h⟩
      rw [rGreatS, this]; rfl
    obtain ⟨_, _, _, hch, hcs⟩ := great_facts h
    refine walk ?_
    refine pwp_loopS (σ := Nat × Nat) (fun j => j.1 ≤ s[i].patch.changes.length ∧ j.2 ≤ n + j.1 * 81 ∧ j.2 = n + ((s[i].patch.changes.take j.1).map rHvC).sum) (fun j => s[i].patch.changes.length - j.1) (fun j => [(0, .slice (s.map eSto) t), (1, .raw (.int .i64 8)), (5, .raw (.int .i64 (j.2 : Int))), (6, .raw (.int .i64 (i : Int))), (7, .raw (.int .i64 (j.1 : Int)))]) (fun _ => LF) (0, n) ⟨by simp, by simp, by simp⟩ ⟨rfl, rfl, rfl, rfl, rfl⟩ (.refl _) ?_
    rintro ⟨j, m⟩ ⟨hj, hm, hms⟩
    dsimp only at hj hm hms ⊢
    refine walk ?_
    refine pwp_condD (fun hc2 => ?_) (fun hc2 => ?_)
    · have hlt2 : j < s[i].patch.changes.length := by omega
      have hco := hcs _ (List.getElem_mem hlt2)
      have h81 := rHvC_le hco
      have hl40 := hco.lines
      have ho40 := hco.over
      have e := sum_map_take (f := rHvC) hlt2
      have e2 : rHvC s[i].patch.changes[j] = 1 + s[i].patch.changes[j].lines.length + s[i].patch.changes[j].over.length := rfl
      refine walk ?_
      refine ⟨(j + 1, m + rHvC s[i].patch.changes[j]), ⟨by dsimp only; omega, by dsimp only; omega, by dsimp only; omega⟩, by dsimp only; omega, ⟨rfl, rfl, ?_, rfl, rfl⟩, .refl _⟩
      show PV.raw (Value.int .i64 _) = PV.raw (Value.int .i64 _)
      congr 2; dsimp only; omega
    · refine walk ?_
      rw [List.take_of_length_le (by omega)] at hms
      have e := sum_map_take (f := rHv) hlt
      refine ⟨(i + 1, m), ⟨by dsimp only; omega, by dsimp only; omega, fun x hx hxi => ?_, by dsimp only; omega, ?_⟩, by dsimp only; omega, ⟨rfl, rfl, rfl, rfl⟩, .refl _⟩
      · rcases Nat.lt_or_ge x i with h' | h'
        · exact hg x hx h'
        · have : x = i := by dsimp only at hxi; omega
          subst this; exact h
      · dsimp only; rw [e, ← hs]; exact hms
  · refine walk ?_
    have hany : (s.take 9).any (fun x => rGreat x.patch) = false := by
      rw [List.any_eq_false]; intro x hx
      obtain ⟨j, hj, rfl⟩ := List.mem_iff_getElem.1 hx
      rw [List.length_take] at hj
      simp only [List.getElem_take]
      rw [hg j (by omega) (by omega)]; simp
    have htk : s.take i = s.take 9 := by
      by_cases h9 : i = 9
      · rw [h9]
      · rw [List.take_of_length_le (by omega), List.take_of_length_le (by omega)]
    rw [htk] at hs
    have key : rGreatS s = (decide (8 < (s.length : Int)) || decide (300 < (n : Int))) := by rw [rGreatS, hany, Bool.false_or, ← hs]
    rw [key]
    clear key hany hs htk hg
    repeat' (first | (refine pwp_condD (fun h => ?_) (fun h => ?_) <;> refine walk ?_) | (refine pwp_condN (fun h => ?_) (fun h => ?_) <;> refine walk ?_) | (refine pwp_condB (fun h => ?_) (fun h => ?_) <;> refine walk ?_) | (refine pops_if (fun h => ?_) (fun h => ?_) <;> (have h2 := h; (try simp only [decide_eq_true_eq, decide_eq_false_iff_not, Bool.not_eq_true', Bool.not_eq_false'] at h2); refine walkp ?_)))
    all_goals (refine end1 (.of_eq ?_); first | (simp_all; done) | grind)⟩
instance GreatS_ct (s : List Sto) (t : Tag) : FnC Tryz.prog 42 [.slice (s.map eSto) t] (.raw (.bool (rGreatS s))) := ⟨by
  refine fn_of Tryz.func42 Tryz.ntmps42 rfl (rs := [.tmp 2]) rfl rfl fun hb LF => ?_
  refine walk ?_
  exact end1 (.refl _)⟩

/-! ### The order of a set -/
def goodS (s : List Sto) : Prop := s.length ≤ 40 ∧ ∀ x ∈ s, rGreat x.patch = false
def rBetter (s : List Sto) (out : List Dig) (k : Int) (i : Nat) : Int :=
  if (¬ (s.getD i Sto.zero).id ∈ out ∧ allIn out (rNeeds (s.getD i Sto.zero).patch) = true) ∧ (k < 0 ∨ cmpD (s.getD i Sto.zero).id (s.getD k.toNat Sto.zero).id < 0) then (i : Int) else k
def rPick (s : List Sto) (out : List Dig) : Int := (List.range s.length).foldl (rBetter s out) (-1)
def rOrd (s : List Sto) : Nat → List Dig → List Dig
  | 0, out => out
  | n + 1, out => if rPick s out < 0 then out else rOrd s n (out ++ [(s.getD (rPick s out).toNat Sto.zero).id])
def rOrder (s : List Sto) : List Dig := rOrd s s.length []
theorem rBetter_range {s : List Sto} {out : List Dig} (n : Nat) : -1 ≤ (List.range n).foldl (rBetter s out) (-1) ∧ (List.range n).foldl (rBetter s out) (-1) < n := by
  induction n with
  | zero => simp
  | succ n ih =>
    rw [foldl_range_succ]
    generalize (List.range n).foldl (rBetter s out) (-1) = k at ih
    unfold rBetter
    split <;> omega
set_option maxHeartbeats 2000000 in
instance Order_ct (s : List Sto) (t : Tag) [hs : Small (goodS s)] : FnC Tryz.prog 59 [.slice (s.map eSto) t] (.slice ((rOrder s).map eDig) .ro) := ⟨by
  obtain ⟨hl8, hgr⟩ := hs.out
  refine fn_of Tryz.func59 Tryz.ntmps59 rfl (rs := [.tmp 2]) rfl rfl fun hb LF => ?_
  refine walk ?_
  refine pwp_tok 32 ?_
  refine pwp_loopS (σ := Nat × List Dig × Tag) (fun k => k.1 ≤ s.length ∧ k.2.1.length + k.1 = s.length ∧ rOrder s = rOrd s k.1 k.2.1) (fun k => k.1) (fun k => [(0, .slice (s.map eSto) t), (3, .slice (k.2.1.map eDig) k.2.2)]) (fun k => .tok k.2.2 k.2.1.length 32 :: LF) (s.length, [], .nil) ⟨by simp, by simp, rfl⟩ ⟨rfl, rfl⟩ (.refl _) ?_
  rintro ⟨n, out, u⟩ ⟨hn, hol, ho⟩
  dsimp only at hn hol ho ⊢
  refine walk ?_
  refine pwp_condD (fun hc => ?_) (fun hc => ?_)
  · obtain ⟨m, rfl⟩ : ∃ m, n = m + 1 := ⟨n - 1, by omega⟩
    rw [rOrd] at ho
    have hpr := rBetter_range (s := s) (out := out) s.length
    refine walk ?_
    refine pwp_loopS (σ := Nat) (fun i => i ≤ s.length) (fun i => s.length - i) (fun i => [(0, .slice (s.map eSto) t), (3, .slice (out.map eDig) u), (4, .raw (.int .i64 ((List.range i).foldl (rBetter s out) (-1)))), (5, .raw (.int .i64 (i : Int)))]) (fun _ => .tok u out.length 32 :: LF) 0 (by simp) ⟨rfl, rfl, rfl, rfl⟩ (.refl _) ?_
    intro i hi
    have hkr := rBetter_range (s := s) (out := out) i
    have hsucc := foldl_range_succ (rBetter s out) (-1) i
    generalize hkk : (List.range i).foldl (rBetter s out) (-1) = k at hkr hsucc ⊢
    refine walk ?_
    refine pwp_condD (fun hc2 => ?_) (fun hc2 => ?_)
    · have hlt : i < s.length := by omega
      have i1 : Small (rGreat s[i].patch = false) := ⟨hgr _ (List.getElem_mem hlt)⟩
      have e0 : s.getD i Sto.zero = s[i] := by simp [List.getD, hlt]
      rw [rBetter, e0] at hsucc
      refine walk ?_
      refine pops_cutE [(53, .raw (.bool (decide ((¬ s[i].id ∈ out ∧ allIn out (rNeeds s[i].patch) = true) ∧ (k < 0 ∨ cmpD s[i].id (s.getD k.toNat Sto.zero).id < 0))))), (0, .slice (s.map eSto) t), (3, .slice (out.map eDig) u), (4, .raw (.int .i64 k)), (5, .raw (.int .i64 (i : Int)))] (.tok u out.length 32 :: LF) ?_ ?_
      · repeat' (first | (refine pwp_condD (fun h => ?_) (fun h => ?_) <;> refine walk ?_) | (refine pwp_condN (fun h => ?_) (fun h => ?_) <;> refine walk ?_) | (refine pwp_condB (fun h => ?_) (fun h => ?_) <;> refine walk ?_) | (refine pops_if (fun h => ?_) (fun h => ?_) <;> (have h2 := h; (try simp only [decide_eq_true_eq, decide_eq_false_iff_not, Bool.not_eq_true', Bool.not_eq_false'] at h2); refine walkp ?_)))
        all_goals (refine ⟨⟨holdsB (by rfl) ?_, rfl, rfl, rfl, rfl⟩, .refl _⟩; first | (simp_all; done) | (have hkl : k.toNat < s.length := (by omega); simp_all [List.getD]; done) | grind)
      refine walk ?_
      refine pwp_condD (fun h => ?_) (fun h => ?_)
      · refine walk ?_
        rw [if_pos h] at hsucc
        refine ⟨i + 1, by omega, by dsimp only; omega, ⟨rfl, rfl, ?_, rfl⟩, .refl _⟩
        rw [hsucc]; rfl
      · refine walk ?_
        rw [if_neg h] at hsucc
        refine ⟨i + 1, by omega, by dsimp only; omega, ⟨rfl, rfl, ?_, rfl⟩, .refl _⟩
        rw [hsucc]; rfl
    · have hii : i = s.length := by omega
      subst hii
      have hpk : rPick s out = k := hkk
      rw [hpk] at ho
      refine walk ?_
      refine pwp_condD (fun h => ?_) (fun h => ?_)
      · refine walk ?_
        rw [if_pos h] at ho
        refine end1 ?_
        rw [ho]; exact .ro _ _
      · rw [if_neg h] at ho
        have hkl : k.toNat < s.length := by omega
        have e0 : s.getD k.toNat Sto.zero = s[k.toNat] := by simp [List.getD, hkl]
        rw [e0] at ho
        refine walka fun u' => ?_
        refine ⟨(m, out ++ [s[k.toNat].id], u'), ⟨by dsimp only; omega, by dsimp only; rw [List.length_append, List.length_singleton]; omega, ho⟩, by dsimp only; omega, ⟨rfl, rfl⟩, .refl _⟩
  · refine walk ?_
    have hn0 : n = 0 := by omega
    subst hn0
    refine end1 ?_
    rw [ho]; exact .ro _ _⟩
end Go.Proofs
/- Contracts: closures (the reference's layer 17); the questions of a search (the reference's layer 31). -/
namespace Go.Proofs
open Go Go.Q
attribute [local irreducible] pwp pops PCalls OpN

theorem great_zero : rGreat Pat.zero = false := by simp [rGreat, Pat.zero, rTot]
theorem needs_zero : rNeeds Pat.zero = [] := by
  have h : (rEncodeP Pat.zero).2 ≠ 0 := by simp [rEncodeP, rCheckP, rName, Pat.zero]
  rw [rNeeds, if_pos h]
theorem getS_mem {s : List Sto} {d : Dig} {p : Pat} (h : getS s d = some p) : ∃ x ∈ s, x.id = d ∧ x.patch = p := by
  induction s with
  | nil => cases h
  | cons y s ih =>
    unfold getS at h
    split at h
    · rename_i he
      exact ⟨y, by simp, he, by simpa using h⟩
    · obtain ⟨x, hx, h1⟩ := ih h
      exact ⟨x, by simp [hx], h1⟩
def ndS (s : List Sto) (d : Dig) : List Dig := rNeeds ((getS s d).getD Pat.zero)
/-- A set in which everything is present that its patches need. -/
def closeS (s : List Sto) : Prop := goodS s ∧ ∀ x ∈ s, ∀ d ∈ rNeeds x.patch, d ∈ ids s
theorem closeS.nd {s : List Sto} (h : closeS s) (x : Dig) : ∀ d ∈ ndS s x, d ∈ ids s := by
  unfold ndS
  cases hg : getS s x with
  | none => rw [Option.getD_none, needs_zero]; intro d hd; cases hd
  | some p =>
    obtain ⟨y, hy, _, rfl⟩ := getS_mem hg
    exact h.2 y hy
theorem ids_len (s : List Sto) : (ids s).length = s.length := by simp [ids]
theorem closeS.small {s : List Sto} (h : closeS s) {l : List Dig} (ha : Asc l) (hl : ∀ d ∈ l, d ∈ ids s) : l.length ≤ 40 := by
  have h1 := nodup_len ha.nodup hl
  have h2 := h.1.1
  rw [ids_len] at h1; omega
def rClosure (s : List Sto) (l : List Dig) : List Dig × Int := if allIn (ids s) l = false then ([], 7) else (iterC (ndS s) s.length (withAll [] l), 0)

end Go.Proofs
/- Contracts: the questions of a search (the reference's layer 31). -/
namespace Go.Proofs
open Go Go.Q
attribute [local irreducible] pwp pops PCalls OpN

theorem inC_take {c l : List Dig} {k : Nat} (h : k < l.length) : inC c (l.take (k + 1)) = inC c (l.take k) ++ (if l[k] ∈ c then [l[k]] else []) := by
  unfold inC
  rw [List.take_succ_eq_append_getElem h, List.filter_append]
  by_cases hz : l[k] ∈ c <;> simp [hz]
theorem outC_take {c l : List Dig} {k : Nat} (h : k < l.length) : outC c (l.take (k + 1)) = outC c (l.take k) ++ (if l[k] ∈ c then [] else [l[k]]) := by
  unfold outC
  rw [List.take_succ_eq_append_getElem h, List.filter_append]
  by_cases hz : l[k] ∈ c <;> simp [hz]

def cloS (s : List Sto) (p : Dig) : List Dig := (rClosure s [p]).1


end Go.Proofs
/- Contracts: identities inserted; the atoms of a patch (the reference's layer 16). -/
namespace Go.Proofs
open Go Go.Q
attribute [local irreducible] pwp pops PCalls OpN

/-- Ascending identities with one more. -/
def insI : List Ident → Ident → List Ident
  | [], d => [d]
  | x :: xs, d => if cmpI x d < 0 then x :: insI xs d else if x = d then x :: xs else d :: x :: xs
theorem insI_at : ∀ {l : List Ident} {d : Ident} {k : Nat}, k ≤ l.length → (∀ i (h : i < l.length), i < k → cmpI l[i] d < 0) → (∀ h : k < l.length, ¬ cmpI l[k] d < 0) →
    insI l d = if ∃ h : k < l.length, l[k] = d then l else l.take k ++ d :: l.drop k
  | [], d, k, hk, _, _ => by simp [insI]
  | x :: xs, d, 0, _, _, hk => by
    have := hk (by simp)
    simp only [List.getElem_cons_zero] at this
    simp [insI, this]
  | x :: xs, d, k + 1, hl, h1, h2 => by
    have h0 := h1 0 (by simp) (by omega)
    simp only [List.getElem_cons_zero] at h0
    have ih := insI_at (l := xs) (d := d) (k := k) (by simpa using hl) (fun i h hi => by have := h1 (i + 1) (by simpa using h) (by omega); simpa using this) (fun h => by have := h2 (by simpa using h); simpa using this)
    simp only [insI, h0, if_true, ih]
    simp only [List.length_cons, Nat.add_lt_add_iff_right, List.getElem_cons_succ, List.take_succ_cons, List.drop_succ_cons]
    split <;> rfl
theorem insI_len (l : List Ident) (d : Ident) : (insI l d).length ≤ l.length + 1 := by
  induction l with
  | nil => simp [insI]
  | cons y l ih =>
    unfold insI
    split
    · simp only [List.length_cons]; omega
    · split <;> simp only [List.length_cons] <;> omega
set_option maxHeartbeats 1000000 in
instance Insert_ct (l : List Ident) (d : Ident) (t : Tag) [hs : Small (l.length ≤ 1000000)] : FnC Tryz.prog 234 [.slice (l.map eIdent) t, .agg (eIdent d)] (.slice ((insI l d).map eIdent) .ro) := ⟨by
  refine fn_of Tryz.func234 Tryz.ntmps234 rfl (rs := [.tmp 4]) rfl rfl fun hb LF => ?_
  have hlen : l.length ≤ 1000000 := hs.out
  refine walkb fun b => ?_
  refine pwp_loopS (σ := Nat) (fun k => k ≤ l.length ∧ ∀ i (h : i < l.length), i < k → cmpI l[i] d < 0) (fun k => l.length - k) (fun k => [(0, .slice (l.map eIdent) t), (3, .raw (.pointer (some ⟨b, 0, none⟩))), (5, .raw (.int .i64 k))]) (fun _ => .box b 115 (eIdent d) :: LF) 0 ⟨by simp, by simp⟩ ⟨rfl, rfl, rfl⟩ (.refl _) ?_
  rintro k ⟨hk, hne⟩
  refine walk ?_
  refine pops_if (fun hp => ?_) (fun hp => ?_)
  · have hc : (k : Int) < l.length := of_decide_eq_true hp
    refine walkp ?_
    refine pwp_condD (fun h1 => ?_) (fun h1 => ?_)
    · refine walk ?_
      refine ⟨k + 1, ⟨by omega, fun i h hi => ?_⟩, by dsimp only; omega, ⟨rfl, rfl, rfl⟩, .refl _⟩
      rcases Nat.lt_or_ge i k with h' | h'
      · exact hne i h h'
      · have : i = k := by omega
        subst this; exact h1
    · refine walk ?_
      refine pwp_condD (fun h2 => ?_) (fun h2 => ?_)
      · refine walk ?_
        refine end1 (.ros ?_)
        rw [insI_at hk hne (fun _ => h1), if_pos ⟨by omega, h2⟩]
      · refine walka fun t1 => ?_
        refine walkap fun t2 => ?_
        refine walkap fun t3 => ?_
        refine end1 (.ros ?_)
        rw [insI_at hk hne (fun _ => h1), if_neg (fun ⟨_, e⟩ => h2 e)]
        simp
  · have hc : ¬ (k : Int) < l.length := of_decide_eq_false hp
    refine walkp ?_
    refine walkap fun t1 => ?_
    refine walkap fun t2 => ?_
    refine walkap fun t3 => ?_
    refine end1 (.ros ?_)
    rw [insI_at hk hne (fun h => absurd (show (k : Int) < l.length by omega) hc), if_neg (fun ⟨h, _⟩ => hc (by omega))]
    simp⟩

def rOverF (d : Dig) (l : List Ident) : List Ident := l.foldl (fun m y => insI m (rWhole y d)) []
def rFull1 (d : Dig) (a : Atm) : Atm := { a with id := { a.id with patch := d } }
def rFull2 (d : Dig) (a : Atm) : Atm := if a.kind ≠ 7 then { a with file := rWhole a.file d } else a
def rFull3 (d : Dig) (a : Atm) : Atm := if a.kind = 2 then { a with parent := rWhole a.parent d } else a
def rFull4 (d : Dig) (a : Atm) : Atm := if a.kind = 6 then { a with src := rWhole a.src d, dst := rWhole a.dst d } else a
def rFull5 (d : Dig) (a : Atm) : Atm := { a with over := rOverF d a.over }
def rFull (d : Dig) (a : Atm) : Atm := rFull5 d (rFull4 d (rFull3 d (rFull2 d (rFull1 d a))))
theorem rFull4_over (d : Dig) (a : Atm) : (rFull4 d (rFull3 d (rFull2 d (rFull1 d a)))).over = a.over := by
  unfold rFull4 rFull3 rFull2 rFull1
  repeat' split
  all_goals rfl
theorem rOverF_len (d : Dig) (l : List Ident) (k : Nat) : ((l.take k).foldl (fun m y => insI m (rWhole y d)) []).length ≤ k := by
  induction k with
  | zero => simp
  | succ k ih =>
    by_cases h : k < l.length
    · rw [List.take_succ_eq_append_getElem h, List.foldl_append]
      have := insI_len ((l.take k).foldl (fun m y => insI m (rWhole y d)) []) (rWhole l[k] d)
      simp only [List.foldl_cons, List.foldl_nil]; omega
    · rw [List.take_of_length_le (by omega)] at ih ⊢; omega
def rAtoms (p : Pat) : List Atm × Int := if (rId p).2 ≠ 0 then ([], (rId p).2) else ((rCheckP p).1.map (rFull (rId p).1), 0)

/-! ### How many atoms, and how much they supersede -/
theorem rMade_over {c : Chg} {first : Int} (h : c.over.length ≤ 40) : ∀ a ∈ rMade c first, a.over.length ≤ 40 := by
  intro a ha
  unfold rMade at ha
  repeat' split at ha
  all_goals simp only [List.mem_singleton, List.mem_append, List.mem_map] at ha
  all_goals first
    | (subst ha; first | exact h | (show ([] : List Ident).length ≤ 40; decide))
    | (rcases ha with ⟨_, _, rfl⟩ | ⟨_, _, rfl⟩ <;> (show ([] : List Ident).length ≤ 40; decide))
theorem rChanges_facts : ∀ (l : List Chg) (own : List Atm), (∀ c ∈ l, chgOk c) → (∀ a ∈ own, a.over.length ≤ 40) → (rChanges l own).1.length ≤ own.length + l.length * 81 ∧ ∀ a ∈ (rChanges l own).1, a.over.length ≤ 40
  | [], own, _, h => ⟨by simp [rChanges], by simpa [rChanges] using h⟩
  | c :: l, own, hc, ho => by
    unfold rChanges
    split
    · exact ⟨by simp, by simp⟩
    · split
      · exact ⟨by simp, by simp⟩
      · have hcc := hc c (by simp)
        have h1 := rMade_len c own.length
        have h2 := rMade_over (first := own.length) hcc.over
        have h3 := hcc.lines
        have ih := rChanges_facts l (own ++ rMade c own.length) (fun x hx => hc x (by simp [hx])) (fun a ha => by
          rcases List.mem_append.1 ha with h | h
          · exact ho a h
          · exact h2 a h)
        rw [List.length_append] at ih
        refine ⟨?_, ih.2⟩
        have := ih.1
        simp only [List.length_cons, Nat.add_mul]; omega
theorem rCheckP_facts {p : Pat} (h : rGreat p = false) : (rCheckP p).1.length ≤ 1620 ∧ ∀ a ∈ (rCheckP p).1, a.over.length ≤ 40 := by
  obtain ⟨_, _, _, hch, hcs⟩ := great_facts h
  unfold rCheckP
  repeat' split
  all_goals first
    | exact ⟨by simp, by simp⟩
    | (have := rChanges_facts p.changes [] hcs (by simp)
       exact ⟨by have h1 := this.1; simp only [List.length_nil] at h1; omega, this.2⟩)
end Go.Proofs
/- Contracts: the atoms of a patch (the reference's layers 16 and 17). -/
namespace Go.Proofs
open Go Go.Q
attribute [local irreducible] pwp pops PCalls OpN

set_option maxHeartbeats 2000000 in
instance Atoms_ct (p : Pat) [hs : Small (rGreat p = false)] : FnC Tryz.prog 200 [.agg (ePat p)] (.tuple [.slice ((rAtoms p).1.map eAtm) .ro, .raw (.int .i64 (rAtoms p).2)]) := ⟨by
  obtain ⟨hal, hao⟩ := rCheckP_facts hs.out
  refine fn_of Tryz.func200 Tryz.ntmps200 rfl (rs := [.tmp 2, .tmp 3]) rfl rfl fun hb LF => ?_
  refine walkb fun b1 => ?_
  refine walkbp fun b4 => ?_
  refine pwp_condN (fun h => ?_) (fun h => ?_)
  · refine walk ?_
    refine end2 ?_
    rw [rAtoms, if_pos h]
    exact .tuple2 (.ro _ _) (.refl _)
  rw [rAtoms, if_neg (by simp [h])]
  refine walk ?_
  generalize (rId p).1 = d
  generalize (rCheckP p).1 = own at hal hao
  refine pwp_tok 172 ?_
  refine pwp_loopS (σ := Nat × List Atm × Tag) (fun k => k.1 ≤ own.length ∧ k.2.1 = (own.take k.1).map (rFull d)) (fun k => own.length - k.1) (fun k => [(4, .raw (.pointer (some ⟨b4, 0, none⟩))), (6, .slice (own.map eAtm) .ro), (8, .slice (k.2.1.map eAtm) k.2.2), (9, .raw (.int .i64 k.1))]) (fun k => .tok k.2.2 k.2.1.length 172 :: .box b4 37 (eDig d) :: LF) (0, [], .nil) ⟨by simp, by simp⟩ ⟨rfl, rfl, rfl, rfl⟩ (.cons_cons _ (.cons_cons _ (.cons _ (.refl _)))) ?_
  rintro ⟨i, out, v⟩ ⟨hi, ho⟩
  dsimp only at hi ho ⊢
  have hol : out.length = i := by rw [ho]; simp; omega
  refine walk ?_
  refine pwp_condD (fun hc => ?_) (fun hc => ?_)
  · have hlt : i < own.length := by omega
    have hov := hao _ (List.getElem_mem hlt)
    refine walkb fun b10 => ?_
    refine pwp_joinG (σ := Unit) (fun _ => True) (fun _ => [(4, .raw (.pointer (some ⟨b4, 0, none⟩))), (6, .slice (own.map eAtm) .ro), (8, .slice (out.map eAtm) v), (9, .raw (.int .i64 i)), (10, .raw (.pointer (some ⟨b10, 0, none⟩)))]) (fun _ => .box b10 157 (eAtm (rFull2 d (rFull1 d own[i]))) :: .tok v out.length 172 :: .box b4 37 (eDig d) :: LF) ?_ ?_
    · refine pwp_condN (fun h7 => ?_) (fun h7 => ?_)
      · refine walk ?_
        refine ⟨(), trivial, ⟨rfl, rfl, rfl, rfl, rfl⟩, ?_⟩
        have h7' : (rFull1 d own[i]).kind ≠ 7 := h7
        rw [rFull2, if_pos h7']; exact .refl _
      · refine walk ?_
        refine ⟨(), trivial, ⟨rfl, rfl, rfl, rfl, rfl⟩, ?_⟩
        have h7' : (rFull1 d own[i]).kind = 7 := h7
        rw [rFull2, if_neg (by simp [h7'])]; exact .refl _
    rintro _ _
    generalize ha2 : rFull2 d (rFull1 d own[i]) = a2
    refine walk ?_
    refine pwp_joinG (σ := Unit) (fun _ => True) (fun _ => [(4, .raw (.pointer (some ⟨b4, 0, none⟩))), (6, .slice (own.map eAtm) .ro), (8, .slice (out.map eAtm) v), (9, .raw (.int .i64 i)), (10, .raw (.pointer (some ⟨b10, 0, none⟩)))]) (fun _ => .box b10 157 (eAtm (rFull3 d a2)) :: .tok v out.length 172 :: .box b4 37 (eDig d) :: LF) ?_ ?_
    · refine pwp_condD (fun h7 => ?_) (fun h7 => ?_)
      · refine walk ?_
        refine ⟨(), trivial, ⟨rfl, rfl, rfl, rfl, rfl⟩, ?_⟩
        rw [rFull3, if_pos h7]; exact .refl _
      · refine walk ?_
        refine ⟨(), trivial, ⟨rfl, rfl, rfl, rfl, rfl⟩, ?_⟩
        rw [rFull3, if_neg h7]; exact .refl _
    rintro _ _
    generalize ha3 : rFull3 d a2 = a3
    refine walk ?_
    refine pwp_joinG (σ := Unit) (fun _ => True) (fun _ => [(4, .raw (.pointer (some ⟨b4, 0, none⟩))), (6, .slice (own.map eAtm) .ro), (8, .slice (out.map eAtm) v), (9, .raw (.int .i64 i)), (10, .raw (.pointer (some ⟨b10, 0, none⟩)))]) (fun _ => .box b10 157 (eAtm (rFull4 d a3)) :: .tok v out.length 172 :: .box b4 37 (eDig d) :: LF) ?_ ?_
    · refine pwp_condD (fun h7 => ?_) (fun h7 => ?_)
      · refine walkn ?_
        refine pwp_draw [false, false, false, false, false, false, false, false, false, true, false, true] ?_ ?_
        · decide +kernel
        refine walkp ?_
        refine ⟨(), trivial, ⟨rfl, rfl, rfl, rfl, rfl⟩, ?_⟩
        rw [rFull4, if_pos h7]; exact .refl _
      · refine walk ?_
        refine ⟨(), trivial, ⟨rfl, rfl, rfl, rfl, rfl⟩, ?_⟩
        rw [rFull4, if_neg h7]; exact .refl _
    rintro _ _
    have hover : (rFull4 d a3).over = own[i].over := by rw [← ha3, ← ha2]; exact rFull4_over d own[i]
    generalize ha4 : rFull4 d a3 = a4 at hover
    have hov4 : a4.over.length ≤ 40 := by rw [hover]; exact hov
    refine walk ?_
    refine pwp_loopS (σ := Nat × List Ident × Tag) (fun j => j.1 ≤ a4.over.length ∧ j.2.1 = (a4.over.take j.1).foldl (fun m y => insI m (rWhole y d)) []) (fun j => a4.over.length - j.1) (fun j => [(4, .raw (.pointer (some ⟨b4, 0, none⟩))), (6, .slice (own.map eAtm) .ro), (8, .slice (out.map eAtm) v), (9, .raw (.int .i64 i)), (10, .raw (.pointer (some ⟨b10, 0, none⟩))), (11, .slice (j.2.1.map eIdent) j.2.2), (12, .raw (.int .i64 j.1))]) (fun _ => .box b10 157 (eAtm a4) :: .tok v out.length 172 :: .box b4 37 (eDig d) :: LF) (0, [], .nil) ⟨by simp, by simp⟩ ⟨rfl, rfl, rfl, rfl, rfl, rfl, rfl⟩ (.refl _) ?_
    rintro ⟨j, m, z⟩ ⟨hj, hm⟩
    dsimp only at hj hm ⊢
    have hml : m.length ≤ j := by rw [hm]; exact rOverF_len d a4.over j
    refine walk ?_
    refine pwp_condD (fun hc2 => ?_) (fun hc2 => ?_)
    · have hlt2 : j < a4.over.length := by omega
      have : Small (m.length ≤ 1000000) := ⟨by omega⟩
      refine walk ?_
      refine ⟨(j + 1, insI m (rWhole a4.over[j] d), .ro), ⟨by dsimp only; omega, ?_⟩, by dsimp only; omega, ⟨rfl, rfl, rfl, rfl, rfl, rfl, rfl⟩, .refl _⟩
      dsimp only
      rw [List.take_succ_eq_append_getElem hlt2, List.foldl_append, ← hm]; rfl
    · rw [List.take_of_length_le (by omega)] at hm
      refine walka fun v' => ?_
      have e : rFull d own[i] = { a4 with over := m } := by rw [rFull, ha2, ha3, ha4, rFull5, rOverF, ← hm]
      refine ⟨(i + 1, out ++ [{ a4 with over := m }], v'), ⟨by dsimp only; omega, ?_⟩, by dsimp only; omega, ⟨rfl, rfl, rfl, rfl⟩, .cons _ (.refl _)⟩
      dsimp only
      rw [List.take_succ_eq_append_getElem hlt, List.map_append, ← ho, List.map_cons, e]; rfl
  · rw [List.take_of_length_le (by omega)] at ho
    refine walk ?_
    refine end2 ?_
    rw [ho]
    exact .tuple2 (.ro _ _) (.refl _)⟩
end Go.Proofs
/- Contracts: references into other patches of a set (the reference's layer 17). -/
namespace Go.Proofs
open Go Go.Q
attribute [local irreducible] pwp pops PCalls OpN

theorem nfalse {b : Bool} (h : (!b) = false) : ¬ b = false := by cases b <;> simp_all
theorem ntrue {b : Bool} (h : (!b) = true) : b = false := by cases b <;> simp_all
theorem goodS.great {s : List Sto} (h : goodS s) (d : Dig) : rGreat ((getS s d).getD Pat.zero) = false := by
  cases hg : getS s d with
  | none => exact great_zero
  | some p =>
    obtain ⟨x, hx, _, rfl⟩ := getS_mem hg
    exact h.2 x hx
def rAtomsOf (s : List Sto) (d : Dig) : List Atm := (rAtoms ((getS s d).getD Pat.zero)).1
def rAtom (s : List Sto) (x : Ident) : Option Atm := if x.n < 0 ∨ ((rAtomsOf s x.patch).length : Int) ≤ x.n then none else (rAtomsOf s x.patch)[x.n.toNat]?
instance atom17_ct (s : List Sto) (x : Ident) (t : Tag) [hs : Small (goodS s)] : FnC Tryz.prog 160 [.slice (s.map eSto) t, .agg (eIdent x)] (.tuple [.agg (eAtm ((rAtom s x).getD Atm.zero)), .raw (.bool (rAtom s x).isSome)]) := ⟨by
  have i1 : Small (rGreat ((getS s x.patch).getD Pat.zero) = false) := ⟨hs.out.great _⟩
  refine fn_of Tryz.func160 Tryz.ntmps160 rfl (rs := [.cell 4 157, .tmp 5]) rfl rfl fun hb LF => ?_
  refine walkb fun b3 => ?_
  refine walkbp fun b4 => ?_
  refine walkbp fun b6 => ?_
  have e0 : (rAtoms ((getS s x.patch).getD Pat.zero)).1 = rAtomsOf s x.patch := rfl
  rw [e0]
  refine pops_cutE [(31, .raw (.bool (decide (x.n < 0 ∨ ((rAtomsOf s x.patch).length : Int) ≤ x.n)))), (3, .raw (.pointer (some ⟨b3, 0, none⟩))), (4, .raw (.pointer (some ⟨b4, 0, none⟩))), (8, .slice ((rAtomsOf s x.patch).map eAtm) .ro)] (.box b6 57 (ePat ((getS s x.patch).getD Pat.zero)) :: .box b4 157 (eAtm Atm.zero) :: .box b3 115 (eIdent x) :: LF) ?_ ?_
  · repeat' (first | (refine pwp_condD (fun h => ?_) (fun h => ?_) <;> refine walk ?_) | (refine pwp_condN (fun h => ?_) (fun h => ?_) <;> refine walk ?_) | (refine pwp_condB (fun h => ?_) (fun h => ?_) <;> refine walk ?_) | (refine pops_if (fun h => ?_) (fun h => ?_) <;> (have h2 := h; (try simp only [decide_eq_true_eq, decide_eq_false_iff_not, Bool.not_eq_true', Bool.not_eq_false'] at h2); refine walkp ?_)))
    all_goals (refine ⟨⟨holdsB (by rfl) ?_, rfl, rfl, rfl⟩, .refl _⟩; first | (simp_all; done) | (simp_all; omega) | grind)
  refine walk ?_
  refine pwp_condD (fun h => ?_) (fun h => ?_)
  · refine walk ?_
    refine endC1 rfl (.of_eq ?_)
    rw [rAtom, if_pos h]; rfl
  · refine walk ?_
    refine endC1 rfl (.of_eq ?_)
    have hlt : x.n.toNat < (rAtomsOf s x.patch).length := by omega
    rw [rAtom, if_neg h, List.getElem?_eq_getElem hlt]; rfl⟩

/-- The error of an atom that is looked for. -/
def rRefOk (o : Option Atm) (fits : Atm → Bool) : Int := if o.isSome = false then 7 else if fits (o.getD Atm.zero) = false then 8 else 0
def rEndE (s : List Sto) (x file : Ident) (id : Dig) : Int := if rOther x = false ∨ x = file then 0 else rRefOk (rAtom s x) (rFitsEnd (rComplete file id))
set_option maxHeartbeats 1000000 in
instance end17_ct (s : List Sto) (x file : Ident) (id : Dig) (t : Tag) [hs : Small (goodS s)] : FnC Tryz.prog 163 [.slice (s.map eSto) t, .agg (eIdent x), .agg (eIdent file), .agg (eDig id)] (.raw (.int .i64 (rEndE s x file id))) := ⟨by
  refine fn_of Tryz.func163 Tryz.ntmps163 rfl (rs := [.tmp 8]) rfl rfl fun hb LF => ?_
  refine walkb fun b5 => ?_
  refine walkbp fun b6 => ?_
  refine walkbp fun b7 => ?_
  refine pops_cutE [(18, .raw (.bool (decide (rOther x = false ∨ x = file)))), (0, .slice (s.map eSto) t), (5, .raw (.pointer (some ⟨b5, 0, none⟩))), (6, .raw (.pointer (some ⟨b6, 0, none⟩))), (7, .raw (.pointer (some ⟨b7, 0, none⟩)))] (.box b7 37 (eDig id) :: .box b6 115 (eIdent file) :: .box b5 115 (eIdent x) :: LF) ?_ ?_
  · repeat' (first | (refine pwp_condD (fun h => ?_) (fun h => ?_) <;> refine walk ?_) | (refine pwp_condN (fun h => ?_) (fun h => ?_) <;> refine walk ?_) | (refine pwp_condB (fun h => ?_) (fun h => ?_) <;> refine walk ?_) | (refine pops_if (fun h => ?_) (fun h => ?_) <;> (have h2 := h; (try simp only [decide_eq_true_eq, decide_eq_false_iff_not, Bool.not_eq_true', Bool.not_eq_false'] at h2); refine walkp ?_)))
    all_goals (refine ⟨⟨holdsB (by rfl) ?_, rfl, rfl, rfl, rfl⟩, .refl _⟩; first | (simp_all; done) | (simp_all; omega) | grind)
  refine walk ?_
  refine pwp_condD (fun h => ?_) (fun h => ?_)
  · refine walk ?_
    refine end1 (.of_eq ?_)
    rw [rEndE, if_pos h]
  rw [rEndE, if_neg h]
  refine walkb fun b9 => ?_
  refine pwp_condB (fun h2 => ?_) (fun h2 => ?_)
  · refine walk ?_
    refine end1 (.of_eq ?_)
    rw [rRefOk, if_pos (ntrue h2)]
  refine walk ?_
  refine pwp_condB (fun h3 => ?_) (fun h3 => ?_)
  · refine walk ?_
    refine end1 (.of_eq ?_)
    rw [rRefOk, if_neg (nfalse h2), if_pos (ntrue h3)]
  · refine walk ?_
    refine end1 (.of_eq ?_)
    rw [rRefOk, if_neg (nfalse h2), if_neg (nfalse h3)]⟩

def rChgF (s : List Sto) (c : Chg) : Int := if rOther c.file = true then rRefOk (rAtom s c.file) (rFitsFile c.kind) else 0
def rChgP (s : List Sto) (c : Chg) : Int := if rOther c.parent = true then rRefOk (rAtom s c.parent) rDirectory else 0
def rChgO (s : List Sto) (c : Chg) (id : Dig) (x : Ident) : Int := if rOther x = false then 0 else rRefOk (rAtom s x) (rFitsOver c.kind (rComplete c.file id))
def rChgE (s : List Sto) (c : Chg) (id : Dig) : Int :=
  if rChgF s c ≠ 0 then rChgF s c else if rChgP s c ≠ 0 then rChgP s c else if rEndE s c.after c.file id ≠ 0 then rEndE s c.after c.file id else
  if rEndE s c.before c.file id ≠ 0 then rEndE s c.before c.file id else firstErr (rChgO s c id) c.over
set_option maxHeartbeats 2000000 in
instance change17_ct (s : List Sto) (c : Chg) (id : Dig) (t : Tag) [hs : Small (goodS s)] : FnC Tryz.prog 124 [.slice (s.map eSto) t, .agg (eChg c), .agg (eDig id)] (.raw (.int .i64 (rChgE s c id))) := ⟨by
  refine fn_of Tryz.func124 Tryz.ntmps124 rfl (rs := [.tmp 6]) rfl rfl fun hb LF => ?_
  have hlen : c.over.length ≤ 140737488355328 := ((hb (.agg (eChg c)) (by simp)).agg_at (c := .slice (c.over.map eIdent) .ro) (by simp [eChg])).slice_map
  refine walkb fun b4 => ?_
  refine walkbp fun b5 => ?_
  refine pwp_joinG (σ := Unit) (fun _ => rChgF s c = 0) (fun _ => [(0, .slice (s.map eSto) t), (4, .raw (.pointer (some ⟨b4, 0, none⟩))), (5, .raw (.pointer (some ⟨b5, 0, none⟩)))]) (fun _ => .box b5 37 (eDig id) :: .box b4 119 (eChg c) :: LF) ?_ ?_
  · refine pwp_condB (fun h => ?_) (fun h => ?_)
    · have e : rChgF s c = rRefOk (rAtom s c.file) (rFitsFile c.kind) := by rw [rChgF, if_pos h]
      refine walkb fun b7 => ?_
      refine pwp_condB (fun h2 => ?_) (fun h2 => ?_)
      · refine walk ?_
        refine end1 (.of_eq ?_)
        rw [rRefOk, if_pos (ntrue h2)] at e
        rw [rChgE, if_pos (by rw [e]; decide), e]
      refine walk ?_
      refine pwp_condB (fun h3 => ?_) (fun h3 => ?_)
      · refine walk ?_
        refine end1 (.of_eq ?_)
        rw [rRefOk, if_neg (nfalse h2), if_pos (ntrue h3)] at e
        rw [rChgE, if_pos (by rw [e]; decide), e]
      · refine walk ?_
        rw [rRefOk, if_neg (nfalse h2), if_neg (nfalse h3)] at e
        exact ⟨(), e, ⟨rfl, rfl, rfl⟩, .cons _ (.refl _)⟩
    · refine walk ?_
      exact ⟨(), by rw [rChgF, if_neg (by simp [h])], ⟨rfl, rfl, rfl⟩, .refl _⟩
  rintro _ hF
  refine walk ?_
  refine pwp_joinG (σ := Unit) (fun _ => rChgP s c = 0) (fun _ => [(0, .slice (s.map eSto) t), (4, .raw (.pointer (some ⟨b4, 0, none⟩))), (5, .raw (.pointer (some ⟨b5, 0, none⟩)))]) (fun _ => .box b5 37 (eDig id) :: .box b4 119 (eChg c) :: LF) ?_ ?_
  · refine pwp_condB (fun h => ?_) (fun h => ?_)
    · have e : rChgP s c = rRefOk (rAtom s c.parent) rDirectory := by rw [rChgP, if_pos h]
      refine walkb fun b7 => ?_
      refine pwp_condB (fun h2 => ?_) (fun h2 => ?_)
      · refine walk ?_
        refine end1 (.of_eq ?_)
        rw [rRefOk, if_pos (ntrue h2)] at e
        rw [rChgE, if_neg (by simp [hF]), if_pos (by rw [e]; decide), e]
      refine walk ?_
      refine pwp_condB (fun h3 => ?_) (fun h3 => ?_)
      · refine walk ?_
        refine end1 (.of_eq ?_)
        rw [rRefOk, if_neg (nfalse h2), if_pos (ntrue h3)] at e
        rw [rChgE, if_neg (by simp [hF]), if_pos (by rw [e]; decide), e]
      · refine walk ?_
        rw [rRefOk, if_neg (nfalse h2), if_neg (nfalse h3)] at e
        exact ⟨(), e, ⟨rfl, rfl, rfl⟩, .cons _ (.refl _)⟩
    · refine walk ?_
      exact ⟨(), by rw [rChgP, if_neg (by simp [h])], ⟨rfl, rfl, rfl⟩, .refl _⟩
  rintro _ hP
  rw [rChgE, if_neg (by simp [hF]), if_neg (by simp [hP])]
  refine walk ?_
  refine pwp_condN (fun h1 => ?_) (fun h1 => ?_)
  · refine walk ?_
    refine end1 (.of_eq ?_)
    rw [if_pos h1]
  rw [if_neg (by simp [h1])]
  refine walk ?_
  refine pwp_condN (fun h2 => ?_) (fun h2 => ?_)
  · refine walk ?_
    refine end1 (.of_eq ?_)
    rw [if_pos h2]
  rw [if_neg (by simp [h2])]
  refine walk ?_
  refine pwp_loopS (σ := Nat) (fun k => k ≤ c.over.length ∧ ∀ i (h : i < c.over.length), i < k → rChgO s c id c.over[i] = 0) (fun k => c.over.length - k) (fun k => [(0, .slice (s.map eSto) t), (4, .raw (.pointer (some ⟨b4, 0, none⟩))), (5, .raw (.pointer (some ⟨b5, 0, none⟩))), (13, .raw (.int .i64 k))]) (fun _ => .box b5 37 (eDig id) :: .box b4 119 (eChg c) :: LF) 0 ⟨by simp, by simp⟩ ⟨rfl, rfl, rfl, rfl⟩ (.refl _) ?_
  rintro k ⟨hk, he⟩
  refine walk ?_
  refine pwp_condD (fun hc => ?_) (fun hc => ?_)
  · have hlt : k < c.over.length := by omega
    refine walk ?_
    refine pwp_condB (fun h => ?_) (fun h => ?_)
    · refine walk ?_
      exact ⟨k + 1, ⟨by omega, upto_succ0 he hlt (by rw [rChgO, if_pos (ntrue h)])⟩, by dsimp only; omega, ⟨rfl, rfl, rfl, rfl⟩, .refl _⟩
    have e : rChgO s c id c.over[k] = rRefOk (rAtom s c.over[k]) (rFitsOver c.kind (rComplete c.file id)) := by rw [rChgO, if_neg (nfalse h)]
    refine walkb fun b14 => ?_
    refine pwp_condB (fun h3 => ?_) (fun h3 => ?_)
    · refine walk ?_
      refine end1 (.of_eq ?_)
      rw [rRefOk, if_pos (ntrue h3)] at e
      rw [firstErr_at hlt he (by rw [e]; decide), e]
    refine walk ?_
    refine pwp_condB (fun h4 => ?_) (fun h4 => ?_)
    · refine walk ?_
      refine end1 (.of_eq ?_)
      rw [rRefOk, if_neg (nfalse h3), if_pos (ntrue h4)] at e
      rw [firstErr_at hlt he (by rw [e]; decide), e]
    · refine walk ?_
      rw [rRefOk, if_neg (nfalse h3), if_neg (nfalse h4)] at e
      exact ⟨k + 1, ⟨by omega, upto_succ0 he hlt e⟩, by dsimp only; omega, ⟨rfl, rfl, rfl, rfl⟩, .cons _ (.refl _)⟩
  · refine walk ?_
    refine end1 (.of_eq ?_)
    rw [firstErr_zero fun i h => he i h (by omega)]⟩

def rRefsS (s : List Sto) (p : Pat) (id : Dig) : Int := firstErr (fun c => rChgE s c id) p.changes
instance references17_ct (s : List Sto) (p : Pat) (id : Dig) (t : Tag) [hs : Small (goodS s)] : FnC Tryz.prog 92 [.slice (s.map eSto) t, .agg (ePat p), .agg (eDig id)] (.raw (.int .i64 (rRefsS s p id))) := ⟨by
  refine fn_of Tryz.func92 Tryz.ntmps92 rfl (rs := [.tmp 6]) rfl rfl fun hb LF => ?_
  have hlen : p.changes.length ≤ 140737488355328 := ((hb (.agg (ePat p)) (by simp)).agg_at (c := .slice (p.changes.map eChg) .ro) (by simp [ePat])).slice_map
  refine walkb fun b4 => ?_
  refine walkbp fun b5 => ?_
  refine pwp_loopS (σ := Nat) (fun k => k ≤ p.changes.length ∧ ∀ i (h : i < p.changes.length), i < k → rChgE s p.changes[i] id = 0) (fun k => p.changes.length - k) (fun k => [(0, .slice (s.map eSto) t), (4, .raw (.pointer (some ⟨b4, 0, none⟩))), (5, .raw (.pointer (some ⟨b5, 0, none⟩))), (7, .raw (.int .i64 k))]) (fun _ => .box b5 37 (eDig id) :: .box b4 57 (ePat p) :: LF) 0 ⟨by simp, by simp⟩ ⟨rfl, rfl, rfl, rfl⟩ (.refl _) ?_
  rintro k ⟨hk, he⟩
  refine walk ?_
  refine pwp_condD (fun hc => ?_) (fun hc => ?_)
  · have hlt : k < p.changes.length := by omega
    refine walk ?_
    refine pwp_condN (fun h => ?_) (fun h => ?_)
    · refine walk ?_
      refine end1 (.of_eq ?_)
      rw [rRefsS, firstErr_at hlt he h]
    · refine walk ?_
      exact ⟨k + 1, ⟨by omega, upto_succ0 (f := fun c => rChgE s c id) he hlt h⟩, by dsimp only; omega, ⟨rfl, rfl, rfl, rfl⟩, .refl _⟩
  · refine walk ?_
    refine end1 (.of_eq ?_)
    rw [rRefsS, firstErr_zero fun i h => he i h (by omega)]⟩
end Go.Proofs
/- Contracts: sets that are valid (the reference's layer 17). -/
namespace Go.Proofs
open Go Go.Q
attribute [local irreducible] pwp pops PCalls OpN

theorem nnot {b : Bool} (h : (!b) = false) : b = true := by cases b <;> simp_all
def rChkE (s : List Sto) (i : Nat) : Int :=
  if (rId (s.getD i Sto.zero).patch).2 ≠ 0 then (rId (s.getD i Sto.zero).patch).2 else if (rId (s.getD i Sto.zero).patch).1 ≠ (s.getD i Sto.zero).id then 13 else
  if 0 < (i : Int) ∧ 0 ≤ cmpD (s.getD (i - 1) Sto.zero).id (rId (s.getD i Sto.zero).patch).1 then 9 else 0
def rCheckS (s : List Sto) : Int :=
  if 400 < (s.length : Int) then 4 else if firstErr (rChkE s) (List.range s.length) ≠ 0 then firstErr (rChkE s) (List.range s.length) else
  if s.all (fun x => allIn (ids s) (rNeeds x.patch)) = false then 19 else if ((rOrder s).length : Int) < s.length then 20 else firstErr (fun (x : Sto) => rRefsS s x.patch x.id) s
set_option maxHeartbeats 400000 in
instance CheckS_ct (s : List Sto) (t : Tag) [hs : Small (goodS s)] : FnC Tryz.prog 46 [.slice (s.map eSto) t] (.raw (.int .i64 (rCheckS s))) := ⟨by
  obtain ⟨hl8, hgr⟩ := hs.out
  refine fn_of Tryz.func46 Tryz.ntmps46 rfl (rs := [.tmp 2]) rfl rfl fun hb LF => ?_
  refine walk ?_
  refine pwp_condD (fun h1 => ?_) (fun h1 => ?_)
  · omega
  rw [rCheckS, if_neg h1]
  refine walk ?_
  refine pwp_loopS (σ := Nat) (fun k => k ≤ s.length ∧ ∀ i (h : i < (List.range s.length).length), i < k → rChkE s (List.range s.length)[i] = 0) (fun k => s.length - k) (fun k => [(0, .slice (s.map eSto) t), (3, .raw (.int .i64 k))]) (fun _ => LF) 0 ⟨by simp, by simp⟩ ⟨rfl, rfl⟩ (.refl _) ?_
  rintro k ⟨hk, he⟩
  refine walk ?_
  refine pwp_condD (fun hc => ?_) (fun hc => ?_)
  · have hlt : k < s.length := by omega
    have hltr : k < (List.range s.length).length := by simpa using hlt
    have ek : (List.range s.length)[k] = k := by simp
    have e0 : s.getD k Sto.zero = s[k] := by simp [List.getD, hlt]
    have i1 : Small (rGreat s[k].patch = false) := ⟨hgr _ (List.getElem_mem hlt)⟩
    refine walkb fun b => ?_
    refine pwp_condN (fun h2 => ?_) (fun h2 => ?_)
    · refine walk ?_
      refine end1 (.of_eq ?_)
      have e : rChkE s (List.range s.length)[k] = (rId s[k].patch).2 := by rw [ek, rChkE, e0, if_pos h2]
      have f := firstErr_at hltr he (by rw [e]; exact h2)
      rw [if_pos (by rw [f, e]; exact h2), f, e]
    refine walk ?_
    refine pwp_condN (fun h3 => ?_) (fun h3 => ?_)
    · refine walk ?_
      refine end1 (.of_eq ?_)
      have e : rChkE s (List.range s.length)[k] = 13 := by rw [ek, rChkE, e0, if_neg (by simp [h2]), if_pos h3]
      have f := firstErr_at hltr he (by rw [e]; decide)
      rw [if_pos (by rw [f, e]; decide), f, e]
    refine walk ?_
    refine pops_if (fun hp => ?_) (fun hp => ?_)
    · have hp' : 0 < (k : Int) := of_decide_eq_true hp
      refine walkp ?_
      have e1 : s.getD (k - 1) Sto.zero = s[((k : Int) - 1).toNat] := by
        have : ((k : Int) - 1).toNat = k - 1 := by omega
        simp only [this]
        have h' : k - 1 < s.length := by omega
        simp [List.getD, h']
      refine pwp_condD (fun h4 => ?_) (fun h4 => ?_)
      · refine walk ?_
        refine end1 (.of_eq ?_)
        have e : rChkE s (List.range s.length)[k] = 9 := by rw [ek, rChkE, e0, e1, if_neg (by simp [h2]), if_neg (by simp [h3]), if_pos ⟨hp', h4⟩]
        have f := firstErr_at hltr he (by rw [e]; decide)
        rw [if_pos (by rw [f, e]; decide), f, e]
      · refine walk ?_
        have e : rChkE s (List.range s.length)[k] = 0 := by rw [ek, rChkE, e0, e1, if_neg (by simp [h2]), if_neg (by simp [h3]), if_neg (fun h => h4 h.2)]
        exact ⟨k + 1, ⟨by omega, upto_succ0 he hltr e⟩, by dsimp only; omega, ⟨rfl, rfl⟩, .cons _ (.refl _)⟩
    · have hp' : ¬ 0 < (k : Int) := of_decide_eq_false hp
      refine walkp ?_
      have e : rChkE s (List.range s.length)[k] = 0 := by rw [ek, rChkE, e0, if_neg (by simp [h2]), if_neg (by simp [h3]), if_neg (fun h => hp' h.1)]
      exact ⟨k + 1, ⟨by omega, upto_succ0 he hltr e⟩, by dsimp only; omega, ⟨rfl, rfl⟩, .cons _ (.refl _)⟩
  have hA : firstErr (rChkE s) (List.range s.length) = 0 := firstErr_zero fun i h => he i h (by simp at h; omega)
  rw [if_neg (by simp [hA])]
  clear he hA hk hc
  refine walk ?_
  refine pwp_loopS (σ := Nat) (fun k => k ≤ s.length ∧ ∀ i (h : i < s.length), i < k → allIn (ids s) (rNeeds s[i].patch) = true) (fun k => s.length - k) (fun k => [(0, .slice (s.map eSto) t), (6, .slice ((ids s).map eDig) .ro), (7, .raw (.int .i64 k))]) (fun _ => LF) 0 ⟨by simp, by simp⟩ ⟨rfl, rfl, rfl⟩ (.refl _) ?_
  rintro k ⟨hk, he⟩
  refine walk ?_
  refine pwp_condD (fun hc => ?_) (fun hc => ?_)
  · have hlt : k < s.length := by omega
    have i1 : Small (rGreat s[k].patch = false) := ⟨hgr _ (List.getElem_mem hlt)⟩
    refine walk ?_
    refine pwp_condB (fun h => ?_) (fun h => ?_)
    · refine walk ?_
      refine end1 (.of_eq ?_)
      have hx : allIn (ids s) (rNeeds s[k].patch) = false := ntrue h
      have hy : s.all (fun x => allIn (ids s) (rNeeds x.patch)) = false := all_false_of hlt hx
      rw [if_pos hy]
    · refine walk ?_
      have hx : allIn (ids s) (rNeeds s[k].patch) = true := nnot h
      have hy : ∀ i (h : i < s.length), i < k + 1 → allIn (ids s) (rNeeds s[i].patch) = true := fun i hi hik => by
        rcases Nat.lt_or_ge i k with h' | h'
        · exact he i hi h'
        · have e : i = k := by omega
          subst e; exact hx
      exact ⟨k + 1, ⟨by omega, hy⟩, by dsimp only; omega, ⟨rfl, rfl, rfl⟩, .refl _⟩
  have hB : s.all (fun x => allIn (ids s) (rNeeds x.patch)) = true := all_true_of fun i h => he i h (by omega)
  rw [if_neg (by simp [hB])]
  clear he hB hk hc
  refine walk ?_
  refine pwp_condD (fun h => ?_) (fun h => ?_)
  · refine walk ?_
    refine end1 (.of_eq ?_)
    rw [if_pos h]
  rw [if_neg h]
  refine walk ?_
  refine pwp_loopS (σ := Nat) (fun k => k ≤ s.length ∧ ∀ i (h : i < s.length), i < k → rRefsS s s[i].patch s[i].id = 0) (fun k => s.length - k) (fun k => [(0, .slice (s.map eSto) t), (8, .raw (.int .i64 k))]) (fun _ => LF) 0 ⟨by simp, by simp⟩ ⟨rfl, rfl⟩ (.refl _) ?_
  rintro k ⟨hk, he⟩
  refine walk ?_
  refine pwp_condD (fun hc => ?_) (fun hc => ?_)
  · have hlt : k < s.length := by omega
    refine walk ?_
    refine pwp_condN (fun h2 => ?_) (fun h2 => ?_)
    · refine walk ?_
      refine end1 (.of_eq ?_)
      rw [firstErr_at (f := fun (x : Sto) => rRefsS s x.patch x.id) hlt he h2]
    · refine walk ?_
      exact ⟨k + 1, ⟨by omega, upto_succ0 (f := fun (x : Sto) => rRefsS s x.patch x.id) he hlt h2⟩, by dsimp only; omega, ⟨rfl, rfl⟩, .refl _⟩
  · refine walk ?_
    refine end1 (.of_eq ?_)
    rw [firstErr_zero (f := fun (x : Sto) => rRefsS s x.patch x.id) fun i h => he i h (by omega)]⟩

theorem goodS_of {s : List Sto} (h : rGreatS s = false) : goodS s := by
  unfold rGreatS at h
  simp only [Bool.or_eq_false_iff, decide_eq_false_iff_not, List.any_eq_false] at h
  obtain ⟨⟨h1, h2⟩, _⟩ := h
  refine ⟨by omega, fun x hx => ?_⟩
  have := h1 x (by rw [List.take_of_length_le (by omega)]; exact hx)
  simpa using this
def rFine (s : List Sto) : Bool := !rGreatS s && decide (rCheckS s = 0)
instance Fine_ct (s : List Sto) (t : Tag) : FnC Tryz.prog 48 [.slice (s.map eSto) t] (.raw (.bool (rFine s))) := ⟨by
  refine fn_of Tryz.func48 Tryz.ntmps48 rfl (rs := [.tmp 2]) rfl rfl fun hb LF => ?_
  refine walk ?_
  refine pops_if (fun hp => ?_) (fun hp => ?_)
  · have i1 : Small (goodS s) := ⟨goodS_of (by simpa using hp)⟩
    refine walkp ?_
    refine end1 (.of_eq ?_)
    rw [rFine, hp, Bool.true_and]
  · refine walkp ?_
    refine end1 (.of_eq ?_)
    rw [rFine, hp, Bool.false_and]⟩
end Go.Proofs
/- Contracts: sets with one more patch (the reference's layer 17). -/
namespace Go.Proofs
open Go Go.Q
attribute [local irreducible] pwp pops PCalls OpN

/-- A set with a patch that it does not have. -/
def putS (s : List Sto) (x : Sto) : List Sto := s.takeWhile (fun y => decide (cmpD y.id x.id < 0)) ++ x :: s.dropWhile (fun y => decide (cmpD y.id x.id < 0))
theorem while_at {α : Type} {q : α → Bool} : ∀ {l : List α} {k : Nat}, k ≤ l.length → (∀ i (h : i < l.length), i < k → q l[i] = true) → (∀ h : k < l.length, q l[k] = false) → l.takeWhile q = l.take k ∧ l.dropWhile q = l.drop k
  | [], k, hk, _, _ => by simp
  | x :: l, 0, _, _, h => by
    have := h (by simp)
    simp only [List.getElem_cons_zero] at this
    simp [this]
  | x :: l, k + 1, hk, h1, h2 => by
    have h0 := h1 0 (by simp) (by omega)
    simp only [List.getElem_cons_zero] at h0
    have ih := while_at (l := l) (k := k) (q := q) (by simpa using hk) (fun i h hi => by have := h1 (i + 1) (by simpa using h) (by omega); simpa using this) (fun h => by have := h2 (by simpa using h); simpa using this)
    simp [h0, ih.1, ih.2]
set_option maxHeartbeats 1000000 in
instance put_ct (s : List Sto) (x : Sto) (t : Tag) [hs : Small (s.length ≤ 1000)] : FnC Tryz.prog 99 [.slice (s.map eSto) t, .agg (eSto x)] (.slice ((putS s x).map eSto) .ro) := ⟨by
  have hlen := hs.out
  refine fn_of Tryz.func99 Tryz.ntmps99 rfl (rs := [.tmp 4]) rfl rfl fun hb LF => ?_
  refine walkb fun b => ?_
  refine pwp_loopS (σ := Nat) (fun k => k ≤ s.length ∧ ∀ i (h : i < s.length), i < k → decide (cmpD s[i].id x.id < 0) = true) (fun k => s.length - k) (fun k => [(0, .slice (s.map eSto) t), (3, .raw (.pointer (some ⟨b, 0, none⟩))), (5, .raw (.int .i64 k))]) (fun _ => .box b 59 (eSto x) :: LF) 0 ⟨by simp, by simp⟩ ⟨rfl, rfl, rfl⟩ (.refl _) ?_
  rintro k ⟨hk, he⟩
  have fin : (∀ h : k < s.length, decide (cmpD s[k].id x.id < 0) = false) → putS s x = s.take k ++ [x] ++ s.drop k := fun hn => by
    obtain ⟨e1, e2⟩ := while_at (q := fun (y : Sto) => decide (cmpD y.id x.id < 0)) hk he hn
    rw [putS, e1, e2]; simp
  refine walk ?_
  refine pops_cutE [(21, .raw (.bool (decide ((k : Int) < s.length ∧ cmpD (s.getD k Sto.zero).id x.id < 0)))), (0, .slice (s.map eSto) t), (3, .raw (.pointer (some ⟨b, 0, none⟩))), (5, .raw (.int .i64 k))] (.box b 59 (eSto x) :: LF) ?_ ?_
  · repeat' (first | (refine pwp_condD (fun h => ?_) (fun h => ?_) <;> refine walk ?_) | (refine pwp_condN (fun h => ?_) (fun h => ?_) <;> refine walk ?_) | (refine pwp_condB (fun h => ?_) (fun h => ?_) <;> refine walk ?_) | (refine pops_if (fun h => ?_) (fun h => ?_) <;> (have h2 := h; (try simp only [decide_eq_true_eq, decide_eq_false_iff_not, Bool.not_eq_true', Bool.not_eq_false'] at h2); refine walkp ?_)))
    all_goals (refine ⟨⟨holdsB (by rfl) ?_, rfl, rfl, rfl⟩, .refl _⟩; first | (simp_all [List.getD]; done) | grind)
  refine walk ?_
  refine pwp_condD (fun h => ?_) (fun h => ?_)
  · have hlt : k < s.length := by omega
    have e0 : s.getD k Sto.zero = s[k] := by simp [List.getD, hlt]
    rw [e0] at h
    refine walk ?_
    exact ⟨k + 1, ⟨by omega, upto_succ (q := fun (y : Sto) => decide (cmpD y.id x.id < 0)) he hlt (decide_eq_true h.2)⟩, by dsimp only; omega, ⟨rfl, rfl, rfl⟩, .refl _⟩
  have hput := fin (fun hlt => by
    have e0 : s.getD k Sto.zero = s[k] := by simp [List.getD, hlt]
    rw [e0] at h
    exact decide_eq_false (fun h' => h ⟨by omega, h'⟩))
  clear fin
  refine walkn ?_
  refine pwp_drawP 4 [4, 7] ?_ ?_
  · decide +kernel
  refine walkp ?_
  have tl : (s.take k).length ≤ 1000 := by rw [List.length_take]; omega
  have dl : (s.drop k).length ≤ 1000 := by rw [List.length_drop]; omega
  refine pAny_next (fuel := 4) [4, 5] (by decide +kernel) (by simp) fun i hi => ?_
  simp only [List.mem_cons, List.not_mem_nil, or_false] at hi
  rcases hi with rfl | rfl
  · refine ⟨_, rfl, ?_⟩
    refine walkap fun t1 => ?_
    refine pAny_next (fuel := 3) [5] (by decide +kernel) (by simp) fun i hi => ?_
    simp only [List.mem_cons, List.not_mem_nil, or_false] at hi
    subst hi
    refine ⟨_, rfl, ?_⟩
    refine walkp ?_
    refine pAny_next (fuel := 2) [6] (by decide +kernel) (by simp) fun i hi => ?_
    simp only [List.mem_cons, List.not_mem_nil, or_false] at hi
    subst hi
    refine ⟨_, rfl, ?_⟩
    refine walkp ?_
    refine pAny_next (fuel := 1) [7] (by decide +kernel) (by simp) fun i hi => ?_
    simp only [List.mem_cons, List.not_mem_nil, or_false] at hi
    subst hi
    refine ⟨_, rfl, ?_⟩
    refine walkap fun t2 => ?_
    refine pAny_next (fuel := 0) [8] (by decide +kernel) (by simp) fun i hi => ?_
    simp only [List.mem_cons, List.not_mem_nil, or_false] at hi
    subst hi
    refine ⟨_, rfl, ?_⟩
    refine walkp ?_
    refine pAny_end (by decide +kernel) ?_
    refine walka fun t3 => ?_
    refine end1 (.ros ?_)
    rw [hput]
  · refine ⟨_, rfl, ?_⟩
    refine walkp ?_
    refine pAny_next (fuel := 3) [4, 6] (by decide +kernel) (by simp) fun i hi => ?_
    simp only [List.mem_cons, List.not_mem_nil, or_false] at hi
    rcases hi with rfl | rfl
    · refine ⟨_, rfl, ?_⟩
      refine walkap fun t1 => ?_
      refine pAny_next (fuel := 2) [6] (by decide +kernel) (by simp) fun i hi => ?_
      simp only [List.mem_cons, List.not_mem_nil, or_false] at hi
      subst hi
      refine ⟨_, rfl, ?_⟩
      refine walkp ?_
      refine pAny_next (fuel := 1) [7] (by decide +kernel) (by simp) fun i hi => ?_
      simp only [List.mem_cons, List.not_mem_nil, or_false] at hi
      subst hi
      refine ⟨_, rfl, ?_⟩
      refine walkap fun t2 => ?_
      refine pAny_next (fuel := 0) [8] (by decide +kernel) (by simp) fun i hi => ?_
      simp only [List.mem_cons, List.not_mem_nil, or_false] at hi
      subst hi
      refine ⟨_, rfl, ?_⟩
      refine walkp ?_
      refine pAny_end (by decide +kernel) ?_
      refine walka fun t3 => ?_
      refine end1 (.ros ?_)
      rw [hput]
    · refine ⟨_, rfl, ?_⟩
      refine walkp ?_
      refine pAny_next (fuel := 2) [4] (by decide +kernel) (by simp) fun i hi => ?_
      simp only [List.mem_cons, List.not_mem_nil, or_false] at hi
      subst hi
      refine ⟨_, rfl, ?_⟩
      refine walkap fun t1 => ?_
      refine pAny_next (fuel := 1) [7] (by decide +kernel) (by simp) fun i hi => ?_
      simp only [List.mem_cons, List.not_mem_nil, or_false] at hi
      subst hi
      refine ⟨_, rfl, ?_⟩
      refine walkap fun t2 => ?_
      refine pAny_next (fuel := 0) [8] (by decide +kernel) (by simp) fun i hi => ?_
      simp only [List.mem_cons, List.not_mem_nil, or_false] at hi
      subst hi
      refine ⟨_, rfl, ?_⟩
      refine walkp ?_
      refine pAny_end (by decide +kernel) ?_
      refine walka fun t3 => ?_
      refine end1 (.ros ?_)
      rw [hput]⟩
end Go.Proofs
