/- Plain: what a patch needs, sorted and without doubles, is what the reference says. -/
import Derived.Test.YtddlffkdpocmhaaGreatDoorVao
import Derived.Test.YtddlffkdpocmhaaGreatDoorVan
import Derived.ProofKit
import Derived.SizedLaws
import Derived.OpenShut
set_option linter.unusedSimpArgs false
set_option linter.unusedVariables false
namespace Go.Proofs
open Go Go.Q Go.Sort

theorem sortD_sorted (l : List Dig) : (sortD l).Pairwise fun x y => ¬ Dig.lt y x := by
  have h := List.pairwise_mergeSort (le := fun x y => !(ltOf cmpD) y x) (fun a b c h1 h2 => by
    simp only [Bool.not_eq_true', ltOf, decide_eq_false_iff_not] at h1 h2 ⊢
    intro h3
    have h1 : ¬ Dig.lt b a := h1
    have h2 : ¬ Dig.lt c b := h2
    have h3 : Dig.lt c a := h3
    rcases Dig.tri a b with h | h | h
    · exact h2 (Dig.lt_trans h3 h)
    · subst h; exact h2 h3
    · exact h1 h) (fun a b => by
    simp only [Bool.or_eq_true, Bool.not_eq_true', ltOf, decide_eq_false_iff_not]
    by_cases h : Dig.lt b a
    · exact .inr (Dig.lt_asymm h)
    · exact .inl h) l
  refine h.imp fun {a b} hab => ?_
  simp only [Bool.not_eq_true', ltOf, decide_eq_false_iff_not] at hab
  exact hab
theorem ded_facts {l : List Dig} (h : l.Pairwise fun x y => ¬ Dig.lt y x) : ∀ j, j ≤ l.length → Asc (ded (l.take j)) ∧ ∀ d, d ∈ ded (l.take j) ↔ d ∈ l.take j := by
  intro j
  induction j with
  | zero => intro _; exact ⟨Asc.nil, fun d => by simp [ded]⟩
  | succ j ih =>
    intro hj
    obtain ⟨i1, i2⟩ := ih (by omega)
    have hlt : j < l.length := by omega
    by_cases h0 : j = 0
    · subst h0
      have e : l.take 1 = [l[0]] := by
        rw [List.take_succ_eq_append_getElem hlt]; rfl
      rw [e]
      exact ⟨List.pairwise_singleton _ _, fun d => Iff.rfl⟩
    rw [ded_take (by omega) hlt]
    by_cases e : l[j] = l[j - 1]
    · rw [if_pos e]
      refine ⟨i1, fun d => ?_⟩
      rw [i2, List.take_succ_eq_append_getElem hlt]
      simp only [List.mem_append, List.mem_singleton]
      refine ⟨.inl, fun h => h.elim id fun h => ?_⟩
      rw [h, e]
      exact List.mem_take_iff_getElem.2 ⟨j - 1, by omega, rfl⟩
    · rw [if_neg e]
      refine ⟨?_, fun d => ?_⟩
      · refine List.pairwise_append.2 ⟨i1, List.pairwise_singleton _ _, fun a ha b hb => ?_⟩
        rw [List.mem_singleton.1 hb]
        obtain ⟨i, hi, rfl⟩ := List.mem_take_iff_getElem.1 ((i2 a).1 ha)
        have hp := List.pairwise_iff_getElem.1 h
        have h3 : ¬ Dig.lt l[j] l[j - 1] := hp (j - 1) j (by omega) hlt (by omega)
        have h4 : Dig.lt l[j - 1] l[j] := by
          rcases Dig.tri l[j - 1] l[j] with h' | h' | h'
          · exact h'
          · exact absurd h'.symm e
          · exact absurd h' h3
        by_cases h5 : i = j - 1
        · subst h5; exact h4
        · have h6 : ¬ Dig.lt l[j - 1] l[i] := hp i (j - 1) (by omega) (by omega) (by omega)
          rcases Dig.tri l[i] l[j - 1] with h' | h' | h'
          · exact Dig.lt_trans h' h4
          · rw [h']; exact h4
          · exact absurd h' h6
      · rw [List.take_succ_eq_append_getElem hlt]
        simp only [List.mem_append, i2]
theorem nS_asc (l : List Dig) : Asc (ded (sortD l)) := by
  have := (ded_facts (sortD_sorted l) (sortD l).length (Nat.le_refl _)).1
  rwa [List.take_length] at this
theorem nS_mem (l : List Dig) (d : Dig) : d ∈ ded (sortD l) ↔ d ∈ l := by
  have := (ded_facts (sortD_sorted l) (sortD l).length (Nat.le_refl _)).2 d
  rw [List.take_length] at this
  rw [this]
  exact List.mem_mergeSort
theorem mem_rForeign {l : List Ident} {d : Dig} : d ∈ rForeign l ↔ ∃ x ∈ l, x.patch ≠ Dig.zero ∧ x.patch = d := by
  unfold rForeign
  simp only [List.mem_map, List.mem_filter, Bool.not_eq_true', decide_eq_false_iff_not]
  constructor
  · rintro ⟨x, ⟨h1, h2⟩, h3⟩; exact ⟨x, h1, h2, h3⟩
  · rintro ⟨x, h1, h2, h3⟩; exact ⟨x, ⟨h1, h2⟩, h3⟩
theorem fgn_eq (rs : List Rfc) : fgn rs = rForeign (rs.map Rfc.id) := by
  unfold fgn rForeign
  rw [List.filter_map, List.map_map]
  rfl
theorem unused {c : Chg} (h : rFields c = 0) : (¬ (2 ≤ c.kind ∧ c.kind ≤ 6) → c.file = Ident.zero) ∧ (c.kind ≠ 2 → c.parent = Ident.zero) ∧ (¬ (c.kind = 5 ∨ c.kind = 6) → c.after = Ident.zero ∧ c.before = Ident.zero) := by
  unfold rFields at h
  split at h
  · omega
  split at h
  · omega
  rename_i h2
  simp only [Bool.not_eq_false, rEmpty, Bool.and_eq_true, decide_eq_true_eq] at h2
  obtain ⟨⟨⟨⟨⟨⟨⟨⟨⟨a1, _⟩, a2⟩, _⟩, _⟩, _⟩, a3⟩, a4⟩, _⟩, _⟩ := h2
  refine ⟨fun h => ?_, fun h => ?_, fun h => ⟨?_, ?_⟩⟩
  · have a : (if 2 ≤ c.kind ∧ c.kind ≤ 6 then Ident.zero else c.file) = Ident.zero := a1
    rwa [if_neg h] at a
  · have a : (if c.kind = 2 then Ident.zero else c.parent) = Ident.zero := a2
    rwa [if_neg h] at a
  · have a : (if c.kind = 5 ∨ c.kind = 6 then Ident.zero else c.after) = Ident.zero := a3
    rwa [if_neg h] at a
  · have a : (if c.kind = 5 ∨ c.kind = 6 then Ident.zero else c.before) = Ident.zero := a4
    rwa [if_neg h] at a
theorem refs_mem {c : Chg} (h : rFields c = 0) (d : Dig) : d ∈ fgn (refsP c) ↔ d ∈ rForeign (rIds c) := by
  obtain ⟨u1, u2, u3⟩ := unused h
  have hz : Ident.zero.patch = Dig.zero := rfl
  rw [fgn_eq, mem_rForeign, mem_rForeign]
  have key : ∀ x : Ident, x.patch ≠ Dig.zero → (x ∈ (refsP c).map Rfc.id ↔ x ∈ rIds c) := fun x hx => by
    have hk := rFields_kind h
    have e4 : ∀ l : List Ident, (refs4 c l).map Rfc.id = l := fun l => by
      rw [refs4, List.map_map]
      show l.map (fun x => x) = l
      simp
    unfold refsP rIds
    simp only [List.map_append, e4, List.mem_append, List.mem_cons, List.not_mem_nil, or_false]
    have n1 : x = Ident.zero → False := fun e => hx (by rw [e]; rfl)
    have n2 : x = ⟨Dig.zero, -1⟩ → False := fun e => hx (by rw [e])
    rcases kinds hk with k | k | k | k | k | k | k <;> simp only [refs1, refs2, refs3, k] at u1 u2 u3 ⊢ <;> simp <;> grind
  constructor
  · rintro ⟨x, h1, h2, h3⟩; exact ⟨x, (key x h2).1 h1, h2, h3⟩
  · rintro ⟨x, h1, h2, h3⟩; exact ⟨x, (key x h2).2 h1, h2, h3⟩
theorem rChanges_fields : ∀ (l : List Chg) (own : List Atm), (rChanges l own).2 = 0 → ∀ c ∈ l, rFields c = 0
  | [], _, _, c, hc => by cases hc
  | x :: l, own, h, c, hc => by
    rw [rChanges] at h
    split at h
    · rename_i h1; exact absurd h h1
    rename_i h1
    split at h
    · rename_i h2; exact absurd h h2
    rcases List.mem_cons.1 hc with rfl | hc
    · simpa using h1
    · exact rChanges_fields l _ h c hc
theorem needs_mem : ∀ (cs : List Chg) (m : List Dig) (d : Dig), d ∈ cs.foldl rNeedsC m ↔ d ∈ m ∨ ∃ c ∈ cs, d ∈ rForeign (rIds c)
  | [], m, d => by simp
  | c :: cs, m, d => by
    rw [List.foldl_cons, needs_mem cs, rNeedsC, mem_withAll]
    simp only [List.mem_cons, exists_eq_or_imp, or_assoc]
theorem needs_asc : ∀ (cs : List Chg) (m : List Dig), Asc m → Asc (cs.foldl rNeedsC m)
  | [], m, h => h
  | c :: cs, m, h => needs_asc cs _ (withAll_asc h)
theorem nP_eq (p : Pat) : nP p = rNeeds p := by
  unfold nP rNeeds
  by_cases h : (rEncodeP p).2 ≠ 0
  · rw [if_pos h, if_pos h]
  rw [if_neg h, if_neg h]
  have h0 : (rCheckP p).2 = 0 := by
    by_cases h1 : (rCheckP p).2 ≠ 0
    · rw [rEncodeP, if_pos h1] at h; exact absurd h1 h
    · simpa using h1
  have hF : ∀ c ∈ p.changes, rFields c = 0 := by
    rw [checkP_head] at h0
    split at h0
    · rename_i h1; exact absurd h0 h1
    · exact rChanges_fields _ _ h0
  refine Asc.ext (nS_asc _) (needs_asc _ _ (withAll_asc Asc.nil)) fun d => ?_
  rw [nS_mem, needs_mem, mem_withAll, nList]
  simp only [List.mem_append, List.mem_flatMap, List.not_mem_nil, false_or]
  constructor
  · rintro (h | ⟨c, hc, h⟩)
    · exact .inl h
    · exact .inr ⟨c, hc, (refs_mem (hF c hc) d).1 h⟩
  · rintro (h | ⟨c, hc, h⟩)
    · exact .inl h
    · exact .inr ⟨c, hc, (refs_mem (hF c hc) d).2 h⟩
instance NeedsP_ct (p : Pat) [hs : Small (rGreat p = false)] : FnC Tryz.prog 65 [.agg (ePat p)] (.slice ((rNeeds p).map eDig) .ro) := nP_eq p ▸ needsP_fn p
end Go.Proofs
/- Contracts of the program: what each patch of a set needs. -/
namespace Go.Proofs
open Go Go.Q
attribute [local irreducible] pwp pops PCalls OpN

def gr (s : List Sto) : List (Dig × List Dig) := s.foldl (fun m x => mSet x.id (rNeeds x.patch) m) []
theorem gr_take {s : List Sto} {k : Nat} (h : k < s.length) : gr (s.take (k + 1)) = mSet s[k].id (rNeeds s[k].patch) (gr (s.take k)) := by
  rw [List.take_succ_eq_append_getElem h, gr, List.foldl_append]; rfl
instance graphOf_ct (s : List Sto) (t : Tag) [hs : Small (goodS s)] : FnC Tryz.prog 81 [.slice (s.map eSto) t] (.fmap (eMap kDig (vSl eDig) (gr s))) := ⟨by
  have hs := hs.out
  refine fn_of Tryz.func81 Tryz.ntmps81 rfl (rs := [.tmp 2]) rfl rfl fun hb LF => ?_
  refine wfm fun b => ?_
  refine pwp_loopS (σ := Nat) (fun k => k ≤ s.length) (fun k => s.length - k) (fun k => [(3, .raw (.map (some b))), (7, .slice (s.map eSto) t), (8, .raw (.int .i64 s.length)), (9, .raw (.int .i64 k))]) (fun k => .map b (eMap kDig (vSl eDig) (gr (s.take k))) :: LF) 0 (by simp) ⟨rfl, rfl, rfl, rfl⟩ (.refl _) ?_
  intro k hk
  refine wf ?_
  refine pwp_condD (fun hc => ?_) (fun hc => ?_)
  · have hlt : k < s.length := by omega
    have h8 := hs.1
    have : Small (rGreat s[k].patch = false) := ⟨hs.2 _ (List.getElem_mem hlt)⟩
    refine wz fun b5 => ?_
    refine pwp_freezeD 5 ?_
    refine wn ?_
    refine pwp_drawN 6 ?_ ?_
    · decide +kernel
    refine wf ?_
    refine ⟨k + 1, by omega, by dsimp only; omega, ⟨rfl, rfl, rfl, rfl⟩, ?_⟩
    dsimp only
    rw [gr_take hlt]
    exact .refl _
  · refine pwp_exit ?_
    rw [List.take_of_length_le (by omega)]
    refine pwp_freezeM [(3, .fmap (eMap kDig (vSl eDig) (gr s)))] (.inr ⟨rfl, rfl⟩) (.refl _) ?_
    refine wf ?_
    exact end1 (.refl _)⟩
end Go.Proofs
/- Contracts of the program: what can be reached: the closure that collects. -/
namespace Go.Proofs
open Go Go.Q
attribute [local irreducible] pwp pops PCalls OpN

def addO (out l : List Dig) : List Dig := l.foldl (fun o d => if d ∈ o then o else o ++ [d]) out
theorem addO_take {out l : List Dig} {k : Nat} (h : k < l.length) : addO out (l.take (k + 1)) = if l[k] ∈ addO out (l.take k) then addO out (l.take k) else addO out (l.take k) ++ [l[k]] := by
  rw [List.take_succ_eq_append_getElem h, addO, List.foldl_append]; rfl
theorem addO_len (out : List Dig) : ∀ l : List Dig, (addO out l).length ≤ out.length + l.length := by
  intro l
  induction l generalizing out with
  | nil => simp [addO]
  | cons x l ih =>
    have := ih (if x ∈ out then out else out ++ [x])
    rw [addO, List.foldl_cons]
    refine Nat.le_trans this ?_
    split <;> simp <;> omega
/-- The word of met: who has come. -/
def MetOk (met : List (Dig × Bool)) (out : List Dig) : Prop := ∀ d, (mGet d met).getD false = decide (d ∈ out)
theorem MetOk.add {met : List (Dig × Bool)} {out : List Dig} (h : MetOk met out) (d : Dig) : MetOk (mSet d true met) (out ++ [d]) := fun x => by
  rw [mGet_mSet]
  by_cases e : x = d
  · subst e; simp
  · rw [if_neg e, h x]; simp [e]
/-- What the closure holds: met, out. -/
def Coll (b6 m b7 : Nat) (out : List Dig) (L : List Res) : Prop := ∃ met v R, MetOk met out ∧ DRow v out R ∧ L = .box b6 130 [.raw (.map (some m))] :: .map m (eMap kDig vBool met) :: .box b7 25 [.raw v] :: R
theorem perm_three {a b c : Res} {L LF : List Res} : (a :: b :: c :: (L ++ LF)).Perm (L ++ (a :: b :: c :: LF)) := ((List.perm_middle (l₁ := L)).trans (.cons a ((List.perm_middle (l₁ := L)).trans (.cons b List.perm_middle)))).symm
def allG (G : List (Dig × List Dig)) (l : List Dig) : Bool := l.all fun d => (mGet d G).isSome
set_option maxHeartbeats 400000 in
theorem coll_fn (G : List (Dig × List Dig)) (l : List Dig) (t : Tag) (b6 m b7 : Nat) (out : List Dig) (L : List Res) (hL : Coll b6 m b7 out L) (hb : out.length + l.length ≤ 1000) :
    PCalls Tryz.prog 115 [.slice (l.map eDig) t, .pt [.fmap (eMap kDig (vSl eDig) G)] 0, .raw (.pointer (some ⟨b6, 0, none⟩)), .raw (.pointer (some ⟨b7, 0, none⟩))] L (fun r L' => r = .raw (.bool (allG G l)) ∧ ∃ out', Coll b6 m b7 out' L' ∧ (allG G l = true → out' = addO out l)) := by
  refine pcalls_bd Tryz.func115 rfl Tryz.ntmps115 (rs := [.tmp 5]) rfl rfl fun hbd LF => ?_
  refine wf ?_
  refine pwp_loopS (σ := Nat × List Res) (fun k => k.1 ≤ l.length ∧ (∀ i (h : i < l.length), i < k.1 → (mGet l[i] G).isSome = true) ∧ Coll b6 m b7 (addO out (l.take k.1)) k.2) (fun k => l.length - k.1) (fun k => [(1, .pt [.fmap (eMap kDig (vSl eDig) G)] 0), (2, .raw (.pointer (some ⟨b6, 0, none⟩))), (3, .raw (.pointer (some ⟨b7, 0, none⟩))), (10, .slice (l.map eDig) t), (11, .raw (.int .i64 l.length)), (12, .raw (.int .i64 k.1))]) (fun k => k.2 ++ LF) (0, L) ⟨by simp, by simp, hL⟩ ⟨rfl, rfl, rfl, rfl, rfl, rfl⟩ (.refl _) ?_
  rintro ⟨k, L1⟩ ⟨hk, hall, met, v, R, hm, hv, rfl⟩
  dsimp only at hk hall hm hv ⊢
  refine wf ?_
  refine pwp_condD (fun hc => ?_) (fun hc => ?_)
  · have hlt : k < l.length := by omega
    refine wz fun b => ?_
    refine pwp_freezeD 7 ?_
    refine wf ?_
    refine pwp_condB (fun h => ?_) (fun h => ?_)
    · have h0 : (mGet l[k] G).isSome = false := by simpa using h
      have hA : allG G l = false := by
        unfold allG
        exact List.all_eq_false.2 ⟨l[k], List.getElem_mem hlt, by simp [h0]⟩
      refine wf ?_
      exact ⟨trivial, _, _, .cons (.tmp 5) .nil, .refl _, by rw [hA]; exact rfl, _, ⟨met, v, R, hm, hv, rfl⟩, fun h => by rw [hA] at h; cases h⟩
    have hi : (mGet l[k] G).isSome = true := by simpa using h
    have hall' : ∀ i (h : i < l.length), i < k + 1 → (mGet l[i] G).isSome = true := fun i hi' hik => by
      rcases Nat.lt_or_ge i k with h' | h'
      · exact hall i hi' h'
      · have e : i = k := by omega
        subst e; exact hi
    refine wf ?_
    have hml := hm l[k]
    have ht := addO_take (out := out) hlt
    refine pwp_condB (fun h => ?_) (fun h => ?_)
    · have hno : l[k] ∉ addO out (l.take k) := by
        rw [hml] at h; simpa using h
      rw [if_neg hno] at ht
      have hol := addO_len out (l.take k)
      rw [List.length_take] at hol
      refine wf ?_
      refine s_mapUpd (κ := Dig) (ek := kDig) (ev := vBool) (k0 := l[k]) (x0 := true) (L' := .box b6 130 [.raw (.map (some m))] :: .box b7 25 [.raw v] :: (R ++ LF)) rfl (.swap _ _ _) (.refl _) (.refl _) ?_
      refine pops_nil ?_
      refine pwp_perm (.swap _ _ _) ?_
      refine wf ?_
      refine s_appRow (f := eDig) (m := [l[k]]) (R := R) (LF := .box b6 130 [.raw (.map (some m))] :: .map m (eMap kDig vBool (mSet l[k] true met)) :: .box b7 25 [.raw v] :: LF) (fun R' => .box b6 130 [.raw (.map (some m))] :: .map m (eMap kDig vBool (mSet l[k] true met)) :: .box b7 25 [.raw v] :: (R' ++ LF)) rfl rfl hv perm_three (fun R' => perm_three.symm) (by simp only [List.length_cons, List.length_nil]; omega) (by simp only [List.length_cons, List.length_nil]; omega) fun v2 R2 hv2 => ?_
      refine wf ?_
      refine s_storeV [.raw v2] rfl rfl hv2.one rfl (by simp) ?_
      refine wf ?_
      refine wf ?_
      refine ⟨(k + 1, _), ⟨by dsimp only; omega, hall', mSet l[k] true met, v2, R2, ?_, ?_, rfl⟩, by dsimp only; omega, ⟨rfl, rfl, rfl, rfl, rfl, rfl⟩, .refl _⟩
      · dsimp only; rw [ht]; exact hm.add _
      · dsimp only; rw [ht]; exact hv2
    · have hyes : l[k] ∈ addO out (l.take k) := by
        rw [hml] at h; simpa using h
      rw [if_pos hyes] at ht
      refine wf ?_
      exact ⟨(k + 1, _), ⟨by dsimp only; omega, hall', met, v, R, by dsimp only; rw [ht]; exact hm, by dsimp only; rw [ht]; exact hv, rfl⟩, by dsimp only; omega, ⟨rfl, rfl, rfl, rfl, rfl, rfl⟩, .refl _⟩
  · have hA : allG G l = true := by
      unfold allG
      refine List.all_eq_true.2 fun d hd => ?_
      obtain ⟨i, hi, rfl⟩ := List.mem_iff_getElem.1 hd
      exact hall i hi (by omega)
    refine wf ?_
    rw [List.take_of_length_le (by omega)] at hm hv
    exact ⟨trivial, _, _, .cons (.tmp 5) .nil, .refl _, by rw [hA]; exact rfl, _, ⟨met, v, R, hm, hv, rfl⟩, fun _ => rfl⟩
end Go.Proofs
/- Plain: what a graph's search collects, and that it is the closure. -/
namespace Go.Proofs
open Go Go.Q

def ndG (G : List (Dig × List Dig)) (d : Dig) : List Dig := (mGet d G).getD []
theorem addO_cons (out : List Dig) (x : Dig) (l : List Dig) : addO out (x :: l) = addO (if x ∈ out then out else out ++ [x]) l := rfl
theorem mem_addO : ∀ {l out : List Dig} {d : Dig}, d ∈ addO out l ↔ d ∈ out ∨ d ∈ l
  | [], out, d => by simp [addO]
  | x :: l, out, d => by
    rw [addO_cons, mem_addO]
    split
    · rename_i h
      constructor
      · rintro (h1 | h1)
        · exact .inl h1
        · exact .inr (List.mem_cons_of_mem _ h1)
      · rintro (h1 | h1)
        · exact .inl h1
        · rcases List.mem_cons.1 h1 with rfl | h1
          · exact .inl h
          · exact .inr h1
    · simp [or_assoc]
theorem addO_nodup : ∀ {l out : List Dig}, out.Nodup → (addO out l).Nodup
  | [], _, h => h
  | x :: l, out, h => by
    rw [addO_cons]
    refine addO_nodup ?_
    split
    · exact h
    · rename_i hx
      refine List.pairwise_append.2 ⟨h, List.pairwise_singleton _ _, fun a ha b hb => ?_⟩
      rw [List.mem_singleton.1 hb]
      rintro rfl
      exact hx ha
theorem addO_prefix : ∀ {l out : List Dig}, out <+: addO out l
  | [], _ => List.prefix_refl _
  | x :: l, out => by
    rw [addO_cons]
    refine List.IsPrefix.trans ?_ addO_prefix
    split
    · exact List.prefix_refl _
    · exact List.prefix_append _ _
/-- The search, some of whose finds have been looked at. -/
structure ClI (nd : Dig → List Dig) (l out : List Dig) (i : Nat) : Prop where
  nodup : out.Nodup
  sub : ∀ d ∈ l, d ∈ out
  reach : ∀ d ∈ out, Q.Reach nd l d
  done : ∀ j (h : j < out.length), j < i → ∀ d ∈ nd out[j], d ∈ out
theorem ClI.start (nd : Dig → List Dig) (l : List Dig) : ClI nd l (addO [] l) 0 :=
  ⟨addO_nodup .nil, fun d hd => mem_addO.2 (.inr hd), fun d hd => .base ((mem_addO.1 hd).elim (fun h => absurd h (by simp)) id), fun _ _ h => absurd h (by omega)⟩
theorem ClI.step {nd : Dig → List Dig} {l out : List Dig} {i : Nat} (h : ClI nd l out i) (hi : i < out.length) : ClI nd l (addO out (nd out[i])) (i + 1) := by
  refine ⟨addO_nodup h.nodup, fun d hd => mem_addO.2 (.inl (h.sub d hd)), fun d hd => ?_, fun j hj hji d hd => ?_⟩
  · rcases mem_addO.1 hd with h1 | h1
    · exact h.reach d h1
    · exact .step (h.reach _ (List.getElem_mem hi)) h1
  · have hjo : j < out.length := by omega
    have e : (addO out (nd out[i]))[j] = out[j] := (addO_prefix.getElem hjo).symm
    rw [e] at hd
    by_cases hj2 : j < i
    · exact mem_addO.2 (.inl (h.done j hjo hj2 d hd))
    · have hje : j = i := by omega
      subst hje
      exact mem_addO.2 (.inr hd)
theorem ClI.fin {nd : Dig → List Dig} {l out : List Dig} {i : Nat} (h : ClI nd l out i) (hi : out.length ≤ i) (d : Dig) : d ∈ out ↔ Q.Reach nd l d := by
  refine ⟨h.reach d, fun hr => ?_⟩
  induction hr with
  | base hd => exact h.sub _ hd
  | step _ hd ih =>
    obtain ⟨j, hj, rfl⟩ := List.mem_iff_getElem.1 ih
    exact h.done j hj (by omega) _ hd
theorem ClI.len {nd : Dig → List Dig} {l out U : List Dig} {i : Nat} (h : ClI nd l out i) (hU : ∀ x ∈ U, ∀ d ∈ nd x, d ∈ U) (hl : ∀ d ∈ l, d ∈ U) : out.length ≤ U.length :=
  nodup_len h.nodup fun d hd => (h.reach d hd).in_ hU hl
theorem sortD_asc {l : List Dig} (h : l.Nodup) : Asc (sortD l) := by
  have h2 : (sortD l).Nodup := (List.mergeSort_perm l _).nodup_iff.2 h
  refine List.pairwise_iff_getElem.2 fun i j hi hj hij => ?_
  have a := List.pairwise_iff_getElem.1 (sortD_sorted l) i j hi hj hij
  have b := List.pairwise_iff_getElem.1 h2 i j hi hj hij
  rcases Dig.tri (sortD l)[i] (sortD l)[j] with h' | h' | h'
  · exact h'
  · exact absurd h' b
  · exact absurd h' a
theorem sortD_mem {l : List Dig} {d : Dig} : d ∈ sortD l ↔ d ∈ l := List.mem_mergeSort

theorem gr_is : ∀ (s : List Sto) (m : List (Dig × List Dig)) (d : Dig), (mGet d (s.foldl (fun m x => mSet x.id (rNeeds x.patch) m) m)).isSome = (decide (d ∈ ids s) || (mGet d m).isSome)
  | [], m, d => by simp [ids]
  | x :: s, m, d => by
    rw [List.foldl_cons, gr_is s, mGet_mSet]
    by_cases e : d = x.id <;> simp [ids, e]
theorem gr_val : ∀ (s : List Sto) (m : List (Dig × List Dig)) (d : Dig) (r : List Dig), mGet d (s.foldl (fun m x => mSet x.id (rNeeds x.patch) m) m) = some r → (∃ x ∈ s, x.id = d ∧ r = rNeeds x.patch) ∨ mGet d m = some r
  | [], m, d, r, h => .inr h
  | x :: s, m, d, r, h => by
    rw [List.foldl_cons] at h
    rcases gr_val s _ d r h with ⟨y, hy, h1, h2⟩ | h1
    · exact .inl ⟨y, List.mem_cons_of_mem _ hy, h1, h2⟩
    · rw [mGet_mSet] at h1
      split at h1
      · rename_i e
        exact .inl ⟨x, List.mem_cons_self, e.symm, (Option.some.inj h1).symm⟩
      · exact .inr h1
theorem gr_some (s : List Sto) (d : Dig) : (mGet d (gr s)).isSome = decide (d ∈ ids s) := by
  rw [gr, gr_is]; simp [mGet]
theorem Valid.ndG {s : List Sto} (v : Valid s) : Go.Proofs.ndG (gr s) = Go.Proofs.ndS s := by
  funext d
  have h1 := gr_some s d
  unfold Go.Proofs.ndG
  cases hg : mGet d (gr s) with
  | none =>
    rw [hg] at h1
    have hd : ¬ d ∈ ids s := by simpa using h1
    have hn : Go.Proofs.getS s d = none := by
      cases hs : Go.Proofs.getS s d with
      | none => rfl
      | some p =>
        obtain ⟨x, hx, e, _⟩ := getS_mem hs
        exact absurd (List.mem_map.2 ⟨x, hx, e⟩) hd
    rw [Go.Proofs.ndS, hn, Option.getD_none, Option.getD_none, needs_zero]
  | some r =>
    rcases gr_val s [] d r hg with ⟨x, hx, e, rfl⟩ | h2
    · subst e
      rw [v.ndS hx]; rfl
    · simp [mGet] at h2
end Go.Proofs
/- Contracts of the program: what can be reached; closures. -/
namespace Go.Proofs
open Go Go.Q
attribute [local irreducible] pwp pops PCalls OpN

/-- What a graph answers. -/
def clG (G : List (Dig × List Dig)) (U l : List Dig) : List Dig × Bool := if allG G l = false then ([], false) else (iterC (ndG G) U.length (withAll [] l), true)
structure GrOk (G : List (Dig × List Dig)) (U : List Dig) : Prop where
  is : ∀ d, (mGet d G).isSome = decide (d ∈ U)
  len : U.length ≤ 100
  cl : ∀ x ∈ U, ∀ d ∈ ndG G x, d ∈ U
  nd : ∀ x, (ndG G x).length ≤ 400
theorem GrOk.all {G : List (Dig × List Dig)} {U l : List Dig} (h : GrOk G U) : allG G l = true ↔ ∀ d ∈ l, d ∈ U := by
  unfold allG
  rw [List.all_eq_true]
  exact ⟨fun k d hd => by have := k d hd; rw [h.is] at this; exact of_decide_eq_true this, fun k d hd => by rw [h.is]; exact decide_eq_true (k d hd)⟩
theorem zeroRow : ZeroE Tryz.prog 25 [.raw (.slice none 0 0)] := zero1 (v := .slice none 0 0) (by kernel_rfl) rfl fun _ => .raw _
set_option maxHeartbeats 1000000 in
theorem reached_fn (G : List (Dig × List Dig)) (U : List Dig) (hG : GrOk G U) (l : List Dig) (t : Tag) (hl : l.length ≤ 400) : FnC Tryz.prog 82 [.fmap (eMap kDig (vSl eDig) G), .slice (l.map eDig) t] (.tuple [.slice ((clG G U l).1.map eDig) .ro, .raw (.bool (clG G U l).2)]) := ⟨by
  refine fn_of Tryz.func82 Tryz.ntmps82 rfl (rs := [.tmp 4, .tmp 5]) rfl rfl fun hb LF => ?_
  refine wf ?_
  refine j_makeMap fun m => ?_
  refine s_alloc fun b6 => ?_
  refine wf ?_
  refine s_alloc (hZ := zeroRow) fun b7 => ?_
  refine wf ?_
  refine s_callR (xs := [.tmp 13]) [.box b6 130 [.raw (.map (some m))], .map m (eMap kDig vBool []), .box b7 25 [.raw (.slice none 0 0)]] LF (f := 115) (cs := [.pt [.fmap (eMap kDig (vSl eDig) G)] 0, .raw (.pointer (some ⟨b6, 0, none⟩)), .raw (.pointer (some ⟨b7, 0, none⟩))]) (.refl _) rfl rfl (List.perm_middle (l₁ := [_, _])).symm _ (coll_fn G l t b6 m b7 [] _ ⟨[], .slice none 0 0, [], fun d => by simp [mGet], .nil none (by simp), rfl⟩ (by simp; omega)) fun r L1 ⟨hr, out0, hC, ho⟩ => ?_
  subst hr
  refine wf ?_
  refine pwp_condB (fun h => ?_) (fun h => ?_)
  · have h0 : allG G l = false := by simpa using h
    refine wf ?_
    refine end2 (hs := List.sublist_append_right _ _) ?_
    rw [clG, if_pos h0]
    exact .tuple2 (.ro _ _) (.refl _)
  have h1 : allG G l = true := by simpa using h
  have hlU := hG.all.1 h1
  rw [clG, if_neg (by simp [h1])]
  have ho := ho h1
  subst ho
  refine wf ?_
  refine pwp_loopS (σ := Nat × List Dig × List Res) (fun k => k.1 ≤ k.2.1.length ∧ ClI (ndG G) l k.2.1 k.1 ∧ Coll b6 m b7 k.2.1 k.2.2) (fun k => U.length - k.1) (fun k => [(2, .pt [.fmap (eMap kDig (vSl eDig) G)] 0), (7, .raw (.pointer (some ⟨b7, 0, none⟩))), (8, .clo 115 [.pt [.fmap (eMap kDig (vSl eDig) G)] 0, .raw (.pointer (some ⟨b6, 0, none⟩)), .raw (.pointer (some ⟨b7, 0, none⟩))]), (9, .raw (.int .i64 k.1))]) (fun k => k.2.2 ++ LF) (0, addO [] l, L1) ⟨by simp, ClI.start _ _, hC⟩ ⟨rfl, rfl, rfl, rfl⟩ (.refl _) ?_
  rintro ⟨k, out, L2⟩ ⟨hk, hI, met, v, R, hm, hv, rfl⟩
  dsimp only at hk hI hm hv ⊢
  have hol := hI.len hG.cl hlU
  have hUl := hG.len
  obtain ⟨o, c, rfl⟩ := hv.slice
  refine wf ?_
  refine s_lenR rfl ?_
  refine wf ?_
  refine pwp_condD (fun hc => ?_) (fun hc => ?_)
  · have hlt : k < out.length := by omega
    have hne : out ≠ [] := fun e => by subst e; simp at hlt
    obtain ⟨_, r, cur, rest, rfl, rfl, hcur, hsz, hlc⟩ := hv.inv hne
    refine wn ?_
    refine pwp_drawN 7 ?_ ?_
    · decide +kernel
    refine wf ?_
    refine s_ixRow (k := k) rfl rfl hlt ?_
    refine s_ldRow (f := eDig) (a0 := out[k]) rfl (List.mem_append_left _ (List.mem_cons_of_mem _ (List.mem_cons_of_mem _ (List.mem_cons_of_mem _ List.mem_cons_self)))) (by rw [hcur, Nat.zero_add]; exact row_at vDig_len out k hlt rest) (by omega) ?_
    refine wf ?_
    have hin : out[k] ∈ U := (hI.reach _ (List.getElem_mem hlt)).in_ hG.cl hlU
    have hA : allG G (ndG G out[k]) = true := hG.all.2 (hG.cl _ hin)
    have hnd := hG.nd out[k]
    refine s_callR (xs := [.tmp 28]) (.box b6 130 [.raw (.map (some m))] :: .map m (eMap kDig vBool met) :: .box b7 25 [.raw (.slice (some ⟨r, 0, none⟩) out.length c)] :: [.raw r (.cells cur 37 (0, 0))]) LF (f := 115) (cs := [.pt [.fmap (eMap kDig (vSl eDig) G)] 0, .raw (.pointer (some ⟨b6, 0, none⟩)), .raw (.pointer (some ⟨b7, 0, none⟩))]) (.refl _) rfl rfl (.refl _) _ (coll_fn G (ndG G out[k]) .ro b6 m b7 out _ ⟨met, _, _, hm, hv, rfl⟩ (by omega)) fun r L3 ⟨hr, out1, hC1, ho1⟩ => ?_
    have ho1 := ho1 hA
    subst ho1
    refine wf ?_
    refine wf ?_
    have hpl := (addO_prefix (out := out) (l := ndG G out[k])).length_le
    exact ⟨(k + 1, addO out (ndG G out[k]), L3), ⟨by dsimp only; omega, hI.step hlt, hC1⟩, by dsimp only; omega, ⟨rfl, rfl, rfl, rfl⟩, .refl _⟩
  have hfin := hI.fin (by omega)
  have hmx : (sortD out).length ≤ maxN ∧ (sortD out).length * 32 ≤ maxN := by
    have : maxN = 140737488355328 := rfl
    have h2 : (sortD out).length = out.length := List.length_mergeSort _
    omega
  refine wf ?_
  refine s_callR (xs := [.tmp 30, .func 83]) R (.box b6 130 [.raw (.map (some m))] :: .map m (eMap kDig vBool met) :: .box b7 25 [.raw (.slice o out.length c)] :: LF) (f := 110) (cs := []) (le_func _) rfl rfl perm_three _ (sort_fn out _ R hv (by omega)) fun r L3 ⟨v2, e2, hv2⟩ => ?_
  subst e2
  refine pops_nil ?_
  refine pwp_perm perm_three.symm ?_
  refine pwp_seq ?_
  refine pwp_region (by kernel_rfl) ?_
  refine wo ?_
  refine pops_nil ?_
  refine pwp_freezeRow (f := eDig) 4 hv2 hmx perm_three rfl ?_
  refine wf ?_
  refine end2 ?_
  have e : sortD out = iterC (ndG G) U.length (withAll [] l) := by
    refine Asc.ext (sortD_asc hI.nodup) (iterC_asc (withAll_asc .nil)) fun d => ?_
    rw [sortD_mem, hfin]
    exact (mem_iterC hG.cl hlU (Nat.le_refl _)).symm
  rw [e]
  exact .refl _⟩
theorem rNeeds_asc (p : Pat) : Asc (rNeeds p) := by
  unfold rNeeds
  split
  · exact .nil
  · exact needs_asc _ _ (withAll_asc .nil)
theorem ndS_asc (s : List Sto) (d : Dig) : Asc (ndS s d) := rNeeds_asc _
theorem Valid.grOk {s : List Sto} (v : Valid s) : GrOk (gr s) (ids s) := by
  have h8 := v.close.1.1
  refine ⟨gr_some s, by rw [ids_len]; omega, fun x _ d hd => ?_, fun x => ?_⟩
  · rw [v.ndG] at hd
    exact v.close.nd x d hd
  · rw [v.ndG]
    have := v.close.small (ndS_asc s x) (v.close.nd x)
    omega
theorem Valid.clG {s : List Sto} (v : Valid s) (l : List Dig) : (Go.Proofs.clG (gr s) (ids s) l).1 = (rClosure s l).1 ∧ (rClosure s l).2 = if (Go.Proofs.clG (gr s) (ids s) l).2 = false then 7 else 0 := by
  have h1 : allG (gr s) l = allIn (ids s) l := by
    unfold allG allIn
    congr 1
    funext d
    exact gr_some s d
  unfold Go.Proofs.clG rClosure
  rw [h1, v.ndG, ids_len]
  split <;> simp
instance ClosureP_ct (s : List Sto) (l : List Dig) (t u : Tag) [hs : Small (Valid s)] [hl : Small (l.length ≤ 400)] : FnC Tryz.prog 39 [.slice (s.map eSto) t, .slice (l.map eDig) u] (.tuple [.slice ((rClosure s l).1.map eDig) .ro, .raw (.int .i64 (rClosure s l).2)]) := ⟨by
  have v := hs.out
  have i1 : Small (goodS s) := ⟨v.close.1⟩
  have i2 := fun t => reached_fn (gr s) (ids s) v.grOk l t hl.out
  refine fn_of Tryz.func39 Tryz.ntmps39 rfl (rs := [.tmp 4, .tmp 5]) rfl rfl fun hb LF => ?_
  obtain ⟨e1, e2⟩ := v.clG l
  refine wf ?_
  refine pwp_condB (fun h => ?_) (fun h => ?_)
  · have h0 : (clG (gr s) (ids s) l).2 = false := by simpa using h
    rw [if_pos h0] at e2
    have e3 : (rClosure s l).1 = [] := by
      unfold rClosure at e2 ⊢
      split
      · rfl
      · rename_i h3
        rw [if_neg h3] at e2
        simp at e2
    refine wf ?_
    refine end2 ?_
    rw [e2, e3]
    exact .tuple2 (.ro _ _) (.refl _)
  · have h0 : (clG (gr s) (ids s) l).2 = true := by simpa using h
    rw [h0] at e2
    simp at e2
    refine wf ?_
    refine end2 ?_
    rw [e2, ← e1]
    exact .refl _⟩
end Go.Proofs
/- The small logic: a map turns no more that other resources point to. Library, no statement of its own. -/
namespace Go.Q
open Go

theorem Fm.vr {b : Nat} {kvs : List (PV × PV)} {x y : PV} {g : Gh} {v : Value} (h : Fm b kvs x y) (hb : VR g (.map (some b)) (.fmap kvs)) (hv : VR g v x) : VR g v y := by
  rcases h with rfl | ⟨rfl, rfl⟩
  · exact hv
  · rw [hv.raw_inv]; exact hb
theorem Inv.resLe {w : World} {g : Gh} {L : List Res} {r r' : Res} (hi : Inv w g (r :: L)) (hb : r'.block = r.block) (h : r.holds w g → r'.holds w g) : Inv w g (r' :: L) :=
  ⟨hi.sat, hi.satM, fun s hs => by
    rcases List.mem_cons.1 hs with rfl | hs
    · exact h (hi.res r List.mem_cons_self)
    · exact hi.res s (List.mem_cons_of_mem _ hs), by
    have := hi.nodup
    simp only [blocks, List.filterMap_cons, hb] at this ⊢
    exact this, hi.glob⟩
/-- What is known of a resource once the map b turns no more. -/
structure ResLe (b : Nat) (kvs : List (PV × PV)) (r r' : Res) : Prop where
  block : r'.block = r.block
  holds : ∀ w g, VR g (.map (some b)) (.fmap kvs) → r.holds w g → r'.holds w g
theorem ResLe.box {b bx T : Nat} {kvs : List (PV × PV)} {cs cs' : List PV} (hl : cs'.length = cs.length) (h : ∀ i (h1 : i < cs.length) (h2 : i < cs'.length), Fm b kvs cs[i] cs'[i]) : ResLe b kvs (.box bx T cs) (.box bx T cs') :=
  ⟨rfl, fun w g hb ⟨vs, h1, h2, h3, h4⟩ => ⟨vs, h1, ⟨h2.len.trans hl.symm, fun i a c => (h i (by omega) c).vr hb (h2.at_ i a (by omega))⟩, h3, h4⟩⟩
theorem ResLe.map {b bo : Nat} {kvs l l' : List (PV × PV)} (hl : l'.length = l.length) (h : ∀ i (h1 : i < l.length) (h2 : i < l'.length), l[i].1 = l'[i].1 ∧ Fm b kvs l[i].2 l'[i].2) : ResLe b kvs (.map bo l) (.map bo l') :=
  ⟨rfl, fun w g hb ⟨es, cl, h1, h2, h3, h4⟩ => ⟨es, cl, h1, ⟨h2.len.trans hl.symm, fun i a c => by
    rw [← (h i (by omega) c).1]; exact h2.key i a (by omega), fun i a c => (h i (by omega) c).2.vr hb (h2.val i a (by omega))⟩, h3, h4⟩⟩
theorem mSet_fm {κ : Type} [DecidableEq κ] {ek : κ → PV} {b : Nat} {kvs : List (PV × PV)} (d : κ) : ∀ (C : List (κ × PV)), (eMap ek vId (mSet d (.fmap kvs) C)).length = (eMap ek vId (mSet d (.raw (.map (some b))) C)).length ∧ ∀ i (h1 : i < (eMap ek vId (mSet d (.raw (.map (some b))) C)).length) (h2 : i < (eMap ek vId (mSet d (.fmap kvs) C)).length), (eMap ek vId (mSet d (.raw (.map (some b))) C))[i].1 = (eMap ek vId (mSet d (.fmap kvs) C))[i].1 ∧ Fm b kvs (eMap ek vId (mSet d (.raw (.map (some b))) C))[i].2 (eMap ek vId (mSet d (.fmap kvs) C))[i].2
  | [] => ⟨rfl, fun i h1 h2 => by
    match i, h1, h2 with
    | 0, _, _ => exact ⟨rfl, .inr ⟨rfl, rfl⟩⟩⟩
  | (a, y) :: C => by
    by_cases e : d = a
    · simp only [mSet, if_pos e]
      refine ⟨by simp [eMap], fun i h1 h2 => ?_⟩
      match i, h1, h2 with
      | 0, _, _ => exact ⟨rfl, .inr ⟨rfl, rfl⟩⟩
      | i + 1, _, _ => exact ⟨rfl, .inl rfl⟩
    · obtain ⟨ih1, ih2⟩ := mSet_fm (ek := ek) (b := b) (kvs := kvs) d C
      simp only [mSet, if_neg e]
      refine ⟨by simpa [eMap] using ih1, fun i h1 h2 => ?_⟩
      match i, h1, h2 with
      | 0, _, _ => exact ⟨rfl, .inl rfl⟩
      | i + 1, h1, h2 => exact ih2 i (by simpa [eMap] using h1) (by simpa [eMap] using h2)
theorem ResLe.mSet {κ : Type} [DecidableEq κ] {ek : κ → PV} {b bo : Nat} {kvs : List (PV × PV)} (d : κ) (C : List (κ × PV)) : ResLe b kvs (.map bo (eMap ek vId (mSet d (.raw (.map (some b))) C))) (.map bo (eMap ek vId (mSet d (.fmap kvs) C))) :=
  .map (mSet_fm d C).1 (mSet_fm d C).2
theorem mSet_map {κ α β : Type} [DecidableEq κ] (f : α → β) (k : κ) (x : α) : ∀ C : List (κ × α), mSet k (f x) (C.map fun p => (p.1, f p.2)) = (mSet k x C).map fun p => (p.1, f p.2)
  | [] => rfl
  | (a, y) :: C => by
    simp only [List.map_cons, mSet]
    split
    · rfl
    · rw [mSet_map f k x C]; rfl
theorem eMap_vId {κ α : Type} (ek : κ → PV) (ev : α → PV) (C : List (κ × α)) : eMap ek vId (C.map fun p => (p.1, ev p.2)) = eMap ek ev C := by
  simp [eMap, vId, Function.comp_def]
section
variable {P : Program} {N : Nat} {ρ : Env} {L : List Res} {Q : PPost} {c : Code}
theorem pwp_freezeMR {b : Nat} {kvs : List (PV × PV)} {r r' : Res} {L' : List Res} (hp : L.Perm (.map b kvs :: r :: L')) (hr : ResLe b kvs r r') (k : pwp P N c Q ρ (r' :: L')) : pwp P N c Q ρ L :=
  pwp_ghost (fun base a w g ha hI => by
    obtain ⟨g', h1, h2, h3, h4⟩ := hI.freezeM hp
    refine ⟨g', ⟨ha.size, ha.defers.mono h2.le, fun i => (ha.slot i).mono h2.le⟩, h1.resLe hr.block (hr.holds w g' h4), h2, fun b' hb' hlt => h3 b' ?_ hlt⟩
    have e : blocks (r' :: L') = blocks (r :: L') := by simp only [blocks, List.filterMap_cons, hr.block]
    rw [← e]; exact hb') k
end
end Go.Q
/- Contracts of the program: a search's start: the closures of all patches. -/
namespace Go.Proofs
open Go Go.Q
attribute [local irreducible] pwp pops PCalls OpN

def cm (l : List Dig) : List (Dig × Bool) := l.foldl (fun m x => mSet x true m) []
theorem cm_take {l : List Dig} {k : Nat} (h : k < l.length) : cm (l.take (k + 1)) = mSet l[k] true (cm (l.take k)) := by
  rw [List.take_succ_eq_append_getElem h, cm, List.foldl_append]; rfl
theorem mGet_cm (l : List Dig) (d : Dig) : (mGet d (cm l)).getD false = decide (d ∈ l) := by
  have key : ∀ (l : List Dig) (m : List (Dig × Bool)), (mGet d (l.foldl (fun m x => mSet x true m) m)).getD false = (decide (d ∈ l) || (mGet d m).getD false) := by
    intro l
    induction l with
    | nil => intro m; simp
    | cons x l ih =>
      intro m
      rw [List.foldl_cons, ih, mGet_mSet]
      by_cases e : d = x <;> simp [e]
  rw [cm, key]; simp [mGet]
/-- The closures of some of a set's patches. -/
def cM (s l : List Sto) : List (Dig × List (Dig × Bool)) := l.foldl (fun m x => mSet x.id (cm (cloS s x.id)) m) []
theorem cM_take {s l : List Sto} {k : Nat} (h : k < l.length) : cM s (l.take (k + 1)) = mSet l[k].id (cm (cloS s l[k].id)) (cM s (l.take k)) := by
  rw [List.take_succ_eq_append_getElem h, cM, List.foldl_append]; rfl
theorem mGet_cM (s l : List Sto) (p : Dig) : mGet p (cM s l) = if p ∈ ids l then some (cm (cloS s p)) else none := by
  have key : ∀ (l : List Sto) (m : List (Dig × List (Dig × Bool))), mGet p (l.foldl (fun m x => mSet x.id (cm (cloS s x.id)) m) m) = if p ∈ ids l then some (cm (cloS s p)) else mGet p m := by
    intro l
    induction l with
    | nil => intro m; simp [ids]
    | cons x l ih =>
      intro m
      rw [List.foldl_cons, ih, mGet_mSet]
      by_cases e : p = x.id
      · subst e; simp [ids]
      · by_cases h : p ∈ ids l
        · have : p ∈ ids (x :: l) := by simp only [ids, List.map_cons]; exact List.mem_cons_of_mem _ h
          simp [h, this]
        · have : ¬ p ∈ ids (x :: l) := by simp only [ids, List.map_cons, List.mem_cons, not_or]; exact ⟨e, h⟩
          simp [h, this, e]
  rw [cM, key]; simp [mGet]
theorem cloS_no {s : List Sto} {p : Dig} (h : ¬ p ∈ ids s) : cloS s p = [] := by
  have : allIn (ids s) [p] = false := by simp [allIn, h]
  rw [cloS, rClosure, if_pos this]
/-- What the closures say. -/
theorem isC_eq (s : List Sto) (p d : Dig) : (mGet d ((mGet p (cM s s)).getD [])).getD false = decide (d ∈ cloS s p) := by
  rw [mGet_cM]
  by_cases h : p ∈ ids s
  · rw [if_pos h, Option.getD_some, mGet_cm]
  · rw [if_neg h, cloS_no h]; simp [mGet]
theorem Valid.clo_len {s : List Sto} (v : Valid s) (p : Dig) : (cloS s p).length ≤ 40 := by
  by_cases h : p ∈ ids s
  · have ha : allIn (ids s) [p] = true := by simp [allIn, h]
    unfold cloS rClosure
    rw [if_neg (by simp [ha])]
    refine v.close.small (iterC_asc (withAll_asc .nil)) (iterC_in (U := ids s) (fun x _ d hd => v.close.nd x d hd) fun d hd => ?_)
    rcases mem_withAll.1 hd with h' | h'
    · cases h'
    · rw [List.mem_singleton.1 h']; exact h
  · rw [cloS_no h]; simp
def cV (C : List (Dig × List (Dig × Bool))) : List (Dig × PV) := C.map fun p => (p.1, vMap kDig vBool p.2)
theorem cV_set (d : Dig) (m : List (Dig × Bool)) (C : List (Dig × List (Dig × Bool))) : mSet d (.fmap (eMap kDig vBool m)) (cV C) = cV (mSet d m C) := mSet_map (vMap kDig vBool) d m C
theorem cV_map (C : List (Dig × List (Dig × Bool))) : eMap kDig vId (cV C) = eMap kDig (vMap kDig vBool) C := eMap_vId _ _ _
/-- A search. -/
def eSea (s : List Sto) : List PV := [.slice (s.map eSto) .ro] ++ [.fmap (eMap kDig (vMap kDig vBool) (cM s s))]
@[simp] theorem len_eSea (s : List Sto) : (eSea s).length = 2 := rfl
instance : Len eSea 2 := ⟨len_eSea⟩
instance (s : List Sto) : Flat (eSea s) := by unfold eSea; infer_instance
instance fld_Sea_clo (s : List Sto) : Fld (eSea s) 1 [.fmap (eMap kDig (vMap kDig vBool) (cM s s))] := fld_skip (n := 1) rfl fld_last
instance : ZeroE Tryz.prog 87 [.slice [] .ro, .raw (.map none)] := ZeroE.of (us := [PV.slice [] .ro, .raw (.map none)].map zv) (by kernel_rfl) (by kernel_rfl)
instance put2_0 {a b c : PV} : Put [a, b] 0 [c] [c, b] := put_here (a := [a]) (b := [b]) (new := [c]) rfl
instance put2_1 {a b c : PV} : Put [a, b] 1 [c] [a, c] := put_skip (a := [a]) (n := 1) (off := 0) rfl (put_last (a := [b]) (new := [c]) rfl)
instance {a b : PV} : LenIs [a, b] 2 := ⟨rfl⟩
instance {b : Option Nat} : CellsC (.raw (.map b)) [.raw (.map b)] := ⟨.one (Flat.out)⟩
set_option maxHeartbeats 2000000 in
instance begin_ct (s : List Sto) (t : Tag) [hs : Small (Valid s)] : FnC Tryz.prog 67 [.slice (s.map eSto) t] (.tuple [.agg (eSea s), .slice ((ids s).map eDig) .ro]) := ⟨by
  have v := hs.out
  have h8 := v.close.1.1
  refine fn_of Tryz.func67 Tryz.ntmps67 rfl (rs := [.cell 2 87, .tmp 3]) rfl rfl fun hb LF => ?_
  refine wf ?_
  refine s_alloc fun b2 => ?_
  refine wf ?_
  refine j_makeMap fun bo => ?_
  refine wf ?_
  refine s_alloc fun b4 => ?_
  refine wf ?_
  refine pwp_tok 32 ?_
  refine pwp_perm (List.perm_middle (l₁ := [_, _])) ?_
  refine pwp_loopS (σ := Nat × Tag) (fun k => k.1 ≤ s.length) (fun k => s.length - k.1) (fun k => [(0, .slice (s.map eSto) t), (2, .raw (.pointer (some ⟨b2, 0, none⟩))), (4, .raw (.pointer (some ⟨b4, 0, none⟩))), (5, .slice ((ids (s.take k.1)).map eDig) k.2), (15, .slice (s.map eSto) t), (16, .raw (.int .i64 s.length)), (17, .raw (.int .i64 k.1))]) (fun k => .map bo (eMap kDig vId (cV (cM s (s.take k.1)))) :: .tok k.2 (ids (s.take k.1)).length 32 :: .box b4 87 [.slice (s.map eSto) .ro, .raw (.map (some bo))] :: .box b2 87 [.slice [] .ro, .raw (.map none)] :: LF) (0, .nil) (by simp) ⟨rfl, rfl, rfl, rfl, rfl, rfl, rfl⟩ (.refl _) ?_
  rintro ⟨k, v5⟩ hk
  dsimp only at hk ⊢
  refine wf ?_
  refine pwp_condD (fun hc => ?_) (fun hc => ?_)
  · have hlt : k < s.length := by omega
    have hil : (ids (s.take k)).length = k := by rw [ids_len, List.length_take]; omega
    have hik : ids (s.take (k + 1)) = ids (s.take k) ++ [s[k].id] := by simp only [ids]; rw [List.take_succ_eq_append_getElem hlt, List.map_append]; rfl
    have i1 : Small ([s[k].id].length ≤ 400) := ⟨by simp⟩
    refine wz fun b7 => ?_
    refine pwp_freezeD 7 ?_
    refine wfa fun v' => ?_
    rw [← hik]
    refine j_makeMap fun bi => ?_
    refine wf ?_
    obtain ⟨l, hl⟩ : ∃ l, l = cloS s s[k].id := ⟨_, rfl⟩
    have hl2 : (rClosure s [s[k].id]).1 = l := hl.symm
    have hl8 : l.length ≤ 40 := hl ▸ v.clo_len _
    have hcm := cM_take (s := s) hlt
    rw [hl2]
    refine pwp_loopS (σ := Nat) (fun j => j ≤ l.length) (fun j => l.length - j) (fun j => [(0, .slice (s.map eSto) t), (2, .raw (.pointer (some ⟨b2, 0, none⟩))), (4, .raw (.pointer (some ⟨b4, 0, none⟩))), (5, .slice ((ids (s.take (k + 1))).map eDig) v'), (7, .pt (eSto s[k]) 0), (15, .slice (s.map eSto) t), (16, .raw (.int .i64 s.length)), (17, .raw (.int .i64 k)), (39, .slice (l.map eDig) .ro), (40, .raw (.int .i64 l.length)), (41, .raw (.int .i64 j))]) (fun j => .map bo (eMap kDig vId (mSet s[k].id (.raw (.map (some bi))) (cV (cM s (s.take k))))) :: .map bi (eMap kDig vBool (cm (l.take j))) :: .tok v' (ids (s.take (k + 1))).length 32 :: .box b4 87 [.slice (s.map eSto) .ro, .raw (.map (some bo))] :: .box b2 87 [.slice [] .ro, .raw (.map none)] :: LF) 0 (by simp) ⟨rfl, rfl, rfl, rfl, rfl, rfl, rfl, rfl, rfl, rfl, rfl⟩ (.refl _) ?_
    intro j hj
    refine wf ?_
    refine pwp_condD (fun hc2 => ?_) (fun hc2 => ?_)
    · have hltj : j < l.length := by omega
      refine wz fun b11 => ?_
      refine pwp_freezeD 11 ?_
      refine wn ?_
      refine pwp_drawN 6 ?_ ?_
      · decide +kernel
      refine wf ?_
      refine s_mapUpd (κ := Dig) (ek := kDig) (ev := vBool) (k0 := l[j]) (x0 := true) (b := bi) (l := cm (l.take j)) (L' := .map bo (eMap kDig vId (mSet s[k].id (.raw (.map (some bi))) (cV (cM s (s.take k))))) :: .tok v' (ids (s.take (k + 1))).length 32 :: .box b4 87 [.slice (s.map eSto) .ro, .raw (.map (some bo))] :: .box b2 87 [.slice [] .ro, .raw (.map none)] :: LF) (by
        show vId _ = _
        rw [mGet_mSet, if_pos rfl]
        rfl) (.swap _ _ _) (.refl _) (.refl _) ?_
      refine pops_nil ?_
      refine pwp_perm (.swap _ _ _) ?_
      refine wf ?_
      refine ⟨j + 1, by omega, by dsimp only; omega, ⟨rfl, rfl, rfl, rfl, rfl, rfl, rfl, rfl, rfl, rfl, rfl⟩, ?_⟩
      dsimp only
      rw [cm_take hltj]
      exact .refl _
    · refine pwp_exit ?_
      rw [List.take_of_length_le (l := l) (i := j) (by omega)]
      refine pwp_freezeMR (.swap _ _ _) (ResLe.mSet _ _) ?_
      rw [cV_set, hl, ← hcm]
      refine wf ?_
      exact ⟨(k + 1, v'), by dsimp only; omega, by dsimp only; omega, ⟨rfl, rfl, rfl, rfl, rfl, rfl, rfl⟩, .refl _⟩
  · refine pwp_exit ?_
    rw [List.take_of_length_le (by omega)]
    refine pwp_freezeMR (r' := .box b4 87 [.slice (s.map eSto) .ro, .fmap (eMap kDig vId (cV (cM s s)))]) (.cons _ (.swap _ _ _)) (ResLe.box rfl fun i h1 h2 => ?_) ?_
    · match i, h1, h2 with
      | 0, _, _ => exact .inl rfl
      | 1, _, _ => exact .inr ⟨rfl, rfl⟩
    rw [cV_map]
    refine wf ?_
    refine endC1 rfl ?_
    exact .tuple2 (.refl _) (.ro _ _)⟩
end Go.Proofs
/- Contracts of the program: what a search asks. -/
namespace Go.Proofs
open Go Go.Q
attribute [local irreducible] pwp pops PCalls OpN

set_option maxHeartbeats 1000000 in
instance parts_ct (s : List Sto) (left : List Dig) (t : Tag) (p : Dig) [hl : Small (left.length ≤ 1000000)] : FnC Tryz.prog 114 [.agg (eSea s), .slice (left.map eDig) t, .agg (eDig p)] (.tuple [.slice ((inC (cloS s p) left).map eDig) .ro, .slice ((outC (cloS s p) left).map eDig) .ro]) := ⟨by
  have hl := hl.out
  refine fn_of Tryz.func114 Tryz.ntmps114 rfl (rs := [.tmp 6, .tmp 7]) rfl rfl fun hb LF => ?_
  refine wf ?_
  refine pwp_tok 32 ?_
  refine pwp_tok 32 ?_
  refine pwp_loopS (σ := Nat × (List Dig × Tag) × (List Dig × Tag)) (fun k => k.1 ≤ left.length ∧ k.2.1.1 = inC (cloS s p) (left.take k.1) ∧ k.2.2.1 = outC (cloS s p) (left.take k.1)) (fun k => left.length - k.1) (fun k => [(3, .pt (eSea s) 0), (5, .pt (eDig p) 0), (8, .slice (k.2.1.1.map eDig) k.2.1.2), (9, .slice (k.2.2.1.map eDig) k.2.2.2), (12, .slice (left.map eDig) t), (13, .raw (.int .i64 left.length)), (14, .raw (.int .i64 k.1))]) (fun k => .tok k.2.1.2 k.2.1.1.length 32 :: .tok k.2.2.2 k.2.2.1.length 32 :: LF) (0, ([], .nil), ([], .nil)) ⟨by simp, by simp [inC], by simp [outC]⟩ ⟨rfl, rfl, rfl, rfl, rfl, rfl, rfl⟩ (.refl _) ?_
  rintro ⟨k, ⟨a, va⟩, ⟨b, vb⟩⟩ ⟨hk, ha, hb2⟩
  dsimp only at hk ha hb2 ⊢
  have hal : a.length ≤ k := by
    rw [ha]; exact Nat.le_trans (List.length_filter_le _ _) (by rw [List.length_take]; omega)
  have hbl : b.length ≤ k := by
    rw [hb2]; exact Nat.le_trans (List.length_filter_le _ _) (by rw [List.length_take]; omega)
  refine wf ?_
  refine pwp_condD (fun hc => ?_) (fun hc => ?_)
  · have hlt : k < left.length := by omega
    have e1 := inC_take (c := cloS s p) hlt
    have e2 := outC_take (c := cloS s p) hlt
    have hC := isC_eq s p left[k]
    refine wz fun b11 => ?_
    refine pwp_freezeD 11 ?_
    refine wf ?_
    refine pwp_condB (fun h => ?_) (fun h => ?_)
    · rw [hC] at h
      have h := of_decide_eq_true h
      rw [if_pos h] at e1 e2
      rw [List.append_nil] at e2
      refine wfa fun v' => ?_
      refine ⟨(k + 1, (a ++ [left[k]], v'), (b, vb)), ⟨by dsimp only; omega, by dsimp only; rw [e1, ha], by dsimp only; rw [e2, hb2]⟩, by dsimp only; omega, ⟨rfl, rfl, rfl, rfl, rfl, rfl, rfl⟩, .refl _⟩
    · rw [hC] at h
      have h := of_decide_eq_false h
      rw [if_neg h] at e1 e2
      rw [List.append_nil] at e1
      refine wfa fun v' => ?_
      refine ⟨(k + 1, (a, va), (b ++ [left[k]], v')), ⟨by dsimp only; omega, by dsimp only; rw [e1, ha], by dsimp only; rw [e2, hb2]⟩, by dsimp only; omega, ⟨rfl, rfl, rfl, rfl, rfl, rfl, rfl⟩, .refl _⟩
  · rw [List.take_of_length_le (by omega)] at ha hb2
    refine wf ?_
    refine end2 ?_
    rw [ha, hb2]
    exact .tuple2 (.ro _ _) (.ro _ _)⟩
set_option maxHeartbeats 1000000 in
instance questionP_ct (s : List Sto) (left : List Dig) (t : Tag) [hl : Small (left.length ≤ 1000000)] : FnC Tryz.prog 71 [.agg (eSea s), .slice (left.map eDig) t] (.tuple [.agg (eDig (questP (cloS s) left)), .raw (.bool (decide ((1 : Int) < (left.length : Int))))]) := ⟨by
  have hl2 := hl.out
  refine fn_of Tryz.func71 Tryz.ntmps71 rfl (rs := [.cell 4 37, .tmp 5]) rfl rfl fun hb LF => ?_
  refine wf ?_
  refine s_alloc fun b4 => ?_
  refine wf ?_
  refine s_alloc fun b6 => ?_
  refine wf ?_
  refine pwp_loopS (σ := Nat × Dig × Int) (fun k => k.1 ≤ left.length ∧ (k.2.1, k.2.2) = quest (cloS s) left (left.take k.1) (Dig.zero, -1)) (fun k => left.length - k.1) (fun k => [(1, .slice (left.map eDig) t), (2, .pt (eSea s) 0), (4, .raw (.pointer (some ⟨b4, 0, none⟩))), (6, .raw (.pointer (some ⟨b6, 0, none⟩))), (7, .raw (.int .i64 k.2.2)), (13, .slice (left.map eDig) t), (14, .raw (.int .i64 left.length)), (15, .raw (.int .i64 k.1))]) (fun k => .box b6 37 (eDig k.2.1) :: .box b4 37 (eDig Dig.zero) :: LF) (0, Dig.zero, -1) ⟨by simp, by simp [quest]⟩ ⟨rfl, rfl, rfl, rfl, rfl, rfl, rfl, rfl⟩ (.refl _) ?_
  rintro ⟨k, best, most⟩ ⟨hk, hq⟩
  dsimp only at hk hq ⊢
  refine wf ?_
  refine pwp_condD (fun hc => ?_) (fun hc => ?_)
  · have hlt : k < left.length := by omega
    have e : quest (cloS s) left (left.take (k + 1)) (Dig.zero, -1) = if most < (even (cloS s) left left[k] : Int) then (left[k], (even (cloS s) left left[k] : Int)) else (best, most) := by
      unfold quest at hq ⊢
      rw [List.take_succ_eq_append_getElem hlt, List.foldl_append, ← hq]; rfl
    have e2 : (even (cloS s) left left[k] : Int) = min ((inC (cloS s left[k]) left).length : Int) ((outC (cloS s left[k]) left).length : Int) := by unfold even; omega
    rw [e2] at e
    refine wz fun b9 => ?_
    refine pwp_freezeD 9 ?_
    refine wf ?_
    refine pwp_condD (fun h => ?_) (fun h => ?_)
    · rw [if_pos h] at e
      refine wf ?_
      exact ⟨(k + 1, left[k], min ((inC (cloS s left[k]) left).length : Int) ((outC (cloS s left[k]) left).length : Int)), ⟨by dsimp only; omega, e.symm⟩, by dsimp only; omega, ⟨rfl, rfl, rfl, rfl, rfl, rfl, rfl, rfl⟩, .refl _⟩
    · rw [if_neg h] at e
      refine wf ?_
      exact ⟨(k + 1, best, most), ⟨by dsimp only; omega, e.symm⟩, by dsimp only; omega, ⟨rfl, rfl, rfl, rfl, rfl, rfl, rfl, rfl⟩, .refl _⟩
  · rw [List.take_of_length_le (by omega)] at hq
    have e : questP (cloS s) left = best := by rw [questP, ← hq]
    refine wf ?_
    refine endC1 rfl ?_
    rw [e]
    exact .refl _⟩
/-- The candidates behind an answer. -/
def aft (s : List Sto) (left : List Dig) (p : Dig) (bad : Bool) : List Dig := if bad = true then inC (cloS s p) left else outC (cloS s p) left
instance after_ct (s : List Sto) (left : List Dig) (t : Tag) (p : Dig) (bad : Bool) [hl : Small (left.length ≤ 1000000)] : FnC Tryz.prog 74 [.agg (eSea s), .slice (left.map eDig) t, .agg (eDig p), .raw (.bool bad)] (.slice ((aft s left p bad).map eDig) .ro) := ⟨by
  refine fn_of Tryz.func74 Tryz.ntmps74 rfl (rs := [.tmp 8]) rfl rfl fun hb LF => ?_
  refine wf ?_
  refine pwp_condB (fun h => ?_) (fun h => ?_)
  · refine wf ?_
    refine end1 (.ros ?_)
    rw [aft, if_pos h]
  · refine wf ?_
    refine end1 (.ros ?_)
    rw [aft, if_neg (by simp [h])]⟩
end Go.Proofs
/- Contracts of the program: how many questions are enough. -/
namespace Go.Proofs
open Go Go.Q
attribute [local irreducible] pwp pops PCalls OpN PYield

def dCaps (s : List Sto) (left : List Dig) (b : Int) : List PV := [.pt (eSea s) 0, .pt [.slice (left.map eDig) .ro] 0, .pt [.raw (.int .i64 b)] 0]
def eI1 (n : Int) : List PV := [.raw (.int .i64 n)]
instance depths_ct (s : List Sto) (left : List Dig) (t : Tag) (b : Int) : FnC Tryz.prog 68 [.agg (eSea s), .slice (left.map eDig) t, .raw (.int .i64 b)] (.clo 112 (dCaps s left b)) := ⟨by
  refine fn_of Tryz.func68 Tryz.ntmps68 rfl (rs := [.tmp 6]) rfl rfl fun hb LF => ?_
  refine wf ?_
  refine end1 (.of_eq ?_)
  rfl⟩
theorem aft_len (s : List Sto) (left : List Dig) (p : Dig) (bad : Bool) : (aft s left p bad).length ≤ left.length := by
  unfold aft
  split <;> exact List.length_filter_le _ _
theorem aft_sub {s : List Sto} {left : List Dig} {p : Dig} {bad : Bool} {d : Dig} (h : d ∈ aft s left p bad) : d ∈ left := by
  unfold aft at h
  split at h <;> exact (List.mem_filter.1 h).1
theorem aft_nodup {s : List Sto} {left : List Dig} {p : Dig} {bad : Bool} (h : left.Nodup) : (aft s left p bad).Nodup := by
  unfold aft
  split <;> exact h.filter _
/-- Both answers leave fewer. -/
theorem Valid.less {s : List Sto} (v : Valid s) {left : List Dig} (hl : ∀ x ∈ left, x ∈ ids s) (hn : left.Nodup) (h2 : 2 ≤ left.length) (bad : Bool) : (aft s left (questP (cloS s) left) bad).length < left.length := by
  have hP := v.parts hl hn
  have h := (questR_pos (cloS s) hP h2).1
  rw [← questP_eq (cloS s) hP h2] at h
  have hs := inC_len_add (cloS s (questP (cloS s) left)) left
  unfold even at h
  unfold aft
  split <;> omega
set_option maxHeartbeats 1000000 in
theorem depths_few (s : List Sto) (left : List Dig) (b : Int) (h : left.length < 2) : PIter Tryz.prog 112 (dCaps s left b) eI1 [] := by
  intro l J Jx hY L hJ
  have i1 : Small (left.length ≤ 1000000) := ⟨by omega⟩
  have e : decide ((1 : Int) < (left.length : Int)) = false := decide_eq_false (by omega)
  refine pcalls_bd Tryz.func112 rfl Tryz.ntmps112 (rs := []) rfl rfl fun hb LF => ?_
  refine wf ?_
  refine s_alloc fun b5 => ?_
  rw [e]
  refine wf ?_
  exact ⟨trivial, _, L, .nil, .cons _ (.refl _), .inl hJ⟩
set_option maxHeartbeats 4000000 in
theorem depths_iter {s : List Sto} (v : Valid s) : ∀ (n : Nat) (left : List Dig) (b : Int), left.length ≤ n → (∀ x ∈ left, x ∈ ids s) → left.Nodup → 0 ≤ b → b + n ≤ 1000000 → PIter Tryz.prog 112 (dCaps s left b) eI1 (depthsP (cloS s) n left b)
  | 0, left, b, hn, _, _, _, _ => depths_few s left b (by omega)
  | n + 1, left, b, hn, hl, hd, hb0, hbn => by
    by_cases h2 : left.length < 2
    · rw [depthsP, if_pos h2]
      exact depths_few s left b h2
    have ih := fun (bad : Bool) => depths_iter v n (aft s left (questP (cloS s) left) bad) (b + 1) (by have := v.less hl hd (by omega) bad; omega) (fun x hx => hl x (aft_sub hx)) (aft_nodup hd) (by omega) (by omega)
    obtain ⟨p, hp⟩ : ∃ p, p = questP (cloS s) left := ⟨_, rfl⟩
    rw [← hp] at ih
    obtain ⟨D, hD⟩ : ∃ D : Bool → List Int, D = fun bad => depthsP (cloS s) n (aft s left p bad) (b + 1) := ⟨_, rfl⟩
    have hxs : depthsP (cloS s) (n + 1) left b = (b + 1) :: [true, false].flatMap D := by
      rw [depthsP, if_neg h2, ← hp, hD]
      simp [aft]
    rw [hxs]
    intro l J Jx hY L hJ
    have i1 : Small (left.length ≤ 1000000) := ⟨by omega⟩
    have e : decide ((1 : Int) < (left.length : Int)) = true := decide_eq_true (by omega)
    refine pcalls_bd Tryz.func112 rfl Tryz.ntmps112 (rs := []) rfl rfl fun hb LF => ?_
    refine wf ?_
    refine s_alloc fun b5 => ?_
    rw [e, ← hp]
    refine wo ?_
    refine pops_nil ?_
    refine pwp_freezeD 5 ?_
    refine wf ?_
    refine s_yield L LF rfl rfl rfl (.refl _) _ (hY [] (b + 1) L ⟨_, rfl⟩ hJ) fun bo L' hR => ?_
    refine wf ?_
    rcases hR with ⟨rfl, hJ1⟩ | ⟨rfl, hJx⟩
    · refine wf ?_
      refine pwp_loopS (σ := Nat × List Res) (fun k => k.1 ≤ 2 ∧ J ((b + 1) :: ([true, false].take k.1).flatMap D) k.2) (fun k => 2 - k.1) (fun k => [(1, .pt (eSea s) 0), (2, .pt [.slice (left.map eDig) .ro] 0), (3, .pt [.raw (.int .i64 b)] 0), (4, .pt [.raw (.func (.yield l) #[] #[])] 0), (5, .pt (eDig p) 0), (25, .slice ([true, false].map eB) .ro), (26, .raw (.int .i64 2)), (27, .raw (.int .i64 k.1))]) (fun k => k.2 ++ LF) (0, L') ⟨by simp, hJ1⟩ ⟨rfl, rfl, rfl, rfl, rfl, rfl, rfl, rfl⟩ (.refl _) ?_
      rintro ⟨k, L1⟩ ⟨hk, hJ2⟩
      dsimp only at hk hJ2 ⊢
      refine wf ?_
      refine pwp_condD (fun hc => ?_) (fun hc => ?_)
      · have hlt : k < [true, false].length := by simp only [List.length_cons, List.length_nil]; omega
        have ht : [true, false].take (k + 1) = [true, false].take k ++ [[true, false][k]] := List.take_succ_eq_append_getElem hlt
        have hpre : (b + 1) :: ([true, false].take (k + 1)).flatMap D <+: (b + 1) :: [true, false].flatMap D := by
          refine (List.prefix_cons_inj _).2 ⟨([true, false].drop (k + 1)).flatMap D, ?_⟩
          rw [← List.flatMap_append, List.take_append_drop]
        rw [ht, List.flatMap_append] at hpre
        have i2 := aft_len s left p [true, false][k]
        refine wf ?_
        refine pwp_rangeFunc (ih [true, false][k]) [40] (σ := List Res) (fun pre s' => J ((b + 1) :: (([true, false].take k).flatMap D ++ pre)) s') (fun pre s' => Jx ((b + 1) :: (([true, false].take k).flatMap D ++ pre)) s') (fun s' LF' => s' ++ LF') L1 LF ?_ rfl (fun _ => rfl) (by simp) (fun s' LF' => by rw [List.append_nil]) (.refl _) (by rw [List.append_nil]; exact hJ2) ?_ ?_ ?_
        · exact .refl _
        · intro pre x s' LF' hpx hI
          refine wf ?_
          refine s_yield s' LF' rfl rfl rfl (.refl _) _ (hY ((b + 1) :: (([true, false].take k).flatMap D ++ pre)) x s' ?_ hI) fun bo L2 hR => ?_
          · refine List.IsPrefix.trans ?_ hpre
            rw [List.cons_append, List.append_assoc]
            refine (List.prefix_cons_inj _).2 ((List.prefix_append_right_inj _).2 ?_)
            rw [hD]
            simpa using hpx
          refine wf ?_
          rw [List.cons_append, List.append_assoc] at hR
          rcases hR with ⟨rfl, h⟩ | ⟨rfl, h⟩
          · refine wf ?_
            exact ⟨L2, h, .refl _⟩
          · refine wf ?_
            exact ⟨L2, h, .refl _⟩
        · intro s' hs'
          refine wf ?_
          refine ⟨(k + 1, s'), ⟨by dsimp only; omega, ?_⟩, by dsimp only; omega, ⟨rfl, rfl, rfl, rfl, rfl, rfl, rfl, rfl⟩, .refl _⟩
          dsimp only
          rw [ht, List.flatMap_append]
          rw [hD] at hs' ⊢
          simpa using hs'
        · intro pre s' h
          exact ⟨trivial, _, s', .nil, .refl _, .inr ⟨_, h⟩⟩
      · rw [List.take_of_length_le (by simp only [List.length_cons, List.length_nil]; omega)] at hJ2
        refine wf ?_
        exact ⟨trivial, _, L1, .nil, .refl _, .inl hJ2⟩
    · refine wf ?_
      exact ⟨trivial, _, L', .nil, .refl _, .inr ⟨_, hJx⟩⟩
instance BoundP_ct (s : List Sto) (t : Tag) [hs : Small (Valid s)] : FnC Tryz.prog 17 [.slice (s.map eSto) t] (.raw (.int .i64 (worst (cloS s) s.length (ids s)))) := ⟨by
  have v := hs.out
  have h8 := v.close.1.1
  refine fn_of Tryz.func17 Tryz.ntmps17 rfl (rs := [.tmp 2]) rfl rfl fun hb LF => ?_
  refine wf ?_
  refine s_alloc fun b3 => ?_
  refine wo ?_
  refine pops_nil ?_
  refine pwp_freezeD 3 ?_
  refine wf ?_
  refine s_alloc fun b5 => ?_
  refine wf ?_
  refine pwp_rangeFunc (depths_iter v s.length (ids s) 0 (by rw [ids_len]; exact Nat.le_refl _) (fun _ h => h) v.asc.nodup (by omega) (by omega)) [15] (σ := Int) (fun pre m => m = pre.foldl max 0) (fun _ _ => False) (fun m LF' => .box b5 3 [.raw (.int .i64 m)] :: LF') 0 LF ?_ rfl (fun _ => rfl) (by simp) (fun _ _ => rfl) (.refl _) rfl ?_ ?_ (fun _ _ h => h.elim)
  · exact .refl _
  · intro pre x m LF' hpx hI
    refine wf ?_
    exact ⟨max m x, by show max m x = (pre ++ [x]).foldl max 0; rw [hI, List.foldl_append]; rfl, .refl _⟩
  · intro m hI
    refine wf ?_
    refine end1 (.of_eq ?_)
    rw [hI, v.bound]⟩
end Go.Proofs
/- Contracts of the program: lists of digests; sets of some patches; a search's start, its states, its next question. -/
namespace Go.Proofs
open Go Go.Q
attribute [local irreducible] pwp pops PCalls OpN

/-- Where a digest stands first; -1: nowhere. -/
def idxD (l : List Dig) (d : Dig) : Int := if d ∈ l then (l.idxOf d : Int) else -1
theorem idxOf_first {l : List Dig} {d : Dig} {k : Nat} (hk : k < l.length) (hn : d ∉ l.take k) (e : d = l[k]) : l.idxOf d = k := by
  induction l generalizing k with
  | nil => simp at hk
  | cons x l ih =>
    cases k with
    | zero => simp at e; subst e; simp
    | succ k =>
      simp only [List.take_succ_cons, List.mem_cons, not_or] at hn
      have := ih (k := k) (by simpa using hk) hn.2 (by simpa using e)
      rw [List.idxOf_cons, beq_eq_false_iff_ne.2 (Ne.symm hn.1), cond_false, this]
instance IndexD_ct (l : List Dig) (d : Dig) (t : Tag) : FnC Tryz.prog 78 [.slice (l.map eDig) t, .agg (eDig d)] (.raw (.int .i64 (idxD l d))) := ⟨by
  refine fn_of Tryz.func78 Tryz.ntmps78 rfl (rs := [.tmp 4]) rfl rfl fun hb LF => ?_
  have hlen : l.length ≤ 140737488355328 := (hb (.slice (l.map eDig) t) (by simp)).slice_map
  refine wf ?_
  refine pwp_loopS (σ := Nat) (fun k => k ≤ l.length ∧ d ∉ l.take k) (fun k => l.length - k) (fun k => [(0, .slice (l.map eDig) t), (3, .pt (eDig d) 0), (7, .raw (.int .i64 l.length)), (8, .raw (.int .i64 k))]) (fun _ => LF) 0 ⟨by simp, by simp⟩ ⟨rfl, rfl, rfl, rfl⟩ (.refl _) ?_
  rintro k ⟨hk, hn⟩
  refine wf ?_
  refine pwp_condD (fun hc => ?_) (fun hc => ?_)
  · have hlt : k < l.length := by omega
    refine wf ?_
    refine pwp_condD (fun h => ?_) (fun h => ?_)
    · refine wf ?_
      refine end1 (.of_eq ?_)
      rw [idxD, if_pos (h ▸ List.getElem_mem hlt), idxOf_first hlt hn h]
    · refine wf ?_
      refine ⟨k + 1, ⟨by omega, ?_⟩, by dsimp only; omega, ⟨rfl, rfl, rfl, rfl⟩, .refl _⟩
      rw [List.take_succ_eq_append_getElem hlt, List.mem_append, List.mem_singleton]
      rintro (h' | h')
      · exact hn h'
      · exact h h'
  · refine wf ?_
    refine end1 (.of_eq ?_)
    rw [List.take_of_length_le (by omega)] at hn
    rw [idxD, if_neg hn]⟩
instance ContainsD_ct (l : List Dig) (d : Dig) (t : Tag) : FnC Tryz.prog 33 [.slice (l.map eDig) t, .agg (eDig d)] (.raw (.bool (decide (d ∈ l)))) := ⟨by
  refine fn_of Tryz.func33 Tryz.ntmps33 rfl (rs := [.tmp 4]) rfl rfl fun hb LF => ?_
  refine wf ?_
  refine end1 (.of_eq ?_)
  by_cases h : d ∈ l <;> simp [idxD, h]⟩
instance EqualD_ct (l m : List Dig) (t u : Tag) : FnC Tryz.prog 55 [.slice (l.map eDig) t, .slice (m.map eDig) u] (.raw (.bool (decide (l = m)))) := ⟨by
  refine fn_of Tryz.func55 Tryz.ntmps55 rfl (rs := [.tmp 4]) rfl rfl fun hb LF => ?_
  have hlen : l.length ≤ 140737488355328 := (hb (.slice (l.map eDig) t) (by simp)).slice_map
  refine wf ?_
  refine pwp_condN (fun h => ?_) (fun h => ?_)
  · refine wf ?_
    refine end1 (.of_eq ?_)
    have : ¬ l = m := fun e => by subst e; exact h rfl
    simp [this]
  have hlm : l.length = m.length := by omega
  refine wf ?_
  refine pwp_loopS (σ := Nat) (fun k => k ≤ l.length ∧ l.take k = m.take k) (fun k => l.length - k) (fun k => [(0, .slice (l.map eDig) t), (1, .slice (m.map eDig) u), (12, .raw (.int .i64 l.length)), (13, .raw (.int .i64 k))]) (fun _ => LF) 0 ⟨by simp, by simp⟩ ⟨rfl, rfl, rfl, rfl⟩ (.refl _) ?_
  rintro k ⟨hk, he⟩
  refine wf ?_
  refine pwp_condD (fun hc => ?_) (fun hc => ?_)
  · have hlt : k < l.length := by omega
    have hltm : k < m.length := by omega
    refine wf ?_
    refine pwp_condN (fun h => ?_) (fun h => ?_)
    · refine wf ?_
      refine end1 (.of_eq ?_)
      have : ¬ l = m := fun e => by subst e; exact h rfl
      simp [this]
    · refine wf ?_
      refine ⟨k + 1, ⟨by omega, ?_⟩, by dsimp only; omega, ⟨rfl, rfl, rfl, rfl⟩, .refl _⟩
      rw [List.take_succ_eq_append_getElem hlt, List.take_succ_eq_append_getElem hltm, he, h]
  · refine wf ?_
    refine end1 (.of_eq ?_)
    rw [List.take_of_length_le (by omega), List.take_of_length_le (by omega)] at he
    simp [he]⟩
instance KeepP_ct (s : List Sto) (l : List Dig) (t u : Tag) [hs : Small (s.length ≤ 1000000)] : FnC Tryz.prog 60 [.slice (s.map eSto) t, .slice (l.map eDig) u] (.slice ((keepS s l).map eSto) .ro) := ⟨by
  refine fn_of Tryz.func60 Tryz.ntmps60 rfl (rs := [.tmp 4]) rfl rfl fun hb LF => ?_
  have hlen : s.length ≤ 1000000 := hs.out
  refine wf ?_
  refine pwp_tok 37 ?_
  refine pwp_loopS (σ := Nat × Tag) (fun k => k.1 ≤ s.length) (fun k => s.length - k.1) (fun k => [(1, .slice (l.map eDig) u), (5, .slice ((keepS (s.take k.1) l).map eSto) k.2), (8, .slice (s.map eSto) t), (9, .raw (.int .i64 s.length)), (10, .raw (.int .i64 k.1))]) (fun k => .tok k.2 (keepS (s.take k.1) l).length 37 :: LF) (0, .nil) (by simp) ⟨rfl, rfl, rfl, rfl, rfl⟩ (.refl _) ?_
  rintro ⟨k, v⟩ hk
  dsimp only at hk
  refine wf ?_
  refine pwp_condD (fun hc => ?_) (fun hc => ?_)
  · have hl : (keepS (s.take k) l).length ≤ k := Nat.le_trans (List.length_filter_le _ _) (by simp; omega)
    have e : keepS (s.take (k + 1)) l = keepS (s.take k) l ++ keepS [s[k]] l := by
      rw [List.take_succ_eq_append_getElem (by omega)]; simp only [keepS, List.filter_append]
    refine wz fun b7 => ?_
    refine pwp_freezeD 7 ?_
    refine wf ?_
    refine pwp_condD (fun h => ?_) (fun h => ?_)
    · refine wfa fun v' => ?_
      have e2 : keepS [s[k]] l = [s[k]] := by simp [keepS, h]
      rw [e2] at e
      refine ⟨(k + 1, v'), by dsimp only; omega, by dsimp only; omega, ⟨rfl, by dsimp only; rw [e]; rfl, rfl, rfl, rfl⟩, by dsimp only; rw [e]; exact .refl _⟩
    · refine wf ?_
      have e2 : keepS [s[k]] l = [] := by simp [keepS, h]
      rw [e2, List.append_nil] at e
      refine ⟨(k + 1, v), by dsimp only; omega, by dsimp only; omega, ⟨rfl, by dsimp only; rw [e]; rfl, rfl, rfl, rfl⟩, by dsimp only; rw [e]; exact .refl _⟩
  · refine wf ?_
    refine end1 (.ros ?_)
    rw [List.take_of_length_le (by omega)]⟩
def startP (s : List Sto) : Bis × Int := if s.length = 0 then (Bis.zero, 27) else (⟨ids s, [], []⟩, 0)
instance StartP_ct (s : List Sto) (t : Tag) [hs : Small (Valid s)] : FnC Tryz.prog 19 [.slice (s.map eSto) t] (.tuple [.agg (eBis (startP s).1), .raw (.int .i64 (startP s).2)]) := ⟨by
  refine fn_of Tryz.func19 Tryz.ntmps19 rfl (rs := [.cell 2 28, .tmp 3]) rfl rfl fun hb LF => ?_
  refine wf ?_
  refine s_alloc fun b2 => ?_
  refine wf ?_
  refine pwp_condD (fun h => ?_) (fun h => ?_)
  · refine wf ?_
    refine endC1 rfl ?_
    rw [startP, if_pos (by omega)]
    exact .refl _
  · refine wf ?_
    refine s_alloc fun b4 => ?_
    refine wf ?_
    refine endC1 rfl ?_
    rw [startP, if_neg (by omega)]
    exact .refl _⟩
/-- The candidates behind some answers. -/
def folStep (s : List Sto) (asked : List Dig) (bad : List Bool) (o : Option (List Dig)) (i : Nat) : Option (List Dig) := o.bind fun left => if left.length < 2 ∨ asked.getD i Dig.zero ≠ questP (cloS s) left then none else some (aft s left (asked.getD i Dig.zero) (bad.getD i false))
def fol (s : List Sto) (asked : List Dig) (bad : List Bool) (left : List Dig) (k : Nat) : Option (List Dig) := (List.range k).foldl (folStep s asked bad) (some left)
theorem fol_succ (s : List Sto) (asked : List Dig) (bad : List Bool) (left : List Dig) (k : Nat) : fol s asked bad left (k + 1) = folStep s asked bad (fol s asked bad left k) k := by
  rw [fol, List.range_succ, List.foldl_append]; rfl
theorem fol_none {s : List Sto} {asked : List Dig} {bad : List Bool} {left : List Dig} {k : Nat} (h : fol s asked bad left k = none) : ∀ n, k ≤ n → fol s asked bad left n = none := by
  intro n hn
  induction n with
  | zero => have : k = 0 := by omega
            subst this; exact h
  | succ n ih =>
    by_cases e : k = n + 1
    · subst e; exact h
    · rw [fol_succ, ih (by omega)]; rfl
def followP (s : List Sto) (b : Bis) (left : List Dig) : Bool := decide (b.asked.length = b.bad.length ∧ fol s b.asked b.bad left b.asked.length = some b.left)
set_option maxHeartbeats 1000000 in
instance follow_ct (s : List Sto) (b : Bis) (left : List Dig) (t : Tag) [hl : Small (left.length ≤ 1000000)] : FnC Tryz.prog 70 [.agg (eSea s), .agg (eBis b), .slice (left.map eDig) t] (.raw (.bool (followP s b left))) := ⟨by
  have hl2 := hl.out
  refine fn_of Tryz.func70 Tryz.ntmps70 rfl (rs := [.tmp 6]) rfl rfl fun hb LF => ?_
  have hlen : b.asked.length ≤ 140737488355328 := ((hb (.agg (eBis b)) (by simp)).agg_at (c := .slice (b.asked.map eDig) .ro) (by simp [eBis])).slice_map
  refine wf ?_
  refine pwp_condN (fun h => ?_) (fun h => ?_)
  · refine wf ?_
    refine end1 (.of_eq ?_)
    have : ¬ b.asked.length = b.bad.length := by omega
    simp [followP, this]
  have hab : b.asked.length = b.bad.length := by omega
  refine wf ?_
  refine pwp_loopS (σ := Nat × List Dig × Tag) (fun k => k.1 ≤ b.asked.length ∧ fol s b.asked b.bad left k.1 = some k.2.1 ∧ k.2.1.length ≤ 1000000) (fun k => b.asked.length - k.1) (fun k => [(2, .slice (k.2.1.map eDig) k.2.2), (3, .pt (eSea s) 0), (4, .pt (eBis b) 0), (19, .slice (b.asked.map eDig) .ro), (20, .raw (.int .i64 b.asked.length)), (21, .raw (.int .i64 k.1))]) (fun _ => LF) (0, left, t) ⟨by simp, rfl, hl2⟩ ⟨rfl, rfl, rfl, rfl, rfl, rfl⟩ (.refl _) ?_
  rintro ⟨k, cur, v⟩ ⟨hk, hf, hcl⟩
  dsimp only at hk hf hcl ⊢
  refine wf ?_
  refine pwp_condD (fun hc => ?_) (fun hc => ?_)
  · have hlt : k < b.asked.length := by omega
    have hltb : k < b.bad.length := by omega
    have i1 : Small (cur.length ≤ 1000000) := ⟨hcl⟩
    have e0 : b.asked.getD k Dig.zero = b.asked[k] := by simp [List.getD, hlt]
    have e1 : b.bad.getD k false = b.bad[k] := by simp [List.getD, hltb]
    have hs := fol_succ s b.asked b.bad left k
    rw [hf, folStep, e0, e1, Option.bind_some] at hs
    have no : fol s b.asked b.bad left (k + 1) = none → followP s b left = false := fun h => by
      have := fol_none h b.asked.length (by omega)
      simp [followP, this]
    refine wf ?_
    refine s_alloc fun b8 => ?_
    refine wo ?_
    refine pops_nil ?_
    refine pwp_freezeD 8 ?_
    refine wf ?_
    refine s_alloc fun b9 => ?_
    refine wo ?_
    refine pops_nil ?_
    refine pwp_freezeD 9 ?_
    refine wf ?_
    refine pops_if (fun hp => ?_) (fun hp => ?_)
    · have hp' : ¬ (1 : Int) < cur.length := by simpa using hp
      rw [if_pos (.inl (by omega))] at hs
      refine wf ?_
      refine end1 (.of_eq ?_)
      rw [no hs]
    · have hp' : (1 : Int) < cur.length := by simpa using hp
      refine wf ?_
      refine pwp_condN (fun h2 => ?_) (fun h2 => ?_)
      · rw [if_pos (.inr h2)] at hs
        refine wf ?_
        refine end1 (.of_eq ?_)
        rw [no hs]
      · rw [if_neg (by rintro (h3 | h3); omega; exact h3 h2)] at hs
        refine wf ?_
        exact ⟨(k + 1, aft s cur b.asked[k] b.bad[k], .ro), ⟨by dsimp only; omega, hs, Nat.le_trans (aft_len _ _ _ _) hcl⟩, by dsimp only; omega, ⟨rfl, rfl, rfl, rfl, rfl, rfl⟩, .refl _⟩
  · have hke : k = b.asked.length := by omega
    subst hke
    refine wf ?_
    refine end1 (.of_eq ?_)
    rw [followP, hf]
    simp [hab]⟩
/-- The question, and the set to test. -/
def nextP (s : List Sto) (b : Bis) : Dig × List Sto × Bool :=
  if s.length = 0 ∨ followP s b (ids s) = false then (Dig.zero, [], false) else if b.left.length < 2 then (Dig.zero, [], false) else
  (questP (cloS s) b.left, keepS s (cloS s (questP (cloS s) b.left)), true)
theorem folStep_len {s : List Sto} {asked : List Dig} {bad : List Bool} {left l : List Dig} : ∀ {k : Nat}, fol s asked bad left k = some l → l.length ≤ left.length
  | 0, h => by
    have : some left = some l := h
    injection this with e
    rw [e]; exact Nat.le_refl _
  | k + 1, h => by
    rw [fol_succ] at h
    cases hf : fol s asked bad left k with
    | none => rw [hf] at h; cases h
    | some m =>
      have := folStep_len hf
      rw [hf, folStep, Option.bind_some] at h
      split at h
      · cases h
      · injection h with e
        rw [← e]
        exact Nat.le_trans (aft_len _ _ _ _) this
theorem follow_len {s : List Sto} {b : Bis} {left : List Dig} (h : followP s b left = true) : b.left.length ≤ left.length := folStep_len (of_decide_eq_true h).2
theorem endCTT {P : Program} {ρ : Env} {L LF : List Res} {X : PV} {t u s T n b T' : Nat} {cs : List PV} {x z : PV} [hT : TAgg P T n] (h : ρ u = .raw (.pointer (some ⟨b, 0, none⟩))) (hX : Le (.tuple [.agg cs, x, z]) X) (hx : ρ t = x := by conv => lhs; whnf) (hz : ρ s = z := by conv => lhs; whnf) (hm : Res.box b T' cs ∈ L := by repeat (first | exact List.mem_cons_self | apply List.mem_cons_of_mem)) (hn : cs.length = n := by simp) (hs : LF.Sublist L := by repeat (first | exact List.Sublist.refl _ | apply List.Sublist.cons)) :
    Ret P [.cell u T, .tmp t, .tmp s] (fun r L' => Le r X ∧ L' = []) LF .ret ρ L := ⟨trivial, _, [], .cons (.cell u T h hm hT.out hn) (.cons (.tmp t) (.cons (.tmp s) .nil)), hs, by subst hx; subst hz; exact hX, rfl⟩
set_option maxHeartbeats 2000000 in
instance NextP_ct (s : List Sto) (b : Bis) (t : Tag) [hs : Small (Valid s)] : FnC Tryz.prog 22 [.slice (s.map eSto) t, .agg (eBis b)] (.tuple [.agg (eDig (nextP s b).1), .slice ((nextP s b).2.1.map eSto) .ro, .raw (.bool (nextP s b).2.2)]) := ⟨by
  have v := hs.out
  have h8 := v.close.1.1
  have hil := ids_len s
  have i0 : Small ((ids s).length ≤ 1000000) := ⟨by omega⟩
  have i1 : Small (s.length ≤ 1000000) := ⟨by omega⟩
  have i2 : Small ([questP (cloS s) b.left].length ≤ 400) := ⟨by simp⟩
  refine fn_of Tryz.func22 Tryz.ntmps22 rfl (rs := [.cell 4 37, .tmp 5, .tmp 6]) rfl rfl fun hb LF => ?_
  refine wf ?_
  refine s_alloc fun b4 => ?_
  refine wf ?_
  refine s_alloc fun b7 => ?_
  refine wo ?_
  refine pops_nil ?_
  refine pwp_freezeD 7 ?_
  refine wf ?_
  refine pops_if (fun hp => ?_) (fun hp => ?_)
  · have h0 : s.length = 0 := by simpa using hp
    refine wf ?_
    refine endCTT rfl ?_
    rw [nextP, if_pos (.inl h0)]
    exact .tuple3 (.refl _) (.ros rfl) (.refl _)
  have h0 : ¬ s.length = 0 := by simpa using hp
  refine wf ?_
  refine pwp_condB (fun h => ?_) (fun h => ?_)
  · have hf : followP s b (ids s) = false := by simpa using h
    refine wf ?_
    refine endCTT rfl ?_
    rw [nextP, if_pos (.inr hf)]
    exact .tuple3 (.refl _) (.ros rfl) (.refl _)
  have hf : followP s b (ids s) = true := by simpa using h
  have hbl := follow_len hf
  have i3 : Small (b.left.length ≤ 1000000) := ⟨by omega⟩
  have e1 : nextP s b = if b.left.length < 2 then (Dig.zero, [], false) else (questP (cloS s) b.left, keepS s (cloS s (questP (cloS s) b.left)), true) := by rw [nextP, if_neg (by simp [h0, hf])]
  refine wf ?_
  refine s_alloc fun b9 => ?_
  refine wo ?_
  refine pops_nil ?_
  refine pwp_freezeD 9 ?_
  refine wf ?_
  refine pwp_condB (fun h2 => ?_) (fun h2 => ?_)
  · have h3 : ¬ (1 : Int) < b.left.length := by simpa using h2
    rw [if_pos (by omega)] at e1
    refine wf ?_
    refine endCTT rfl ?_
    rw [e1]
    exact .tuple3 (.refl _) (.ros rfl) (.refl _)
  · have h3 : (1 : Int) < b.left.length := by simpa using h2
    rw [if_neg (by omega)] at e1
    refine wn ?_
    refine pwp_drawN 4 ?_ ?_
    · decide +kernel
    refine wf ?_
    refine endCTT rfl ?_
    rw [e1]
    exact .tuple3 (.refl _) (.ros rfl) (.refl _)⟩
end Go.Proofs
/- The small logic: what a statement's inputs are: from the data that a row speaks of to forms. Library, no statement of its own. -/
namespace Go.Q
open Go

theorem cell_spot {w : World} {b o s : Nat} : w.cell? ⟨b, o, some s⟩ = none := by
  unfold World.cell?
  split <;> simp
/-- Every value of a type, as a row hands it over, has a form of which F is true. -/
def Opens (P : Program) (t : Nat) (F : List PV → Prop) : Prop :=
  ∀ (H : Type) (enc : TypeId × Value → H) (w : World) (g : Gh), (∀ b o v, w.cell? ⟨b, o, none⟩ = some v → g.H b o = some v) → ∀ (base : Nat) (held : Bool) (fuel : Nat) (cs : List Value) (x : DataW H × List MemPlace),
    DataW.trod enc P w base (fun _ => true) held fuel t cs = some x → (∀ n ∈ x.1.weights P t, n ≤ reachBytes) → ∃ xs, F xs ∧ VRl g cs xs
theorem Opens.to {P : Program} {t : Nat} {F G : List PV → Prop} (h : Opens P t F) (hg : ∀ xs, F xs → G xs) : Opens P t G := fun H enc w g hc base held fuel cs x ht hw => by
  obtain ⟨xs, h1, h2⟩ := h H enc w g hc base held fuel cs x ht hw
  exact ⟨xs, hg xs h1, h2⟩
theorem opens_int {P : Program} {t : Nat} {k : IntKind} (ht : P.underlying t = some (.int k)) : Opens P t (fun xs => ∃ n, (Lit.int k n).wf = true ∧ xs = [.raw (.int k n)]) := fun H enc w g hc base held fuel cs x h hw => by
  obtain ⟨n, rfl, rfl, h1⟩ := DataW.trod_int ht h
  exact ⟨_, ⟨n, h1, rfl⟩, .cons (.raw _) (.nil g)⟩
theorem opens_bool {P : Program} {t : Nat} (ht : P.underlying t = some .bool) : Opens P t (fun xs => ∃ b, xs = [.raw (.bool b)]) := fun H enc w g hc base held fuel cs x h hw => by
  obtain ⟨b, rfl, rfl⟩ := DataW.trod_bool ht h
  exact ⟨_, ⟨b, rfl⟩, .cons (.raw _) (.nil g)⟩
theorem opens_str {P : Program} {t : Nat} (ht : P.underlying t = some .string) : Opens P t (fun xs => ∃ s, xs = [.str s]) := fun H enc w g hc base held fuel cs x h hw => by
  obtain ⟨s, rfl, rfl, h1⟩ := DataW.trod_string ht h
  have h2 : s.data.toList.length ≤ maxN := by
    have := hw s.data.toList.length (by simp [DataW.weights])
    have h3 := reachBytes_lt
    unfold maxN; omega
  refine ⟨_, ⟨s.data.toList, rfl⟩, .cons ?_ (.nil g)⟩
  have := VR.str (g := g) h2
  simpa using this
theorem weights_each {H : Type} {P : Program} {e : Nat} : ∀ {l : List (DataW H)} {d : DataW H}, d ∈ l → ∀ n ∈ d.weights P e, n ∈ DataW.weightsAll P e l
  | x :: l, d, hd, n, hn => by
    simp only [DataW.weightsAll, List.mem_append]
    rcases List.mem_cons.1 hd with rfl | hd
    · exact .inl hn
    · exact .inr (weights_each hd n hn)
theorem opens_slice {P : Program} {t e sz by_ : Nat} {F : List PV → Prop} (ht : P.underlying t = some (.slice e)) (hc : P.cellsOf e = sz) (hb : P.bytesOf e = by_) (h0 : 0 < sz) (hsb : sz ≤ by_) (hF : ∀ ys, F ys → ys.length = sz) (h : Opens P e F) :
    Opens P t (fun xs => ∃ yss : List (List PV), (∀ ys ∈ yss, F ys) ∧ xs = [.slice yss .ro]) := fun H enc w g hg base held fuel cs x hx hw => by
  rcases DataW.trod_slice ht hx with ⟨rfl, rfl⟩ | ⟨a, len, cap, elems, rest, n, rfl, rfl, rfl, h1, h2, h3, h4, h5, h6, h7⟩
  · exact ⟨_, ⟨[], by simp, rfl⟩, .cons .nilR (.nil g)⟩
  subst hc
  have hwe : ∀ y ∈ elems, ∀ n ∈ y.1.weights P e, n ≤ reachBytes := fun y hy n hn => hw n (by
    simp only [DataW.weights, ht, List.mem_cons, List.mem_append]
    exact .inr (.inl (weights_each (List.mem_map_of_mem hy) n hn)))
  have hbytes : len * by_ ≤ reachBytes := by
    have := hw ((elems.length + rest.length) * P.bytesOf e) (by simp [DataW.weights, ht])
    rw [hb, h4] at this
    exact Nat.le_trans (Nat.mul_le_mul_right _ (by omega)) this
  obtain ⟨hrl, hr⟩ := h6 rfl
  obtain ⟨b, off, spot⟩ := a
  have cellspot : ∀ i cs', i = 0 → w.cells? base (Addr.add ⟨b, off, spot⟩ (i * P.cellsOf e)) (P.cellsOf e) = some cs' → spot = none := fun i cs' hi hcs => by
    subst hi
    obtain ⟨_, hl, hc⟩ := World.cells?_some hcs
    have := hc 0 h0
    rw [List.getElem?_eq_getElem (by omega)] at this
    have e0 : Addr.add (Addr.add ⟨b, off, spot⟩ (0 * P.cellsOf e)) 0 = ⟨b, off, spot⟩ := by simp [Addr.add]
    rw [e0] at this
    cases spot with
    | none => rfl
    | some s => rw [cell_spot] at this; cases this
  have hspot : spot = none ∨ (len = 0 ∧ cap = 0) := by
    by_cases hl : len = 0
    · by_cases hcp : cap = 0
      · exact .inr ⟨hl, hcp⟩
      · left
        have := hr 0 (by omega)
        have hlt : 0 < rest.length := by omega
        rw [List.getElem?_eq_getElem hlt, Option.bind_eq_some_iff] at this
        obtain ⟨cs', hcs, _⟩ := this
        exact cellspot _ cs' (by omega) hcs
    · left
      have := h5 0 (by omega)
      have hlt : 0 < elems.length := by omega
      rw [List.getElem?_eq_getElem hlt, Option.bind_eq_some_iff] at this
      obtain ⟨cs', hcs, _⟩ := this
      exact cellspot _ cs' (by omega) hcs
  rcases hspot with rfl | ⟨rfl, rfl⟩
  · have key : ∀ m, m ≤ len → ∃ (us : List Value) (yss : List (List PV)), yss.length = m ∧ us.length = m * P.cellsOf e ∧ (∀ ys ∈ yss, F ys) ∧ VRl g us yss.flatten ∧ ∀ j (hj : j < us.length), w.cell? ⟨b, off + j, none⟩ = some us[j] := by
      intro m
      induction m with
      | zero => intro _; exact ⟨[], [], rfl, by simp, by simp, .nil g, fun j hj => absurd hj (by simp)⟩
      | succ m ih =>
        intro hm
        obtain ⟨us, yss, k1, k2, k3, k4, k5⟩ := ih (by omega)
        have hlt : m < elems.length := by omega
        have := h5 m (by omega)
        rw [List.getElem?_eq_getElem hlt, Option.bind_eq_some_iff] at this
        obtain ⟨cs', hcs, hy⟩ := this
        obtain ⟨_, hl, hcc⟩ := World.cells?_some hcs
        obtain ⟨ys, f1, f2⟩ := h H enc w g hg base held n cs' _ hy (hwe _ (List.getElem_mem hlt))
        refine ⟨us ++ cs', yss ++ [ys], by simp [k1], by rw [List.length_append, k2, hl, Nat.add_mul]; omega, fun z hz => ?_, ?_, fun j hj => ?_⟩
        · rcases List.mem_append.1 hz with hz | hz
          · exact k3 z hz
          · rw [List.mem_singleton.1 hz]; exact f1
        · rw [List.flatten_append]
          have : VRl g cs' [ys].flatten := by simpa using f2
          exact k4.append this
        · by_cases hju : j < us.length
          · rw [List.getElem_append_left hju]; exact k5 j hju
          · rw [List.getElem_append_right (by omega)]
            have hj2 : j - us.length < cs'.length := by rw [List.length_append] at hj; omega
            have := hcc (j - us.length) (by omega)
            rw [List.getElem?_eq_getElem hj2] at this
            have e2 : off + j = off + m * P.cellsOf e + (j - us.length) := by rw [← k2]; omega
            rw [← this, e2, add_plain, add_plain]
    obtain ⟨us, yss, k1, k2, k3, k4, k5⟩ := key len (Nat.le_refl _)
    refine ⟨_, ⟨yss, k3, rfl⟩, .cons ?_ (.nil g)⟩
    have hr2 := reachBytes_lt
    have hb1 : len * P.cellsOf e ≤ len * by_ := Nat.mul_le_mul_left _ hsb
    have hb2 : len ≤ len * P.cellsOf e := Nat.le_mul_of_pos_right _ h0
    have := VR.of_cells (g := g) (xs := yss) (t := .ro) (sz := P.cellsOf e) (b := b) (off := off) (cap := cap) (fun y hy => hF y (k3 y hy)) (by omega) (by rw [k1]; unfold maxN; omega) k4 (fun j hj => hg _ _ _ (k5 j hj)) (by simp) (by simp)
    rw [k1] at this
    exact this
  · exact ⟨_, ⟨[], by simp, rfl⟩, .cons .nilR (.nil g)⟩

/-! ### Structs -/
/-- A struct's fields, by their types and places. -/
def structRow : TypeDesc → Option (List (Nat × Nat))
  | .struct fs => some (fs.toList.map fun f => (f.type, f.offset))
  | _ => none
inductive FOpen (P : Program) : List (Nat × Nat) → List (List PV → Prop) → Nat → Nat → Prop
  | nil (n : Nat) : FOpen P [] [] n n
  | cons {t o n : Nat} {r : List (Nat × Nat)} {F : List PV → Prop} {Fs : List (List PV → Prop)} (sz : Nat) (hs : P.cellsOf t = sz) (h : Opens P t F) (k : FOpen P r Fs (o + sz) n) : FOpen P ((t, o) :: r) (F :: Fs) o n
inductive AllF : List (List PV → Prop) → List (List PV) → Prop
  | nil : AllF [] []
  | cons {F : List PV → Prop} {Fs : List (List PV → Prop)} {y : List PV} {ys : List (List PV)} (h : F y) (k : AllF Fs ys) : AllF (F :: Fs) (y :: ys)
theorem opens_fields {P : Program} {H : Type} {enc : TypeId × Value → H} {w : World} {g : Gh} (hg : ∀ b o v, w.cell? ⟨b, o, none⟩ = some v → g.H b o = some v) {base fuel : Nat} {held : Bool} {cs : List Value} :
    ∀ {r : List (Nat × Nat)} {Fs : List (List PV → Prop)} {o n : Nat}, FOpen P r Fs o n → cs.length = n →
      (∀ (i t o : Nat), r[i]? = some (t, o) → ∃ x, DataW.trod enc P w base (fun _ => true) held fuel t ((cs.drop o).take (P.cellsOf t)) = some x ∧ ∀ n ∈ x.1.weights P t, n ≤ reachBytes) → ∃ yss, AllF Fs yss ∧ VRl g (cs.drop o) yss.flatten
  | _, _, _, _, .nil n, hn, _ => ⟨[], .nil, by rw [List.drop_eq_nil_of_le (by omega)]; exact .nil g⟩
  | _, _, _, _, .cons (t := t) (o := o) sz hs h k, hn, hx => by
    obtain ⟨x, h1, h2⟩ := hx 0 t o rfl
    obtain ⟨ys, f1, f2⟩ := h H enc w g hg base held fuel _ x h1 h2
    obtain ⟨yss, k1, k2⟩ := opens_fields hg k hn (fun i t o hi => hx (i + 1) t o (by simpa using hi))
    refine ⟨ys :: yss, .cons f1 k1, ?_⟩
    rw [hs] at f2
    have := f2.append k2
    rw [← List.drop_drop, List.take_append_drop] at this
    simpa using this
theorem opens_struct {P : Program} {t n : Nat} {r : List (Nat × Nat)} {Fs : List (List PV → Prop)} (hr : (P.underlying t).bind structRow = some r) (hn : P.cellsOf t = n) (h : FOpen P r Fs 0 n) : Opens P t (fun xs => ∃ yss, AllF Fs yss ∧ xs = yss.flatten) := fun H enc w g hg base held fuel cs x hx hw => by
  obtain ⟨td, h1, h2⟩ := Option.bind_eq_some_iff.1 hr
  obtain ⟨fs, rfl⟩ : ∃ fs, td = .struct fs := by
    cases td <;> simp [structRow] at h2
    exact ⟨_, rfl⟩
  simp only [structRow, Option.some.injEq] at h2
  obtain ⟨xs, m, rfl, rfl, k1, k2, k3⟩ := DataW.trod_struct h1 hx
  obtain ⟨yss, j1, j2⟩ := opens_fields (enc := enc) (w := w) (base := base) (held := held) (fuel := m) hg (cs := cs) h (by rw [k1, hn]) (fun i t' o hi => by
    rw [← h2, List.getElem?_map, Option.map_eq_some_iff] at hi
    obtain ⟨f, hf, e⟩ := hi
    obtain ⟨e1, e2⟩ := Prod.mk.inj e
    subst e1 e2
    have hf' : fs[i]? = some f := by simpa using hf
    have hlt : i < xs.length := by
      rw [k2]
      exact (Array.getElem?_eq_some_iff.1 hf').1
    refine ⟨xs[i], by rw [k3 i f hf', List.getElem?_eq_getElem hlt], fun n hn => hw n ?_⟩
    simp only [DataW.weights, h1]
    exact DataW.weights_mem_each (j := i) (t := f.type) (d := xs[i].1) (by simp [hf']) (by simp [hlt]) n hn)
  exact ⟨_, ⟨yss, j1, rfl⟩, by simpa using j2⟩
theorem exists_map {α : Type} {f : α → List PV} : ∀ {yss : List (List PV)}, (∀ ys ∈ yss, ∃ a, ys = f a) → ∃ l : List α, yss = l.map f
  | [], _ => ⟨[], rfl⟩
  | y :: yss, h => by
    obtain ⟨a, ha⟩ := h y List.mem_cons_self
    obtain ⟨l, hl⟩ := exists_map (yss := yss) (fun z hz => h z (List.mem_cons_of_mem _ hz))
    exact ⟨a :: l, by rw [ha, hl]; rfl⟩
theorem Opens.list {P : Program} {t e sz by_ : Nat} {α : Type} {f : α → List PV} (h : Opens P e (fun xs => ∃ a, xs = f a)) (hf : ∀ a, (f a).length = sz) (ht : P.underlying t = some (.slice e)) (hc : P.cellsOf e = sz) (hb : P.bytesOf e = by_) (h0 : 0 < sz) (hsb : sz ≤ by_) : Opens P t (fun xs => ∃ l : List α, xs = [.slice (l.map f) .ro]) :=
  Opens.to (opens_slice ht hc hb h0 hsb (fun ys ⟨a, ha⟩ => by rw [ha]; exact hf a) h) fun xs ⟨yss, h1, h2⟩ => by
    obtain ⟨l, rfl⟩ := exists_map h1
    exact ⟨l, h2⟩
/-- Digests. -/
theorem opens_dig {P : Program} {t e : Nat} (ht : P.underlying t = some (.array 32 e)) (he : P.underlying e = some (.int .u8)) (hc : P.cellsOf t = 32) (hce : P.cellsOf e = 1) : Opens P t (fun xs => ∃ d, xs = eDig d) := fun H enc w g hg base held fuel cs x hx hw => by
  obtain ⟨xs, m, rfl, rfl, k1, k2, k3⟩ := DataW.trod_array ht hx
  rw [hc] at k1
  have each : ∀ i (hi : i < cs.length), ∃ b : UInt8, cs[i] = .int .u8 b.toNat := fun i hi => by
    have := k3 i (by omega)
    rw [List.getElem?_eq_getElem (by omega), hce, Nat.mul_one] at this
    obtain ⟨n, e1, _, hwf⟩ := DataW.trod_int he this
    have e2 : (cs.drop i).take 1 = [cs[i]] := by
      rw [List.drop_eq_getElem_cons hi]; rfl
    rw [e2] at e1
    simp only [List.cons.injEq, and_true] at e1
    simp [Lit.wf, IntKind.min, IntKind.max, IntKind.signed, IntKind.bits] at hwf
    refine ⟨n.toNat.toUInt8, ?_⟩
    rw [e1]
    congr 1
    simp
    omega
  have : ∀ l : List Value, (∀ v ∈ l, ∃ b : UInt8, v = .int .u8 b.toNat) → ∃ bs : List UInt8, l = bs.map u8 := by
    intro l
    induction l with
    | nil => intro _; exact ⟨[], rfl⟩
    | cons v l ih =>
      intro h
      obtain ⟨b, rfl⟩ := h v List.mem_cons_self
      obtain ⟨bs, rfl⟩ := ih (fun v hv => h v (List.mem_cons_of_mem _ hv))
      exact ⟨b :: bs, rfl⟩
  obtain ⟨bs, rfl⟩ := this cs (fun v hv => by
    obtain ⟨i, hi, rfl⟩ := List.mem_iff_getElem.1 hv
    exact each i hi)
  refine ⟨_, ⟨⟨bs, by simpa using k1⟩, rfl⟩, ?_⟩
  refine ⟨by simp [eDig], fun i h1 h2 => ?_⟩
  simp [eDig, eU8]
  exact .raw _

/-! ### The world in which a call begins, and the one in which it ends -/
def gAll (w : World) : Gh := ⟨fun b o => w.cell? ⟨b, o, none⟩, fun b => if b = globAt then some (.row pow10Tab) else none⟩
theorem inv_all {w : World} (h : ∃ T p, w.heap[globAt]? = some (.cells pow10Tab.toArray T p)) : Inv w (gAll w) [] :=
  ⟨fun _ _ _ h => h, fun b z hz => (by
    simp only [gAll] at hz
    split at hz
    · rename_i e; subst e; cases hz; exact h
    · cases hz), by simp, List.nodup_nil, ⟨by simp [gAll]⟩⟩
theorem Step.below {w w' : World} {g g' : Gh} (h : Step [] w g w' g') : Go.RowKit.Below w.heap.size w w' := ⟨h.os, h.tape, h.output.1, h.size, fun k hk => h.keep k hk (by simp)⟩
end Go.Q
