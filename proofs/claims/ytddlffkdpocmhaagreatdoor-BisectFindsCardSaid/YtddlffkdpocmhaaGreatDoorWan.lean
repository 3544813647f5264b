/- Contracts: identities inserted; the atoms of a patch (the reference's layer 16). -/
import Derived.Test.YtddlffkdpocmhaaGreatDoorWam
import Derived.Test.YtddlffkdpocmhaaGreatDoorWah
import Derived.Test.YtddlffkdpocmhaaGreatDoorWaj
import Derived.Test.YtddlffkdpocmhaaGreatDoorWak
import Derived.Test.YtddlffkdpocmhaaGreatDoorWal
set_option linter.unusedSimpArgs false
set_option linter.unusedVariables false
namespace Go.Proofs
open Go Go.Q
attribute [local irreducible] pwp pops PCalls OpN

/-- Ascending identities with one more. -/
def insI : List Ident → Ident → List Ident
  | [], d => [d]
  | x :: xs, d => if cmpI x d < 0 then x :: insI xs d else if x = d then x :: xs else d :: x :: xs
theorem insI_at : ∀ {l : List Ident} {d : Ident} {k : Nat}, k ≤ l.length → (∀ i (h : i < l.length), i < k → cmpI l[i] d < 0) → (∀ h : k < l.length, ¬ cmpI l[k] d < 0) →
    insI l d = if ∃ h : k < l.length, l[k] = d then l else l.take k ++ d :: l.drop k
  | [], d, k, hk, _, _ => by simp [insI]
  | x :: xs, d, 0, _, _, hk => by
    have := hk (by simp)
    simp only [List.getElem_cons_zero] at this
    simp [insI, this]
  | x :: xs, d, k + 1, hl, h1, h2 => by
    have h0 := h1 0 (by simp) (by omega)
    simp only [List.getElem_cons_zero] at h0
    have ih := insI_at (l := xs) (d := d) (k := k) (by simpa using hl) (fun i h hi => by have := h1 (i + 1) (by simpa using h) (by omega); simpa using this) (fun h => by have := h2 (by simpa using h); simpa using this)
    simp only [insI, h0, if_true, ih]
    simp only [List.length_cons, Nat.add_lt_add_iff_right, List.getElem_cons_succ, List.take_succ_cons, List.drop_succ_cons]
    split <;> rfl
theorem insI_len (l : List Ident) (d : Ident) : (insI l d).length ≤ l.length + 1 := by
  induction l with
  | nil => simp [insI]
  | cons y l ih =>
    unfold insI
    split
    · simp only [List.length_cons]; omega
    · split <;> simp only [List.length_cons] <;> omega
set_option maxHeartbeats 1000000 in
instance Insert_ct (l : List Ident) (d : Ident) (t : Tag) [hs : Small (l.length ≤ 1000000)] : FnC Tryz.prog 234 [.slice (l.map eIdent) t, .agg (eIdent d)] (.slice ((insI l d).map eIdent) .ro) := ⟨by
  refine fn_of Tryz.func234 Tryz.ntmps234 rfl (rs := [.tmp 4]) rfl rfl fun hb LF => ?_
  have hlen : l.length ≤ 1000000 := hs.out
  refine walkb fun b => ?_
  refine pwp_loopS (σ := Nat) (fun k => k ≤ l.length ∧ ∀ i (h : i < l.length), i < k → cmpI l[i] d < 0) (fun k => l.length - k) (fun k => [(0, .slice (l.map eIdent) t), (3, .raw (.pointer (some ⟨b, 0, none⟩))), (5, .raw (.int .i64 k))]) (fun _ => .box b 115 (eIdent d) :: LF) 0 ⟨by simp, by simp⟩ ⟨rfl, rfl, rfl⟩ (.refl _) ?_
  rintro k ⟨hk, hne⟩
  refine walk ?_
  refine pops_if (fun hp => ?_) (fun hp => ?_)
  · have hc : (k : Int) < l.length := of_decide_eq_true hp
    refine walkp ?_
    refine pwp_condD (fun h1 => ?_) (fun h1 => ?_)
    · refine walk ?_
      refine ⟨k + 1, ⟨by omega, fun i h hi => ?_⟩, by dsimp only; omega, ⟨rfl, rfl, rfl⟩, .refl _⟩
      rcases Nat.lt_or_ge i k with h' | h'
      · exact hne i h h'
      · have : i = k := by omega
        subst this; exact h1
    · refine walk ?_
      refine pwp_condD (fun h2 => ?_) (fun h2 => ?_)
      · refine walk ?_
        refine end1 (.ros ?_)
        rw [insI_at hk hne (fun _ => h1), if_pos ⟨by omega, h2⟩]
      · refine walka fun t1 => ?_
        refine walkap fun t2 => ?_
        refine walkap fun t3 => ?_
        refine end1 (.ros ?_)
        rw [insI_at hk hne (fun _ => h1), if_neg (fun ⟨_, e⟩ => h2 e)]
        simp
  · have hc : ¬ (k : Int) < l.length := of_decide_eq_false hp
    refine walkp ?_
    refine walkap fun t1 => ?_
    refine walkap fun t2 => ?_
    refine walkap fun t3 => ?_
    refine end1 (.ros ?_)
    rw [insI_at hk hne (fun h => absurd (show (k : Int) < l.length by omega) hc), if_neg (fun ⟨h, _⟩ => hc (by omega))]
    simp⟩

def rOverF (d : Dig) (l : List Ident) : List Ident := l.foldl (fun m y => insI m (rWhole y d)) []
def rFull1 (d : Dig) (a : Atm) : Atm := { a with id := { a.id with patch := d } }
def rFull2 (d : Dig) (a : Atm) : Atm := if a.kind ≠ 7 then { a with file := rWhole a.file d } else a
def rFull3 (d : Dig) (a : Atm) : Atm := if a.kind = 2 then { a with parent := rWhole a.parent d } else a
def rFull4 (d : Dig) (a : Atm) : Atm := if a.kind = 6 then { a with src := rWhole a.src d, dst := rWhole a.dst d } else a
def rFull5 (d : Dig) (a : Atm) : Atm := { a with over := rOverF d a.over }
def rFull (d : Dig) (a : Atm) : Atm := rFull5 d (rFull4 d (rFull3 d (rFull2 d (rFull1 d a))))
theorem rFull4_over (d : Dig) (a : Atm) : (rFull4 d (rFull3 d (rFull2 d (rFull1 d a)))).over = a.over := by
  unfold rFull4 rFull3 rFull2 rFull1
  repeat' split
  all_goals rfl
theorem rOverF_len (d : Dig) (l : List Ident) (k : Nat) : ((l.take k).foldl (fun m y => insI m (rWhole y d)) []).length ≤ k := by
  induction k with
  | zero => simp
  | succ k ih =>
    by_cases h : k < l.length
    · rw [List.take_succ_eq_append_getElem h, List.foldl_append]
      have := insI_len ((l.take k).foldl (fun m y => insI m (rWhole y d)) []) (rWhole l[k] d)
      simp only [List.foldl_cons, List.foldl_nil]; omega
    · rw [List.take_of_length_le (by omega)] at ih ⊢; omega
def rAtoms (p : Pat) : List Atm × Int := if (rId p).2 ≠ 0 then ([], (rId p).2) else ((rCheckP p).1.map (rFull (rId p).1), 0)

/-! ### How many atoms, and how much they supersede -/
theorem rMade_over {c : Chg} {first : Int} (h : c.over.length ≤ 40) : ∀ a ∈ rMade c first, a.over.length ≤ 40 := by
  intro a ha
  unfold rMade at ha
  repeat' split at ha
  all_goals simp only [List.mem_singleton, List.mem_append, List.mem_map] at ha
  all_goals first
    | (subst ha; first | exact h | (show ([] : List Ident).length ≤ 40; decide))
    | (rcases ha with ⟨_, _, rfl⟩ | ⟨_, _, rfl⟩ <;> (show ([] : List Ident).length ≤ 40; decide))
theorem rChanges_facts : ∀ (l : List Chg) (own : List Atm), (∀ c ∈ l, chgOk c) → (∀ a ∈ own, a.over.length ≤ 40) → (rChanges l own).1.length ≤ own.length + l.length * 81 ∧ ∀ a ∈ (rChanges l own).1, a.over.length ≤ 40
  | [], own, _, h => ⟨by simp [rChanges], by simpa [rChanges] using h⟩
  | c :: l, own, hc, ho => by
    unfold rChanges
    split
    · exact ⟨by simp, by simp⟩
    · split
      · exact ⟨by simp, by simp⟩
      · have hcc := hc c (by simp)
        have h1 := rMade_len c own.length
        have h2 := rMade_over (first := own.length) hcc.over
        have h3 := hcc.lines
        have ih := rChanges_facts l (own ++ rMade c own.length) (fun x hx => hc x (by simp [hx])) (fun a ha => by
          rcases List.mem_append.1 ha with h | h
          · exact ho a h
          · exact h2 a h)
        rw [List.length_append] at ih
        refine ⟨?_, ih.2⟩
        have := ih.1
        simp only [List.length_cons, Nat.add_mul]; omega
theorem rCheckP_facts {p : Pat} (h : rGreat p = false) : (rCheckP p).1.length ≤ 1620 ∧ ∀ a ∈ (rCheckP p).1, a.over.length ≤ 40 := by
  obtain ⟨_, _, _, hch, hcs⟩ := great_facts h
  unfold rCheckP
  repeat' split
  all_goals first
    | exact ⟨by simp, by simp⟩
    | (have := rChanges_facts p.changes [] hcs (by simp)
       exact ⟨by have h1 := this.1; simp only [List.length_nil] at h1; omega, this.2⟩)
end Go.Proofs
/- Contracts: the atoms of a patch (the reference's layers 16 and 17). -/
namespace Go.Proofs
open Go Go.Q
attribute [local irreducible] pwp pops PCalls OpN

set_option maxHeartbeats 2000000 in
instance Atoms_ct (p : Pat) [hs : Small (rGreat p = false)] : FnC Tryz.prog 200 [.agg (ePat p)] (.tuple [.slice ((rAtoms p).1.map eAtm) .ro, .raw (.int .i64 (rAtoms p).2)]) := ⟨by
  obtain ⟨hal, hao⟩ := rCheckP_facts hs.out
  refine fn_of Tryz.func200 Tryz.ntmps200 rfl (rs := [.tmp 2, .tmp 3]) rfl rfl fun hb LF => ?_
  refine walkb fun b1 => ?_
  refine walkbp fun b4 => ?_
  refine pwp_condN (fun h => ?_) (fun h => ?_)
  · refine walk ?_
    refine end2 ?_
    rw [rAtoms, if_pos h]
    exact .tuple2 (.ro _ _) (.refl _)
  rw [rAtoms, if_neg (by simp [h])]
  refine walk ?_
  generalize (rId p).1 = d
  generalize (rCheckP p).1 = own at hal hao
  refine pwp_tok 172 ?_
  refine pwp_loopS (σ := Nat × List Atm × Tag) (fun k => k.1 ≤ own.length ∧ k.2.1 = (own.take k.1).map (rFull d)) (fun k => own.length - k.1) (fun k => [(4, .raw (.pointer (some ⟨b4, 0, none⟩))), (6, .slice (own.map eAtm) .ro), (8, .slice (k.2.1.map eAtm) k.2.2), (9, .raw (.int .i64 k.1))]) (fun k => .tok k.2.2 k.2.1.length 172 :: .box b4 37 (eDig d) :: LF) (0, [], .nil) ⟨by simp, by simp⟩ ⟨rfl, rfl, rfl, rfl⟩ (.cons_cons _ (.cons_cons _ (.cons _ (.refl _)))) ?_
  rintro ⟨i, out, v⟩ ⟨hi, ho⟩
  dsimp only at hi ho ⊢
  have hol : out.length = i := by rw [ho]; simp; omega
  refine walk ?_
  refine pwp_condD (fun hc => ?_) (fun hc => ?_)
  · have hlt : i < own.length := by omega
    have hov := hao _ (List.getElem_mem hlt)
    refine walkb fun b10 => ?_
    refine pwp_joinG (σ := Unit) (fun _ => True) (fun _ => [(4, .raw (.pointer (some ⟨b4, 0, none⟩))), (6, .slice (own.map eAtm) .ro), (8, .slice (out.map eAtm) v), (9, .raw (.int .i64 i)), (10, .raw (.pointer (some ⟨b10, 0, none⟩)))]) (fun _ => .box b10 157 (eAtm (rFull2 d (rFull1 d own[i]))) :: .tok v out.length 172 :: .box b4 37 (eDig d) :: LF) ?_ ?_
    · refine pwp_condN (fun h7 => ?_) (fun h7 => ?_)
      · refine walk ?_
        refine ⟨(), trivial, ⟨rfl, rfl, rfl, rfl, rfl⟩, ?_⟩
        have h7' : (rFull1 d own[i]).kind ≠ 7 := h7
        rw [rFull2, if_pos h7']; exact .refl _
      · refine walk ?_
        refine ⟨(), trivial, ⟨rfl, rfl, rfl, rfl, rfl⟩, ?_⟩
        have h7' : (rFull1 d own[i]).kind = 7 := h7
        rw [rFull2, if_neg (by simp [h7'])]; exact .refl _
    rintro _ _
    generalize ha2 : rFull2 d (rFull1 d own[i]) = a2
    refine walk ?_
    refine pwp_joinG (σ := Unit) (fun _ => True) (fun _ => [(4, .raw (.pointer (some ⟨b4, 0, none⟩))), (6, .slice (own.map eAtm) .ro), (8, .slice (out.map eAtm) v), (9, .raw (.int .i64 i)), (10, .raw (.pointer (some ⟨b10, 0, none⟩)))]) (fun _ => .box b10 157 (eAtm (rFull3 d a2)) :: .tok v out.length 172 :: .box b4 37 (eDig d) :: LF) ?_ ?_
    · refine pwp_condD (fun h7 => ?_) (fun h7 => ?_)
      · refine walk ?_
        refine ⟨(), trivial, ⟨rfl, rfl, rfl, rfl, rfl⟩, ?_⟩
        rw [rFull3, if_pos h7]; exact .refl _
      · refine walk ?_
        refine ⟨(), trivial, ⟨rfl, rfl, rfl, rfl, rfl⟩, ?_⟩
        rw [rFull3, if_neg h7]; exact .refl _
    rintro _ _
    generalize ha3 : rFull3 d a2 = a3
    refine walk ?_
    refine pwp_joinG (σ := Unit) (fun _ => True) (fun _ => [(4, .raw (.pointer (some ⟨b4, 0, none⟩))), (6, .slice (own.map eAtm) .ro), (8, .slice (out.map eAtm) v), (9, .raw (.int .i64 i)), (10, .raw (.pointer (some ⟨b10, 0, none⟩)))]) (fun _ => .box b10 157 (eAtm (rFull4 d a3)) :: .tok v out.length 172 :: .box b4 37 (eDig d) :: LF) ?_ ?_
    · refine pwp_condD (fun h7 => ?_) (fun h7 => ?_)
      · refine walkn ?_
        refine pwp_draw [false, false, false, false, false, false, false, false, false, true, false, true] ?_ ?_
        · decide +kernel
        refine walkp ?_
        refine ⟨(), trivial, ⟨rfl, rfl, rfl, rfl, rfl⟩, ?_⟩
        rw [rFull4, if_pos h7]; exact .refl _
      · refine walk ?_
        refine ⟨(), trivial, ⟨rfl, rfl, rfl, rfl, rfl⟩, ?_⟩
        rw [rFull4, if_neg h7]; exact .refl _
    rintro _ _
    have hover : (rFull4 d a3).over = own[i].over := by rw [← ha3, ← ha2]; exact rFull4_over d own[i]
    generalize ha4 : rFull4 d a3 = a4 at hover
    have hov4 : a4.over.length ≤ 40 := by rw [hover]; exact hov
    refine walk ?_
    refine pwp_loopS (σ := Nat × List Ident × Tag) (fun j => j.1 ≤ a4.over.length ∧ j.2.1 = (a4.over.take j.1).foldl (fun m y => insI m (rWhole y d)) []) (fun j => a4.over.length - j.1) (fun j => [(4, .raw (.pointer (some ⟨b4, 0, none⟩))), (6, .slice (own.map eAtm) .ro), (8, .slice (out.map eAtm) v), (9, .raw (.int .i64 i)), (10, .raw (.pointer (some ⟨b10, 0, none⟩))), (11, .slice (j.2.1.map eIdent) j.2.2), (12, .raw (.int .i64 j.1))]) (fun _ => .box b10 157 (eAtm a4) :: .tok v out.length 172 :: .box b4 37 (eDig d) :: LF) (0, [], .nil) ⟨by simp, by simp⟩ ⟨rfl, rfl, rfl, rfl, rfl, rfl, rfl⟩ (.refl _) ?_
    rintro ⟨j, m, z⟩ ⟨hj, hm⟩
    dsimp only at hj hm ⊢
    have hml : m.length ≤ j := by rw [hm]; exact rOverF_len d a4.over j
    refine walk ?_
    refine pwp_condD (fun hc2 => ?_) (fun hc2 => ?_)
    · have hlt2 : j < a4.over.length := by omega
      have : Small (m.length ≤ 1000000) := ⟨by omega⟩
      refine walk ?_
      refine ⟨(j + 1, insI m (rWhole a4.over[j] d), .ro), ⟨by dsimp only; omega, ?_⟩, by dsimp only; omega, ⟨rfl, rfl, rfl, rfl, rfl, rfl, rfl⟩, .refl _⟩
      dsimp only
      rw [List.take_succ_eq_append_getElem hlt2, List.foldl_append, ← hm]; rfl
    · rw [List.take_of_length_le (by omega)] at hm
      refine walka fun v' => ?_
      have e : rFull d own[i] = { a4 with over := m } := by rw [rFull, ha2, ha3, ha4, rFull5, rOverF, ← hm]
      refine ⟨(i + 1, out ++ [{ a4 with over := m }], v'), ⟨by dsimp only; omega, ?_⟩, by dsimp only; omega, ⟨rfl, rfl, rfl, rfl⟩, .cons _ (.refl _)⟩
      dsimp only
      rw [List.take_succ_eq_append_getElem hlt, List.map_append, ← ho, List.map_cons, e]; rfl
  · rw [List.take_of_length_le (by omega)] at ho
    refine walk ?_
    refine end2 ?_
    rw [ho]
    exact .tuple2 (.ro _ _) (.refl _)⟩
end Go.Proofs
/- Contracts: references into other patches of a set (the reference's layer 17). -/
namespace Go.Proofs
open Go Go.Q
attribute [local irreducible] pwp pops PCalls OpN

theorem nfalse {b : Bool} (h : (!b) = false) : ¬ b = false := by cases b <;> simp_all
theorem ntrue {b : Bool} (h : (!b) = true) : b = false := by cases b <;> simp_all
theorem goodS.great {s : List Sto} (h : goodS s) (d : Dig) : rGreat ((getS s d).getD Pat.zero) = false := by
  cases hg : getS s d with
  | none => exact great_zero
  | some p =>
    obtain ⟨x, hx, _, rfl⟩ := getS_mem hg
    exact h.2 x hx
def rAtomsOf (s : List Sto) (d : Dig) : List Atm := (rAtoms ((getS s d).getD Pat.zero)).1
def rAtom (s : List Sto) (x : Ident) : Option Atm := if x.n < 0 ∨ ((rAtomsOf s x.patch).length : Int) ≤ x.n then none else (rAtomsOf s x.patch)[x.n.toNat]?
instance atom17_ct (s : List Sto) (x : Ident) (t : Tag) [hs : Small (goodS s)] : FnC Tryz.prog 160 [.slice (s.map eSto) t, .agg (eIdent x)] (.tuple [.agg (eAtm ((rAtom s x).getD Atm.zero)), .raw (.bool (rAtom s x).isSome)]) := ⟨by
  have i1 : Small (rGreat ((getS s x.patch).getD Pat.zero) = false) := ⟨hs.out.great _⟩
  refine fn_of Tryz.func160 Tryz.ntmps160 rfl (rs := [.cell 4 157, .tmp 5]) rfl rfl fun hb LF => ?_
  refine walkb fun b3 => ?_
  refine walkbp fun b4 => ?_
  refine walkbp fun b6 => ?_
  have e0 : (rAtoms ((getS s x.patch).getD Pat.zero)).1 = rAtomsOf s x.patch := rfl
  rw [e0]
  refine pops_cutE [(31, .raw (.bool (decide (x.n < 0 ∨ ((rAtomsOf s x.patch).length : Int) ≤ x.n)))), (3, .raw (.pointer (some ⟨b3, 0, none⟩))), (4, .raw (.pointer (some ⟨b4, 0, none⟩))), (8, .slice ((rAtomsOf s x.patch).map eAtm) .ro)] (.box b6 57 (ePat ((getS s x.patch).getD Pat.zero)) :: .box b4 157 (eAtm Atm.zero) :: .box b3 115 (eIdent x) :: LF) ?_ ?_
  · repeat' (first | (refine pwp_condD (fun h => ?_) (fun h => ?_) <;> refine walk ?_) | (refine pwp_condN (fun h => ?_) (fun h => ?_) <;> refine walk ?_) | (refine pwp_condB (fun h => ?_) (fun h => ?_) <;> refine walk ?_) | (refine pops_if (fun h => ?_) (fun h => ?_) <;> (have h2 := h; (try simp only [decide_eq_true_eq, decide_eq_false_iff_not, Bool.not_eq_true', Bool.not_eq_false'] at h2); refine walkp ?_)))
    all_goals (refine ⟨⟨holdsB (by rfl) ?_, rfl, rfl, rfl⟩, .refl _⟩; first | (simp_all; done) | (simp_all; omega) | grind)
  refine walk ?_
  refine pwp_condD (fun h => ?_) (fun h => ?_)
  · refine walk ?_
    refine endC1 rfl (.of_eq ?_)
    rw [rAtom, if_pos h]; rfl
  · refine walk ?_
    refine endC1 rfl (.of_eq ?_)
    have hlt : x.n.toNat < (rAtomsOf s x.patch).length := by omega
    rw [rAtom, if_neg h, List.getElem?_eq_getElem hlt]; rfl⟩

/-- The error of an atom that is looked for. -/
def rRefOk (o : Option Atm) (fits : Atm → Bool) : Int := if o.isSome = false then 7 else if fits (o.getD Atm.zero) = false then 8 else 0
def rEndE (s : List Sto) (x file : Ident) (id : Dig) : Int := if rOther x = false ∨ x = file then 0 else rRefOk (rAtom s x) (rFitsEnd (rComplete file id))
set_option maxHeartbeats 1000000 in
instance end17_ct (s : List Sto) (x file : Ident) (id : Dig) (t : Tag) [hs : Small (goodS s)] : FnC Tryz.prog 163 [.slice (s.map eSto) t, .agg (eIdent x), .agg (eIdent file), .agg (eDig id)] (.raw (.int .i64 (rEndE s x file id))) := ⟨by
  refine fn_of Tryz.func163 Tryz.ntmps163 rfl (rs := [.tmp 8]) rfl rfl fun hb LF => ?_
  refine walkb fun b5 => ?_
  refine walkbp fun b6 => ?_
  refine walkbp fun b7 => ?_
  refine pops_cutE [(18, .raw (.bool (decide (rOther x = false ∨ x = file)))), (0, .slice (s.map eSto) t), (5, .raw (.pointer (some ⟨b5, 0, none⟩))), (6, .raw (.pointer (some ⟨b6, 0, none⟩))), (7, .raw (.pointer (some ⟨b7, 0, none⟩)))] (.box b7 37 (eDig id) :: .box b6 115 (eIdent file) :: .box b5 115 (eIdent x) :: LF) ?_ ?_
  · repeat' (first | (refine pwp_condD (fun h => ?_) (fun h => ?_) <;> refine walk ?_) | (refine pwp_condN (fun h => ?_) (fun h => ?_) <;> refine walk ?_) | (refine pwp_condB (fun h => ?_) (fun h => ?_) <;> refine walk ?_) | (refine pops_if (fun h => ?_) (fun h => ?_) <;> (have h2 := h; (try simp only [decide_eq_true_eq, decide_eq_false_iff_not, Bool.not_eq_true', Bool.not_eq_false'] at h2); refine walkp ?_)))
    all_goals (refine ⟨⟨holdsB (by rfl) ?_, rfl, rfl, rfl, rfl⟩, .refl _⟩; first | (simp_all; done) | (simp_all; omega) | grind)
  refine walk ?_
  refine pwp_condD (fun h => ?_) (fun h => ?_)
  · refine walk ?_
    refine end1 (.of_eq ?_)
    rw [rEndE, if_pos h]
  rw [rEndE, if_neg h]
  refine walkb fun b9 => ?_
  refine pwp_condB (fun h2 => ?_) (fun h2 => ?_)
  · refine walk ?_
    refine end1 (.of_eq ?_)
    rw [rRefOk, if_pos (ntrue h2)]
  refine walk ?_
  refine pwp_condB (fun h3 => ?_) (fun h3 => ?_)
  · refine walk ?_
    refine end1 (.of_eq ?_)
    rw [rRefOk, if_neg (nfalse h2), if_pos (ntrue h3)]
  · refine walk ?_
    refine end1 (.of_eq ?_)
    rw [rRefOk, if_neg (nfalse h2), if_neg (nfalse h3)]⟩

def rChgF (s : List Sto) (c : Chg) : Int := if rOther c.file = true then rRefOk (rAtom s c.file) (rFitsFile c.kind) else 0
def rChgP (s : List Sto) (c : Chg) : Int := if rOther c.parent = true then rRefOk (rAtom s c.parent) rDirectory else 0
def rChgO (s : List Sto) (c : Chg) (id : Dig) (x : Ident) : Int := if rOther x = false then 0 else rRefOk (rAtom s x) (rFitsOver c.kind (rComplete c.file id))
def rChgE (s : List Sto) (c : Chg) (id : Dig) : Int :=
  if rChgF s c ≠ 0 then rChgF s c else if rChgP s c ≠ 0 then rChgP s c else if rEndE s c.after c.file id ≠ 0 then rEndE s c.after c.file id else
  if rEndE s c.before c.file id ≠ 0 then rEndE s c.before c.file id else firstErr (rChgO s c id) c.over
set_option maxHeartbeats 2000000 in
instance change17_ct (s : List Sto) (c : Chg) (id : Dig) (t : Tag) [hs : Small (goodS s)] : FnC Tryz.prog 124 [.slice (s.map eSto) t, .agg (eChg c), .agg (eDig id)] (.raw (.int .i64 (rChgE s c id))) := ⟨by
  refine fn_of Tryz.func124 Tryz.ntmps124 rfl (rs := [.tmp 6]) rfl rfl fun hb LF => ?_
  have hlen : c.over.length ≤ 140737488355328 := ((hb (.agg (eChg c)) (by simp)).agg_at (c := .slice (c.over.map eIdent) .ro) (by simp [eChg])).slice_map
  refine walkb fun b4 => ?_
  refine walkbp fun b5 => ?_
  refine pwp_joinG (σ := Unit) (fun _ => rChgF s c = 0) (fun _ => [(0, .slice (s.map eSto) t), (4, .raw (.pointer (some ⟨b4, 0, none⟩))), (5, .raw (.pointer (some ⟨b5, 0, none⟩)))]) (fun _ => .box b5 37 (eDig id) :: .box b4 119 (eChg c) :: LF) ?_ ?_
  · refine pwp_condB (fun h => ?_) (fun h => ?_)
    · have e : rChgF s c = rRefOk (rAtom s c.file) (rFitsFile c.kind) := by rw [rChgF, if_pos h]
      refine walkb fun b7 => ?_
      refine pwp_condB (fun h2 => ?_) (fun h2 => ?_)
      · refine walk ?_
        refine end1 (.of_eq ?_)
        rw [rRefOk, if_pos (ntrue h2)] at e
        rw [rChgE, if_pos (by rw [e]; decide), e]
      refine walk ?_
      refine pwp_condB (fun h3 => ?_) (fun h3 => ?_)
      · refine walk ?_
        refine end1 (.of_eq ?_)
        rw [rRefOk, if_neg (nfalse h2), if_pos (ntrue h3)] at e
        rw [rChgE, if_pos (by rw [e]; decide), e]
      · refine walk ?_
        rw [rRefOk, if_neg (nfalse h2), if_neg (nfalse h3)] at e
        exact ⟨(), e, ⟨rfl, rfl, rfl⟩, .cons _ (.refl _)⟩
    · refine walk ?_
      exact ⟨(), by rw [rChgF, if_neg (by simp [h])], ⟨rfl, rfl, rfl⟩, .refl _⟩
  rintro _ hF
  refine walk ?_
  refine pwp_joinG (σ := Unit) (fun _ => rChgP s c = 0) (fun _ => [(0, .slice (s.map eSto) t), (4, .raw (.pointer (some ⟨b4, 0, none⟩))), (5, .raw (.pointer (some ⟨b5, 0, none⟩)))]) (fun _ => .box b5 37 (eDig id) :: .box b4 119 (eChg c) :: LF) ?_ ?_
  · refine pwp_condB (fun h => ?_) (fun h => ?_)
    · have e : rChgP s c = rRefOk (rAtom s c.parent) rDirectory := by rw [rChgP, if_pos h]
      refine walkb fun b7 => ?_
      refine pwp_condB (fun h2 => ?_) (fun h2 => ?_)
      · refine walk ?_
        refine end1 (.of_eq ?_)
        rw [rRefOk, if_pos (ntrue h2)] at e
        rw [rChgE, if_neg (by simp [hF]), if_pos (by rw [e]; decide), e]
      refine walk ?_
      refine pwp_condB (fun h3 => ?_) (fun h3 => ?_)
      · refine walk ?_
        refine end1 (.of_eq ?_)
        rw [rRefOk, if_neg (nfalse h2), if_pos (ntrue h3)] at e
        rw [rChgE, if_neg (by simp [hF]), if_pos (by rw [e]; decide), e]
      · refine walk ?_
        rw [rRefOk, if_neg (nfalse h2), if_neg (nfalse h3)] at e
        exact ⟨(), e, ⟨rfl, rfl, rfl⟩, .cons _ (.refl _)⟩
    · refine walk ?_
      exact ⟨(), by rw [rChgP, if_neg (by simp [h])], ⟨rfl, rfl, rfl⟩, .refl _⟩
  rintro _ hP
  rw [rChgE, if_neg (by simp [hF]), if_neg (by simp [hP])]
  refine walk ?_
  refine pwp_condN (fun h1 => ?_) (fun h1 => ?_)
  · refine walk ?_
    refine end1 (.of_eq ?_)
    rw [if_pos h1]
  rw [if_neg (by simp [h1])]
  refine walk ?_
  refine pwp_condN (fun h2 => ?_) (fun h2 => ?_)
  · refine walk ?_
    refine end1 (.of_eq ?_)
    rw [if_pos h2]
  rw [if_neg (by simp [h2])]
  refine walk ?_
  refine pwp_loopS (σ := Nat) (fun k => k ≤ c.over.length ∧ ∀ i (h : i < c.over.length), i < k → rChgO s c id c.over[i] = 0) (fun k => c.over.length - k) (fun k => [(0, .slice (s.map eSto) t), (4, .raw (.pointer (some ⟨b4, 0, none⟩))), (5, .raw (.pointer (some ⟨b5, 0, none⟩))), (13, .raw (.int .i64 k))]) (fun _ => .box b5 37 (eDig id) :: .box b4 119 (eChg c) :: LF) 0 ⟨by simp, by simp⟩ ⟨rfl, rfl, rfl, rfl⟩ (.refl _) ?_
  rintro k ⟨hk, he⟩
  refine walk ?_
  refine pwp_condD (fun hc => ?_) (fun hc => ?_)
  · have hlt : k < c.over.length := by omega
    refine walk ?_
    refine pwp_condB (fun h => ?_) (fun h => ?_)
    · refine walk ?_
      exact ⟨k + 1, ⟨by omega, upto_succ0 he hlt (by rw [rChgO, if_pos (ntrue h)])⟩, by dsimp only; omega, ⟨rfl, rfl, rfl, rfl⟩, .refl _⟩
    have e : rChgO s c id c.over[k] = rRefOk (rAtom s c.over[k]) (rFitsOver c.kind (rComplete c.file id)) := by rw [rChgO, if_neg (nfalse h)]
    refine walkb fun b14 => ?_
    refine pwp_condB (fun h3 => ?_) (fun h3 => ?_)
    · refine walk ?_
      refine end1 (.of_eq ?_)
      rw [rRefOk, if_pos (ntrue h3)] at e
      rw [firstErr_at hlt he (by rw [e]; decide), e]
    refine walk ?_
    refine pwp_condB (fun h4 => ?_) (fun h4 => ?_)
    · refine walk ?_
      refine end1 (.of_eq ?_)
      rw [rRefOk, if_neg (nfalse h3), if_pos (ntrue h4)] at e
      rw [firstErr_at hlt he (by rw [e]; decide), e]
    · refine walk ?_
      rw [rRefOk, if_neg (nfalse h3), if_neg (nfalse h4)] at e
      exact ⟨k + 1, ⟨by omega, upto_succ0 he hlt e⟩, by dsimp only; omega, ⟨rfl, rfl, rfl, rfl⟩, .cons _ (.refl _)⟩
  · refine walk ?_
    refine end1 (.of_eq ?_)
    rw [firstErr_zero fun i h => he i h (by omega)]⟩

def rRefsS (s : List Sto) (p : Pat) (id : Dig) : Int := firstErr (fun c => rChgE s c id) p.changes
instance references17_ct (s : List Sto) (p : Pat) (id : Dig) (t : Tag) [hs : Small (goodS s)] : FnC Tryz.prog 92 [.slice (s.map eSto) t, .agg (ePat p), .agg (eDig id)] (.raw (.int .i64 (rRefsS s p id))) := ⟨by
  refine fn_of Tryz.func92 Tryz.ntmps92 rfl (rs := [.tmp 6]) rfl rfl fun hb LF => ?_
  have hlen : p.changes.length ≤ 140737488355328 := ((hb (.agg (ePat p)) (by simp)).agg_at (c := .slice (p.changes.map eChg) .ro) (by simp [ePat])).slice_map
  refine walkb fun b4 => ?_
  refine walkbp fun b5 => ?_
  refine pwp_loopS (σ := Nat) (fun k => k ≤ p.changes.length ∧ ∀ i (h : i < p.changes.length), i < k → rChgE s p.changes[i] id = 0) (fun k => p.changes.length - k) (fun k => [(0, .slice (s.map eSto) t), (4, .raw (.pointer (some ⟨b4, 0, none⟩))), (5, .raw (.pointer (some ⟨b5, 0, none⟩))), (7, .raw (.int .i64 k))]) (fun _ => .box b5 37 (eDig id) :: .box b4 57 (ePat p) :: LF) 0 ⟨by simp, by simp⟩ ⟨rfl, rfl, rfl, rfl⟩ (.refl _) ?_
  rintro k ⟨hk, he⟩
  refine walk ?_
  refine pwp_condD (fun hc => ?_) (fun hc => ?_)
  · have hlt : k < p.changes.length := by omega
    refine walk ?_
    refine pwp_condN (fun h => ?_) (fun h => ?_)
    · refine walk ?_
      refine end1 (.of_eq ?_)
      rw [rRefsS, firstErr_at hlt he h]
    · refine walk ?_
      exact ⟨k + 1, ⟨by omega, upto_succ0 (f := fun c => rChgE s c id) he hlt h⟩, by dsimp only; omega, ⟨rfl, rfl, rfl, rfl⟩, .refl _⟩
  · refine walk ?_
    refine end1 (.of_eq ?_)
    rw [rRefsS, firstErr_zero fun i h => he i h (by omega)]⟩
end Go.Proofs
/- Contracts: sets that are valid (the reference's layer 17). -/
namespace Go.Proofs
open Go Go.Q
attribute [local irreducible] pwp pops PCalls OpN

theorem nnot {b : Bool} (h : (!b) = false) : b = true := by cases b <;> simp_all
def rChkE (s : List Sto) (i : Nat) : Int :=
  if (rId (s.getD i Sto.zero).patch).2 ≠ 0 then (rId (s.getD i Sto.zero).patch).2 else if (rId (s.getD i Sto.zero).patch).1 ≠ (s.getD i Sto.zero).id then 13 else
  if 0 < (i : Int) ∧ 0 ≤ cmpD (s.getD (i - 1) Sto.zero).id (rId (s.getD i Sto.zero).patch).1 then 9 else 0
def rCheckS (s : List Sto) : Int :=
  if 400 < (s.length : Int) then 4 else if firstErr (rChkE s) (List.range s.length) ≠ 0 then firstErr (rChkE s) (List.range s.length) else
  if s.all (fun x => allIn (ids s) (rNeeds x.patch)) = false then 19 else if ((rOrder s).length : Int) < s.length then 20 else firstErr (fun (x : Sto) => rRefsS s x.patch x.id) s
set_option maxHeartbeats 400000 in
instance CheckS_ct (s : List Sto) (t : Tag) [hs : Small (goodS s)] : FnC Tryz.prog 46 [.slice (s.map eSto) t] (.raw (.int .i64 (rCheckS s))) := ⟨by
  obtain ⟨hl8, hgr⟩ := hs.out
  refine fn_of Tryz.func46 Tryz.ntmps46 rfl (rs := [.tmp 2]) rfl rfl fun hb LF => ?_
  refine walk ?_
  refine pwp_condD (fun h1 => ?_) (fun h1 => ?_)
  · omega
  rw [rCheckS, if_neg h1]
  refine walk ?_
  refine pwp_loopS (σ := Nat) (fun k => k ≤ s.length ∧ ∀ i (h : i < (List.range s.length).length), i < k → rChkE s (List.range s.length)[i] = 0) (fun k => s.length - k) (fun k => [(0, .slice (s.map eSto) t), (3, .raw (.int .i64 k))]) (fun _ => LF) 0 ⟨by simp, by simp⟩ ⟨rfl, rfl⟩ (.refl _) ?_
  rintro k ⟨hk, he⟩
  refine walk ?_
  refine pwp_condD (fun hc => ?_) (fun hc => ?_)
  · have hlt : k < s.length := by omega
    have hltr : k < (List.range s.length).length := by simpa using hlt
    have ek : (List.range s.length)[k] = k := by simp
    have e0 : s.getD k Sto.zero = s[k] := by simp [List.getD, hlt]
    have i1 : Small (rGreat s[k].patch = false) := ⟨hgr _ (List.getElem_mem hlt)⟩
    refine walkb fun b => ?_
    refine pwp_condN (fun h2 => ?_) (fun h2 => ?_)
    · refine walk ?_
      refine end1 (.of_eq ?_)
      have e : rChkE s (List.range s.length)[k] = (rId s[k].patch).2 := by rw [ek, rChkE, e0, if_pos h2]
      have f := firstErr_at hltr he (by rw [e]; exact h2)
      rw [if_pos (by rw [f, e]; exact h2), f, e]
    refine walk ?_
    refine pwp_condN (fun h3 => ?_) (fun h3 => ?_)
    · refine walk ?_
      refine end1 (.of_eq ?_)
      have e : rChkE s (List.range s.length)[k] = 13 := by rw [ek, rChkE, e0, if_neg (by simp [h2]), if_pos h3]
      have f := firstErr_at hltr he (by rw [e]; decide)
      rw [if_pos (by rw [f, e]; decide), f, e]
    refine walk ?_
    refine pops_if (fun hp => ?_) (fun hp => ?_)
    · have hp' : 0 < (k : Int) := of_decide_eq_true hp
      refine walkp ?_
      have e1 : s.getD (k - 1) Sto.zero = s[((k : Int) - 1).toNat] := by
        have : ((k : Int) - 1).toNat = k - 1 := by omega
        simp only [this]
        have h' : k - 1 < s.length := by omega
        simp [List.getD, h']
      refine pwp_condD (fun h4 => ?_) (fun h4 => ?_)
      · refine walk ?_
        refine end1 (.of_eq ?_)
        have e : rChkE s (List.range s.length)[k] = 9 := by rw [ek, rChkE, e0, e1, if_neg (by simp [h2]), if_neg (by simp [h3]), if_pos ⟨hp', h4⟩]
        have f := firstErr_at hltr he (by rw [e]; decide)
        rw [if_pos (by rw [f, e]; decide), f, e]
      · refine walk ?_
        have e : rChkE s (List.range s.length)[k] = 0 := by rw [ek, rChkE, e0, e1, if_neg (by simp [h2]), if_neg (by simp [h3]), if_neg (fun h => h4 h.2)]
        exact ⟨k + 1, ⟨by omega, upto_succ0 he hltr e⟩, by dsimp only; omega, ⟨rfl, rfl⟩, .cons _ (.refl _)⟩
    · have hp' : ¬ 0 < (k : Int) := of_decide_eq_false hp
      refine walkp ?_
      have e : rChkE s (List.range s.length)[k] = 0 := by rw [ek, rChkE, e0, if_neg (by simp [h2]), if_neg (by simp [h3]), if_neg (fun h => hp' h.1)]
      exact ⟨k + 1, ⟨by omega, upto_succ0 he hltr e⟩, by dsimp only; omega, ⟨rfl, rfl⟩, .cons _ (.refl _)⟩
  have hA : firstErr (rChkE s) (List.range s.length) = 0 := firstErr_zero fun i h => he i h (by simp at h; omega)
  rw [if_neg (by simp [hA])]
  clear he hA hk hc
  refine walk ?_
  refine pwp_loopS (σ := Nat) (fun k => k ≤ s.length ∧ ∀ i (h : i < s.length), i < k → allIn (ids s) (rNeeds s[i].patch) = true) (fun k => s.length - k) (fun k => [(0, .slice (s.map eSto) t), (6, .slice ((ids s).map eDig) .ro), (7, .raw (.int .i64 k))]) (fun _ => LF) 0 ⟨by simp, by simp⟩ ⟨rfl, rfl, rfl⟩ (.refl _) ?_
  rintro k ⟨hk, he⟩
  refine walk ?_
  refine pwp_condD (fun hc => ?_) (fun hc => ?_)
  · have hlt : k < s.length := by omega
    have i1 : Small (rGreat s[k].patch = false) := ⟨hgr _ (List.getElem_mem hlt)⟩
    refine walk ?_
    refine pwp_condB (fun h => ?_) (fun h => ?_)
    · refine walk ?_
      refine end1 (.of_eq ?_)
      have hx : allIn (ids s) (rNeeds s[k].patch) = false := ntrue h
      have hy : s.all (fun x => allIn (ids s) (rNeeds x.patch)) = false := all_false_of hlt hx
      rw [if_pos hy]
    · refine walk ?_
      have hx : allIn (ids s) (rNeeds s[k].patch) = true := nnot h
      have hy : ∀ i (h : i < s.length), i < k + 1 → allIn (ids s) (rNeeds s[i].patch) = true := fun i hi hik => by
        rcases Nat.lt_or_ge i k with h' | h'
        · exact he i hi h'
        · have e : i = k := by omega
          subst e; exact hx
      exact ⟨k + 1, ⟨by omega, hy⟩, by dsimp only; omega, ⟨rfl, rfl, rfl⟩, .refl _⟩
  have hB : s.all (fun x => allIn (ids s) (rNeeds x.patch)) = true := all_true_of fun i h => he i h (by omega)
  rw [if_neg (by simp [hB])]
  clear he hB hk hc
  refine walk ?_
  refine pwp_condD (fun h => ?_) (fun h => ?_)
  · refine walk ?_
    refine end1 (.of_eq ?_)
    rw [if_pos h]
  rw [if_neg h]
  refine walk ?_
  refine pwp_loopS (σ := Nat) (fun k => k ≤ s.length ∧ ∀ i (h : i < s.length), i < k → rRefsS s s[i].patch s[i].id = 0) (fun k => s.length - k) (fun k => [(0, .slice (s.map eSto) t), (8, .raw (.int .i64 k))]) (fun _ => LF) 0 ⟨by simp, by simp⟩ ⟨rfl, rfl⟩ (.refl _) ?_
  rintro k ⟨hk, he⟩
  refine walk ?_
  refine pwp_condD (fun hc => ?_) (fun hc => ?_)
  · have hlt : k < s.length := by omega
    refine walk ?_
    refine pwp_condN (fun h2 => ?_) (fun h2 => ?_)
    · refine walk ?_
      refine end1 (.of_eq ?_)
      rw [firstErr_at (f := fun (x : Sto) => rRefsS s x.patch x.id) hlt he h2]
    · refine walk ?_
      exact ⟨k + 1, ⟨by omega, upto_succ0 (f := fun (x : Sto) => rRefsS s x.patch x.id) he hlt h2⟩, by dsimp only; omega, ⟨rfl, rfl⟩, .refl _⟩
  · refine walk ?_
    refine end1 (.of_eq ?_)
    rw [firstErr_zero (f := fun (x : Sto) => rRefsS s x.patch x.id) fun i h => he i h (by omega)]⟩

theorem goodS_of {s : List Sto} (h : rGreatS s = false) : goodS s := by
  unfold rGreatS at h
  simp only [Bool.or_eq_false_iff, decide_eq_false_iff_not, List.any_eq_false] at h
  obtain ⟨⟨h1, h2⟩, _⟩ := h
  refine ⟨by omega, fun x hx => ?_⟩
  have := h1 x (by rw [List.take_of_length_le (by omega)]; exact hx)
  simpa using this
def rFine (s : List Sto) : Bool := !rGreatS s && decide (rCheckS s = 0)
instance Fine_ct (s : List Sto) (t : Tag) : FnC Tryz.prog 48 [.slice (s.map eSto) t] (.raw (.bool (rFine s))) := ⟨by
  refine fn_of Tryz.func48 Tryz.ntmps48 rfl (rs := [.tmp 2]) rfl rfl fun hb LF => ?_
  refine walk ?_
  refine pops_if (fun hp => ?_) (fun hp => ?_)
  · have i1 : Small (goodS s) := ⟨goodS_of (by simpa using hp)⟩
    refine walkp ?_
    refine end1 (.of_eq ?_)
    rw [rFine, hp, Bool.true_and]
  · refine walkp ?_
    refine end1 (.of_eq ?_)
    rw [rFine, hp, Bool.false_and]⟩
end Go.Proofs
/- Contracts: sets with one more patch (the reference's layer 17). -/
namespace Go.Proofs
open Go Go.Q
attribute [local irreducible] pwp pops PCalls OpN

/-- A set with a patch that it does not have. -/
def putS (s : List Sto) (x : Sto) : List Sto := s.takeWhile (fun y => decide (cmpD y.id x.id < 0)) ++ x :: s.dropWhile (fun y => decide (cmpD y.id x.id < 0))
theorem while_at {α : Type} {q : α → Bool} : ∀ {l : List α} {k : Nat}, k ≤ l.length → (∀ i (h : i < l.length), i < k → q l[i] = true) → (∀ h : k < l.length, q l[k] = false) → l.takeWhile q = l.take k ∧ l.dropWhile q = l.drop k
  | [], k, hk, _, _ => by simp
  | x :: l, 0, _, _, h => by
    have := h (by simp)
    simp only [List.getElem_cons_zero] at this
    simp [this]
  | x :: l, k + 1, hk, h1, h2 => by
    have h0 := h1 0 (by simp) (by omega)
    simp only [List.getElem_cons_zero] at h0
    have ih := while_at (l := l) (k := k) (q := q) (by simpa using hk) (fun i h hi => by have := h1 (i + 1) (by simpa using h) (by omega); simpa using this) (fun h => by have := h2 (by simpa using h); simpa using this)
    simp [h0, ih.1, ih.2]
set_option maxHeartbeats 1000000 in
instance put_ct (s : List Sto) (x : Sto) (t : Tag) [hs : Small (s.length ≤ 1000)] : FnC Tryz.prog 99 [.slice (s.map eSto) t, .agg (eSto x)] (.slice ((putS s x).map eSto) .ro) := ⟨by
  have hlen := hs.out
  refine fn_of Tryz.func99 Tryz.ntmps99 rfl (rs := [.tmp 4]) rfl rfl fun hb LF => ?_
  refine walkb fun b => ?_
  refine pwp_loopS (σ := Nat) (fun k => k ≤ s.length ∧ ∀ i (h : i < s.length), i < k → decide (cmpD s[i].id x.id < 0) = true) (fun k => s.length - k) (fun k => [(0, .slice (s.map eSto) t), (3, .raw (.pointer (some ⟨b, 0, none⟩))), (5, .raw (.int .i64 k))]) (fun _ => .box b 59 (eSto x) :: LF) 0 ⟨by simp, by simp⟩ ⟨rfl, rfl, rfl⟩ (.refl _) ?_
  rintro k ⟨hk, he⟩
  have fin : (∀ h : k < s.length, decide (cmpD s[k].id x.id < 0) = false) → putS s x = s.take k ++ [x] ++ s.drop k := fun hn => by
    obtain ⟨e1, e2⟩ := while_at (q := fun (y : Sto) => decide (cmpD y.id x.id < 0)) hk he hn
    rw [putS, e1, e2]; simp
  refine walk ?_
  refine pops_cutE [(21, .raw (.bool (decide ((k : Int) < s.length ∧ cmpD (s.getD k Sto.zero).id x.id < 0)))), (0, .slice (s.map eSto) t), (3, .raw (.pointer (some ⟨b, 0, none⟩))), (5, .raw (.int .i64 k))] (.box b 59 (eSto x) :: LF) ?_ ?_
  · repeat' (first | (refine pwp_condD (fun h => ?_) (fun h => ?_) <;> refine walk ?_) | (refine pwp_condN (fun h => ?_) (fun h => ?_) <;> refine walk ?_) | (refine pwp_condB (fun h => ?_) (fun h => ?_) <;> refine walk ?_) | (refine pops_if (fun h => ?_) (fun h => ?_) <;> (have h2 := h; (try simp only [decide_eq_true_eq, decide_eq_false_iff_not, Bool.not_eq_true', Bool.not_eq_false'] at h2); refine walkp ?_)))
    all_goals (refine ⟨⟨holdsB (by rfl) ?_, rfl, rfl, rfl⟩, .refl _⟩; first | (simp_all [List.getD]; done) | grind)
  refine walk ?_
  refine pwp_condD (fun h => ?_) (fun h => ?_)
  · have hlt : k < s.length := by omega
    have e0 : s.getD k Sto.zero = s[k] := by simp [List.getD, hlt]
    rw [e0] at h
    refine walk ?_
    exact ⟨k + 1, ⟨by omega, upto_succ (q := fun (y : Sto) => decide (cmpD y.id x.id < 0)) he hlt (decide_eq_true h.2)⟩, by dsimp only; omega, ⟨rfl, rfl, rfl⟩, .refl _⟩
  have hput := fin (fun hlt => by
    have e0 : s.getD k Sto.zero = s[k] := by simp [List.getD, hlt]
    rw [e0] at h
    exact decide_eq_false (fun h' => h ⟨by omega, h'⟩))
  clear fin
  refine walkn ?_
  refine pwp_drawP 4 [4, 7] ?_ ?_
  · decide +kernel
  refine walkp ?_
  have tl : (s.take k).length ≤ 1000 := by rw [List.length_take]; omega
  have dl : (s.drop k).length ≤ 1000 := by rw [List.length_drop]; omega
  refine pAny_next (fuel := 4) [4, 5] (by decide +kernel) (by simp) fun i hi => ?_
  simp only [List.mem_cons, List.not_mem_nil, or_false] at hi
  rcases hi with rfl | rfl
  · refine ⟨_, rfl, ?_⟩
    refine walkap fun t1 => ?_
    refine pAny_next (fuel := 3) [5] (by decide +kernel) (by simp) fun i hi => ?_
    simp only [List.mem_cons, List.not_mem_nil, or_false] at hi
    subst hi
    refine ⟨_, rfl, ?_⟩
    refine walkp ?_
    refine pAny_next (fuel := 2) [6] (by decide +kernel) (by simp) fun i hi => ?_
    simp only [List.mem_cons, List.not_mem_nil, or_false] at hi
    subst hi
    refine ⟨_, rfl, ?_⟩
    refine walkp ?_
    refine pAny_next (fuel := 1) [7] (by decide +kernel) (by simp) fun i hi => ?_
    simp only [List.mem_cons, List.not_mem_nil, or_false] at hi
    subst hi
    refine ⟨_, rfl, ?_⟩
    refine walkap fun t2 => ?_
    refine pAny_next (fuel := 0) [8] (by decide +kernel) (by simp) fun i hi => ?_
    simp only [List.mem_cons, List.not_mem_nil, or_false] at hi
    subst hi
    refine ⟨_, rfl, ?_⟩
    refine walkp ?_
    refine pAny_end (by decide +kernel) ?_
    refine walka fun t3 => ?_
    refine end1 (.ros ?_)
    rw [hput]
  · refine ⟨_, rfl, ?_⟩
    refine walkp ?_
    refine pAny_next (fuel := 3) [4, 6] (by decide +kernel) (by simp) fun i hi => ?_
    simp only [List.mem_cons, List.not_mem_nil, or_false] at hi
    rcases hi with rfl | rfl
    · refine ⟨_, rfl, ?_⟩
      refine walkap fun t1 => ?_
      refine pAny_next (fuel := 2) [6] (by decide +kernel) (by simp) fun i hi => ?_
      simp only [List.mem_cons, List.not_mem_nil, or_false] at hi
      subst hi
      refine ⟨_, rfl, ?_⟩
      refine walkp ?_
      refine pAny_next (fuel := 1) [7] (by decide +kernel) (by simp) fun i hi => ?_
      simp only [List.mem_cons, List.not_mem_nil, or_false] at hi
      subst hi
      refine ⟨_, rfl, ?_⟩
      refine walkap fun t2 => ?_
      refine pAny_next (fuel := 0) [8] (by decide +kernel) (by simp) fun i hi => ?_
      simp only [List.mem_cons, List.not_mem_nil, or_false] at hi
      subst hi
      refine ⟨_, rfl, ?_⟩
      refine walkp ?_
      refine pAny_end (by decide +kernel) ?_
      refine walka fun t3 => ?_
      refine end1 (.ros ?_)
      rw [hput]
    · refine ⟨_, rfl, ?_⟩
      refine walkp ?_
      refine pAny_next (fuel := 2) [4] (by decide +kernel) (by simp) fun i hi => ?_
      simp only [List.mem_cons, List.not_mem_nil, or_false] at hi
      subst hi
      refine ⟨_, rfl, ?_⟩
      refine walkap fun t1 => ?_
      refine pAny_next (fuel := 1) [7] (by decide +kernel) (by simp) fun i hi => ?_
      simp only [List.mem_cons, List.not_mem_nil, or_false] at hi
      subst hi
      refine ⟨_, rfl, ?_⟩
      refine walkap fun t2 => ?_
      refine pAny_next (fuel := 0) [8] (by decide +kernel) (by simp) fun i hi => ?_
      simp only [List.mem_cons, List.not_mem_nil, or_false] at hi
      subst hi
      refine ⟨_, rfl, ?_⟩
      refine walkp ?_
      refine pAny_end (by decide +kernel) ?_
      refine walka fun t3 => ?_
      refine end1 (.ros ?_)
      rw [hput]⟩
end Go.Proofs
/- Contracts: a patch added to a set (the reference's layer 17); what is small enough (the statements of layer 31). -/
namespace Go.Proofs
open Go Go.Q
attribute [local irreducible] pwp pops PCalls OpN

theorem endTCT {P : Program} {ρ : Env} {L LF : List Res} {X : PV} {t u s T n b T' : Nat} {cs : List PV} {x z : PV} [hT : TAgg P T n] (h : ρ u = .raw (.pointer (some ⟨b, 0, none⟩))) (hX : Le (.tuple [x, .agg cs, z]) X) (hx : ρ t = x := by conv => lhs; whnf) (hz : ρ s = z := by conv => lhs; whnf) (hm : Res.box b T' cs ∈ L := by repeat (first | exact List.mem_cons_self | apply List.mem_cons_of_mem)) (hn : cs.length = n := by simp) (hs : LF.Sublist L := by repeat (first | exact List.Sublist.refl _ | apply List.Sublist.cons)) :
    Ret P [.tmp t, .cell u T, .tmp s] (fun r L' => Le r X ∧ L' = []) LF .ret ρ L := ⟨trivial, _, [], .cons (.tmp t) (.cons (.cell u T h hm hT.out hn) (.cons (.tmp s) .nil)), hs, by subst hx; subst hz; exact hX, rfl⟩
def rAdd (s : List Sto) (p : Pat) : List Sto × Dig × Int :=
  if (rId p).2 ≠ 0 then ([], Dig.zero, (rId p).2) else
  if (getS s (rId p).1).isSome = true then (if p = (getS s (rId p).1).getD Pat.zero then ([], Dig.zero, 6) else ([], Dig.zero, 14)) else
  if allIn (ids s) (rNeeds p) = false then ([], Dig.zero, 19) else if rRefsS s p (rId p).1 ≠ 0 then ([], Dig.zero, rRefsS s p (rId p).1) else
  if 400 ≤ (s.length : Int) then ([], Dig.zero, 4) else (putS s ⟨(rId p).1, p⟩, (rId p).1, 0)
set_option maxHeartbeats 1000000 in
instance Add_ct (s : List Sto) (p : Pat) (t : Tag) [hg : Small (rGreat p = false)] [hs : Small (goodS s)] : FnC Tryz.prog 51 [.slice (s.map eSto) t, .agg (ePat p)] (.tuple [.slice ((rAdd s p).1.map eSto) .ro, .agg (eDig (rAdd s p).2.1), .raw (.int .i64 (rAdd s p).2.2)]) := ⟨by
  have i1 : Small (s.length ≤ 1000) := ⟨by have := hs.out.1; omega⟩
  refine fn_of Tryz.func51 Tryz.ntmps51 rfl (rs := [.tmp 4, .cell 5 37, .tmp 6]) rfl rfl fun hb LF => ?_
  refine walkb fun b3 => ?_
  refine walkbp fun b5 => ?_
  refine walkbp fun b7 => ?_
  refine pwp_condN (fun h1 => ?_) (fun h1 => ?_)
  · refine walk ?_
    refine endTCT rfl ?_
    rw [rAdd, if_pos h1]
    exact .tuple3 (.ro _ _) (.refl _) (.refl _)
  rw [rAdd, if_neg (by simp [h1])]
  refine walkb fun b9 => ?_
  refine pwp_condB (fun h2 => ?_) (fun h2 => ?_)
  · rw [if_pos h2]
    refine walk ?_
    refine pwp_condD (fun h3 => ?_) (fun h3 => ?_)
    · refine walk ?_
      refine endTCT rfl ?_
      rw [if_pos h3]
      exact .tuple3 (.ro _ _) (.refl _) (.refl _)
    · refine walk ?_
      refine endTCT rfl ?_
      rw [if_neg h3]
      exact .tuple3 (.ro _ _) (.refl _) (.refl _)
  rw [if_neg (by simp [h2])]
  refine walk ?_
  refine pwp_condB (fun h3 => ?_) (fun h3 => ?_)
  · refine walk ?_
    refine endTCT rfl ?_
    rw [if_pos (ntrue h3)]
    exact .tuple3 (.ro _ _) (.refl _) (.refl _)
  rw [if_neg (nfalse h3)]
  refine walk ?_
  refine pwp_condN (fun h4 => ?_) (fun h4 => ?_)
  · refine walk ?_
    refine endTCT rfl ?_
    rw [if_pos h4]
    exact .tuple3 (.ro _ _) (.refl _) (.refl _)
  rw [if_neg (fun h => h h4)]
  refine walk ?_
  refine pwp_condD (fun h5 => ?_) (fun h5 => ?_)
  · have := hs.out.1; omega
  rw [if_neg h5]
  refine walkn ?_
  refine pwp_draw [false, false, false, false, false, false, false, true, false] ?_ ?_
  · decide +kernel
  refine walkp ?_
  refine endTCT rfl ?_
  exact .refl _⟩

def rSmall (s : List Sto) (b : Bis) : Bool := rFine s && decide ((b.left.length : Int) ≤ 10) && decide ((b.asked.length : Int) ≤ 10) && decide ((b.bad.length : Int) ≤ 10)
instance small31_ct (s : List Sto) (b : Bis) (t : Tag) : FnC Tryz.prog 15 [.slice (s.map eSto) t, .agg (eBis b)] (.raw (.bool (rSmall s b))) := ⟨by
  refine fn_of Tryz.func15 Tryz.ntmps15 rfl (rs := [.tmp 4]) rfl rfl fun hb LF => ?_
  refine walkb fun b3 => ?_
  repeat' (first | (refine pwp_condD (fun h => ?_) (fun h => ?_) <;> refine walk ?_) | (refine pwp_condN (fun h => ?_) (fun h => ?_) <;> refine walk ?_) | (refine pwp_condB (fun h => ?_) (fun h => ?_) <;> refine walk ?_) | (refine pops_if (fun h => ?_) (fun h => ?_) <;> (have h2 := h; (try simp only [decide_eq_true_eq, decide_eq_false_iff_not, Bool.not_eq_true', Bool.not_eq_false'] at h2); refine walkp ?_)))
  all_goals (refine end1 (.of_eq ?_); unfold rSmall; generalize rFine s = q at *; first | (simp_all; done) | grind)⟩
end Go.Proofs
/- Plain laws: what a valid set is: closed, ascending, without cycles. -/
namespace Go.Proofs
open Go Go.Q

theorem firstErr_eq_zero {α : Type} {f : α → Int} {l : List α} (h : firstErr f l = 0) : ∀ x ∈ l, f x = 0 := by
  induction l with
  | nil => intro x hx; cases hx
  | cons y l ih =>
    unfold firstErr at h
    split at h
    · rename_i h0
      intro x hx
      rcases List.mem_cons.1 hx with rfl | hx
      · exact h0
      · exact ih h x hx
    · rename_i h0; exact absurd h h0

structure Valid (s : List Sto) : Prop where
  close : closeS s
  id : ∀ x ∈ s, (rId x.patch).2 = 0 ∧ (rId x.patch).1 = x.id
  asc : Asc (ids s)
  order : s.length ≤ (rOrder s).length
  refs : ∀ x ∈ s, rRefsS s x.patch x.id = 0

theorem asc_of_steps : ∀ {l : List Dig}, (∀ i (h : i + 1 < l.length), Dig.lt l[i] l[i + 1]) → Asc l
  | [], _ => .nil
  | [x], _ => List.pairwise_singleton _ _
  | x :: y :: l, h => by
    have ih : Asc (y :: l) := asc_of_steps fun i hi => by have := h (i + 1) (by simpa using hi); simpa using this
    have h0 := h 0 (by simp)
    simp only [List.getElem_cons_zero, List.getElem_cons_succ] at h0
    refine List.pairwise_cons.2 ⟨fun z hz => ?_, ih⟩
    rcases List.mem_cons.1 hz with rfl | hz
    · exact h0
    · exact Dig.lt_trans h0 ((List.pairwise_cons.1 ih).1 z hz)

theorem valid_of {s : List Sto} (h : rFine s = true) : Valid s := by
  unfold rFine at h
  simp only [Bool.and_eq_true, Bool.not_eq_true', decide_eq_true_eq] at h
  obtain ⟨hg, hc⟩ := h
  have hgood := goodS_of hg
  have hl := hgood.1
  unfold rCheckS at hc
  rw [if_neg (by omega)] at hc
  split at hc
  · rename_i h0; exact absurd hc h0
  rename_i h1
  have h1 : firstErr (rChkE s) (List.range s.length) = 0 := Classical.not_not.1 h1
  split at hc
  · omega
  rename_i h2
  split at hc
  · omega
  rename_i h3
  have hall : ∀ x ∈ s, allIn (ids s) (rNeeds x.patch) = true := by
    have : s.all (fun x => allIn (ids s) (rNeeds x.patch)) = true := by simpa using h2
    exact fun x hx => List.all_eq_true.1 this x hx
  have hchk : ∀ i (hi : i < s.length), (rId s[i].patch).2 = 0 ∧ (rId s[i].patch).1 = s[i].id ∧ (∀ h : 0 < i, cmpD (s[i - 1]'(by omega)).id s[i].id < 0) := by
    intro i hi
    have h4 := firstErr_eq_zero h1 i (List.mem_range.2 hi)
    have e0 : s.getD i Sto.zero = s[i] := by simp [List.getD, hi]
    unfold rChkE at h4
    rw [e0] at h4
    split at h4
    · rename_i h5; exact absurd h4 h5
    rename_i h5
    split at h4
    · omega
    rename_i h6
    split at h4
    · omega
    rename_i h7
    have h6 : (rId s[i].patch).1 = s[i].id := Classical.not_not.1 h6
    refine ⟨Classical.not_not.1 h5, h6, fun hp => ?_⟩
    have e1 : s.getD (i - 1) Sto.zero = s[i - 1]'(by omega) := by
      have h' : i - 1 < s.length := by omega
      simp [List.getD, h']
    rw [e1, h6] at h7
    have : ¬ 0 ≤ cmpD (s[i - 1]'(by omega)).id s[i].id := fun h8 => h7 ⟨by omega, h8⟩
    omega
  refine ⟨⟨hgood, fun x hx d hd => ?_⟩, fun x hx => ?_, ?_, by omega, fun x hx => firstErr_eq_zero hc x hx⟩
  · have := List.all_eq_true.1 (hall x hx) d hd
    simpa using this
  · obtain ⟨i, hi, rfl⟩ := List.mem_iff_getElem.1 hx
    exact ⟨(hchk i hi).1, (hchk i hi).2.1⟩
  · refine asc_of_steps fun i hi => ?_
    rw [ids_len] at hi
    have := (hchk (i + 1) hi).2.2 (by omega)
    simpa [ids, Dig.lt] using this

/-! ### The order gives a rank -/
/-- Each one stands for a patch whose needs stand ahead of it, and stands there once. -/
def Ordered (s : List Sto) (out : List Dig) : Prop := ∀ k (h : k < out.length), ∃ x ∈ s, x.id = out[k] ∧ (∀ d ∈ rNeeds x.patch, d ∈ out.take k) ∧ out[k] ∉ out.take k
theorem pick_ready {s : List Sto} {out : List Dig} : ∀ (n : Nat), n ≤ s.length → 0 ≤ (List.range n).foldl (rBetter s out) (-1) →
    ∃ x ∈ s, s.getD ((List.range n).foldl (rBetter s out) (-1)).toNat Sto.zero = x ∧ ¬ x.id ∈ out ∧ allIn out (rNeeds x.patch) = true
  | 0, _, h => by simp at h
  | n + 1, hn, h => by
    rw [foldl_range_succ] at h ⊢
    generalize hk : (List.range n).foldl (rBetter s out) (-1) = k at h ⊢
    unfold rBetter at h ⊢
    split at h
    · rename_i hc
      rw [if_pos hc]
      have e : s.getD n Sto.zero = s[n] := by simp [List.getD, show n < s.length by omega]
      rw [e] at hc
      exact ⟨s[n], List.getElem_mem _, by simpa using e, hc.1⟩
    · rename_i hc
      rw [if_neg hc]
      have := pick_ready (s := s) (out := out) n (by omega) (by rw [hk]; exact h)
      rw [hk] at this; exact this
theorem rOrd_ordered {s : List Sto} : ∀ (n : Nat) (out : List Dig), Ordered s out → Ordered s (rOrd s n out)
  | 0, _, h => h
  | n + 1, out, h => by
    unfold rOrd
    split
    · exact h
    · rename_i hp
      refine rOrd_ordered n _ ?_
      obtain ⟨x, hx, e, h1, h2⟩ := pick_ready (s := s) (out := out) s.length (Nat.le_refl _) (by unfold rPick at hp; omega)
      have e' : s.getD (rPick s out).toNat Sto.zero = x := e
      rw [e']
      intro k hk
      rw [List.length_append, List.length_singleton] at hk
      by_cases hko : k < out.length
      · obtain ⟨y, hy, q1, q2, q3⟩ := h k hko
        refine ⟨y, hy, by rw [List.getElem_append_left hko]; exact q1, ?_, ?_⟩
        · rw [List.take_append_of_le_length (by omega)]; exact q2
        · rw [List.getElem_append_left hko, List.take_append_of_le_length (by omega)]; exact q3
      · have hke : k = out.length := by omega
        subst hke
        refine ⟨x, hx, by simp, ?_, ?_⟩
        · intro d hd
          have := List.all_eq_true.1 h2 d hd
          simpa using this
        · simpa using h1
theorem Ordered.nodup {s : List Sto} {out : List Dig} (h : Ordered s out) : out.Nodup := by
  refine List.pairwise_iff_getElem.2 fun i j hi hj hij e => ?_
  obtain ⟨_, _, _, _, h3⟩ := h j hj
  exact h3 (e ▸ List.mem_take_iff_getElem.2 ⟨i, by omega, rfl⟩)
theorem ids_nodup {s : List Sto} (h : Asc (ids s)) : (ids s).Nodup := h.nodup
theorem sto_unique {s : List Sto} (h : Asc (ids s)) {x y : Sto} (hx : x ∈ s) (hy : y ∈ s) (e : x.id = y.id) : x = y := by
  obtain ⟨i, hi, rfl⟩ := List.mem_iff_getElem.1 hx
  obtain ⟨j, hj, rfl⟩ := List.mem_iff_getElem.1 hy
  have hn := ids_nodup h
  have hi' : i < (ids s).length := by rw [ids_len]; exact hi
  have hj' : j < (ids s).length := by rw [ids_len]; exact hj
  have : (ids s)[i] = (ids s)[j] := by simpa [ids] using e
  have hp := List.pairwise_iff_getElem.1 hn
  rcases Nat.lt_trichotomy i j with hij | hij | hij
  · exact absurd this (hp i j hi' hj' hij)
  · subst hij; rfl
  · exact absurd this.symm (hp j i hj' hi' hij)
theorem Ordered.sub {s : List Sto} {out : List Dig} (h : Ordered s out) : ∀ d ∈ out, d ∈ ids s := fun d hd => by
  obtain ⟨k, hk, rfl⟩ := List.mem_iff_getElem.1 hd
  obtain ⟨x, hx, e, _⟩ := h k hk
  exact List.mem_map.2 ⟨x, hx, e⟩
theorem rOrder_ordered (s : List Sto) : Ordered s (rOrder s) := rOrd_ordered _ _ (fun k hk => absurd hk (Nat.not_lt_zero _))
theorem Valid.mem_order {s : List Sto} (v : Valid s) {d : Dig} (hd : d ∈ ids s) : d ∈ rOrder s := by
  by_cases h : d ∈ rOrder s
  · exact h
  · have hn : (d :: rOrder s).Nodup := List.nodup_cons.2 ⟨h, (rOrder_ordered s).nodup⟩
    have := nodup_len hn (m := ids s) fun y hy => by
      rcases List.mem_cons.1 hy with rfl | hy
      · exact hd
      · exact (rOrder_ordered s).sub y hy
    have h2 := v.order
    rw [ids_len] at this
    simp only [List.length_cons] at this
    omega
theorem idxOf_le_of {l : List Dig} {i : Nat} (h : i < l.length) : l.idxOf l[i] ≤ i := by
  induction l generalizing i with
  | nil => simp at h
  | cons x l ih =>
    cases i with
    | zero => simp
    | succ i =>
      simp only [List.getElem_cons_succ, List.idxOf_cons]
      have := ih (by simpa using h)
      cases hb : (x == l[i]'(by simpa using h)) with
      | true => simp
      | false => simp; omega
def rankS (s : List Sto) (d : Dig) : Nat := (rOrder s).idxOf d
theorem Valid.rank {s : List Sto} (v : Valid s) {x : Sto} (hx : x ∈ s) {d : Dig} (hd : d ∈ rNeeds x.patch) : rankS s d < rankS s x.id := by
  have hm := v.mem_order (List.mem_map.2 ⟨x, hx, rfl⟩)
  have hk : (rOrder s).idxOf x.id < (rOrder s).length := List.idxOf_lt_length_of_mem hm
  obtain ⟨y, hy, e, h1, _⟩ := rOrder_ordered s _ hk
  rw [List.getElem_idxOf] at e
  have := sto_unique v.asc hy hx e
  subst this
  obtain ⟨i, hi, rfl⟩ := List.mem_take_iff_getElem.1 (h1 d hd)
  have h2 := idxOf_le_of (l := rOrder s) (i := i) (by omega)
  unfold rankS
  omega
theorem Valid.getS {s : List Sto} (v : Valid s) {x : Sto} (hx : x ∈ s) : getS s x.id = some x.patch := by
  cases hg : Go.Proofs.getS s x.id with
  | none =>
    exfalso
    have : ∀ (l : List Sto), x ∈ l → Go.Proofs.getS l x.id ≠ none := by
      intro l
      induction l with
      | nil => intro h; cases h
      | cons y l ih =>
        intro h
        unfold Go.Proofs.getS
        split
        · simp
        · rename_i hne
          rcases List.mem_cons.1 h with rfl | h
          · exact absurd rfl hne
          · exact ih h
    exact this s hx hg
  | some p =>
    obtain ⟨y, hy, e, rfl⟩ := getS_mem hg
    rw [sto_unique v.asc hy hx e]
theorem Valid.ndS {s : List Sto} (v : Valid s) {x : Sto} (hx : x ∈ s) : ndS s x.id = rNeeds x.patch := by
  unfold Go.Proofs.ndS; rw [v.getS hx]; rfl
theorem Valid.mem_clo {s : List Sto} (v : Valid s) {p : Dig} (hp : p ∈ ids s) (d : Dig) : d ∈ cloS s p ↔ Q.Reach (Go.Proofs.ndS s) [p] d := by
  have ha : allIn (ids s) [p] = true := by simp [allIn, hp]
  unfold cloS rClosure
  rw [if_neg (by simp [ha])]
  exact mem_iterC (U := ids s) (fun x _ d hd => v.close.nd x d hd) (fun d hd => by rw [List.mem_singleton.1 hd]; exact hp) (Nat.le_of_eq (ids_len s))
theorem Valid.parts {s : List Sto} (v : Valid s) {left : List Dig} (hl : ∀ x ∈ left, x ∈ ids s) (hn : left.Nodup) : Parts (cloS s) left :=
  parts_of_rank (nd := Go.Proofs.ndS s) (U := ids s) (rankS s) (fun x hx d hd => by
    obtain ⟨y, hy, rfl⟩ := List.mem_map.1 hx
    rw [v.ndS hy] at hd
    exact v.rank hy hd) (fun x _ d hd => v.close.nd x d hd) (fun x hx d => v.mem_clo hx d) hl hn
/-- The greatest number of questions, counted off all of them. -/
theorem Valid.bound {s : List Sto} (v : Valid s) : (depthsP (cloS s) s.length (ids s) 0).foldl max 0 = worst (cloS s) s.length (ids s) := by
  have := depths_worst (cloS s) (G := fun left => (∀ x ∈ left, x ∈ ids s) ∧ left.Nodup) (fun left h => v.parts h.1 h.2) (fun left f h => ⟨fun x hx => h.1 x (List.mem_filter.1 hx).1, h.2.filter _⟩) s.length (ids s) 0 0 ⟨fun _ h => h, v.asc.nodup⟩ (Int.le_refl _)
  rw [this]
  have h := worst_nonneg (cloS s) s.length (ids s)
  omega
end Go.Proofs
/- The example of the statements of layer 31: four patches, each of which needs the one before. -/
namespace Go.Proofs
open Go Go.Q
def chC : Chg := { Chg.zero with kind := 1, type := 4 }
def chP (i : Int) (deps : List Dig) : Pat := ⟨[97, 110, 110], [], i, deps, [chC]⟩
def chDeps (i : Nat) (l : List Dig) : List Dig := if 0 < i then l.drop (i - 1) else []
def ch0 : Dig := ⟨[184, 193, 159, 207, 117, 155, 67, 187, 252, 82, 81, 149, 33, 16, 150, 124, 208, 104, 158, 145, 67, 228, 67, 10, 62, 2, 134, 61, 11, 246, 119, 239], rfl⟩
def ch1 : Dig := ⟨[139, 82, 244, 167, 78, 250, 253, 66, 143, 14, 170, 28, 21, 51, 214, 157, 244, 253, 39, 97, 187, 192, 127, 230, 188, 223, 201, 170, 12, 242, 26, 52], rfl⟩
def ch2 : Dig := ⟨[138, 239, 197, 63, 125, 156, 137, 96, 26, 165, 234, 58, 127, 89, 46, 216, 32, 209, 131, 65, 61, 98, 21, 225, 226, 216, 8, 74, 200, 255, 242, 207], rfl⟩
def ch3 : Dig := ⟨[35, 209, 182, 231, 46, 168, 32, 209, 28, 166, 221, 132, 10, 131, 161, 126, 74, 229, 25, 97, 233, 167, 206, 91, 213, 25, 11, 167, 3, 218, 74, 241], rfl⟩
def chI (k : Nat) : List Dig := [ch0, ch1, ch2, ch3].take k
def chS (k : Nat) : List Sto := [⟨ch3, chP 3 [ch2]⟩, ⟨ch2, chP 2 [ch1]⟩, ⟨ch1, chP 1 [ch0]⟩, ⟨ch0, chP 0 []⟩].drop (4 - k)
theorem chAdd : ∀ k : Nat, k < 4 → rAdd (chS k) (chP k (chDeps k (chI k))) = (chS (k + 1), (chI 4).getD k Dig.zero, 0) := by decide +kernel
theorem chGreat : ∀ k : Nat, k < 4 → rGreat (chP k (chDeps k (chI k))) = false ∧ rGreatS (chS k) = false := by decide +kernel
theorem chFine : rFine (chS 4) = true := by decide +kernel
theorem chI_succ : ∀ k : Nat, k < 4 → chI (k + 1) = chI k ++ [(chI 4).getD k Dig.zero] := by decide +kernel
theorem chValid : Valid (chS 4) := valid_of chFine
end Go.Proofs
/- Closed facts on maps; contracts of the program: comparing digests and identities. -/
namespace Go.Proofs
open Go Go.Q
attribute [local irreducible] pwp pops PCalls OpN

theorem zvof {P : Program} {E : Nat} {α : Type} {ev : α → PV} {a0 : α} {v : Value} (h : (P.info? E).bind (·.zero) = some v) (hv : ∀ g, VR g v (ev a0)) : ZV P E ev a0 := ⟨by
  obtain ⟨i, h1, h2⟩ := Option.bind_eq_some_iff.1 h
  exact ⟨i, v, h1, h2, hv⟩⟩
instance : TMap Tryz.prog 130 37 4 := ⟨by kernel_rfl⟩
instance : TMap Tryz.prog 107 37 25 := ⟨by kernel_rfl⟩
instance : TMap Tryz.prog 85 37 130 := ⟨by kernel_rfl⟩
instance : TMap Tryz.prog 149 37 167 := ⟨by kernel_rfl⟩
instance : TMap Tryz.prog 203 3 3 := ⟨by kernel_rfl⟩
instance : TMap Tryz.prog 232 3 234 := ⟨by kernel_rfl⟩
instance : ZV Tryz.prog 4 vBool false := zvof (v := .bool false) (by kernel_rfl) fun _ => .raw _
instance : ZV Tryz.prog 3 vInt 0 := zvof (v := .int .i64 0) (by kernel_rfl) fun _ => .raw _
instance : ZV Tryz.prog 25 (vSl eDig) [] := zvof (v := .slice none 0 0) (by kernel_rfl) fun _ => .nilR
instance : ZV Tryz.prog 167 (vSl eAtm) [] := zvof (v := .slice none 0 0) (by kernel_rfl) fun _ => .nilR
instance : ZV Tryz.prog 130 (vMap kDig vBool) [] := zvof (v := .map none) (by kernel_rfl) fun _ => .nilM
instance : ZV Tryz.prog 130 vId (.fmap []) := zvof (v := .map none) (by kernel_rfl) fun _ => .nilM
instance : ZV Tryz.prog 234 vId (.raw .nilFunc) := zvof (v := .nilFunc) (by kernel_rfl) fun _ => .raw _
instance : MapForm Tryz.prog 130 kDig vBool := ⟨trivial⟩
instance : MapForm Tryz.prog 107 kDig (vSl eDig) := ⟨trivial⟩
instance : MapForm Tryz.prog 85 kDig vId := ⟨trivial⟩
instance : MapForm Tryz.prog 149 kDig (vSl eAtm) := ⟨trivial⟩
instance : MapForm Tryz.prog 203 kInt vInt := ⟨trivial⟩
instance : MapForm Tryz.prog 232 kInt vId := ⟨trivial⟩

theorem zero1 {P : Program} {T : Nat} {v : Value} {x : PV} (h : (P.info? T).bind (·.zero) = some v) (hc : v.cells = #[v]) (hv : ∀ g, VR g v x) : ZeroE P T [x] := ⟨by
  obtain ⟨i, h1, h2⟩ := Option.bind_eq_some_iff.1 h
  exact ⟨i, v, [v], h1, h2, hc, fun g => .cons (hv g) (.nil g)⟩⟩
instance : ZeroE Tryz.prog 3 [.raw (.int .i64 0)] := zero1 (v := .int .i64 0) (by kernel_rfl) rfl fun _ => .raw _
instance : ZeroE Tryz.prog 32 [.raw (.int .i64 0)] := zero1 (v := .int .i64 0) (by kernel_rfl) rfl fun _ => .raw _
instance : ZeroE Tryz.prog 4 [.raw (.bool false)] := zero1 (v := .bool false) (by kernel_rfl) rfl fun _ => .raw _
instance : ZeroE Tryz.prog 9 [.str []] := zero1 (v := .string ⟨#[]⟩) (by kernel_rfl) rfl fun _ => .str (by simp)
instance : ZeroE Tryz.prog 25 [.slice [] .nil] := zero1 (v := .slice none 0 0) (by kernel_rfl) rfl fun _ => .nilN none (by simp)
instance : ZeroE Tryz.prog 167 [.slice [] .nil] := zero1 (v := .slice none 0 0) (by kernel_rfl) rfl fun _ => .nilN none (by simp)
instance : ZeroE Tryz.prog 117 [.slice [] .nil] := zero1 (v := .slice none 0 0) (by kernel_rfl) rfl fun _ => .nilN none (by simp)
instance : ZeroE Tryz.prog 23 [.slice [] .nil] := zero1 (v := .slice none 0 0) (by kernel_rfl) rfl fun _ => .nilN none (by simp)
instance : ZeroE Tryz.prog 135 [.slice [] .nil] := zero1 (v := .slice none 0 0) (by kernel_rfl) rfl fun _ => .nilN none (by simp)
instance : ZeroE Tryz.prog 130 [.raw (.map none)] := zero1 (v := .map none) (by kernel_rfl) rfl fun _ => .raw _
instance : ZeroE Tryz.prog 107 [.raw (.map none)] := zero1 (v := .map none) (by kernel_rfl) rfl fun _ => .raw _

instance (a b : List UInt8) (t u : Tag) : ExtC Tryz.prog 146 [.slice (a.map eBy) t, .slice (b.map eBy) u] (.raw (.int .i64 (cmpL a b))) := extC_compare Tryz.func146 (by kernel_rfl) (by kernel_rfl) (by kernel_rfl) (by kernel_rfl) a b t u
instance (s : Str) (c : Int) : ExtC Tryz.prog 284 [.str s, .raw (.int .u8 c)] (.raw (.int .i64 (Lib.indexByte s c.toNat.toUInt8))) := extC_indexByte Tryz.func284 (by kernel_rfl) (by kernel_rfl) (by kernel_rfl) (by kernel_rfl) s c

instance bCompare_ct (a b : List UInt8) (t u : Tag) : FnC Tryz.prog 116 [.slice (a.map eBy) t, .slice (b.map eBy) u] (.raw (.int .i64 (cmpL a b))) := ⟨by
  refine fn_of Tryz.func116 Tryz.ntmps116 rfl (rs := [.tmp 4]) rfl rfl fun hb LF => ?_
  refine wf ?_
  exact end1 (.refl _)⟩
instance pCompare_ct (a b : Dig) : FnC Tryz.prog 83 [.agg (eDig a), .agg (eDig b)] (.raw (.int .i64 (cmpD a b))) := ⟨by
  refine fn_of Tryz.func83 Tryz.ntmps83 rfl (rs := [.tmp 4]) rfl rfl fun hb LF => ?_
  refine wf ?_
  refine end1 (.of_eq ?_)
  rfl⟩
instance isNaN_ct (a : Int) : FnC Tryz.prog 267 [.raw (.int .i64 a)] (.raw (.bool false)) := ⟨by
  refine fn_of Tryz.func267 Tryz.ntmps267 rfl (rs := [.tmp 2]) rfl rfl fun hb LF => ?_
  refine wf ?_
  refine end1 (.of_eq ?_)
  simp⟩
def cmpInt (a b : Int) : Int := if a < b then -1 else if b < a then 1 else 0
instance cmpInt_ct (a b : Int) : FnC Tryz.prog 238 [.raw (.int .i64 a), .raw (.int .i64 b)] (.raw (.int .i64 (cmpInt a b))) := ⟨by
  refine fn_of Tryz.func238 Tryz.ntmps238 rfl (rs := [.tmp 4]) rfl rfl fun hb LF => ?_
  refine wf ?_
  refine pwp_condD (fun h => ?_) (fun h => ?_)
  · refine wf ?_
    refine end1 (.of_eq ?_)
    rw [cmpInt, if_pos h]
  refine wf ?_
  refine pwp_condD (fun h2 => ?_) (fun h2 => ?_)
  · refine wf ?_
    refine end1 (.of_eq ?_)
    rw [cmpInt, if_neg h, if_pos h2]
  · refine wf ?_
    refine end1 (.of_eq ?_)
    rw [cmpInt, if_neg h, if_neg h2]⟩
instance piCompare_ct (a b : Ident) : FnC Tryz.prog 208 [.agg (eIdent a), .agg (eIdent b)] (.raw (.int .i64 (cmpI a b))) := ⟨by
  refine fn_of Tryz.func208 Tryz.ntmps208 rfl (rs := [.tmp 4]) rfl rfl fun hb LF => ?_
  refine wf ?_
  have e : cmpL a.patch.bs b.patch.bs = cmpD a.patch b.patch := rfl
  rw [e]
  refine pwp_condN (fun h => ?_) (fun h => ?_)
  · refine wf ?_
    refine end1 (.of_eq ?_)
    rw [cmpI, if_pos h]
  · refine wf ?_
    refine end1 (.of_eq ?_)
    rw [cmpI, if_neg (by simp [h])]; rfl⟩
end Go.Proofs
/- Contracts of the program: names, lines, own references. -/
namespace Go.Proofs
open Go Go.Q
attribute [local irreducible] pwp pops PCalls OpN

instance own_ct (x : Ident) : FnC Tryz.prog 109 [.agg (eIdent x)] (.raw (.bool (decide (x.patch = Dig.zero)))) := ⟨by
  refine fn_of Tryz.func109 Tryz.ntmps109 rfl (rs := [.tmp 2]) rfl rfl fun hb LF => ?_
  refine wf ?_
  exact end1 (.refl _)⟩
instance pRoot_ct : FnC Tryz.prog 139 [] (.agg (eIdent ⟨Dig.zero, -1⟩)) := ⟨by
  refine fn_of Tryz.func139 Tryz.ntmps139 rfl (rs := [.cell 0 115]) rfl rfl fun hb LF => ?_
  refine wfb fun b => ?_
  exact endC rfl (.refl _)⟩
instance slIndexByte_ct (s : Str) (c : Int) : FnC Tryz.prog 266 [.str s, .raw (.int .u8 c)] (.raw (.int .i64 (Lib.indexByte s c.toNat.toUInt8))) := ⟨by
  refine fn_of Tryz.func266 Tryz.ntmps266 rfl (rs := [.tmp 4]) rfl rfl fun hb LF => ?_
  refine wf ?_
  exact end1 (.refl _)⟩
instance sIndexByte_ct (s : Str) (c : Int) : FnC Tryz.prog 237 [.str s, .raw (.int .u8 c)] (.raw (.int .i64 (Lib.indexByte s c.toNat.toUInt8))) := ⟨by
  refine fn_of Tryz.func237 Tryz.ntmps237 rfl (rs := [.tmp 4]) rfl rfl fun hb LF => ?_
  refine wf ?_
  exact end1 (.refl _)⟩
theorem indexByte_neg (c : UInt8) : ∀ l : List UInt8, Lib.indexByte l c < 0 ↔ c ∉ l
  | [] => by simp [Lib.indexByte]
  | b :: l => by
    have h := Lib.indexByte_ge l c
    have ih := indexByte_neg c l
    unfold Lib.indexByte
    by_cases e : b = c
    · subst e; simp
    · have e2 : ¬ c = b := fun h => e h.symm
      have d : (b == c) = false := by simp [e]
      simp only [d, Bool.false_eq_true, if_false, List.mem_cons, e2, false_or]
      rw [← ih]
      split
      · rename_i h2
        have h2 : Lib.indexByte l c = -1 := by simpa using h2
        omega
      · rename_i h2
        have h2 : Lib.indexByte l c ≠ -1 := by simpa using h2
        omega
theorem rClean_mem (s : Str) (m n : UInt8) : rClean s m.toNat n.toNat = (decide (m ∉ s) && decide (n ∉ s)) := by
  unfold rClean
  induction s with
  | nil => simp
  | cons a s ih =>
    simp only [List.all_cons, ih, rCleanC, List.mem_cons, not_or]
    have e1 : ((a.toNat : Int) = m.toNat) ↔ a = m := ⟨fun h => UInt8.toNat.inj (by omega), fun h => by rw [h]⟩
    have e2 : ((a.toNat : Int) = n.toNat) ↔ a = n := ⟨fun h => UInt8.toNat.inj (by omega), fun h => by rw [h]⟩
    simp only [e1, e2]
    grind
theorem rValid_eq (s : Str) : rValid s = (decide ((s.length : Int) ≤ 1000) && decide (Lib.indexByte s 10 < 0) && decide (Lib.indexByte s 0 < 0)) := by
  have h : rClean s 10 0 = (decide (10 ∉ s) && decide (0 ∉ s)) := rClean_mem s 10 0
  have a1 : decide (Lib.indexByte s 10 < 0) = decide (10 ∉ s) := by rw [decide_eq_decide]; exact indexByte_neg 10 s
  have a2 : decide (Lib.indexByte s 0 < 0) = decide (0 ∉ s) := by rw [decide_eq_decide]; exact indexByte_neg 0 s
  rw [rValid, h, a1, a2, Bool.and_assoc]
instance pValid_ct (s : Str) : FnC Tryz.prog 207 [.str s] (.raw (.bool (rValid s))) := ⟨by
  refine fn_of Tryz.func207 Tryz.ntmps207 rfl (rs := [.tmp 2]) rfl rfl fun hb LF => ?_
  have e := rValid_eq s
  have c1 : ((10 : Int).toNat).toUInt8 = 10 := rfl
  have c2 : ((0 : Int).toNat).toUInt8 = 0 := rfl
  refine wf ?_
  repeat' (first | (refine pwp_condD (fun h => ?_) (fun h => ?_) <;> refine wf ?_) | (refine pwp_condN (fun h => ?_) (fun h => ?_) <;> refine wf ?_) | (refine pwp_condB (fun h => ?_) (fun h => ?_) <;> refine wf ?_) | (refine pops_if (fun h => ?_) (fun h => ?_) <;> (have h2 := h; (try simp only [decide_eq_true_eq, decide_eq_false_iff_not, Bool.not_eq_true', Bool.not_eq_false'] at h2); refine wf ?_)))
  all_goals (refine end1 (.of_eq ?_); rw [e]; simp only [c1, c2] at *; first | (simp_all; done) | grind)⟩

set_option maxHeartbeats 1000000 in
instance isName_ct (s : Str) : FnC Tryz.prog 205 [.str s] (.raw (.bool (rName s))) := ⟨by
  refine fn_of Tryz.func205 Tryz.ntmps205 rfl (rs := [.tmp 2]) rfl rfl fun hb LF => ?_
  have hlen : s.length ≤ 140737488355328 := (hb (.str s) (by simp)).str_len
  refine wf ?_
  refine pwp_loopS (σ := Nat) (fun k => k ≤ s.length ∧ ∀ i (h : i < s.length), i < k → rNameC s[i] = true) (fun k => s.length - k) (fun k => [(0, .str s), (6, .raw (.int .i64 s.length)), (7, .raw (.int .i64 k))]) (fun _ => LF) 0 ⟨by simp, by simp⟩ ⟨rfl, rfl, rfl⟩ (.refl _) ?_
  rintro k ⟨hk, he⟩
  refine wf ?_
  refine pwp_condD (fun hc => ?_) (fun hc => ?_)
  · have hlt : k < s.length := by omega
    refine wf ?_
    refine pops_cutE [(46, .raw (.bool (!rNameC s[k]))), (0, .str s), (6, .raw (.int .i64 s.length)), (7, .raw (.int .i64 k))] (LF) ?_ ?_
    · repeat' (first | (refine pwp_condD (fun h => ?_) (fun h => ?_) <;> refine wf ?_) | (refine pwp_condN (fun h => ?_) (fun h => ?_) <;> refine wf ?_) | (refine pwp_condB (fun h => ?_) (fun h => ?_) <;> refine wf ?_) | (refine pops_if (fun h => ?_) (fun h => ?_) <;> (have h2 := h; (try simp only [decide_eq_true_eq, decide_eq_false_iff_not, Bool.not_eq_true', Bool.not_eq_false'] at h2); refine wf ?_)))
      all_goals (refine ⟨⟨holdsB (by rfl) ?_, rfl, rfl, rfl⟩, .refl _⟩; (clear he hc; grind [rNameC]))
    refine wf ?_
    refine pwp_condB (fun h => ?_) (fun h => ?_)
    · refine wf ?_
      refine end1 (.of_eq ?_)
      have : rNameC s[k] = false := by simpa using h
      rw [rName, all_false_of hlt this]; rfl
    · refine wf ?_
      exact ⟨k + 1, ⟨by omega, upto_succ he hlt (by simpa using h)⟩, by dsimp only; omega, ⟨rfl, rfl, rfl⟩, .refl _⟩
  · have hall : s.all rNameC = true := all_true_of fun i h => he i h (by omega)
    have e1 : decide (1 ≤ (s.length : Int)) = !decide (s = []) := by cases s <;> simp; omega
    refine wf ?_
    repeat' (first | (refine pwp_condD (fun h => ?_) (fun h => ?_) <;> refine wf ?_) | (refine pwp_condN (fun h => ?_) (fun h => ?_) <;> refine wf ?_) | (refine pwp_condB (fun h => ?_) (fun h => ?_) <;> refine wf ?_) | (refine pops_if (fun h => ?_) (fun h => ?_) <;> (have h2 := h; (try simp only [decide_eq_true_eq, decide_eq_false_iff_not, Bool.not_eq_true', Bool.not_eq_false'] at h2); refine wf ?_)))
    all_goals (refine end1 (.of_eq ?_); rw [rName, hall, e1]; clear he hall hb; first | (simp_all; done) | grind)⟩
end Go.Proofs
/- Contracts of the program: places in lists; which fields a change has. -/
namespace Go.Proofs
open Go Go.Q
attribute [local irreducible] pwp pops PCalls OpN

def idxL {α : Type} [DecidableEq α] (v : α) : List α → Int
  | [] => -1
  | a :: l => if v = a then 0 else if idxL v l = -1 then -1 else idxL v l + 1
theorem idxL_ge {α : Type} [DecidableEq α] (v : α) : ∀ l : List α, -1 ≤ idxL v l
  | [] => by simp [idxL]
  | a :: l => by
    have := idxL_ge v l
    unfold idxL; split
    · omega
    · split <;> omega
theorem idxL_mem {α : Type} [DecidableEq α] (v : α) : ∀ l : List α, 0 ≤ idxL v l ↔ v ∈ l
  | [] => by simp [idxL]
  | a :: l => by
    have h := idxL_ge v l
    have ih := idxL_mem v l
    unfold idxL
    by_cases e : v = a
    · simp [e]
    · simp only [e, if_false, List.mem_cons, false_or]
      rw [← ih]
      split <;> omega
theorem idxL_at {α : Type} [DecidableEq α] (v : α) : ∀ {l : List α} {k : Nat} (h : k < l.length), l[k] = v → (∀ i (hi : i < l.length), i < k → l[i] ≠ v) → idxL v l = k
  | a :: l, 0, _, e, _ => by simp only [List.getElem_cons_zero] at e; simp [idxL, e]
  | a :: l, k + 1, h, e, hb => by
    have h0 : a ≠ v := hb 0 (by simp) (by omega)
    have ih := idxL_at v (l := l) (k := k) (by simpa using h) (by simpa using e) (fun i hi hk => by have := hb (i + 1) (by simpa using hi) (by omega); simpa using this)
    unfold idxL
    rw [if_neg (Ne.symm h0), ih, if_neg (by omega)]; omega
theorem idxL_none {α : Type} [DecidableEq α] (v : α) {l : List α} (h : ∀ i (hi : i < l.length), l[i] ≠ v) : idxL v l = -1 := by
  have h1 := idxL_ge v l
  have h2 : ¬ 0 ≤ idxL v l := fun h' => by
    obtain ⟨i, hi, e⟩ := List.mem_iff_getElem.1 ((idxL_mem v l).1 h')
    exact h i hi e
  omega

instance IndexI_ct (l : List Int) (v : Int) (t : Tag) : FnC Tryz.prog 265 [.slice (l.map eI) t, .raw (.int .i64 v)] (.raw (.int .i64 (idxL v l))) := ⟨by
  refine fn_of Tryz.func265 Tryz.ntmps265 rfl (rs := [.tmp 4]) rfl rfl fun hb LF => ?_
  have hlen : l.length ≤ 140737488355328 := (hb (.slice (l.map eI) t) (by simp)).slice_map
  refine wf ?_
  refine pwp_loopS (σ := Nat) (fun k => k ≤ l.length ∧ ∀ i (h : i < l.length), i < k → l[i] ≠ v) (fun k => l.length - k) (fun k => [(0, .slice (l.map eI) t), (1, .raw (.int .i64 v)), (7, .raw (.int .i64 l.length)), (8, .raw (.int .i64 k))]) (fun _ => LF) 0 ⟨by simp, by simp⟩ ⟨rfl, rfl, rfl, rfl⟩ (.refl _) ?_
  rintro k ⟨hk, he⟩
  refine wf ?_
  refine pwp_condD (fun hc => ?_) (fun hc => ?_)
  · have hlt : k < l.length := by omega
    refine wf ?_
    refine pwp_condD (fun h => ?_) (fun h => ?_)
    · refine wf ?_
      refine end1 (.of_eq ?_)
      rw [idxL_at v hlt h.symm he]
    · refine wf ?_
      refine ⟨k + 1, ⟨by omega, fun i hi hik => ?_⟩, by dsimp only; omega, ⟨rfl, rfl, rfl, rfl⟩, .refl _⟩
      rcases Nat.lt_or_ge i k with h' | h'
      · exact he i hi h'
      · have : i = k := by omega
        subst this; exact fun e => h e.symm
  · refine wf ?_
    refine end1 (.of_eq ?_)
    rw [idxL_none v fun i hi => he i hi (by omega)]⟩
instance ContainsI_ct (l : List Int) (v : Int) (t : Tag) : FnC Tryz.prog 236 [.slice (l.map eI) t, .raw (.int .i64 v)] (.raw (.bool (decide (v ∈ l)))) := ⟨by
  refine fn_of Tryz.func236 Tryz.ntmps236 rfl (rs := [.tmp 4]) rfl rfl fun hb LF => ?_
  refine wf ?_
  refine end1 (.of_eq ?_)
  have := idxL_mem v l
  simp only [this]⟩
instance has_ct (l : List Int) (k : Int) (t : Tag) : FnC Tryz.prog 235 [.slice (l.map eI) t, .pt [.raw (.int .i64 k)] 0] (.raw (.bool (decide (k ∈ l)))) := ⟨by
  refine fn_of Tryz.func235 Tryz.ntmps235 rfl (rs := [.tmp 3]) rfl rfl fun hb LF => ?_
  refine wf ?_
  exact end1 (.refl _)⟩
def rTidy1 (c : Chg) : Bool := decide (c.kind ∈ [1]) || decide (c.type = 0)
def rTidy2 (c : Chg) : Bool := decide (c.kind ∈ [2, 3, 4, 5, 6]) || decide (c.file = Ident.zero)
def rTidy3 (c : Chg) : Bool := decide (c.kind ∈ [2]) || (decide (c.parent = Ident.zero) && decide (c.name = []))
def rTidy4 (c : Chg) : Bool := decide (c.kind ∈ [3]) || decide (c.mode = 0)
def rTidy5 (c : Chg) : Bool := decide (c.kind ∈ [4]) || decide (c.data = [])
def rTidy6 (c : Chg) : Bool := decide (c.kind ∈ [5, 6]) || (decide (c.after = Ident.zero) && decide (c.before = Ident.zero))
def rTidy7 (c : Chg) : Bool := decide (c.kind ∈ [5]) || decide ((c.lines.length : Int) = 0)
def rTidy8 (c : Chg) : Bool := decide (c.kind ∈ [2, 3, 4, 6, 7]) || decide ((c.over.length : Int) = 0)
def rTidy (c : Chg) : Bool := rTidy1 c && rTidy2 c && rTidy3 c && rTidy4 c && rTidy5 c && rTidy6 c && rTidy7 c && rTidy8 c
set_option maxHeartbeats 4000000 in
instance tidy_ct (c : Chg) : FnC Tryz.prog 206 [.agg (eChg c)] (.raw (.bool (rTidy c))) := ⟨by
  refine fn_of Tryz.func206 Tryz.ntmps206 rfl (rs := [.tmp 2]) rfl rfl fun hb LF => ?_
  refine wz fun b3 => ?_
  refine pwp_freezeD 3 ?_
  refine wz fun b => ?_
  refine pwp_seq ?_
  refine pwp_region (by kernel_rfl) ?_
  refine pops_cutM 19 [(28, .raw (.bool (rTidy1 c && rTidy2 c))), (1, .pt (eChg c) 0), (4, .clo 235 [.pt [.raw (.int .i64 c.kind)] 0]), (5, .raw (.pointer (some ⟨b, 0, none⟩)))] (.box b 115 (eIdent Ident.zero) :: LF) ?_ ?_
  · refine wf ?_
    repeat' (first | (refine pwp_condD (fun h => ?_) (fun h => ?_) <;> refine wf ?_) | (refine pwp_condN (fun h => ?_) (fun h => ?_) <;> refine wf ?_) | (refine pwp_condB (fun h => ?_) (fun h => ?_) <;> refine wf ?_) | (refine pops_if (fun h => ?_) (fun h => ?_) <;> (have h2 := h; (try simp only [decide_eq_true_eq, decide_eq_false_iff_not, Bool.not_eq_true', Bool.not_eq_false'] at h2); refine wf ?_)))
    all_goals (refine ⟨⟨holdsB (by rfl) ?_, rfl, rfl, rfl⟩, .refl _⟩; (simp only [rTidy1, rTidy2]; first | (simp_all; done) | grind))
  refine pops_cutM 16 [(44, .raw (.bool (rTidy1 c && rTidy2 c && rTidy3 c))), (1, .pt (eChg c) 0), (4, .clo 235 [.pt [.raw (.int .i64 c.kind)] 0]), (5, .raw (.pointer (some ⟨b, 0, none⟩)))] (.box b 115 (eIdent Ident.zero) :: LF) ?_ ?_
  · refine wf ?_
    repeat' (first | (refine pwp_condD (fun h => ?_) (fun h => ?_) <;> refine wf ?_) | (refine pwp_condN (fun h => ?_) (fun h => ?_) <;> refine wf ?_) | (refine pwp_condB (fun h => ?_) (fun h => ?_) <;> refine wf ?_) | (refine pops_if (fun h => ?_) (fun h => ?_) <;> (have h2 := h; (try simp only [decide_eq_true_eq, decide_eq_false_iff_not, Bool.not_eq_true', Bool.not_eq_false'] at h2); refine wf ?_)))
    all_goals (refine ⟨⟨holdsB (by rfl) ?_, rfl, rfl, rfl⟩, .refl _⟩; (simp only [rTidy3]; first | (simp_all; done) | grind))
  refine pops_cutM 10 [(54, .raw (.bool (rTidy1 c && rTidy2 c && rTidy3 c && rTidy4 c))), (1, .pt (eChg c) 0), (4, .clo 235 [.pt [.raw (.int .i64 c.kind)] 0]), (5, .raw (.pointer (some ⟨b, 0, none⟩)))] (.box b 115 (eIdent Ident.zero) :: LF) ?_ ?_
  · refine wf ?_
    repeat' (first | (refine pwp_condD (fun h => ?_) (fun h => ?_) <;> refine wf ?_) | (refine pwp_condN (fun h => ?_) (fun h => ?_) <;> refine wf ?_) | (refine pwp_condB (fun h => ?_) (fun h => ?_) <;> refine wf ?_) | (refine pops_if (fun h => ?_) (fun h => ?_) <;> (have h2 := h; (try simp only [decide_eq_true_eq, decide_eq_false_iff_not, Bool.not_eq_true', Bool.not_eq_false'] at h2); refine wf ?_)))
    all_goals (refine ⟨⟨holdsB (by rfl) ?_, rfl, rfl, rfl⟩, .refl _⟩; (simp only [rTidy4]; first | (simp_all; done) | grind))
  refine pops_cutM 10 [(64, .raw (.bool (rTidy1 c && rTidy2 c && rTidy3 c && rTidy4 c && rTidy5 c))), (1, .pt (eChg c) 0), (4, .clo 235 [.pt [.raw (.int .i64 c.kind)] 0]), (5, .raw (.pointer (some ⟨b, 0, none⟩)))] (.box b 115 (eIdent Ident.zero) :: LF) ?_ ?_
  · refine wf ?_
    repeat' (first | (refine pwp_condD (fun h => ?_) (fun h => ?_) <;> refine wf ?_) | (refine pwp_condN (fun h => ?_) (fun h => ?_) <;> refine wf ?_) | (refine pwp_condB (fun h => ?_) (fun h => ?_) <;> refine wf ?_) | (refine pops_if (fun h => ?_) (fun h => ?_) <;> (have h2 := h; (try simp only [decide_eq_true_eq, decide_eq_false_iff_not, Bool.not_eq_true', Bool.not_eq_false'] at h2); refine wf ?_)))
    all_goals (refine ⟨⟨holdsB (by rfl) ?_, rfl, rfl, rfl⟩, .refl _⟩; (simp only [rTidy5]; first | (simp_all; done) | grind))
  refine pops_cutM 17 [(81, .raw (.bool (rTidy1 c && rTidy2 c && rTidy3 c && rTidy4 c && rTidy5 c && rTidy6 c))), (1, .pt (eChg c) 0), (4, .clo 235 [.pt [.raw (.int .i64 c.kind)] 0]), (5, .raw (.pointer (some ⟨b, 0, none⟩)))] (.box b 115 (eIdent Ident.zero) :: LF) ?_ ?_
  · refine wf ?_
    repeat' (first | (refine pwp_condD (fun h => ?_) (fun h => ?_) <;> refine wf ?_) | (refine pwp_condN (fun h => ?_) (fun h => ?_) <;> refine wf ?_) | (refine pwp_condB (fun h => ?_) (fun h => ?_) <;> refine wf ?_) | (refine pops_if (fun h => ?_) (fun h => ?_) <;> (have h2 := h; (try simp only [decide_eq_true_eq, decide_eq_false_iff_not, Bool.not_eq_true', Bool.not_eq_false'] at h2); refine wf ?_)))
    all_goals (refine ⟨⟨holdsB (by rfl) ?_, rfl, rfl, rfl⟩, .refl _⟩; (simp only [rTidy6]; first | (simp_all; done) | grind))
  refine pops_cutM 11 [(92, .raw (.bool (rTidy1 c && rTidy2 c && rTidy3 c && rTidy4 c && rTidy5 c && rTidy6 c && rTidy7 c))), (1, .pt (eChg c) 0), (4, .clo 235 [.pt [.raw (.int .i64 c.kind)] 0]), (5, .raw (.pointer (some ⟨b, 0, none⟩)))] (.box b 115 (eIdent Ident.zero) :: LF) ?_ ?_
  · refine wf ?_
    repeat' (first | (refine pwp_condD (fun h => ?_) (fun h => ?_) <;> refine wf ?_) | (refine pwp_condN (fun h => ?_) (fun h => ?_) <;> refine wf ?_) | (refine pwp_condB (fun h => ?_) (fun h => ?_) <;> refine wf ?_) | (refine pops_if (fun h => ?_) (fun h => ?_) <;> (have h2 := h; (try simp only [decide_eq_true_eq, decide_eq_false_iff_not, Bool.not_eq_true', Bool.not_eq_false'] at h2); refine wf ?_)))
    all_goals (refine ⟨⟨holdsB (by rfl) ?_, rfl, rfl, rfl⟩, .refl _⟩; (simp only [rTidy7]; first | (simp_all; done) | grind))
  refine wf ?_
  repeat' (first | (refine pwp_condD (fun h => ?_) (fun h => ?_) <;> refine wf ?_) | (refine pwp_condN (fun h => ?_) (fun h => ?_) <;> refine wf ?_) | (refine pwp_condB (fun h => ?_) (fun h => ?_) <;> refine wf ?_) | (refine pops_if (fun h => ?_) (fun h => ?_) <;> (have h2 := h; (try simp only [decide_eq_true_eq, decide_eq_false_iff_not, Bool.not_eq_true', Bool.not_eq_false'] at h2); refine wf ?_)))
  all_goals (refine end1 (.of_eq ?_); simp only [rTidy, rTidy8]; first | (simp_all; done) | grind)⟩
end Go.Proofs
