/- Contracts of the program: the atoms of a patch with its identity. -/
import Derived.Test.YtddlffkdpocmhaaGreatDoorVar
import Derived.Test.YtddlffkdpocmhaaGreatDoorVan
import Derived.Test.YtddlffkdpocmhaaGreatDoorVaq
import Derived.Test.YtddlffkdpocmhaaGreatDoorVap
set_option linter.unusedSimpArgs false
set_option linter.unusedVariables false
namespace Go.Proofs
open Go Go.Q
attribute [local irreducible] pwp pops pAny PCalls OpN

instance full_ct (x : Ident) (d : Dig) : FnC Tryz.prog 222 [.agg (eIdent x), .pt (eDig d) 0] (.agg (eIdent (rWhole x d))) := ⟨by
  refine fn_of Tryz.func222 Tryz.ntmps222 rfl (rs := [.cell 3 115]) rfl rfl fun hb LF => ?_
  refine wkb fun b2 => ?_
  refine s_alloc fun b3 => ?_
  refine wf ?_
  refine pops_if (fun hp => ?_) (fun hp => ?_)
  · have h0 : x.patch = Dig.zero := by simpa using hp
    refine wf ?_
    refine pwp_condD (fun h => ?_) (fun h => ?_)
    · refine wf ?_
      refine endC rfl (.of_eq ?_)
      rw [rWhole, if_pos ⟨h0, h⟩]
    · refine wf ?_
      refine endC rfl (.of_eq ?_)
      rw [rWhole, if_neg (fun h' => h h'.2)]
  · have h0 : ¬ x.patch = Dig.zero := by simpa using hp
    refine wf ?_
    refine endC rfl (.of_eq ?_)
    rw [rWhole, if_neg (fun h' => h0 h'.1)]⟩
/-- An atom with its patch's identity, as the program has it: what it supersedes sorted, twins kept. -/
def fP1 (d : Dig) (a : Atm) : Atm := { a with id := rWhole a.id d }
def fP2 (d : Dig) (a : Atm) : Atm := if a.kind ≠ 7 then { a with file := rWhole a.file d } else a
def fP3 (d : Dig) (a : Atm) : Atm := if a.kind = 2 then { a with parent := rWhole a.parent d } else a
def fP4 (d : Dig) (a : Atm) : Atm := if a.kind = 6 then { a with src := rWhole a.src d, dst := rWhole a.dst d } else a
def fP5 (d : Dig) (a : Atm) : Atm := { a with over := sortI (a.over.map fun y => rWhole y d) }
def fP (d : Dig) (a : Atm) : Atm := fP5 d (fP4 d (fP3 d (fP2 d (fP1 d a))))
def atomsP (p : Pat) : List Atm × Int := if (rEx p).2.2 ≠ 0 then ([], (rEx p).2.2) else if (rId p).2 ≠ 0 then ([], (rId p).2) else ((rEx p).1.map (fP (rId p).1), 0)
set_option maxHeartbeats 4000000 in
theorem complete_fn (p : Pat) (hs : rGreat p = false) : FnC Tryz.prog 186 [.agg (ePat p)] (.tuple [.slice ((atomsP p).1.map eAtm) .ro, .raw (.int .i64 (atomsP p).2)]) := ⟨by
  have i0 : Small (rGreat p = false) := ⟨hs⟩
  refine fn_of Tryz.func186 Tryz.ntmps186 rfl (rs := [.tmp 2, .tmp 3]) rfl rfl fun hb LF => ?_
  repeat (refine pwp_seq ?_)
  refine pwp_region (by kernel_rfl) ?_
  refine wo ?_
  refine pops_nil ?_
  repeat (refine pwp_seq ?_)
  refine pwp_region (by kernel_rfl) ?_
  refine s_loadAL (by rfl) (hl := (by infer_instance)) ?_
  refine s_callR (xs := [.tmp 15]) [] LF (f := 131) (cs := []) (le_func _) rfl rfl (.refl _) _ (examineB_fn p hs) fun r L' ⟨x, y, e, hor⟩ => ?_
  subst e
  refine wf ?_
  refine wf ?_
  rcases hor with ⟨hne, rfl⟩ | ⟨he0, v, rfl, hrow, hll⟩
  · refine pwp_condN (fun h => ?_) (fun h => absurd h hne)
    refine wf ?_
    refine end2 ?_
    rw [atomsP, if_pos hne]
    exact .tuple2 (.ros rfl) (.refl _)
  refine pwp_condN (fun h => absurd he0 h) (fun h => ?_)
  refine wf ?_
  refine s_alloc fun b7 => ?_
  refine wo ?_
  refine pops_nil ?_
  refine pwp_freezeD 7 ?_
  refine wf ?_
  refine pwp_condN (fun h2 => ?_) (fun h2 => ?_)
  · refine pwp_weaken (fun i => .inl rfl) (List.sublist_append_right L' LF) ?_
    refine wf ?_
    refine end2 ?_
    rw [atomsP, if_neg (by simp [he0]), if_pos h2]
    exact .tuple2 (.ros rfl) (.refl _)
  have e1 : atomsP p = ((rEx p).1.map (fP (rId p).1), 0) := by rw [atomsP, if_neg (by simp [he0]), if_neg (by simpa using h2)]
  rw [e1]
  have hov : ∀ a ∈ (rEx p).1, a.over.length ≤ 40 := fun a ha => by
    unfold rEx at ha
    split at ha
    · cases ha
    · split at ha
      · cases ha
      · exact (rCheckP_facts hs).2 a ha
  generalize (rEx p).1 = l at hrow hll hov ⊢
  generalize (rId p).1 = g
  obtain ⟨⟨o, cc, ev⟩, _⟩ := hrow.slice
  rw [List.length_map] at ev
  subst ev
  refine wf ?_
  refine s_lenR rfl ?_
  refine wf ?_
  refine pwp_loopS (σ := Nat × List Res) (fun k => k.1 ≤ l.length ∧ RowB 157 172 (.slice o l.length cc) (((l.take k.1).map (fP g) ++ l.drop k.1).map eAtm) k.2) (fun k => l.length - k.1) (fun k => [(4, .raw (.slice o l.length cc)), (8, .clo 222 [.pt (eDig g) 0]), (32, .raw (.slice o l.length cc)), (33, .raw (.int .i64 l.length)), (34, .raw (.int .i64 k.1))]) (fun k => k.2 ++ LF) (0, _) ⟨by simp, by simpa using hrow⟩ ⟨rfl, rfl, rfl, rfl, rfl⟩ (.refl _) ?_
  rintro ⟨k, R⟩ ⟨hk, hR⟩
  dsimp only at hk hR ⊢
  refine wf ?_
  refine pwp_condD (fun hc => ?_) (fun hc => ?_)
  · have hlt : k < l.length := by omega
    obtain ⟨xs, hxs⟩ : ∃ xs, xs = ((l.take k).map (fP g) ++ l.drop k).map eAtm := ⟨_, rfl⟩
    rw [← hxs] at hR
    have hlk : xs.length = l.length := by rw [hxs]; simp; omega
    have hel : xs[k]'(by omega) = eAtm l[k] := by
      subst hxs
      rw [List.getElem_map, List.getElem_append_right (by simp; omega), List.getElem_drop]
      congr 2
      simp; omega
    obtain ⟨r, rest, rfl, rfl, hn, hcl, hsz, hcc⟩ := hR.inv (by omega)
    have isub : Sub (xs.flatten ++ rest) (0 + k * 172) 172 (eAtm l[k]) := by
      rw [← hel]; exact flat_sub hsz (by omega)
    refine wf ?_
    refine s_ixRow (k := k) rfl rfl hlt ?_
    refine wf ?_
    refine s_alloc fun b10 => ?_
    refine wf ?_
    refine pwp_join True [(4, .raw (.slice (some ⟨r, 0, none⟩) l.length cc)), (8, .clo 222 [.pt (eDig g) 0]), (9, .raw (.int .i64 k)), (10, .raw (.pointer (some ⟨b10, 0, none⟩))), (32, .raw (.slice (some ⟨r, 0, none⟩) l.length cc)), (33, .raw (.int .i64 l.length)), (34, .raw (.int .i64 k))] (.box b10 157 (eAtm (fP2 g (fP1 g l[k]))) :: .box r 157 (xs.flatten ++ rest) :: LF) ?_ fun _ => ?_
    · refine pwp_condN (fun h => ?_) (fun h => ?_)
      · refine wf ?_
        rw [show fP2 g (fP1 g l[k]) = { fP1 g l[k] with file := rWhole l[k].file g } by rw [fP2, if_pos (show (fP1 g l[k]).kind ≠ 7 from h)]; rfl]
        exact ⟨trivial, ⟨rfl, rfl, rfl, rfl, rfl, rfl, rfl⟩, .refl _⟩
      · refine wf ?_
        rw [show fP2 g (fP1 g l[k]) = fP1 g l[k] by rw [fP2, if_neg (show ¬ (fP1 g l[k]).kind ≠ 7 from fun h' => h' h)]]
        exact ⟨trivial, ⟨rfl, rfl, rfl, rfl, rfl, rfl, rfl⟩, .refl _⟩
    have o2 : (fP2 g (fP1 g l[k])).over.length ≤ 40 := by
      have h := hov _ (List.getElem_mem hlt)
      unfold fP2; split <;> exact h
    generalize hg2 : fP2 g (fP1 g l[k]) = a2 at o2 ⊢
    refine wf ?_
    refine pwp_join True [(4, .raw (.slice (some ⟨r, 0, none⟩) l.length cc)), (8, .clo 222 [.pt (eDig g) 0]), (9, .raw (.int .i64 k)), (10, .raw (.pointer (some ⟨b10, 0, none⟩))), (32, .raw (.slice (some ⟨r, 0, none⟩) l.length cc)), (33, .raw (.int .i64 l.length)), (34, .raw (.int .i64 k))] (.box b10 157 (eAtm (fP3 g a2)) :: .box r 157 (xs.flatten ++ rest) :: LF) ?_ fun _ => ?_
    · refine pwp_condD (fun h => ?_) (fun h => ?_)
      · refine wf ?_
        rw [show fP3 g a2 = { a2 with parent := rWhole a2.parent g } by rw [fP3, if_pos h]]
        exact ⟨trivial, ⟨rfl, rfl, rfl, rfl, rfl, rfl, rfl⟩, .refl _⟩
      · refine wf ?_
        rw [show fP3 g a2 = a2 by rw [fP3, if_neg h]]
        exact ⟨trivial, ⟨rfl, rfl, rfl, rfl, rfl, rfl, rfl⟩, .refl _⟩
    have o3 : (fP3 g a2).over.length ≤ 40 := by unfold fP3; split <;> exact o2
    generalize hg3 : fP3 g a2 = a3 at o3 ⊢
    refine wf ?_
    refine pwp_join True [(4, .raw (.slice (some ⟨r, 0, none⟩) l.length cc)), (8, .clo 222 [.pt (eDig g) 0]), (9, .raw (.int .i64 k)), (10, .raw (.pointer (some ⟨b10, 0, none⟩))), (32, .raw (.slice (some ⟨r, 0, none⟩) l.length cc)), (33, .raw (.int .i64 l.length)), (34, .raw (.int .i64 k))] (.box b10 157 (eAtm (fP4 g a3)) :: .box r 157 (xs.flatten ++ rest) :: LF) ?_ fun _ => ?_
    · refine pwp_condD (fun h => ?_) (fun h => ?_)
      · rw [show fP4 g a3 = { a3 with src := rWhole a3.src g, dst := rWhole a3.dst g } by rw [fP4, if_pos h]]
        refine wn ?_
        refine pwp_drawA [2, 6, 9, 11] (by decide +kernel) ?_
        refine pAny_quiet 0 rfl (by decide +kernel) rfl (fun L' => q_of_pops (N := 97) rfl rfl (by refine wo ?_; refine pops_nil ?_; exact ⟨upd_self _ _ _, rfl⟩)) ?_
        refine pAny_quiet 1 rfl (by decide +kernel) rfl (fun L' => q_of_pops (N := 97) rfl rfl (by refine wo ?_; refine pops_nil ?_; exact ⟨upd_self _ _ _, rfl⟩)) ?_
        refine pAny_quiet 4 rfl (by decide +kernel) rfl (fun L' => q_of_pops (N := 97) rfl rfl (by refine wo ?_; refine pops_nil ?_; exact ⟨upd_self _ _ _, rfl⟩)) ?_
        refine pAny_quiet 5 rfl (by decide +kernel) rfl (fun L' => q_of_pops (N := 97) rfl rfl (by refine wo ?_; refine pops_nil ?_; exact ⟨upd_self _ _ _, rfl⟩)) ?_
        refine pAny_next (fuel := 7) [2, 6] (by decide +kernel) (by simp) fun i hi => ?_
        simp only [List.mem_cons, List.not_mem_nil, or_false] at hi
        rcases hi with rfl | rfl
        · refine ⟨_, rfl, ?_⟩
          refine wf ?_
          refine pAny_quiet 3 rfl (by decide +kernel) rfl (fun L' => q_of_pops (N := 97) rfl rfl (by refine wo ?_; refine pops_nil ?_; exact ⟨upd_self _ _ _, rfl⟩)) ?_
          refine pAny_next (fuel := 5) [6] (by decide +kernel) (by simp) fun i hi => ?_
          simp only [List.mem_cons, List.not_mem_nil, or_false] at hi
          subst hi
          refine ⟨_, rfl, ?_⟩
          refine wf ?_
          refine pAny_quiet 7 rfl (by decide +kernel) rfl (fun L' => q_of_pops (N := 97) rfl rfl (by refine wo ?_; refine pops_nil ?_; exact ⟨upd_self _ _ _, rfl⟩)) ?_
          refine pAny_quiet 8 rfl (by decide +kernel) rfl (fun L' => q_of_pops (N := 97) rfl rfl (by refine wo ?_; refine pops_nil ?_; exact ⟨upd_self _ _ _, rfl⟩)) ?_
          refine pAny_next (fuel := 2) [9] (by decide +kernel) (by simp) fun i hi => ?_
          simp only [List.mem_cons, List.not_mem_nil, or_false] at hi
          subst hi
          refine ⟨_, rfl, ?_⟩
          refine wf ?_
          refine pAny_quiet 10 rfl (by decide +kernel) rfl (fun L' => q_of_pops (N := 97) rfl rfl (by refine wo ?_; refine pops_nil ?_; exact ⟨upd_self _ _ _, rfl⟩)) ?_
          refine pAny_next (fuel := 0) [11] (by decide +kernel) (by simp) fun i hi => ?_
          simp only [List.mem_cons, List.not_mem_nil, or_false] at hi
          subst hi
          refine ⟨_, rfl, ?_⟩
          refine wf ?_
          refine pAny_end (by decide +kernel) ?_
          refine wf ?_
          exact ⟨trivial, ⟨rfl, rfl, rfl, rfl, rfl, rfl, rfl⟩, .refl _⟩
        · refine ⟨_, rfl, ?_⟩
          refine wf ?_
          refine pAny_next (fuel := 6) [2] (by decide +kernel) (by simp) fun i hi => ?_
          simp only [List.mem_cons, List.not_mem_nil, or_false] at hi
          subst hi
          refine ⟨_, rfl, ?_⟩
          refine wf ?_
          refine pAny_quiet 3 rfl (by decide +kernel) rfl (fun L' => q_of_pops (N := 97) rfl rfl (by refine wo ?_; refine pops_nil ?_; exact ⟨upd_self _ _ _, rfl⟩)) ?_
          refine pAny_quiet 7 rfl (by decide +kernel) rfl (fun L' => q_of_pops (N := 97) rfl rfl (by refine wo ?_; refine pops_nil ?_; exact ⟨upd_self _ _ _, rfl⟩)) ?_
          refine pAny_quiet 8 rfl (by decide +kernel) rfl (fun L' => q_of_pops (N := 97) rfl rfl (by refine wo ?_; refine pops_nil ?_; exact ⟨upd_self _ _ _, rfl⟩)) ?_
          refine pAny_next (fuel := 2) [9] (by decide +kernel) (by simp) fun i hi => ?_
          simp only [List.mem_cons, List.not_mem_nil, or_false] at hi
          subst hi
          refine ⟨_, rfl, ?_⟩
          refine wf ?_
          refine pAny_quiet 10 rfl (by decide +kernel) rfl (fun L' => q_of_pops (N := 97) rfl rfl (by refine wo ?_; refine pops_nil ?_; exact ⟨upd_self _ _ _, rfl⟩)) ?_
          refine pAny_next (fuel := 0) [11] (by decide +kernel) (by simp) fun i hi => ?_
          simp only [List.mem_cons, List.not_mem_nil, or_false] at hi
          subst hi
          refine ⟨_, rfl, ?_⟩
          refine wf ?_
          refine pAny_end (by decide +kernel) ?_
          refine wf ?_
          exact ⟨trivial, ⟨rfl, rfl, rfl, rfl, rfl, rfl, rfl⟩, .refl _⟩
      · refine wf ?_
        rw [show fP4 g a3 = a3 by rw [fP4, if_neg h]]
        exact ⟨trivial, ⟨rfl, rfl, rfl, rfl, rfl, rfl, rfl⟩, .refl _⟩
    have o4 : (fP4 g a3).over.length ≤ 40 := by unfold fP4; split <;> exact o3
    generalize hg4 : fP4 g a3 = a4 at o4 ⊢
    repeat (refine pwp_seq ?_)
    refine pwp_region (by kernel_rfl) ?_
    refine s_assign ?_
    refine pops_nil ?_
    rw [show Env.ev _ (Operand.const (Value.slice none 0 0)) = .raw (.slice none 0 0) from rfl]
    refine wf ?_
    refine pwp_loopS (σ := Nat × Value × List Res) (fun j => j.1 ≤ a4.over.length ∧ IRow j.2.1 ((a4.over.take j.1).map fun y => rWhole y g) j.2.2) (fun j => a4.over.length - j.1) (fun j => [(4, .raw (.slice (some ⟨r, 0, none⟩) l.length cc)), (8, .clo 222 [.pt (eDig g) 0]), (9, .raw (.int .i64 k)), (10, .raw (.pointer (some ⟨b10, 0, none⟩))), (11, .raw j.2.1), (32, .raw (.slice (some ⟨r, 0, none⟩) l.length cc)), (33, .raw (.int .i64 l.length)), (34, .raw (.int .i64 k)), (74, .slice (a4.over.map eIdent) .ro), (75, .raw (.int .i64 a4.over.length)), (76, .raw (.int .i64 j.1))]) (fun j => j.2.2 ++ (.box b10 157 (eAtm a4) :: .box r 157 (xs.flatten ++ rest) :: LF)) (0, .slice none 0 0, []) ⟨by simp, .nil none (by simp)⟩ ⟨rfl, rfl, rfl, rfl, rfl, rfl, rfl, rfl, rfl, rfl, rfl⟩ (.refl _) ?_
    rintro ⟨j, v2, R2⟩ ⟨hj, hI⟩
    dsimp only at hj hI ⊢
    refine wf ?_
    refine pwp_condD (fun hc2 => ?_) (fun hc2 => ?_)
    · have hjl : j < a4.over.length := by omega
      refine wz fun b13 => ?_
      refine pwp_freezeD 13 ?_
      refine wf ?_
      refine s_appRow (f := eIdent) (m := [rWhole a4.over[j] g]) (R := R2) (LF := .box b10 157 (eAtm a4) :: .box r 157 (xs.flatten ++ rest) :: LF) (fun R' => R' ++ (.box b10 157 (eAtm a4) :: .box r 157 (xs.flatten ++ rest) :: LF)) rfl rfl hI (.refl _) (fun R' => .refl _) (by simp only [List.length_map, List.length_take, List.length_cons, List.length_nil]; omega) (by simp only [List.length_map, List.length_take, List.length_cons, List.length_nil]; omega) fun v3 R3 h3 => ?_
      refine wf ?_
      refine wf ?_
      refine ⟨(j + 1, v3, R3), ⟨by dsimp only; omega, ?_⟩, by dsimp only; omega, ⟨rfl, rfl, rfl, rfl, rfl, rfl, rfl, rfl, rfl, rfl, rfl⟩, .refl _⟩
      dsimp only
      rw [List.take_succ_eq_append_getElem hjl, List.map_append]
      exact h3
    · rw [List.take_of_length_le (by omega)] at hI
      refine wf ?_
      refine s_callR (xs := [.tmp 87, .func 208]) R2 (.box b10 157 (eAtm a4) :: .box r 157 (xs.flatten ++ rest) :: LF) (f := 223) (cs := []) (le_func _) rfl rfl (.refl _) _ (sortI_fn _ _ R2 hI (by simp only [List.length_map]; omega)) fun r' L3 ⟨v3, e3, h3⟩ => ?_
      subst e3
      refine wo ?_
      refine pops_nil ?_
      repeat (refine pwp_seq ?_)
      have hms : (sortI (a4.over.map fun y => rWhole y g)).length ≤ maxN ∧ (sortI (a4.over.map fun y => rWhole y g)).length * 33 ≤ maxN := by
        have h1 : maxN = 140737488355328 := rfl
        have h2 : (sortI (a4.over.map fun y => rWhole y g)).length = a4.over.length := by rw [sortI, List.length_mergeSort, List.length_map]
        omega
      refine pwp_freezeRow (f := eIdent) 11 h3 hms (.refl _) rfl ?_
      refine wf ?_
      have iput : Put (xs.flatten ++ rest) (0 + k * 172) (eAtm { a4 with over := sortI (a4.over.map fun y => rWhole y g) }) ((xs.set k (eAtm (fP5 g a4))).flatten ++ rest) := flat_put hsz (by omega) (by simp)
      refine s_ixRow (k := k) rfl rfl hlt ?_
      refine wf ?_
      have hset : xs.set k (eAtm (fP5 g a4)) = ((l.take (k + 1)).map (fP g) ++ l.drop (k + 1)).map eAtm := by
        have hf : fP5 g a4 = fP g l[k] := by rw [fP, hg2, hg3, hg4]
        rw [hf, hxs]
        refine List.ext_getElem (by simp; omega) fun i k1 k2 => ?_
        rw [List.getElem_set]
        split
        · rename_i e
          subst e
          rw [List.getElem_map, List.getElem_append_left (by simp; omega)]
          simp
        · rename_i e
          rw [List.getElem_map, List.getElem_map]
          congr 1
          rcases Nat.lt_or_ge i k with h' | h'
          · rw [List.getElem_append_left (by simp; omega), List.getElem_append_left (by simp; omega)]
            simp
          · rw [List.getElem_append_right (by simp; omega), List.getElem_append_right (by simp; omega)]
            simp only [List.getElem_drop, List.length_map, List.length_take]
            congr 1
            omega
      have hnew : ∀ e ∈ xs.set k (eAtm (fP5 g a4)), e.length = 172 := fun e he => by
        rw [hset] at he
        obtain ⟨a, _, rfl⟩ := List.mem_map.1 he
        simp
      refine ⟨(k + 1, [.box r 157 ((xs.set k (eAtm (fP5 g a4))).flatten ++ rest)]), ⟨by dsimp only; omega, ?_⟩, by dsimp only; omega, ⟨rfl, rfl, rfl, rfl, rfl⟩, .cons _ (.refl _)⟩
      dsimp only
      rw [← hset]
      refine .row (by rw [List.length_set, hlk]) hcl hnew ?_
      have h1 := flatten_len hnew
      have h2 := flatten_len hsz
      rw [List.length_set] at h1
      omega
  · have hkk : k = l.length := by omega
    subst hkk
    rw [List.take_length, List.drop_length, List.append_nil] at hR
    have hmx : ((l.map (fP g)).map eAtm).length ≤ maxN ∧ ((l.map (fP g)).map eAtm).length * 172 ≤ maxN := by
      have : maxN = 140737488355328 := rfl
      simp only [List.length_map]; omega
    refine pwp_freezeB 4 hR hmx (.refl _) rfl ?_
    refine wf ?_
    exact end2 (.tuple2 (.ros rfl) (.refl _))⟩
end Go.Proofs
/- Contracts of the program: patch.Atoms. -/
namespace Go.Proofs
open Go Go.Q
attribute [local irreducible] pwp pops PCalls OpN

instance atomsP_ct (p : Pat) [hs : Small (rGreat p = false)] : FnC Tryz.prog 154 [.agg (ePat p)] (.tuple [.slice ((atomsP p).1.map eAtm) .ro, .raw (.int .i64 (atomsP p).2)]) := ⟨by
  have i1 : FnC Tryz.prog 186 [.agg (ePat p)] (.tuple [.slice ((atomsP p).1.map eAtm) .ro, .raw (.int .i64 (atomsP p).2)]) := complete_fn p hs.out
  refine fn_of Tryz.func154 Tryz.ntmps154 rfl (rs := [.tmp 2, .tmp 3]) rfl rfl fun hb LF => ?_
  refine wf ?_
  exact end2 (.refl _)⟩
end Go.Proofs
/- Contracts of the program: the resolver of a set. -/
namespace Go.Proofs
open Go Go.Q
attribute [local irreducible] pwp pops PCalls OpN

instance zr_res : ZeroE Tryz.prog 151 [.slice [] .ro, .raw (.map none)] := ZeroE.of (us := [PV.slice [] .ro, .raw (.map none)].map zv) (by kernel_rfl) (by kernel_rfl)
/-- A resolver: the set, the atoms that have been asked for. -/
def eRsv (s : List Sto) (m : Nat) : List PV := [.slice (s.map eSto) .ro, .raw (.map (some m))]
def knownR (m : Nat) (known : List (Dig × List Atm)) : List Res := [.map m (eMap kDig (vSl eAtm) known)]
theorem newResolver_fn (s : List Sto) (t : Tag) : PCalls Tryz.prog 85 [.slice (s.map eSto) t] [] (fun r L' => ∃ m, r = .pt (eRsv s m) 0 ∧ L' = knownR m []) := by
  refine pcalls_bd Tryz.func85 rfl Tryz.ntmps85 (rs := [.tmp 2]) rfl rfl fun hb LF => ?_
  refine wf ?_
  refine s_makeMap fun m => ?_
  refine wf ?_
  exact ⟨trivial, _, knownR m [], .cons (.tmp 2) .nil, .refl _, m, rfl, rfl⟩
end Go.Proofs
/- Contracts of the program: searches by closures that read a map in use; the order of a set. -/
namespace Go.Proofs
open Go Go.Q
attribute [local irreducible] pwp pops PCalls OpN

theorem indexDR_fn (F : Nat) (cs : List PV) (p : Dig → Bool) (LR : List Res) [hF : TFun Tryz.prog F] (hp : ∀ d, PCalls Tryz.prog F (.agg (eDig d) :: cs) LR (fun r L' => r = .raw (.bool (p d)) ∧ L' = LR)) (l : List Dig) (t : Tag) :
    PCalls Tryz.prog 79 [.slice (l.map eDig) t, .clo F cs] LR (fun r L' => r = .raw (.int .i64 (idxF p l)) ∧ L' = LR) := by
  refine pcalls_bd Tryz.func79 rfl Tryz.ntmps79 (rs := [.tmp 4]) rfl rfl fun hb LF => ?_
  have hlen : l.length ≤ 140737488355328 := (hb (.slice (l.map eDig) t) (by simp)).slice_map
  refine wf ?_
  refine pwp_loopS (σ := Nat) (fun k => k ≤ l.length ∧ (l.take k).any p = false) (fun k => l.length - k) (fun k => [(0, .slice (l.map eDig) t), (1, .clo F cs), (7, .raw (.int .i64 l.length)), (8, .raw (.int .i64 k))]) (fun _ => LR ++ LF) 0 ⟨by simp, by simp⟩ ⟨rfl, rfl, rfl, rfl⟩ (.refl _) ?_
  rintro k ⟨hk, hn⟩
  refine wf ?_
  refine pwp_condD (fun hc => ?_) (fun hc => ?_)
  · have hlt : k < l.length := by omega
    refine wf ?_
    refine s_callR (xs := [.tmp 15]) LR LF (f := F) (cs := cs) (.refl _) rfl rfl (.refl _) _ (hp l[k]) fun r L' ⟨e1, e2⟩ => ?_
    subst e1 e2
    refine wf ?_
    refine wf ?_
    refine pwp_condB (fun h => ?_) (fun h => ?_)
    · refine wf ?_
      have e : l.any p = true := List.any_eq_true.2 ⟨l[k], List.getElem_mem hlt, h⟩
      exact ⟨trivial, _, _, .cons (.tmp 4) .nil, .refl _, by rw [idxF, if_pos e, findIdx_first hlt hn h]; rfl, rfl⟩
    · refine wf ?_
      refine ⟨k + 1, ⟨by omega, ?_⟩, by dsimp only; omega, ⟨rfl, rfl, rfl, rfl⟩, .refl _⟩
      rw [List.take_succ_eq_append_getElem hlt, List.any_append, hn]
      simp [h]
  · refine wf ?_
    rw [List.take_of_length_le (by omega)] at hn
    exact ⟨trivial, _, _, .cons (.tmp 4) .nil, .refl _, by rw [idxF, if_neg (by simp [hn])]; rfl, rfl⟩
theorem containsDR_fn (F : Nat) (cs : List PV) (p : Dig → Bool) (LR : List Res) [hF : TFun Tryz.prog F] (hp : ∀ d, PCalls Tryz.prog F (.agg (eDig d) :: cs) LR (fun r L' => r = .raw (.bool (p d)) ∧ L' = LR)) (l : List Dig) (t : Tag) :
    PCalls Tryz.prog 35 [.slice (l.map eDig) t, .clo F cs] LR (fun r L' => r = .raw (.bool (l.any p)) ∧ L' = LR) := by
  refine pcalls_bd Tryz.func35 rfl Tryz.ntmps35 (rs := [.tmp 4]) rfl rfl fun hb LF => ?_
  refine wf ?_
  refine s_callR (xs := [.tmp 5, .tmp 6]) LR LF (f := 79) (cs := []) (le_func _) rfl rfl (.refl _) _ (indexDR_fn F cs p LR hp l t) fun r L' ⟨e1, e2⟩ => ?_
  subst e1 e2
  refine wf ?_
  refine wf ?_
  refine ⟨trivial, _, _, .cons (.tmp 4) .nil, .refl _, ?_, rfl⟩
  show PV.raw (.bool (decide (0 ≤ idxF p l))) = _
  cases h : l.any p <;> simp [idxF, h]
theorem indexSR_fn (F : Nat) (cs : List PV) (p : Sto → Bool) (LR : List Res) [hF : TFun Tryz.prog F] (hp : ∀ d, PCalls Tryz.prog F (.agg (eSto d) :: cs) LR (fun r L' => r = .raw (.bool (p d)) ∧ L' = LR)) (l : List Sto) (t : Tag) :
    PCalls Tryz.prog 80 [.slice (l.map eSto) t, .clo F cs] LR (fun r L' => r = .raw (.int .i64 (idxF p l)) ∧ L' = LR) := by
  refine pcalls_bd Tryz.func80 rfl Tryz.ntmps80 (rs := [.tmp 4]) rfl rfl fun hb LF => ?_
  have hlen : l.length ≤ 140737488355328 := (hb (.slice (l.map eSto) t) (by simp)).slice_map
  refine wf ?_
  refine pwp_loopS (σ := Nat) (fun k => k ≤ l.length ∧ (l.take k).any p = false) (fun k => l.length - k) (fun k => [(0, .slice (l.map eSto) t), (1, .clo F cs), (7, .raw (.int .i64 l.length)), (8, .raw (.int .i64 k))]) (fun _ => LR ++ LF) 0 ⟨by simp, by simp⟩ ⟨rfl, rfl, rfl, rfl⟩ (.refl _) ?_
  rintro k ⟨hk, hn⟩
  refine wf ?_
  refine pwp_condD (fun hc => ?_) (fun hc => ?_)
  · have hlt : k < l.length := by omega
    refine wf ?_
    refine s_callR (xs := [.tmp 15]) LR LF (f := F) (cs := cs) (.refl _) rfl rfl (.refl _) _ (hp l[k]) fun r L' ⟨e1, e2⟩ => ?_
    subst e1 e2
    refine wf ?_
    refine wf ?_
    refine pwp_condB (fun h => ?_) (fun h => ?_)
    · refine wf ?_
      have e : l.any p = true := List.any_eq_true.2 ⟨l[k], List.getElem_mem hlt, h⟩
      exact ⟨trivial, _, _, .cons (.tmp 4) .nil, .refl _, by rw [idxF, if_pos e, findIdx_first hlt hn h]; rfl, rfl⟩
    · refine wf ?_
      refine ⟨k + 1, ⟨by omega, ?_⟩, by dsimp only; omega, ⟨rfl, rfl, rfl, rfl⟩, .refl _⟩
      rw [List.take_succ_eq_append_getElem hlt, List.any_append, hn]
      simp [h]
  · refine wf ?_
    rw [List.take_of_length_le (by omega)] at hn
    exact ⟨trivial, _, _, .cons (.tmp 4) .nil, .refl _, by rw [idxF, if_neg (by simp [hn])]; rfl, rfl⟩
/-! ### The first patch that may come -/
theorem idxF_append {α : Type} (p : α → Bool) (l : List α) (x : α) : idxF p (l ++ [x]) = if l.any p = true then idxF p l else if p x = true then (l.length : Int) else -1 := by
  unfold idxF
  rw [List.any_append, List.findIdx_append]
  by_cases h : l.any p = true
  · have h2 : l.findIdx p < l.length := List.findIdx_lt_length.2 (List.any_eq_true.1 h)
    rw [if_pos h, if_pos h, if_pos h2, if_pos (by simp [h])]
  · have h2 : ¬ l.findIdx p < l.length := fun h' => h (List.any_eq_true.2 (List.findIdx_lt_length.1 h'))
    rw [if_neg h, if_neg h2]
    cases hx : p x with
    | true => simp [h, hx]
    | false => simp [h, hx]
def eligR (out : List Dig) (x : Sto) : Bool := decide (¬ x.id ∈ out ∧ allIn out (rNeeds x.patch) = true)
theorem idxF_range {α : Type} (p : α → Bool) (l : List α) : -1 ≤ idxF p l ∧ idxF p l < l.length ∧ (l.any p = true → 0 ≤ idxF p l) := by
  unfold idxF
  by_cases h : l.any p = true
  · rw [if_pos h]
    have := List.findIdx_lt_length.2 (List.any_eq_true.1 h)
    exact ⟨by omega, by omega, fun _ => by omega⟩
  · rw [if_neg h]
    exact ⟨by omega, by omega, fun h' => absurd h' h⟩
theorem rPick_first {s : List Sto} (h : Asc (ids s)) (out : List Dig) : rPick s out = idxF (eligR out) s := by
  have key : ∀ n, n ≤ s.length → (List.range n).foldl (rBetter s out) (-1) = idxF (eligR out) (s.take n) := fun n => by
    induction n with
    | zero => intro _; rfl
    | succ n ih =>
      intro hn
      have hlt : n < s.length := by omega
      have e0 : s.getD n Sto.zero = s[n] := by simp [List.getD, hlt]
      rw [foldl_range_succ, ih (by omega), List.take_succ_eq_append_getElem hlt, idxF_append, rBetter, e0]
      obtain ⟨r1, r2, r3⟩ := idxF_range (eligR out) (s.take n)
      rw [List.length_take] at r2
      by_cases ha : (s.take n).any (eligR out) = true
      · have r3 := r3 ha
        generalize idxF (eligR out) (s.take n) = k at *
        rw [if_pos ha, if_neg]
        rintro ⟨_, h2⟩
        rcases h2 with h2 | h2
        · omega
        · have hk : k.toNat < s.length := by omega
          have e1 : s.getD k.toNat Sto.zero = s[k.toNat] := by simp [List.getD, hk]
          rw [e1] at h2
          have := List.pairwise_iff_getElem.1 h k.toNat n (by simpa [ids] using hk) (by simpa [ids] using hlt) (by omega)
          simp only [ids, List.getElem_map] at this
          exact Dig.lt_asymm this h2
      · have hk : idxF (eligR out) (s.take n) = -1 := by unfold idxF; rw [if_neg ha]
        rw [if_neg ha, hk]
        by_cases he : ¬ s[n].id ∈ out ∧ allIn out (rNeeds s[n].patch) = true
        · rw [if_pos ⟨he, .inl (by omega)⟩, if_pos (by simpa [eligR] using he), List.length_take, Nat.min_eq_left (by omega)]
        · rw [if_neg (fun h' => he h'.1), if_neg (by simpa [eligR] using he)]
  have := key s.length (Nat.le_refl _)
  rwa [List.take_length] at this
/-- What the graph says of a patch of a set without twins. -/
theorem mGet_gr {s : List Sto} (h : Asc (ids s)) {x : Sto} (hx : x ∈ s) : mGet x.id (gr s) = some (rNeeds x.patch) := by
  have key : ∀ n, n ≤ s.length → ∀ i (hi : i < s.length), i < n → mGet s[i].id (gr (s.take n)) = some (rNeeds s[i].patch) := fun n => by
    induction n with
    | zero => intro _ i _ h'; omega
    | succ n ih =>
      intro hn i hi hin
      have hlt : n < s.length := by omega
      rw [gr_take hlt, mGet_mSet]
      by_cases e : i = n
      · subst e; rw [if_pos rfl]
      · have hp := List.pairwise_iff_getElem.1 h i n (by simpa [ids] using hi) (by simpa [ids] using hlt) (by omega)
        simp only [ids, List.getElem_map] at hp
        rw [if_neg (fun e' => Dig.lt_irrefl _ (e' ▸ hp))]
        exact ih (by omega) i hi (by omega)
  obtain ⟨i, hi, rfl⟩ := List.mem_iff_getElem.1 hx
  have := key s.length (Nat.le_refl _) i hi hi
  rwa [List.take_length] at this
/-! ### The closures -/
theorem order11_fn (m : Nat) (done : List (Dig × Bool)) (d : Dig) : PCalls Tryz.prog 104 [.agg (eDig d), .pt [.raw (.map (some m))] 0] [.map m (eMap kDig vBool done)] (fun r L' => r = .raw (.bool (!(mGet d done).getD false)) ∧ L' = [.map m (eMap kDig vBool done)]) := by
  refine pcalls_bd Tryz.func104 rfl Tryz.ntmps104 (rs := [.tmp 3]) rfl rfl fun hb LF => ?_
  refine wf ?_
  exact ⟨trivial, _, _, .cons (.tmp 3) .nil, .refl _, rfl, rfl⟩
def eligP (G : List (Dig × List Dig)) (done : List (Dig × Bool)) (x : Sto) : Bool := !(mGet x.id done).getD false && !(((mGet x.id G).getD []).any fun d => !(mGet d done).getD false)
theorem order1_fn (m : Nat) (G : List (Dig × List Dig)) (done : List (Dig × Bool)) (x : Sto) : PCalls Tryz.prog 103 [.agg (eSto x), .pt [.raw (.map (some m))] 0, .pt [.fmap (eMap kDig (vSl eDig) G)] 0] [.map m (eMap kDig vBool done)] (fun r L' => r = .raw (.bool (eligP G done x)) ∧ L' = [.map m (eMap kDig vBool done)]) := by
  refine pcalls_bd Tryz.func103 rfl Tryz.ntmps103 (rs := [.tmp 4]) rfl rfl fun hb LF => ?_
  refine wf ?_
  refine pops_if (fun hp => ?_) (fun hp => ?_)
  · have h0 : (mGet x.id done).getD false = false := by simpa using hp
    refine wf ?_
    refine s_callR (xs := [.tmp 14, .tmp 15]) [.map m (eMap kDig vBool done)] LF (f := 35) (cs := []) (le_func _) rfl rfl (.refl _) _ (containsDR_fn 104 [.pt [.raw (.map (some m))] 0] (fun d => !(mGet d done).getD false) [.map m (eMap kDig vBool done)] (order11_fn m done) ((mGet x.id G).getD []) .ro) fun r L' ⟨e1, e2⟩ => ?_
    subst e1 e2
    refine wf ?_
    refine wf ?_
    exact ⟨trivial, _, _, .cons (.tmp 4) .nil, .refl _, by rw [eligP, h0]; rfl, rfl⟩
  · have h0 : (mGet x.id done).getD false = true := by simpa using hp
    refine wf ?_
    exact ⟨trivial, _, _, .cons (.tmp 4) .nil, .refl _, by rw [eligP, h0]; rfl, rfl⟩
/-! ### The order of a set -/
theorem idxF_congr {α : Type} {p q : α → Bool} : ∀ {l : List α}, (∀ x ∈ l, p x = q x) → idxF p l = idxF q l := fun {l} h => by
  have h1 : l.any p = l.any q := by
    rw [Bool.eq_iff_iff, List.any_eq_true, List.any_eq_true]
    exact ⟨fun ⟨x, hx, e⟩ => ⟨x, hx, (h x hx) ▸ e⟩, fun ⟨x, hx, e⟩ => ⟨x, hx, (h x hx).symm ▸ e⟩⟩
  have h2 : l.findIdx p = l.findIdx q := by
    clear h1
    induction l with
    | nil => rfl
    | cons x l ih =>
      rw [List.findIdx_cons, List.findIdx_cons, h x (by simp), ih fun y hy => h y (List.mem_cons_of_mem _ hy)]
  unfold idxF
  rw [h1, h2]
theorem elig_eq {s : List Sto} (h : Asc (ids s)) {done : List (Dig × Bool)} {out : List Dig} (hm : MetOk done out) {x : Sto} (hx : x ∈ s) : eligP (gr s) done x = eligR out x := by
  unfold eligP eligR
  rw [hm x.id, mGet_gr h hx, Option.getD_some]
  have e : ((rNeeds x.patch).any fun d => !(mGet d done).getD false) = !allIn out (rNeeds x.patch) := by
    rw [allIn, List.not_all_eq_any_not]
    congr 1
    funext d
    rw [hm d]
  rw [e, Bool.not_not]
  by_cases h1 : x.id ∈ out <;> simp [h1]
set_option maxHeartbeats 2000000 in
theorem orderP_fn (s : List Sto) (t : Tag) (hg : goodS s) (ha : Asc (ids s)) : FnC Tryz.prog 58 [.slice (s.map eSto) t] (.slice ((rOrder s).map eDig) .ro) := ⟨by
  have h8 := hg.1
  have i1 : Small (goodS s) := ⟨hg⟩
  refine fn_of Tryz.func58 Tryz.ntmps58 rfl (rs := [.tmp 2]) rfl rfl fun hb LF => ?_
  refine wf ?_
  refine s_alloc fun b3 => ?_
  refine wo ?_
  refine pops_nil ?_
  refine pwp_freezeD 3 ?_
  refine wf ?_
  refine s_makeMap fun m => ?_
  refine wf ?_
  refine s_alloc fun b4 => ?_
  refine wo ?_
  refine pops_nil ?_
  refine pwp_freezeD 4 ?_
  refine wf ?_
  refine pwp_tok 32 ?_
  refine pwp_perm (.swap _ _ _) ?_
  refine pwp_loopS (σ := Nat × List Dig × Tag × List (Dig × Bool)) (fun k => k.1 ≤ s.length ∧ k.2.1.length = k.1 ∧ MetOk k.2.2.2 k.2.1 ∧ rOrder s = rOrd s (s.length - k.1) k.2.1) (fun k => s.length - k.1) (fun k => [(0, .slice (s.map eSto) t), (3, .pt [.fmap (eMap kDig (vSl eDig) (gr s))] 0), (4, .pt [.raw (.map (some m))] 0), (5, .slice (k.2.1.map eDig) k.2.2.1), (11, .raw (.int .i64 s.length)), (12, .raw (.int .i64 k.1))]) (fun k => .map m (eMap kDig vBool k.2.2.2) :: .tok k.2.2.1 k.2.1.length 32 :: LF) (0, [], .nil, []) ⟨by simp, rfl, fun d => by simp [mGet], rfl⟩ ⟨rfl, rfl, rfl, rfl, rfl, rfl⟩ (.refl _) ?_
  rintro ⟨k, out, u, done⟩ ⟨hk, hol, hmo, hro⟩
  dsimp only at hk hol hmo hro ⊢
  refine wf ?_
  refine pwp_condD (fun hc => ?_) (fun hc => ?_)
  · have hlt : k < s.length := by omega
    have hpk : idxF (eligP (gr s) done) s = rPick s out := by rw [rPick_first ha, idxF_congr fun x hx => elig_eq ha hmo hx]
    have hrs : rOrd s (s.length - k) out = if rPick s out < 0 then out else rOrd s (s.length - (k + 1)) (out ++ [(s.getD (rPick s out).toNat Sto.zero).id]) := by
      rw [show s.length - k = (s.length - (k + 1)) + 1 by omega, rOrd]
    have hrr := rBetter_range (s := s) (out := out) s.length
    change -1 ≤ rPick s out ∧ rPick s out < s.length at hrr
    refine wf ?_
    refine s_callR (xs := [.tmp 14, .tmp 15]) [.map m (eMap kDig vBool done)] (.tok u out.length 32 :: LF) (f := 80) (cs := []) (le_func _) rfl rfl (.refl _) _ (indexSR_fn 103 [.pt [.raw (.map (some m))] 0, .pt [.fmap (eMap kDig (vSl eDig) (gr s))] 0] (eligP (gr s) done) [.map m (eMap kDig vBool done)] (order1_fn m (gr s) done) s t) fun r L' ⟨e1, e2⟩ => ?_
    subst e1 e2
    rw [hpk, List.cons_append, List.nil_append]
    generalize hpp : rPick s out = i at hrr hrs ⊢
    refine wf ?_
    refine wf ?_
    refine pwp_condD (fun hi => ?_) (fun hi => ?_)
    · refine wf ?_
      refine end1 (.ros ?_)
      rw [hro, hrs, if_pos (by omega)]
    · obtain ⟨j, rfl⟩ : ∃ j : Nat, i = (j : Int) := ⟨i.toNat, by omega⟩
      have hj : j < s.length := by omega
      rw [if_neg hi, Int.toNat_natCast, show s.getD j Sto.zero = s[j] by simp [List.getD, hj]] at hrs
      refine wn ?_
      refine pwp_drawN 6 ?_ ?_
      · decide +kernel
      refine wf ?_
      refine wfa fun u' => ?_
      refine ⟨(k + 1, out ++ [s[j].id], u', mSet s[j].id true done), ⟨by dsimp only; omega, by dsimp only; rw [List.length_append, hol]; rfl, hmo.add _, by dsimp only; rw [hro, hrs]⟩, by dsimp only; omega, ⟨rfl, rfl, rfl, rfl, rfl, rfl⟩, .refl _⟩
  · have hkk : k = s.length := by omega
    refine wf ?_
    refine end1 (.ros ?_)
    rw [hro, show s.length - k = 0 by omega, rOrd]⟩
end Go.Proofs
/- Contracts of the program: patchset.Get. -/
namespace Go.Proofs
open Go Go.Q
attribute [local irreducible] pwp pops PCalls OpN

theorem getS_idx (s : List Sto) (d : Dig) : (idxF (fun x => decide (x.id = d)) s < 0 → getS s d = none) ∧ (∀ k : Nat, idxF (fun x => decide (x.id = d)) s = (k : Int) → ∃ h : k < s.length, getS s d = some s[k].patch) := by
  have key : ∀ l : List Sto, (l.any (fun x => decide (x.id = d)) = false → getS l d = none) ∧ (l.any (fun x => decide (x.id = d)) = true → ∃ h : l.findIdx (fun x => decide (x.id = d)) < l.length, getS l d = some (l[l.findIdx fun x => decide (x.id = d)]).patch) := fun l => by
    induction l with
    | nil => exact ⟨fun _ => rfl, fun h => by cases h⟩
    | cons x l ih =>
      by_cases hx : x.id = d
      · refine ⟨fun h => by simp [hx] at h, fun _ => ?_⟩
        have e : (x :: l).findIdx (fun x => decide (x.id = d)) = 0 := by simp [List.findIdx_cons, hx]
        refine ⟨by rw [e]; simp, ?_⟩
        simp only [e, List.getElem_cons_zero]
        rw [getS, if_pos hx]
      · have eg : getS (x :: l) d = getS l d := by rw [getS, if_neg hx]
        refine ⟨fun h => by rw [eg]; exact ih.1 (by simpa [hx] using h), fun h => ?_⟩
        obtain ⟨h1, h2⟩ := ih.2 (by simpa [hx] using h)
        have e : (x :: l).findIdx (fun x => decide (x.id = d)) = l.findIdx (fun x => decide (x.id = d)) + 1 := by simp [List.findIdx_cons, hx]
        refine ⟨by rw [e, List.length_cons]; omega, ?_⟩
        simp only [e, List.getElem_cons_succ]
        rw [eg, h2]
  obtain ⟨k1, k2⟩ := key s
  refine ⟨fun h => k1 ?_, fun k h => ?_⟩
  · unfold idxF at h
    by_cases ha : s.any (fun x => decide (x.id = d)) = true
    · rw [if_pos ha] at h; omega
    · simpa using ha
  · unfold idxF at h
    by_cases ha : s.any (fun x => decide (x.id = d)) = true
    · rw [if_pos ha] at h
      have hk : s.findIdx (fun x => decide (x.id = d)) = k := by omega
      obtain ⟨h1, h2⟩ := k2 ha
      subst hk
      exact ⟨h1, h2⟩
    · rw [if_neg ha] at h; omega
instance get1_ct (x : Sto) (d : Dig) : FnC Tryz.prog 88 [.agg (eSto x), .pt (eDig d) 0] (.raw (.bool (decide (x.id = d)))) := ⟨by
  refine fn_of Tryz.func88 Tryz.ntmps88 rfl (rs := [.tmp 3]) rfl rfl fun hb LF => ?_
  refine wf ?_
  exact end1 (.refl _)⟩
instance GetP_ct (s : List Sto) (t : Tag) (d : Dig) : FnC Tryz.prog 44 [.slice (s.map eSto) t, .agg (eDig d)] (.tuple [.agg (ePat ((getS s d).getD Pat.zero)), .raw (.bool (getS s d).isSome)]) := ⟨by
  have i1 : ∀ t, FnC Tryz.prog 80 [.slice (s.map eSto) t, .clo 88 [.pt (eDig d) 0]] (.raw (.int .i64 (idxF (fun x => decide (x.id = d)) s))) := fun t => indexS_fn _ _ _ s t
  obtain ⟨g1, g2⟩ := getS_idx s d
  refine fn_of Tryz.func44 Tryz.ntmps44 rfl (rs := [.cell 4 57, .tmp 5]) rfl rfl fun hb LF => ?_
  refine wf ?_
  refine s_alloc fun b4 => ?_
  refine wf ?_
  refine pwp_condD (fun h => ?_) (fun h => ?_)
  · rw [g1 h]
    rw [Option.isSome_none, Option.getD_none]
    refine wf ?_
    exact endC1 rfl (.refl _)
  · obtain ⟨k, hk⟩ : ∃ k : Nat, idxF (fun x => decide (x.id = d)) s = (k : Int) := ⟨(idxF (fun x => decide (x.id = d)) s).toNat, by omega⟩
    obtain ⟨hlt, hg⟩ := g2 k hk
    rw [hk, hg, Option.isSome_some, Option.getD_some]
    refine wf ?_
    exact endC1 rfl (.refl _)⟩
end Go.Proofs
/- Plain laws: the program's atoms and the reference's; what the references of a valid patch find in a set. -/
namespace Go.Proofs
open Go Go.Q
attribute [local irreducible] pwp pops PCalls OpN

/-- An atom without what it supersedes. -/
def coreA (a : Atm) : Atm := { a with over := [] }
theorem idsOk_changes : ∀ (l : List Chg) (own : List Atm), idsOk own → idsOk (rChanges l own).1
  | [], _, h => h
  | c :: l, own, h => by
    unfold rChanges
    split
    · exact fun i hi => absurd hi (by simp)
    · split
      · exact fun i hi => absurd hi (by simp)
      · exact idsOk_changes l _ (idsOk_made c h)
theorem idsOk_check (p : Pat) : idsOk (rCheckP p).1 := by
  have h0 : idsOk ([] : List Atm) := fun i hi => absurd hi (by simp)
  unfold rCheckP
  repeat' split
  all_goals first | exact h0 | exact idsOk_changes _ _ h0
theorem fP_core (d : Dig) {a : Atm} (h1 : a.id.patch = Dig.zero) (h2 : 0 ≤ a.id.n) : coreA (fP d a) = coreA (rFull d a) := by
  have e : fP1 d a = rFull1 d a := by
    unfold fP1 rFull1 rWhole; rw [if_pos ⟨h1, h2⟩]
  rw [fP, rFull, e]
  rfl
theorem rEx_id (p : Pat) : (rEx p).2.2 = (rId p).2 := by
  rw [rEx_err, rId]
  by_cases h : (rEncodeP p).2 ≠ 0
  · rw [if_pos h]
  · rw [if_neg h]; simpa using h
theorem rEx_own {p : Pat} (h : (rEx p).2.2 = 0) : (rEx p).1 = (rCheckP p).1 ∧ (rCheckP p).2 = 0 := by
  unfold rEx at h ⊢
  by_cases g1 : (rCheckP p).2 ≠ 0
  · rw [if_pos g1] at h; exact absurd h g1
  by_cases g2 : 65536 < ((rEnc p).length : Int)
  · rw [if_neg g1, if_pos g2] at h; exact absurd h (by decide)
  rw [if_neg g1, if_neg g2]
  exact ⟨rfl, by simpa using g1⟩
theorem atoms_core (p : Pat) : (atomsP p).1.map coreA = (rAtoms p).1.map coreA := by
  unfold atomsP rAtoms
  rw [rEx_id]
  by_cases h : (rId p).2 ≠ 0
  · rw [if_pos h, if_pos h]
  · rw [if_neg h, if_neg h, if_neg h]
    have h3 : (rEx p).2.2 = 0 := by rw [rEx_id]; simpa using h
    dsimp only
    rw [(rEx_own h3).1, List.map_map, List.map_map]
    refine List.map_congr_left fun a ha => ?_
    obtain ⟨i, hi, rfl⟩ := List.mem_iff_getElem.1 ha
    have e := idsOk_check p i hi
    exact fP_core _ (by rw [e]) (by rw [e]; exact Int.natCast_nonneg _)

/-! ### Atoms of a set -/
def atomsPS (s : List Sto) (d : Dig) : List Atm := (atomsP ((getS s d).getD Pat.zero)).1
def atomPS (s : List Sto) (x : Ident) : Option Atm := if x.n < 0 ∨ ((atomsPS s x.patch).length : Int) ≤ x.n then none else (atomsPS s x.patch)[x.n.toNat]?
theorem atom_core (s : List Sto) (x : Ident) : (atomPS s x).map coreA = (rAtom s x).map coreA := by
  have e := atoms_core ((getS s x.patch).getD Pat.zero)
  have el := congrArg List.length e
  rw [List.length_map, List.length_map] at el
  unfold atomPS rAtom atomsPS rAtomsOf
  rw [el]
  by_cases h : x.n < 0 ∨ ((rAtoms ((getS s x.patch).getD Pat.zero)).1.length : Int) ≤ x.n
  · rw [if_pos h, if_pos h]
  · rw [if_neg h, if_neg h, ← List.getElem?_map, ← List.getElem?_map, e]
theorem refOk_core {f : Atm → Bool} (hf : ∀ a, f a = f (coreA a)) {o p : Option Atm} (e : o.map coreA = p.map coreA) : rRefOk o f = rRefOk p f := by
  cases o with
  | none => cases p with
    | none => rfl
    | some b => cases e
  | some a => cases p with
    | none => cases e
    | some b =>
      have e2 : coreA a = coreA b := by simpa using e
      unfold rRefOk
      rw [Option.getD_some, Option.getD_some, hf a, hf b, e2]; rfl
theorem refOk_set (s : List Sto) (x : Ident) {f : Atm → Bool} (hf : ∀ a, f a = f (coreA a)) : rRefOk (atomPS s x) f = rRefOk (rAtom s x) f := refOk_core hf (atom_core s x)

/-! ### What the atoms must be -/
def predS (c : Chg) (g : Ident) (r : Rfc) : Atm → Bool :=
  if r.f = 148 then ffP c.kind else if r.f = 150 then pf5 else if r.f = 151 then sf4 r.id c.file g else sf5 (ovK c.kind) g
theorem mem_putR {l : List Rfc} {r x : Rfc} (h : r ∈ putR l x) : r ∈ l ∨ r = x := by
  unfold putR at h
  split at h
  · exact .inl h
  · simpa using h
theorem mem_foldR {α : Type} {f : α → Rfc} {r : Rfc} : ∀ {o : List α} {l : List Rfc}, r ∈ o.foldl (fun l x => putR l (f x)) l → r ∈ l ∨ ∃ x ∈ o, r = f x
  | [], _, h => .inl h
  | y :: o, l, h => by
    rw [List.foldl_cons] at h
    rcases mem_foldR (o := o) h with h | ⟨x, hx, e⟩
    · rcases mem_putR h with h | h
      · exact .inl h
      · exact .inr ⟨y, by simp, h⟩
    · exact .inr ⟨x, by simp [hx], e⟩
theorem fitsS_mem (id : Dig) (c : Chg) (r : Rfc) (h : r ∈ refsS id c) : Fits Tryz.prog r (predS c (fileS id c) r) := by
  unfold refsS rs4 at h
  rcases mem_foldR h with h | ⟨x, _, rfl⟩
  · unfold rs3 at h
    have key : r ∈ rs2 c (rs1 c) ∨ ∃ x : Ident, r = end1R (fileS id c) c x := by
      split at h
      · rcases mem_foldR h with h | ⟨x, _, e⟩
        · exact .inl h
        · exact .inr ⟨x, e⟩
      · exact .inl h
    rcases key with h | ⟨x, rfl⟩
    · unfold rs2 at h
      have key : r ∈ rs1 c ∨ r = ⟨c.parent, 150, []⟩ := by
        split at h
        · exact mem_putR h
        · exact .inl h
      rcases key with h | rfl
      · unfold rs1 at h
        have key : r = ⟨c.file, 148, [.pt (eChg c) 0]⟩ := by
          split at h
          · rcases mem_putR h with h | h
            · cases h
            · exact h
          · cases h
        subst key
        exact ⟨inferInstance, fun a => (sf2_ct c a).out⟩
      · exact ⟨inferInstance, fun a => (sf3_ct a).out⟩
    · exact ⟨(inferInstance : TFun Tryz.prog 151), fun a => (sf4_ct x (fileS id c) c a).out⟩
  · exact ⟨(inferInstance : TFun Tryz.prog 153), fun a => (sf5_ct (ovK c.kind) (fileS id c) a).out⟩
def refSE (s : List Sto) (c : Chg) (g : Ident) (r : Rfc) : Int := rRefOk (atomPS s r.id) (predS c g r)
def chgSE (s : List Sto) (id : Dig) (c : Chg) : Int := firstErr (refSE s c (fileS id c)) (refsS id c)
def unfitP (s : List Sto) (p : Pat) (id : Dig) : Int := firstErr (chgSE s id) p.changes

/-! ### The reference's word -/
theorem firstErr_putR (f : Rfc → Int) (l : List Rfc) (r : Rfc) : firstErr f (putR l r) = if firstErr f l ≠ 0 then firstErr f l else if r.id.patch = Dig.zero then 0 else f r := by
  unfold putR
  by_cases h : r.id.patch = Dig.zero
  · rw [if_pos h, if_pos h]
    by_cases h2 : firstErr f l = 0
    · rw [if_neg (by simp [h2]), h2]
    · rw [if_pos h2]
  · rw [if_neg h, if_neg h, firstErr_append]
    have : firstErr f [r] = f r := by
      rw [firstErr, firstErr]; split
      · rename_i h; exact h.symm
      · rfl
    rw [this]
theorem firstErr_foldR {α : Type} (f : Rfc → Int) (h : α → Rfc) : ∀ (o : List α) (l : List Rfc), firstErr f (o.foldl (fun l x => putR l (h x)) l) = if firstErr f l ≠ 0 then firstErr f l else firstErr (fun x => if (h x).id.patch = Dig.zero then 0 else f (h x)) o
  | [], l => by
    by_cases h2 : firstErr f l = 0
    · simp [h2, firstErr]
    · simp [h2]
  | x :: o, l => by
    rw [List.foldl_cons, firstErr_foldR f h o, firstErr_putR, firstErr]
    generalize (if (h x).id.patch = Dig.zero then 0 else f (h x)) = v
    by_cases h2 : firstErr f l = 0 <;> by_cases h3 : v = 0 <;> simp [h2, h3]
theorem rEmpty_rest {c : Chg} (hf : rFields c = 0) : (¬ (2 ≤ c.kind ∧ c.kind ≤ 6) → c.file = Ident.zero) ∧ (c.kind ≠ 2 → c.parent = Ident.zero) ∧ (¬ (c.kind = 5 ∨ c.kind = 6) → c.after = Ident.zero ∧ c.before = Ident.zero) := by
  have h2 := fields_empty hf
  unfold rEmpty rRest at h2
  simp only [Bool.and_eq_true, decide_eq_true_eq] at h2
  obtain ⟨⟨⟨⟨⟨⟨⟨⟨⟨h1, _⟩, h3⟩, _⟩, _⟩, _⟩, h7⟩, h8⟩, _⟩, _⟩ := h2
  refine ⟨fun h => ?_, fun h => ?_, fun h => ⟨?_, ?_⟩⟩
  · rwa [if_neg h] at h1
  · rwa [if_neg h] at h3
  · rwa [if_neg h] at h7
  · rwa [if_neg h] at h8
theorem chgSE_eq (s : List Sto) (id : Dig) {c : Chg} {own : List Atm} (hf : rFields c = 0) (hr : rRefs c own = 0) : chgSE s id c = rChgE s c id := by
  have hk := fields_kind hf
  obtain ⟨z1, z2, z3⟩ := rEmpty_rest hf
  have hn : 2 ≤ c.kind ∧ c.kind ≤ 6 → 0 ≤ c.file.n := fun h => by
    have h1 : rRefF c own = 0 := by
      by_cases h0 : rRefF c own = 0
      · exact h0
      · rw [rRefs, if_pos h0] at hr; exact absurd hr h0
    rw [rRefF, if_pos h, rOne] at h1
    by_cases h2 : rAllowed c.file own.length = false
    · rw [if_pos h2] at h1; omega
    · have h2 : rAllowed c.file own.length = true := by simpa using h2
      unfold rAllowed at h2
      split at h2 <;> simp at h2 <;> omega
  have hg : 2 ≤ c.kind ∧ c.kind ≤ 6 → fileS id c = rComplete c.file id := fun h => by
    unfold fileS rComplete
    by_cases h1 : c.file.patch = Dig.zero
    · rw [if_pos h1, if_pos ⟨hn h, h1⟩]
    · rw [if_neg h1, if_neg (fun h => h1 h.2)]
  have e1 : firstErr (refSE s c (fileS id c)) (rs1 c) = rChgF s c := by
    unfold rs1 rChgF
    by_cases h : c.kind ≠ 1 ∧ c.kind ≠ 7
    · rw [if_pos h, firstErr_putR, if_neg (by simp [firstErr])]
      unfold rOther
      by_cases h1 : c.file.patch = Dig.zero
      · rw [if_pos h1, if_neg (by simp [h1])]
      · rw [if_neg h1, if_pos (by simp [h1]), refSE, show predS c (fileS id c) ⟨c.file, 148, [.pt (eChg c) 0]⟩ = ffP c.kind from rfl, refOk_set s c.file (fun a => rfl)]
        congr 1
        funext a
        unfold ffP rFitsFile rText
        by_cases h5 : c.kind = 5 ∨ c.kind = 6
        · rcases h5 with h | h <;> simp [h]
        · have : ¬ c.kind = 5 ∧ ¬ c.kind = 6 := ⟨fun h => h5 (.inl h), fun h => h5 (.inr h)⟩
          by_cases h4 : c.kind = 4 <;> simp [this, h4]
    · rw [if_neg h, z1 (by omega)]
      simp [firstErr, rOther, Ident.zero]
  have e2 : ∀ l, firstErr (refSE s c (fileS id c)) (rs2 c l) = if firstErr (refSE s c (fileS id c)) l ≠ 0 then firstErr (refSE s c (fileS id c)) l else rChgP s c := fun l => by
    unfold rs2 rChgP
    by_cases h : c.kind = 2
    · rw [if_pos h, firstErr_putR]
      unfold rOther
      by_cases h1 : c.parent.patch = Dig.zero
      · rw [if_pos h1, if_neg (by simp [h1] : ¬ (!decide (c.parent.patch = Dig.zero)) = true)]
      · rw [if_neg h1, if_pos (by simp [h1] : (!decide (c.parent.patch = Dig.zero)) = true), refSE, show predS c (fileS id c) ⟨c.parent, 150, []⟩ = pf5 from rfl, refOk_set s c.parent (fun a => rfl)]
        rfl
    · rw [if_neg h, z2 h, if_neg (by simp [rOther, Ident.zero] : ¬ rOther Ident.zero = true)]
      split
      · rfl
      · rename_i h; simpa using h
  have e3 : rChgF s c = 0 → ∀ l, firstErr (refSE s c (fileS id c)) (rs3 (fileS id c) c l) = if firstErr (refSE s c (fileS id c)) l ≠ 0 then firstErr (refSE s c (fileS id c)) l else if rEndE s c.after c.file id ≠ 0 then rEndE s c.after c.file id else rEndE s c.before c.file id := fun hF l => by
    unfold rs3
    by_cases h : c.kind = 5 ∨ c.kind = 6
    · have hx : ∀ x : Ident, (if (end1R (fileS id c) c x).id.patch = Dig.zero then 0 else refSE s c (fileS id c) (end1R (fileS id c) c x)) = rEndE s x c.file id := fun x => by
        unfold rEndE rOther
        by_cases h1 : x.patch = Dig.zero
        · rw [if_pos (show (end1R (fileS id c) c x).id.patch = Dig.zero from h1), if_pos (by simp [h1])]
        · rw [if_neg (show ¬ (end1R (fileS id c) c x).id.patch = Dig.zero from h1), refSE, show predS c (fileS id c) (end1R (fileS id c) c x) = sf4 x c.file (fileS id c) from rfl, show (end1R (fileS id c) c x).id = x from rfl, refOk_set s x (fun a => rfl)]
          by_cases h2 : x = c.file
          · rw [if_pos (.inr h2)]
            subst h2
            rw [rChgF, if_pos (by simp [rOther, h1]), rRefOk] at hF
            by_cases h3 : (rAtom s c.file).isSome = false
            · rw [if_pos h3] at hF; omega
            · rw [rRefOk, if_neg h3, if_neg (by simp [sf4])]
          · rw [if_neg (by simp [h1, h2]), hg (by omega)]
            congr 1
            funext a
            simp [sf4, rFitsEnd, h2]
      rw [if_pos h, firstErr_foldR, firstErr, firstErr, firstErr, hx, hx]
      by_cases q1 : rEndE s c.after c.file id = 0
      · rw [if_pos q1, if_neg (by simp [q1] : ¬ rEndE s c.after c.file id ≠ 0)]
        by_cases q2 : rEndE s c.before c.file id = 0
        · rw [if_pos q2, q2]
        · rw [if_neg q2]
      · rw [if_neg q1, if_pos q1]
    · obtain ⟨za, zb⟩ := z3 h
      have q : rEndE s Ident.zero c.file id = 0 := by rw [rEndE, if_pos (.inl (by simp [rOther, Ident.zero]))]
      rw [if_neg h, za, zb, q]
      split
      · rfl
      · rename_i h; simpa using h
  have e4 : ∀ l, firstErr (refSE s c (fileS id c)) (rs4 (fileS id c) c l c.over) = if firstErr (refSE s c (fileS id c)) l ≠ 0 then firstErr (refSE s c (fileS id c)) l else firstErr (rChgO s c id) c.over := fun l => by
    unfold rs4
    rw [firstErr_foldR]
    congr 1
    refine firstErr_congr fun x hx => ?_
    have h15 : c.kind ≠ 1 ∧ c.kind ≠ 5 := ⟨fun h => (by rw [fields_over hf (.inl h)] at hx; simp at hx), fun h => (by rw [fields_over hf (.inr h)] at hx; simp at hx)⟩
    unfold rChgO rOther
    by_cases h1 : x.patch = Dig.zero
    · rw [if_pos (show (over1R (fileS id c) c x).id.patch = Dig.zero from h1), if_pos (by simp [h1])]
    · rw [if_neg (show ¬ (over1R (fileS id c) c x).id.patch = Dig.zero from h1), if_neg (by simp [h1]), refSE, show predS c (fileS id c) (over1R (fileS id c) c x) = sf5 (ovK c.kind) (fileS id c) from rfl, show (over1R (fileS id c) c x).id = x from rfl, refOk_set s x (fun a => rfl)]
      congr 1
      funext a
      unfold sf5 rFitsOver rWant ovK
      by_cases h7 : c.kind = 7
      · simp [h7]
      · have : c.kind = 2 ∨ c.kind = 3 ∨ c.kind = 4 ∨ c.kind = 6 := by omega
        rw [if_pos this, if_neg h7, hg (by omega)]
  unfold chgSE refsS rChgE
  rw [e4]
  by_cases q0 : rChgF s c = 0
  · rw [e3 q0, e2, e1, q0]
    by_cases q1 : rChgP s c = 0
    · by_cases q2 : rEndE s c.after c.file id = 0
      · by_cases q3 : rEndE s c.before c.file id = 0
        · simp [q1, q2, q3]
        · simp [q1, q2, q3]
      · simp [q1, q2]
    · simp [q1]
  · have k2 : firstErr (refSE s c (fileS id c)) (rs2 c (rs1 c)) = rChgF s c := by rw [e2, e1, if_pos q0]
    have k3 : firstErr (refSE s c (fileS id c)) (rs3 (fileS id c) c (rs2 c (rs1 c))) = rChgF s c := by
      unfold rs3
      split
      · rw [firstErr_foldR, k2, if_pos q0]
      · exact k2
    rw [k3, if_pos q0, if_pos q0]
theorem changes_ok : ∀ {l : List Chg} {own : List Atm}, (rChanges l own).2 = 0 → ∀ c ∈ l, rFields c = 0 ∧ ∃ own, rRefs c own = 0
  | [], _, _, c, h => by cases h
  | x :: l, own, h, c, hc => by
    unfold rChanges at h
    by_cases h1 : rFields x ≠ 0
    · rw [if_pos h1] at h; exact absurd h h1
    by_cases h2 : rRefs x own ≠ 0
    · rw [if_neg h1, if_pos h2] at h; exact absurd h h2
    rw [if_neg h1, if_neg h2] at h
    rcases List.mem_cons.1 hc with rfl | hc
    · exact ⟨by simpa using h1, own, by simpa using h2⟩
    · exact changes_ok h c hc
theorem check_changes {p : Pat} (h : (rCheckP p).2 = 0) : ∀ c ∈ p.changes, rFields c = 0 ∧ ∃ own, rRefs c own = 0 := by
  have e : rHead p = 0 := by
    by_cases h0 : rHead p = 0
    · exact h0
    · rw [checkP_head, if_pos h0] at h; exact absurd h h0
  rw [rCheckP_ok e] at h
  exact changes_ok h
theorem unfit_eq (s : List Sto) {p : Pat} (id : Dig) (h : (rId p).2 = 0) : unfitP s p id = rRefsS s p id := by
  have h2 := (rEx_own (p := p) (by rw [rEx_id]; exact h)).2
  refine firstErr_congr fun c hc => ?_
  obtain ⟨hf, own, hr⟩ := check_changes h2 c hc
  exact chgSE_eq s id hf hr
end Go.Proofs
/- Contracts of the program: atoms of a set, the references of its patches. -/
namespace Go.Proofs
open Go Go.Q
attribute [local irreducible] pwp pops PCalls OpN

section
variable {P : Program} {N : Nat} {all : Array Oper} {K : Env → List Res → Prop} {fl : List Bool} {os : List Oper} {ρ : Env} {L : List Res} {d : Nat} {ty : TypeId} {pos : String} {af : Array Edge}
theorem s_nilCheckF {x : Operand} {cs : List PV} {off : Nat} (hx : ρ.ev x = .pt cs off) (k : pops P N all K fl.tail os (upd ρ d (.pt cs off)) L) (hd : Nat.blt d N = true := by rfl) : pops P N all K fl (⟨some d, .nilCheck x, ty, pos, af, none⟩ :: os) ρ L :=
  step_q hd (qop_of_run fun a w g ha hi => by
    have h1 := ha x (by simp [Op.operands])
    rw [hx] at h1
    generalize hv : a.eval x = v at h1
    cases h1 with
    | pt ff hH hv' =>
      rename_i b o
      exact ⟨.pointer (some ⟨b, o + off, none⟩), by simp [execOp, hv], .pt ff hH hv'⟩) k
end
instance fld_rsv0 (s : List Sto) (m : Nat) : Fld (eRsv s m) 0 [.slice (s.map eSto) .ro] := ⟨by simp [eRsv]⟩
instance fld_rsv1 (s : List Sto) (m : Nat) : Fld (eRsv s m) 1 [.raw (.map (some m))] := ⟨by simp [eRsv]⟩
/-- What the resolver knows is so. -/
def KnownOk (s : List Sto) (known : List (Dig × List Atm)) : Prop := ∀ d l, mGet d known = some l → l = atomsPS s d
theorem KnownOk.set {s : List Sto} {known : List (Dig × List Atm)} (h : KnownOk s known) (d : Dig) : KnownOk s (mSet d (atomsPS s d) known) := fun x l e => by
  rw [mGet_mSet] at e
  split at e
  · rename_i hx; subst hx; injection e with e; exact e.symm
  · exact h x l e
set_option maxHeartbeats 1000000 in
theorem atomR_fn (s : List Sto) (hg : goodS s) (m : Nat) (known : List (Dig × List Atm)) (hk : KnownOk s known) (x : Ident) : PCalls Tryz.prog 119 [.pt (eRsv s m) 0, .agg (eIdent x)] (knownR m known) (fun r L' => r = .tuple [.agg (eAtm ((atomPS s x).getD Atm.zero)), .raw (.bool (atomPS s x).isSome)] ∧ ∃ known', L' = knownR m known' ∧ KnownOk s known') := by
  have i1 : Small (rGreat ((getS s x.patch).getD Pat.zero) = false) := ⟨hg.great _⟩
  refine pcalls_bd Tryz.func119 rfl Tryz.ntmps119 (rs := [.cell 4 157, .tmp 5]) rfl rfl fun hb LF => ?_
  rw [show knownR m known ++ LF = .map m (eMap kDig (vSl eAtm) known) :: LF from rfl]
  refine wf ?_
  refine s_alloc fun b4 => ?_
  refine wf ?_
  refine s_nilCheckF rfl ?_
  refine wf ?_
  refine pwp_perm (.swap _ _ _) ?_
  refine pwp_joinG (σ := List (Dig × List Atm)) (fun k => KnownOk s k) (fun k => [(3, .pt (eIdent x) 0), (4, .raw (.pointer (some ⟨b4, 0, none⟩))), (6, .slice ((atomsPS s x.patch).map eAtm) .ro)]) (fun k => .map m (eMap kDig (vSl eAtm) k) :: .box b4 157 (eAtm Atm.zero) :: LF) ?_ ?_
  · refine pwp_condB (fun h => ?_) (fun h => ?_)
    · refine wn ?_
      refine pwp_drawA [10, 11] (by decide +kernel) ?_
      refine pAny_quiet 0 rfl (by decide +kernel) rfl (fun L' => q_of_pops (N := 60) rfl rfl (by refine wo ?_; refine pops_nil ?_; exact ⟨upd_self _ _ _, rfl⟩)) ?_
      refine pAny_quiet 1 rfl (by decide +kernel) rfl (fun L' => q_of_pops (N := 60) rfl rfl (by refine s_nilCheckF rfl ?_; refine pops_nil ?_; exact ⟨upd_self _ _ _, rfl⟩)) ?_
      refine pAny_quiet 2 rfl (by decide +kernel) rfl (fun L' => q_of_pops (N := 60) rfl rfl (by refine wo ?_; refine pops_nil ?_; exact ⟨upd_self _ _ _, rfl⟩)) ?_
      refine pAny_quiet 3 rfl (by decide +kernel) rfl (fun L' => q_of_pops (N := 60) rfl rfl (by refine wo ?_; refine pops_nil ?_; exact ⟨upd_self _ _ _, rfl⟩)) ?_
      refine pAny_quiet 4 rfl (by decide +kernel) rfl (fun L' => q_of_pops (N := 60) rfl rfl (by refine wo ?_; refine pops_nil ?_; exact ⟨upd_self _ _ _, rfl⟩)) ?_
      refine pAny_quiet 5 rfl (by decide +kernel) rfl (fun L' => q_of_pops (N := 60) rfl rfl (by refine wo ?_; refine pops_nil ?_; exact ⟨upd_self _ _ _, rfl⟩)) ?_
      refine pAny_quiet 6 rfl (by decide +kernel) rfl (fun L' => q_of_pops (N := 60) rfl rfl (by refine wo ?_; refine pops_nil ?_; exact ⟨upd_self _ _ _, rfl⟩)) ?_
      refine pAny_quiet 7 rfl (by decide +kernel) rfl (fun L' => q_of_pops (N := 60) rfl rfl (by refine wo ?_; refine pops_nil ?_; exact ⟨upd_self _ _ _, rfl⟩)) ?_
      refine pAny_quiet 8 rfl (by decide +kernel) rfl (fun L' => q_of_pops (N := 60) rfl rfl (by refine wo ?_; refine pops_nil ?_; exact ⟨upd_self _ _ _, rfl⟩)) ?_
      refine pAny_quiet 9 rfl (by decide +kernel) rfl (fun L' => q_of_pops (N := 60) rfl rfl (by refine wo ?_; refine pops_nil ?_; exact ⟨upd_self _ _ _, rfl⟩)) ?_
      refine pAny_next (fuel := 2) [10] (by decide +kernel) (by simp) fun i hi => ?_
      simp only [List.mem_cons, List.not_mem_nil, or_false] at hi
      subst hi
      refine ⟨_, rfl, ?_⟩
      refine s_alloc fun b8 => ?_
      refine pops_nil ?_
      refine pAny_next (fuel := 1) [11] (by decide +kernel) (by simp) fun i hi => ?_
      simp only [List.mem_cons, List.not_mem_nil, or_false] at hi
      subst hi
      refine ⟨_, rfl, ?_⟩
      refine wo ?_
      refine pops_nil ?_
      refine pAny_next (fuel := 0) [12] (by decide +kernel) (by simp) fun i hi => ?_
      simp only [List.mem_cons, List.not_mem_nil, or_false] at hi
      subst hi
      refine ⟨_, rfl, ?_⟩
      refine wo ?_
      refine pops_nil ?_
      refine pAny_end (by decide +kernel) ?_
      refine pwp_freezeD 8 ?_
      refine wn ?_
      refine pwp_drawN 7 ?_ ?_
      · decide +kernel
      refine wf ?_
      refine s_nilCheckF rfl ?_
      refine wf ?_
      exact ⟨mSet x.patch (atomsPS s x.patch) known, hk.set _, ⟨rfl, rfl, rfl⟩, .refl _⟩
    · have h1 : (mGet x.patch known).isSome = true := by simpa using h
      obtain ⟨l, hl⟩ := Option.isSome_iff_exists.1 h1
      have e := hk _ _ hl
      subst e
      refine wf ?_
      refine ⟨known, hk, ⟨rfl, rfl, by rw [hl]; rfl⟩, .refl _⟩
  intro k hkn
  refine pwp_perm (.swap _ _ _) ?_
  refine wf ?_
  refine pops_cutE [(53, .raw (.bool (decide (x.n < 0 ∨ ((atomsPS s x.patch).length : Int) ≤ x.n)))), (3, .pt (eIdent x) 0), (4, .raw (.pointer (some ⟨b4, 0, none⟩))), (6, .slice ((atomsPS s x.patch).map eAtm) .ro)] (.box b4 157 (eAtm Atm.zero) :: .map m (eMap kDig (vSl eAtm) k) :: LF) ?_ ?_
  · repeat' (first | (refine pwp_condD (fun h => ?_) (fun h => ?_) <;> refine wf ?_) | (refine pwp_condN (fun h => ?_) (fun h => ?_) <;> refine wf ?_) | (refine pwp_condB (fun h => ?_) (fun h => ?_) <;> refine wf ?_) | (refine pops_if (fun h => ?_) (fun h => ?_) <;> (have h2 := h; (try simp only [decide_eq_true_eq, decide_eq_false_iff_not, Bool.not_eq_true', Bool.not_eq_false'] at h2); refine wf ?_)))
    all_goals (refine ⟨⟨holdsB (by rfl) ?_, rfl, rfl, rfl⟩, .refl _⟩; first | (simp_all; done) | grind)
  refine wf ?_
  refine pwp_condD (fun h => ?_) (fun h => ?_)
  · refine wf ?_
    refine ⟨trivial, _, knownR m k, .cons (.cell 4 157 rfl List.mem_cons_self (inferInstance : TAgg Tryz.prog 157 172).out (by simp)) (.cons (.tmp 5) .nil), .cons _ (.refl _), ?_, k, rfl, hkn⟩
    rw [atomPS, if_pos h]; rfl
  · have hlt : x.n.toNat < (atomsPS s x.patch).length := by omega
    refine wf ?_
    refine ⟨trivial, _, knownR m k, .cons (.cell 4 157 rfl List.mem_cons_self (inferInstance : TAgg Tryz.prog 157 172).out (by simp)) (.cons (.tmp 5) .nil), .cons _ (.refl _), ?_, k, rfl, hkn⟩
    rw [atomPS, if_neg h, List.getElem?_eq_getElem hlt]; rfl
end Go.Proofs
/- Contracts of the program: whether the references of a patch fit; whether a set is valid. -/
namespace Go.Proofs
open Go Go.Q
attribute [local irreducible] pwp pops PCalls OpN

theorem refsS_len (id : Dig) (c : Chg) : (refsS id c).length ≤ c.over.length + 4 := by
  have r1 := rs1_len c
  have r2 := rs2_len c (rs1 c)
  have r3 := rs3_len (fileS id c) c (rs2 c (rs1 c))
  have r4 := foldR_len' (over1R (fileS id c) c) c.over (rs3 (fileS id c) c (rs2 c (rs1 c)))
  unfold refsS rs4
  omega
set_option maxHeartbeats 2000000 in
theorem unfitR_fn (s : List Sto) (hg : goodS s) (m : Nat) (known : List (Dig × List Atm)) (hk0 : KnownOk s known) (x : Sto) (hx : rGreat x.patch = false) : PCalls Tryz.prog 86 [.pt (eRsv s m) 0, .agg (eSto x)] (knownR m known) (fun r L' => r = .raw (.int .i64 (unfitP s x.patch x.id)) ∧ ∃ known', L' = knownR m known' ∧ KnownOk s known') := by
  have hgf := (great_facts hx).2.2.2.2
  have hcl := (great_facts hx).2.2.2.1
  refine pcalls_bd Tryz.func86 rfl Tryz.ntmps86 (rs := [.tmp 4]) rfl rfl fun hb LF => ?_
  rw [show knownR m known ++ LF = .map m (eMap kDig (vSl eAtm) known) :: LF from rfl]
  refine wf ?_
  refine pwp_loopS (σ := Nat × List (Dig × List Atm)) (fun k => k.1 ≤ x.patch.changes.length ∧ KnownOk s k.2 ∧ ∀ i (h : i < x.patch.changes.length), i < k.1 → chgSE s x.id x.patch.changes[i] = 0) (fun k => x.patch.changes.length - k.1) (fun k => [(0, .pt (eRsv s m) 0), (3, .pt (eSto x) 0), (13, .slice (x.patch.changes.map eChg) .ro), (14, .raw (.int .i64 x.patch.changes.length)), (15, .raw (.int .i64 k.1))]) (fun k => .map m (eMap kDig (vSl eAtm) k.2) :: LF) (0, known) ⟨by simp, hk0, by simp⟩ ⟨rfl, rfl, rfl, rfl, rfl⟩ (.refl _) ?_
  rintro ⟨k, kn⟩ ⟨hk, hkn, he⟩
  dsimp only at hk hkn he ⊢
  refine wf ?_
  refine pwp_condD (fun hc => ?_) (fun hc => ?_)
  · have hlt : k < x.patch.changes.length := by omega
    have hat := firstErr_at (f := chgSE s x.id) hlt he
    have hsu := fun h => upto_succ0 (f := chgSE s x.id) he hlt h
    have hcg := hgf _ (List.getElem_mem hlt)
    refine wz fun b6 => ?_
    generalize x.patch.changes[k] = c at hat hsu hcg ⊢
    have i1 : Small (c.over.length ≤ 400) := ⟨by have := hcg.over; omega⟩
    have hrl : (refsS x.id c).length ≤ 400 := by have := refsS_len x.id c; have := hcg.over; omega
    refine pwp_freezeD 6 ?_
    refine wf ?_
    refine pwp_loopS (σ := Nat × List (Dig × List Atm)) (fun j => j.1 ≤ (refsS x.id c).length ∧ KnownOk s j.2 ∧ ∀ i (h : i < (refsS x.id c).length), i < j.1 → refSE s c (fileS x.id c) (refsS x.id c)[i] = 0) (fun j => (refsS x.id c).length - j.1) (fun j => [(0, .pt (eRsv s m) 0), (3, .pt (eSto x) 0), (13, .slice (x.patch.changes.map eChg) .ro), (14, .raw (.int .i64 x.patch.changes.length)), (15, .raw (.int .i64 k)), (22, .slice ((refsS x.id c).map eRfc) .ro), (23, .raw (.int .i64 (refsS x.id c).length)), (24, .raw (.int .i64 j.1))]) (fun j => .map m (eMap kDig (vSl eAtm) j.2) :: LF) (0, kn) ⟨by simp, hkn, by simp⟩ ⟨rfl, rfl, rfl, rfl, rfl, rfl, rfl, rfl⟩ (.refl _) ?_
    rintro ⟨j, kn2⟩ ⟨hj, hkn2, hje⟩
    dsimp only at hj hkn2 hje ⊢
    refine wf ?_
    refine pwp_condD (fun hc2 => ?_) (fun hc2 => ?_)
    · have hlt2 : j < (refsS x.id c).length := by omega
      have hat2 := firstErr_at (f := refSE s c (fileS x.id c)) hlt2 hje
      have hsu2 := fun h => upto_succ0 (f := refSE s c (fileS x.id c)) hje hlt2 h
      have hfit := fitsS_mem x.id c _ (List.getElem_mem hlt2)
      refine wz fun b8 => ?_
      generalize (refsS x.id c)[j] = r at hat2 hsu2 hfit ⊢
      refine pwp_freezeD 8 ?_
      have i2 : TFun Tryz.prog r.f := hfit.fn
      have i3 : ∀ a : Atm, FnC Tryz.prog r.f (.agg (eAtm a) :: r.cs) (.raw (.bool (predS c (fileS x.id c) r a))) := fun a => ⟨hfit.out a⟩
      have er : refSE s c (fileS x.id c) r = if (atomPS s r.id).isSome = false then 7 else if predS c (fileS x.id c) r ((atomPS s r.id).getD Atm.zero) = false then 8 else 0 := rfl
      refine wf ?_
      refine s_callR (xs := [.tmp 29, .tmp 31]) (knownR m kn2) LF (f := 119) (cs := []) (le_func _) rfl rfl (.refl _) _ (atomR_fn s hg m kn2 hkn2 r.id) fun u L' ⟨e1, kn3, e2, hkn3⟩ => ?_
      subst e1; rw [e2]
      rw [show knownR m kn3 ++ LF = .map m (eMap kDig (vSl eAtm) kn3) :: LF from rfl]
      refine wf ?_
      refine s_alloc fun b9 => ?_
      refine wo ?_
      refine pops_nil ?_
      refine pwp_freezeD 9 ?_
      refine wf ?_
      refine pwp_condB (fun h => ?_) (fun h => ?_)
      · refine wf ?_
        have h : (atomPS s r.id).isSome = false := ntrue h
        rw [if_pos h] at er
        refine ⟨trivial, _, knownR m kn3, .cons (.tmp 4) .nil, .refl _, ?_, kn3, rfl, hkn3⟩
        have e3 := hat2 (by rw [er]; decide)
        have e4 : chgSE s x.id c = 7 := by rw [chgSE, e3, er]
        rw [unfitP, hat (by rw [e4]; decide), e4]; rfl
      have h : (atomPS s r.id).isSome = true := nnot h
      rw [if_neg (by simp [h])] at er
      refine wf ?_
      refine pwp_condB (fun h2 => ?_) (fun h2 => ?_)
      · refine wf ?_
        have h2 : predS c (fileS x.id c) r ((atomPS s r.id).getD Atm.zero) = false := ntrue h2
        rw [if_pos h2] at er
        refine ⟨trivial, _, knownR m kn3, .cons (.tmp 4) .nil, .refl _, ?_, kn3, rfl, hkn3⟩
        have e3 := hat2 (by rw [er]; decide)
        have e4 : chgSE s x.id c = 8 := by rw [chgSE, e3, er]
        rw [unfitP, hat (by rw [e4]; decide), e4]; rfl
      · have h2 : predS c (fileS x.id c) r ((atomPS s r.id).getD Atm.zero) = true := nnot h2
        rw [if_neg (by simp [h2])] at er
        refine wf ?_
        exact ⟨(j + 1, kn3), ⟨by dsimp only; omega, hkn3, hsu2 er⟩, by dsimp only; omega, ⟨rfl, rfl, rfl, rfl, rfl, rfl, rfl, rfl⟩, .refl _⟩
    · have e0 : chgSE s x.id c = 0 := firstErr_zero fun i h => hje i h (by omega)
      refine wf ?_
      exact ⟨(k + 1, kn2), ⟨by dsimp only; omega, hkn2, hsu e0⟩, by dsimp only; omega, ⟨rfl, rfl, rfl, rfl, rfl⟩, .refl _⟩
  · refine wf ?_
    refine ⟨trivial, _, knownR m kn, .cons (.tmp 4) .nil, .refl _, ?_, kn, rfl, hkn⟩
    rw [unfitP, firstErr_zero fun i h => he i h (by omega)]; rfl
theorem asc_of_chk {s : List Sto} (h : firstErr (rChkE s) (List.range s.length) = 0) : Asc (ids s) := by
  refine asc_of_steps fun i hi => ?_
  have hi : i + 1 < s.length := by simpa [ids] using hi
  have h4 := firstErr_eq_zero h (i + 1) (List.mem_range.2 hi)
  have e0 : s.getD (i + 1) Sto.zero = s[i + 1] := by simp [List.getD, hi]
  have e1 : s.getD (i + 1 - 1) Sto.zero = s[i] := by
    have : i < s.length := by omega
    simp [List.getD, this]
  unfold rChkE at h4
  rw [e0, e1] at h4
  by_cases h5 : (rId s[i + 1].patch).2 ≠ 0
  · rw [if_pos h5] at h4; exact absurd h4 h5
  rw [if_neg h5] at h4
  by_cases h6 : (rId s[i + 1].patch).1 ≠ s[i + 1].id
  · rw [if_pos h6] at h4; exact absurd h4 (by decide)
  rw [if_neg h6] at h4
  have h6 : (rId s[i + 1].patch).1 = s[i + 1].id := Classical.not_not.1 h6
  rw [h6] at h4
  by_cases h7 : 0 < ((i + 1 : Nat) : Int) ∧ 0 ≤ cmpD s[i].id s[i + 1].id
  · rw [if_pos h7] at h4; exact absurd h4 (by decide)
  · simp only [ids, List.getElem_map]
    show cmpD s[i].id s[i + 1].id < 0
    omega
theorem id_of_chk {s : List Sto} (h : firstErr (rChkE s) (List.range s.length) = 0) {x : Sto} (hx : x ∈ s) : (rId x.patch).2 = 0 := by
  obtain ⟨i, hi, rfl⟩ := List.mem_iff_getElem.1 hx
  have h4 := firstErr_eq_zero h i (List.mem_range.2 hi)
  have e0 : s.getD i Sto.zero = s[i] := by simp [List.getD, hi]
  unfold rChkE at h4
  rw [e0] at h4
  by_cases h5 : (rId s[i].patch).2 ≠ 0
  · rw [if_pos h5] at h4; exact absurd h4 h5
  · exact Classical.not_not.1 h5
theorem rOrd_len (s : List Sto) : ∀ n out, (rOrd s n out).length ≤ out.length + n
  | 0, out => by rw [rOrd]; omega
  | n + 1, out => by
    rw [rOrd]
    split
    · omega
    · have := rOrd_len s n (out ++ [(s.getD (rPick s out).toNat Sto.zero).id])
      rw [List.length_append, List.length_singleton] at this
      omega
theorem rOrder_len (s : List Sto) : (rOrder s).length ≤ s.length := by
  have := rOrd_len s s.length []
  rw [List.length_nil, Nat.zero_add] at this
  exact this
set_option maxHeartbeats 2000000 in
instance CheckPS_ct (s : List Sto) (t : Tag) [hs : Small (goodS s)] : FnC Tryz.prog 40 [.slice (s.map eSto) t] (.raw (.int .i64 (rCheckS s))) := ⟨by
  have hg := hs.out
  obtain ⟨hl8, hgr⟩ := hg
  refine fn_of Tryz.func40 Tryz.ntmps40 rfl (rs := [.tmp 2]) rfl rfl fun hb LF => ?_
  refine wf ?_
  refine pwp_condD (fun h1 => ?_) (fun h1 => ?_)
  · omega
  rw [rCheckS, if_neg h1]
  refine wf ?_
  refine pwp_loopS (σ := Nat) (fun k => k ≤ s.length ∧ ∀ i (h : i < (List.range s.length).length), i < k → rChkE s (List.range s.length)[i] = 0) (fun k => s.length - k) (fun k => [(0, .slice (s.map eSto) t), (16, .slice (s.map eSto) t), (17, .raw (.int .i64 s.length)), (18, .raw (.int .i64 k))]) (fun _ => LF) 0 ⟨by simp, by simp⟩ ⟨rfl, rfl, rfl, rfl⟩ (.refl _) ?_
  rintro k ⟨hk, he⟩
  refine wf ?_
  refine pwp_condD (fun hc => ?_) (fun hc => ?_)
  · have hlt : k < s.length := by omega
    have hltr : k < (List.range s.length).length := by simpa using hlt
    have ek : (List.range s.length)[k] = k := by simp
    have e0 : s.getD k Sto.zero = s[k] := by simp [List.getD, hlt]
    have i1 : Small (rGreat s[k].patch = false) := ⟨hgr _ (List.getElem_mem hlt)⟩
    refine wf ?_
    refine s_alloc fun b4 => ?_
    refine wo ?_
    refine pops_nil ?_
    refine pwp_freezeD 4 ?_
    refine wf ?_
    refine s_alloc fun b5 => ?_
    refine wo ?_
    refine pops_nil ?_
    refine pwp_freezeD 5 ?_
    refine wf ?_
    refine pwp_condN (fun h2 => ?_) (fun h2 => ?_)
    · refine wf ?_
      refine end1 (.of_eq ?_)
      have e : rChkE s (List.range s.length)[k] = (rId s[k].patch).2 := by rw [ek, rChkE, e0, if_pos h2]
      have f := firstErr_at hltr he (by rw [e]; exact h2)
      rw [if_pos (by rw [f, e]; exact h2), f, e]
    refine wf ?_
    refine pwp_condN (fun h3 => ?_) (fun h3 => ?_)
    · refine wf ?_
      refine end1 (.of_eq ?_)
      have e : rChkE s (List.range s.length)[k] = 13 := by rw [ek, rChkE, e0, if_neg (by simp [h2]), if_pos h3]
      have f := firstErr_at hltr he (by rw [e]; decide)
      rw [if_pos (by rw [f, e]; decide), f, e]
    refine wf ?_
    refine pops_if (fun hp => ?_) (fun hp => ?_)
    · have hp' : 0 < (k : Int) := of_decide_eq_true hp
      refine wf ?_
      have e1 : s.getD (k - 1) Sto.zero = s[((k : Int) - 1).toNat] := by
        have : ((k : Int) - 1).toNat = k - 1 := by omega
        simp only [this]
        have h' : k - 1 < s.length := by omega
        simp [List.getD, h']
      refine pwp_condD (fun h4 => ?_) (fun h4 => ?_)
      · refine wf ?_
        refine end1 (.of_eq ?_)
        have e : rChkE s (List.range s.length)[k] = 9 := by rw [ek, rChkE, e0, e1, if_neg (by simp [h2]), if_neg (by simp [h3]), if_pos ⟨hp', h4⟩]
        have f := firstErr_at hltr he (by rw [e]; decide)
        rw [if_pos (by rw [f, e]; decide), f, e]
      · refine wf ?_
        have e : rChkE s (List.range s.length)[k] = 0 := by rw [ek, rChkE, e0, e1, if_neg (by simp [h2]), if_neg (by simp [h3]), if_neg (fun h => h4 h.2)]
        exact ⟨k + 1, ⟨by omega, upto_succ0 he hltr e⟩, by dsimp only; omega, ⟨rfl, rfl, rfl, rfl⟩, .refl _⟩
    · have hp' : ¬ 0 < (k : Int) := of_decide_eq_false hp
      refine wf ?_
      have e : rChkE s (List.range s.length)[k] = 0 := by rw [ek, rChkE, e0, if_neg (by simp [h2]), if_neg (by simp [h3]), if_neg (fun h => hp' h.1)]
      exact ⟨k + 1, ⟨by omega, upto_succ0 he hltr e⟩, by dsimp only; omega, ⟨rfl, rfl, rfl, rfl⟩, .refl _⟩
  have hA : firstErr (rChkE s) (List.range s.length) = 0 := firstErr_zero fun i h => he i h (by simp at h; omega)
  have hasc := asc_of_chk hA
  have hid := fun x (hx : x ∈ s) => id_of_chk hA hx
  rw [if_neg (by simp [hA])]
  clear he hA hk hc
  refine wf ?_
  refine pwp_loopS (σ := Nat) (fun k => k ≤ s.length ∧ ∀ i (h : i < s.length), i < k → allIn (ids s) (rNeeds s[i].patch) = true) (fun k => s.length - k) (fun k => [(0, .slice (s.map eSto) t), (53, .slice (s.map eSto) t), (54, .raw (.int .i64 s.length)), (55, .raw (.int .i64 k))]) (fun _ => LF) 0 ⟨by simp, by simp⟩ ⟨rfl, rfl, rfl, rfl⟩ (.refl _) ?_
  rintro k ⟨hk, he⟩
  refine wf ?_
  refine pwp_condD (fun hc => ?_) (fun hc => ?_)
  · have hlt : k < s.length := by omega
    have i1 := fun t => lacks_fn s t s[k].patch hasc (by omega) (hgr _ (List.getElem_mem hlt))
    refine wf ?_
    refine s_alloc fun b8 => ?_
    refine wo ?_
    refine pops_nil ?_
    refine pwp_freezeD 8 ?_
    refine wf ?_
    refine pwp_condB (fun h => ?_) (fun h => ?_)
    · refine wf ?_
      refine end1 (.of_eq ?_)
      have hx : allIn (ids s) (rNeeds s[k].patch) = false := ntrue h
      have hy : s.all (fun x => allIn (ids s) (rNeeds x.patch)) = false := all_false_of hlt hx
      rw [if_pos hy]
    · refine wf ?_
      have hx : allIn (ids s) (rNeeds s[k].patch) = true := nnot h
      have hy : ∀ i (h : i < s.length), i < k + 1 → allIn (ids s) (rNeeds s[i].patch) = true := fun i hi hik => by
        rcases Nat.lt_or_ge i k with h' | h'
        · exact he i hi h'
        · have e : i = k := by omega
          subst e; exact hx
      exact ⟨k + 1, ⟨by omega, hy⟩, by dsimp only; omega, ⟨rfl, rfl, rfl, rfl⟩, .refl _⟩
  have hB : s.all (fun x => allIn (ids s) (rNeeds x.patch)) = true := all_true_of fun i h => he i h (by omega)
  rw [if_neg (by simp [hB])]
  clear he hB hk hc
  have i3 := fun t => orderP_fn s t hs.out hasc
  have hol := rOrder_len s
  refine wf ?_
  refine pwp_condN (fun h => ?_) (fun h => ?_)
  · refine wf ?_
    refine end1 (.of_eq ?_)
    rw [if_pos (by omega)]
  rw [if_neg (by omega)]
  refine wf ?_
  refine s_callR (xs := [.tmp 70]) [] LF (f := 85) (cs := []) (le_func _) rfl rfl (.refl _) _ (newResolver_fn s t) fun r L' ⟨m, e1, e2⟩ => ?_
  subst e1; rw [e2]
  rw [show knownR m [] ++ LF = .map m (eMap kDig (vSl eAtm) []) :: LF from rfl]
  refine wf ?_
  refine wf ?_
  refine pwp_loopS (σ := Nat × List (Dig × List Atm)) (fun k => k.1 ≤ s.length ∧ KnownOk s k.2 ∧ ∀ i (h : i < s.length), i < k.1 → rRefsS s s[i].patch s[i].id = 0) (fun k => s.length - k.1) (fun k => [(9, .pt (eRsv s m) 0), (72, .slice (s.map eSto) t), (73, .raw (.int .i64 s.length)), (74, .raw (.int .i64 k.1))]) (fun k => .map m (eMap kDig (vSl eAtm) k.2) :: LF) (0, []) ⟨by simp, fun d l h => by simp [mGet] at h, by simp⟩ ⟨rfl, rfl, rfl, rfl⟩ (.refl _) ?_
  rintro ⟨k, kn⟩ ⟨hk, hkn, he⟩
  dsimp only at hk hkn he ⊢
  refine wf ?_
  refine pwp_condD (fun hc => ?_) (fun hc => ?_)
  · have hlt : k < s.length := by omega
    have hq := unfit_eq s s[k].id (hid _ (List.getElem_mem hlt))
    refine wf ?_
    refine s_alloc fun b11 => ?_
    refine wo ?_
    refine pops_nil ?_
    refine pwp_freezeD 11 ?_
    refine wf ?_
    refine s_callR (xs := [.tmp 78, .tmp 79]) (knownR m kn) LF (f := 86) (cs := []) (le_func _) rfl rfl (.refl _) _ (unfitR_fn s hs.out m kn hkn s[k] (hgr _ (List.getElem_mem hlt))) fun u L' ⟨e1, kn3, e2, hkn3⟩ => ?_
    subst e1; rw [e2]
    rw [show knownR m kn3 ++ LF = .map m (eMap kDig (vSl eAtm) kn3) :: LF from rfl, hq]
    refine wf ?_
    refine wf ?_
    refine pwp_condN (fun h2 => ?_) (fun h2 => ?_)
    · refine wf ?_
      refine end1 (.of_eq ?_)
      rw [firstErr_at (f := fun (x : Sto) => rRefsS s x.patch x.id) hlt he h2]
    · refine wf ?_
      exact ⟨(k + 1, kn3), ⟨by dsimp only; omega, hkn3, upto_succ0 (f := fun (x : Sto) => rRefsS s x.patch x.id) he hlt h2⟩, by dsimp only; omega, ⟨rfl, rfl, rfl, rfl⟩, .refl _⟩
  · refine wf ?_
    refine end1 (.of_eq ?_)
    rw [firstErr_zero (f := fun (x : Sto) => rRefsS s x.patch x.id) fun i h => he i h (by omega)]⟩
end Go.Proofs
/- Plain laws: what is kept of a valid set with all that it needs is a valid set. -/
namespace Go.Proofs
open Go Go.Q

/-! ### Orders -/
structure Ranked (s : List Sto) (r : Dig → Nat) : Prop where
  asc : Asc (ids s)
  close : ∀ x ∈ s, ∀ d ∈ rNeeds x.patch, d ∈ ids s
  rank : ∀ x ∈ s, ∀ d ∈ rNeeds x.patch, r d < r x.id
theorem Ranked.pick {s : List Sto} {r : Dig → Nat} (h : Ranked s r) {out : List Dig} (hlt : out.length < s.length) : 0 ≤ rPick s out := by
  rw [rPick_first h.asc]
  refine (idxF_range (eligR out) s).2.2 ?_
  have hmiss : ∃ x ∈ s, x.id ∉ out := Classical.byContradiction fun hn => by
    have hall : ∀ d ∈ ids s, d ∈ out := fun d hd => by
      obtain ⟨x, hx, rfl⟩ := List.mem_map.1 hd
      exact Classical.byContradiction fun h' => hn ⟨x, hx, h'⟩
    have := nodup_len h.asc.nodup (m := out) hall
    rw [ids_len] at this; omega
  have key : ∀ n, ∀ x ∈ s, x.id ∉ out → r x.id = n → ∃ y ∈ s, eligR out y = true := fun n => by
    induction n using Nat.strongRecOn with
    | _ n ih =>
      intro x hx hxo hn
      by_cases ha : ∀ d ∈ rNeeds x.patch, d ∈ out
      · exact ⟨x, hx, decide_eq_true ⟨hxo, List.all_eq_true.2 fun d hd => decide_eq_true (ha d hd)⟩⟩
      · obtain ⟨d, hd, hdo⟩ : ∃ d ∈ rNeeds x.patch, d ∉ out := Classical.byContradiction fun hn => ha fun d hd => Classical.byContradiction fun h' => hn ⟨d, hd, h'⟩
        obtain ⟨y, hy, rfl⟩ := List.mem_map.1 (h.close x hx d hd)
        exact ih (r y.id) (hn ▸ h.rank x hx _ hd) y hy hdo rfl
  obtain ⟨x, hx, hxo⟩ := hmiss
  obtain ⟨y, hy, he⟩ := key _ x hx hxo rfl
  exact List.any_eq_true.2 ⟨y, hy, he⟩
theorem Ranked.order {s : List Sto} {r : Dig → Nat} (h : Ranked s r) : (rOrder s).length = s.length := by
  have key : ∀ n out, out.length + n = s.length → (rOrd s n out).length = s.length := fun n => by
    induction n with
    | zero => intro out ho; rw [rOrd]; omega
    | succ n ih =>
      intro out ho
      have hp := h.pick (out := out) (by omega)
      rw [rOrd, if_neg (by omega)]
      exact ih _ (by rw [List.length_append, List.length_singleton]; omega)
  exact key _ [] (by simp)
theorem check_of_valid {s : List Sto} (v : Valid s) : rCheckS s = 0 := by
  have h8 := v.close.1.1
  have h1 : firstErr (rChkE s) (List.range s.length) = 0 := firstErr_zero fun i hi => by
    have hi' : i < s.length := by simpa using hi
    have e0 : s.getD i Sto.zero = s[i] := by simp [List.getD, hi']
    obtain ⟨a1, a2⟩ := v.id s[i] (List.getElem_mem hi')
    rw [List.getElem_range, rChkE, e0, if_neg (by simp [a1]), if_neg (by simp [a2]), if_neg]
    rintro ⟨h1, h2⟩
    have hi0 : 0 < i := by omega
    have e1 : s.getD (i - 1) Sto.zero = s[i - 1]'(by omega) := by
      have h' : i - 1 < s.length := by omega
      simp [List.getD, h']
    have hp := List.pairwise_iff_getElem.1 v.asc (i - 1) i (by simp [ids]; omega) (by simpa [ids] using hi') (by omega)
    simp only [ids, List.getElem_map] at hp
    rw [e1, a2] at h2
    have hp : cmpD (s[i - 1]'(by omega)).id s[i].id < 0 := hp
    omega
  have h2 : s.all (fun x => allIn (ids s) (rNeeds x.patch)) = true := List.all_eq_true.2 fun x hx => List.all_eq_true.2 fun d hd => decide_eq_true (v.close.2 x hx d hd)
  have h3 := v.order
  unfold rCheckS
  rw [if_neg (by omega), if_neg (by simp [h1]), if_neg (by simp [h2]), if_neg (by omega)]
  exact firstErr_zero fun i hi => v.refs _ (List.getElem_mem hi)

/-! ### What is kept -/
theorem mem_keepS {s : List Sto} {C : List Dig} {x : Sto} : x ∈ keepS s C ↔ x ∈ s ∧ x.id ∈ C := by simp [keepS]
theorem mem_ids_keep {s : List Sto} {C : List Dig} {d : Dig} : d ∈ ids (keepS s C) ↔ d ∈ ids s ∧ d ∈ C := by
  constructor
  · intro h
    obtain ⟨x, hx, rfl⟩ := List.mem_map.1 h
    obtain ⟨h1, h2⟩ := mem_keepS.1 hx
    exact ⟨List.mem_map.2 ⟨x, h1, rfl⟩, h2⟩
  · rintro ⟨h1, h2⟩
    obtain ⟨x, hx, rfl⟩ := List.mem_map.1 h1
    exact List.mem_map.2 ⟨x, mem_keepS.2 ⟨hx, h2⟩, rfl⟩
theorem ids_keep_sub (s : List Sto) (C : List Dig) : (ids (keepS s C)).Sublist (ids s) := (List.filter_sublist).map _
theorem getS_keep {C : List Dig} {d : Dig} (hd : d ∈ C) : ∀ s : List Sto, getS (keepS s C) d = getS s d
  | [] => rfl
  | x :: s => by
    by_cases hx : x.id = d
    · have e : keepS (x :: s) C = x :: keepS s C := by
        unfold keepS; rw [List.filter_cons_of_pos (by simpa using hx ▸ hd)]
      rw [e, getS, getS, if_pos hx, if_pos hx]
    · have e2 : getS (x :: s) d = getS s d := by rw [getS, if_neg hx]
      by_cases hc : x.id ∈ C
      · have e : keepS (x :: s) C = x :: keepS s C := by
          unfold keepS; rw [List.filter_cons_of_pos (by simpa using hc)]
        rw [e, e2, getS, if_neg hx, getS_keep hd s]
      · have e : keepS (x :: s) C = keepS s C := by
          unfold keepS; rw [List.filter_cons_of_neg (by simpa using hc)]
        rw [e, e2, getS_keep hd s]
theorem foreign_needs {p : Pat} (hid : (rId p).2 = 0) {c : Chg} (hc : c ∈ p.changes) {y : Ident} (hy : y ∈ rIds c) (ho : rOther y = true) : y.patch ∈ rNeeds p := by
  have he : ¬ (rEncodeP p).2 ≠ 0 := fun h => by rw [rId, if_pos h] at hid; exact h hid
  rw [rNeeds, if_neg he, needs_mem]
  exact .inr ⟨c, hc, List.mem_map.2 ⟨y, List.mem_filter.2 ⟨hy, ho⟩, rfl⟩⟩
/-- References see the patches that a patch needs, and no others. -/
theorem rRefsS_congr {s t : List Sto} {p : Pat} {id : Dig} (hid : (rId p).2 = 0) (h : ∀ d ∈ rNeeds p, getS s d = getS t d) : rRefsS s p id = rRefsS t p id := by
  refine firstErr_congr fun c hc => ?_
  have hat : ∀ y ∈ rIds c, rOther y = true → rAtom s y = rAtom t y := fun y hy ho => by
    unfold rAtom rAtomsOf
    rw [h _ (foreign_needs hid hc hy ho)]
  have e1 : rChgF s c = rChgF t c := by
    unfold rChgF
    split
    · rename_i h; rw [hat _ (by simp [rIds]) h]
    · rfl
  have e2 : rChgP s c = rChgP t c := by
    unfold rChgP
    split
    · rename_i h; rw [hat _ (by simp [rIds]) h]
    · rfl
  have e3 : ∀ y ∈ rIds c, rEndE s y c.file id = rEndE t y c.file id := fun y hy => by
    unfold rEndE
    split
    · rfl
    · rename_i h
      rw [hat y hy (by simpa using fun h' => h (.inl h'))]
  have e4 : firstErr (rChgO s c id) c.over = firstErr (rChgO t c id) c.over := firstErr_congr fun y hy => by
    unfold rChgO
    split
    · rfl
    · rename_i h
      rw [hat y (by simp [rIds, hy]) (by simpa using h)]
  unfold rChgE
  rw [e1, e2, e3 _ (by simp [rIds]), e3 _ (by simp [rIds]), e4]
theorem Valid.keep {s : List Sto} (v : Valid s) {C : List Dig} (hC : ∀ x ∈ s, x.id ∈ C → ∀ d ∈ rNeeds x.patch, d ∈ C) : Valid (keepS s C) := by
  have hlen : (keepS s C).length ≤ s.length := List.length_filter_le _ _
  have hcl : ∀ x ∈ keepS s C, ∀ d ∈ rNeeds x.patch, d ∈ ids (keepS s C) := fun x hx d hd => by
    obtain ⟨h1, h2⟩ := mem_keepS.1 hx
    exact mem_ids_keep.2 ⟨v.close.2 x h1 d hd, hC x h1 h2 d hd⟩
  have hasc : Asc (ids (keepS s C)) := List.Pairwise.sublist (ids_keep_sub s C) v.asc
  refine ⟨⟨⟨Nat.le_trans hlen v.close.1.1, fun x hx => v.close.1.2 x (mem_keepS.1 hx).1⟩, hcl⟩, fun x hx => v.id x (mem_keepS.1 hx).1, hasc, ?_, fun x hx => ?_⟩
  · have hr : Ranked (keepS s C) (rankS s) := ⟨hasc, hcl, fun x hx d hd => v.rank (mem_keepS.1 hx).1 hd⟩
    exact Nat.le_of_eq hr.order.symm
  · obtain ⟨h1, h2⟩ := mem_keepS.1 hx
    rw [rRefsS_congr (v.id x h1).1 fun d hd => getS_keep (hC x h1 h2 d hd) s]
    exact v.refs x h1
/-- The closure of a patch of a valid set. -/
theorem Valid.clo_closed {s : List Sto} (v : Valid s) {p : Dig} (hp : p ∈ ids s) : ∀ x ∈ s, x.id ∈ cloS s p → ∀ d ∈ rNeeds x.patch, d ∈ cloS s p := fun x hx hc d hd =>
  (v.mem_clo hp d).2 (.step ((v.mem_clo hp x.id).1 hc) (by rw [v.ndS hx]; exact hd))
theorem Valid.clo_in {s : List Sto} (v : Valid s) {p : Dig} (hp : p ∈ ids s) : ∀ d ∈ cloS s p, d ∈ ids s := fun d hd => by
  have h := (v.mem_clo hp d).1 hd
  cases h with
  | base h => rw [List.mem_singleton.1 h]; exact hp
  | step _ h2 => exact v.close.nd _ _ h2
theorem Valid.clo_asc {s : List Sto} (_ : Valid s) {p : Dig} : Asc (cloS s p) := by
  unfold cloS rClosure
  split
  · exact .nil
  · exact iterC_asc (withAll_asc .nil)
/-- The identities of what a closure keeps are the closure. -/
theorem Valid.ids_keep_clo {s : List Sto} (v : Valid s) {p : Dig} (hp : p ∈ ids s) : ids (keepS s (cloS s p)) = cloS s p :=
  Asc.ext (List.Pairwise.sublist (ids_keep_sub s _) v.asc) v.clo_asc fun d => by
    rw [mem_ids_keep]
    exact ⟨fun h => h.2, fun h => ⟨v.clo_in hp d h, h⟩⟩
end Go.Proofs
