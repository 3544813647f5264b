/- The small logic: regions whose order is drawn in which resources turn: quiet operations go ahead of whatever. Library, no statement of its own. -/
import Derived.Test.YtddlffkdpocmhaaGreatDoorVap
import Derived.Test.YtddlffkdpocmhaaGreatDoorVao
import Derived.Test.YtddlffkdpocmhaaGreatDoorVam
import Derived.Test.YtddlffkdpocmhaaGreatDoorVaj
import Derived.Test.YtddlffkdpocmhaaGreatDoorVae
import Derived.Test.YtddlffkdpocmhaaGreatDoorVai
set_option linter.unusedSimpArgs false
set_option linter.unusedVariables false
namespace Go.Q
open Go
section
variable {P : Program} {N : Nat} {Q : PPost} {all : Array Oper} {K : Env → List Res → Prop}

theorem pOp_putL {bar : Nat → Bool} {j : Nat} {oi oj : Oper} {x : PV} (hj : all[j]? = some oj) (hap : oi.apart all oj = true) {K : Env → List Res → Prop} {ρ : Env} {L : List Res}
    (hy : ∀ L, YQ P all oi ρ L x) (h : pOp P N all bar j K (updo ρ oi.dst x) L) : pOp P N all bar j (fun ρ' L' => (∀ L, YQ P all oi ρ' L x) ∧ K (updo ρ' oi.dst x) L') ρ L := by
  obtain ⟨h1, h2, h3⟩ := Oper.apart_spec hap
  unfold pOp at *
  simp only [hj] at *
  obtain ⟨hd, h⟩ := h
  have cj : ∀ s, s ∈ oj.looksAt all → updo ρ oi.dst x s = ρ s := fun s hs => updo_slot fun d hd e => h1 d hd (e ▸ hs)
  have ci : ∀ u, ∀ L, YQ P all oi (updo ρ oj.dst u) L x := fun u L => (hy L).congr fun s hs => (updo_slot fun d hd e => h3 d hd (e ▸ hs)).symm
  refine ⟨hd, ?_⟩
  rcases h with ⟨u, hu, hk⟩ | ⟨hb, hg, ho⟩
  · refine .inl ⟨u, hu.congr cj, ci u, ?_⟩
    rw [updo_comm ρ u x (fun d hd e => h2 d e hd)]; exact hk
  · refine .inr ⟨hb, hg.congr cj, (OpN.congr (ev_of_slots cj) ho).mono fun u L' hk => ⟨ci u, ?_⟩⟩
    rw [updo_comm ρ u x (fun d hd e => h2 d e hd)]; exact hk
theorem pAny_firstL {bar : Nat → Bool} {i : Nat} {oi : Oper} {x : PV} (hi : all[i]? = some oi) (hdi : ∀ d, oi.dst = some d → d < N) :
    ∀ (fuel : Nat) (listed : Array Bool) (ρ : Env) (L : List Res), Closed all listed →
      (∀ j oj, all[j]? = some oj → j ≠ i → listed.getD j true = false → (∀ e ∈ oj.after, Region.binds .any e = true → e.on ≠ i) → oi.apart all oj = true) →
      i ∈ Region.ready .any all listed → (∀ L, YQ P all oi ρ L x) →
      pAny P N all bar K fuel (listed.setIfInBounds i true) (updo ρ oi.dst x) L → pAny P N all bar K (fuel + 1) listed ρ L := by
  intro fuel
  have self : ∀ (listed : Array Bool) (ρ : Env) (L : List Res) (n : Nat), YQ P all oi ρ L x → pAny P N all bar K n (listed.setIfInBounds i true) (updo ρ oi.dst x) L →
      pOp P N all bar i (pAny P N all bar K n (listed.setIfInBounds i true)) ρ L := fun listed ρ L n hy H => by
    unfold pOp; simp only [hi]; exact ⟨hdi, .inl ⟨x, hy, H⟩⟩
  induction fuel with
  | zero =>
    intro listed ρ L hc _ hr hy H
    refine ⟨fun h => (by rw [h] at hr; cases hr), fun j hj => ?_⟩
    by_cases hji : j = i
    · subst hji; exact self _ _ _ _ (hy L) H
    · have := ready_mono hj hji
      rw [H.1] at this
      cases this
  | succ fuel ih =>
    intro listed ρ L hc hfree hr hy H
    refine ⟨fun h => (by rw [h] at hr; cases hr), fun j hj => ?_⟩
    by_cases hji : j = i
    · subst hji; exact self _ _ _ _ (hy L) H
    · have h1 := H.2 j (ready_mono hj hji)
      obtain ⟨hjun, oj, hoj, hall⟩ := mem_ready.1 hj
      have hiun := (mem_ready.1 hr).1
      have hnot : ∀ e ∈ oj.after, Region.binds .any e = true → e.on ≠ i := fun e he hb heq => by
        have h1 := hall e he hb
        rw [heq] at h1
        rcases Nat.lt_or_ge i listed.size with h' | h'
        · simp [h'] at hiun h1; rw [hiun] at h1; cases h1
        · simp [Array.getElem?_eq_none h'] at h1
      have h2 := pOp_putL hoj (hfree j oj hoj hji hjun hnot) hy h1
      have hfree' : ∀ k ok, all[k]? = some ok → k ≠ i → (listed.setIfInBounds j true).getD k true = false →
          (∀ e ∈ ok.after, Region.binds .any e = true → e.on ≠ i) → oi.apart all ok = true := fun k ok hk hki hun hno => by
        refine hfree k ok hk hki ?_ hno
        by_cases hjk : j = k
        · subst hjk; exact hjun
        · rw [getD_set_ne true hjk] at hun; exact hun
      refine pOp_mono (fun ρ' L' h3 => ?_) h2
      obtain ⟨h4, h5⟩ := h3
      refine ih (listed.setIfInBounds j true) ρ' L' (hc.set hj) hfree' (ready_mono hr (Ne.symm hji)) h4 ?_
      rw [Array.setIfInBounds_comm _ _ hji]
      exact h5
def closedB (all : Array Oper) (listed : Array Bool) : Bool := listed.size == all.size && (List.range all.size).all fun j => match all[j]? with
  | some oj => !listed.getD j false || oj.after.all fun e => !Region.binds .any e || listed.getD e.on false
  | none => true
theorem closedB_spec {listed : Array Bool} (h : closedB all listed = true) : Closed all listed := by
  simp only [closedB, Bool.and_eq_true, beq_iff_eq, List.all_eq_true, List.mem_range] at h
  obtain ⟨h1, h2⟩ := h
  refine ⟨h1, fun j oj hj hl e he hb => ?_⟩
  have := h2 j (Array.getElem?_eq_some_iff.1 hj).1
  simp only [hj, hl, Bool.not_true, Bool.false_or, Array.all_eq_true_iff_forall_mem] at this
  have := this e he
  simpa [hb] using this
/-- A quiet operation goes ahead of the others. -/
theorem pAny_quiet {bar : Nat → Bool} {fuel : Nat} {listed : Array Bool} {ρ : Env} {L : List Res} (i : Nat) {d : Nat} {op : Op} {ty : TypeId} {pos : String} {af : Array Edge} {x : PV} (h0 : all[i]? = some ⟨some d, op, ty, pos, af, none⟩)
    (hB : (closedB all listed && Region.free .any all listed i && (Region.ready .any all listed).contains i) = true) (hd : Nat.blt d N = true)
    (hq : ∀ L, QOp P ⟨some d, op, ty, pos, af, none⟩ ρ L x) (k : pAny P N all bar K fuel (listed.setIfInBounds i true) (upd ρ d x) L) : pAny P N all bar K (fuel + 1) listed ρ L := by
  simp only [Bool.and_eq_true] at hB
  obtain ⟨⟨h1, h2⟩, h3⟩ := hB
  exact pAny_firstL (x := x) h0 (dlt hd) fuel listed ρ L (closedB_spec h1) (Region.free_spec h0 h2) (by simpa using h3) (fun L => .inr ⟨by unfold GYes; trivial, hq L⟩) k
/-- All orders. -/
theorem pwp_drawA {id : Nat} {l : List Oper} {ρ : Env} {L : List Res} (bs : List Nat) [hm : TMix P] (hG : guardsIn l.toArray N = true)
    (h : pAny P N l.toArray (fun k => bs.contains k) (Q .normal) l.length (Array.replicate l.length false) ρ L) : pwp P N (.region id l.toArray true) Q ρ L := fun ro base a w g hst => by
  refine wpIn_region_any hm.out ?_
  have hi := hst.inv
  have hst0 : Step (blocks L) w g { w with drawn := w.drawn + 1 } g := ⟨rfl, rfl, ⟨rfl, Nat.le_succ _⟩, Nat.le_refl _, fun _ _ _ => rfl, .refl g, fun _ _ _ => ⟨fun _ => rfl, rfl⟩⟩
  have hi' : Inv { w with drawn := w.drawn + 1 } g L := ⟨hi.sat, fun b z hz => (hi.satM b z hz).congr rfl, fun r hr => by have := hi.res r hr; cases r <;> first | exact this | (rename_i t _ _; cases t <;> exact this), hi.nodup, hi.glob⟩
  have k := wpAny_of_pAny (ro := ro) (base := base) (Q := Q) (w₀ := w) (g₀ := g) (L₀ := L) (fun _ _ h => h) hG _ _ ρ L a _ g hst.agr hi' hst0 (.refl _ _) h
  simpa using k
end
/-- What one walked operation knows, without resources. -/
theorem q_of_pops {P : Program} {N : Nat} {o : Oper} {ρ : Env} {d : Nat} {x : PV} {L : List Res} (hd : o.dst = some d) (hg : o.guard = none) (h : pops P N #[] (fun ρ' L' => ρ' d = x ∧ L' = L) [false] [o] ρ L) : QOp P o ρ L x := by
  obtain ⟨_, h⟩ := h
  rcases h with ⟨hno, _⟩ | ⟨_, ⟨y, hq, h1, _⟩ | ⟨hf, _⟩⟩
  · unfold GNo at hno
    rw [hg] at hno
    exact hno.elim
  · rw [hd] at h1
    have : y = x := by
      rw [← h1]
      show y = upd ρ d y d
      rw [upd_self]
    rw [← this]; exact hq
  · cases hf
end Go.Q
/- Contracts of the program: states of a search: Check, Result, Tell. -/
namespace Go.Proofs
open Go Go.Q
attribute [local irreducible] pwp pops pAny PCalls OpN

theorem cloneT_fn (l : List Dig) (u : Tag) (hl : l.length ≤ 1000000) : PCalls Tryz.prog 75 [.slice (l.map eDig) u] [] (fun r L' => ∃ t, r = .slice (l.map eDig) t ∧ L' = [.tok t l.length 32]) := by
  refine pcalls_bd Tryz.func75 rfl Tryz.ntmps75 (rs := [.tmp 2]) rfl rfl fun hb LF => ?_
  rw [List.nil_append]
  refine wf ?_
  refine s_eqNil rfl fun b hnil => ?_
  refine wf ?_
  refine pwp_condB (fun h => ?_) (fun h => ?_)
  · have h0 : l = [] := by simpa using hnil h
    subst h0
    refine pwp_tok 32 ?_
    refine wf ?_
    exact ⟨trivial, _, _, .cons (.tmp 2) .nil, .refl _, .nil, rfl, rfl⟩
  refine wf ?_
  refine s_append0 (by rfl) (by rfl) (by omega) (by omega) fun t => ?_
  refine wf ?_
  exact ⟨trivial, _, _, .cons (.tmp 2) .nil, .refl _, t, rfl, rfl⟩
theorem cloneB_fn (l : List Bool) (u : Tag) (hl : l.length ≤ 1000000) : PCalls Tryz.prog 76 [.slice (l.map eB) u] [] (fun r L' => ∃ t, r = .slice (l.map eB) t ∧ L' = [.tok t l.length 1]) := by
  refine pcalls_bd Tryz.func76 rfl Tryz.ntmps76 (rs := [.tmp 2]) rfl rfl fun hb LF => ?_
  rw [List.nil_append]
  refine wf ?_
  refine s_eqNil rfl fun b hnil => ?_
  refine wf ?_
  refine pwp_condB (fun h => ?_) (fun h => ?_)
  · have h0 : l = [] := by simpa using hnil h
    subst h0
    refine pwp_tok 1 ?_
    refine wf ?_
    exact ⟨trivial, _, _, .cons (.tmp 2) .nil, .refl _, .nil, rfl, rfl⟩
  refine wf ?_
  refine s_append0 (by rfl) (by rfl) (by omega) (by omega) fun t => ?_
  refine wf ?_
  exact ⟨trivial, _, _, .cons (.tmp 2) .nil, .refl _, t, rfl, rfl⟩
def checkP (s : List Sto) (b : Bis) : Int := if s.length = 0 then 27 else if followP s b (ids s) = false then 10 else 0
instance CheckB_ct (s : List Sto) (b : Bis) (t : Tag) [hs : Small (Valid s)] : FnC Tryz.prog 29 [.slice (s.map eSto) t, .agg (eBis b)] (.raw (.int .i64 (checkP s b))) := ⟨by
  have v := hs.out
  have h8 := v.close.1.1
  have hil := ids_len s
  have i0 : Small ((ids s).length ≤ 1000000) := ⟨by omega⟩
  refine fn_of Tryz.func29 Tryz.ntmps29 rfl (rs := [.tmp 4]) rfl rfl fun hb LF => ?_
  refine wf ?_
  refine pwp_condD (fun h => ?_) (fun h => ?_)
  · refine wf ?_
    refine end1 (.of_eq ?_)
    rw [checkP, if_pos (by omega)]
  have h0 : ¬ s.length = 0 := by omega
  refine wf ?_
  refine s_alloc fun b5 => ?_
  refine wo ?_
  refine pops_nil ?_
  refine pwp_freezeD 5 ?_
  refine wf ?_
  refine pwp_condB (fun h => ?_) (fun h => ?_)
  · refine wf ?_
    refine end1 (.of_eq ?_)
    rw [checkP, if_neg h0, if_pos (by simpa using h)]
  · refine wf ?_
    refine end1 (.of_eq ?_)
    rw [checkP, if_neg h0, if_neg (by simpa using h)]⟩
def tellP (s : List Sto) (b : Bis) (bad : Bool) : Bis × Int := if checkP s b ≠ 0 then (Bis.zero, checkP s b) else if b.left.length < 2 then (Bis.zero, 16) else
  (⟨aft s b.left (questP (cloS s) b.left) bad, b.asked ++ [questP (cloS s) b.left], b.bad ++ [bad]⟩, 0)
theorem check_follow {s : List Sto} {b : Bis} (h : checkP s b = 0) : s.length ≠ 0 ∧ followP s b (ids s) = true := by
  unfold checkP at h
  split at h
  · omega
  rename_i h1
  split at h
  · omega
  rename_i h2
  exact ⟨h1, by simpa using h2⟩
theorem fol_asked {s : List Sto} (v : Valid s) {asked : List Dig} {bad : List Bool} {left : List Dig} (hl : ∀ x ∈ left, x ∈ ids s) (hn : left.Nodup) : ∀ {k : Nat} {l : List Dig}, fol s asked bad left k = some l → l.length + k ≤ left.length ∧ (∀ x ∈ l, x ∈ ids s) ∧ l.Nodup
  | 0, l, h => by
    have : some left = some l := h
    injection this with e
    subst e; exact ⟨by omega, hl, hn⟩
  | k + 1, l, h => by
    rw [fol_succ] at h
    cases hf : fol s asked bad left k with
    | none => rw [hf] at h; cases h
    | some m =>
      obtain ⟨i1, i2, i3⟩ := fol_asked v hl hn hf
      rw [hf, folStep, Option.bind_some] at h
      split at h
      · cases h
      · rename_i hc
        injection h with e
        have h2 : 2 ≤ m.length := by omega
        have hq : asked.getD k Dig.zero = questP (cloS s) m := Classical.not_not.1 fun h => hc (.inr h)
        have := v.less i2 i3 h2 (bad.getD k false)
        rw [← hq, e] at this
        subst e
        exact ⟨by omega, fun x hx => i2 x (aft_sub hx), aft_nodup i3⟩
/-- What follows a search's start: few questions, candidates of the set. -/
theorem follow_facts {s : List Sto} (v : Valid s) {b : Bis} (h : followP s b (ids s) = true) : b.left.length + b.asked.length ≤ s.length ∧ b.asked.length = b.bad.length ∧ (∀ x ∈ b.left, x ∈ ids s) ∧ b.left.Nodup := by
  obtain ⟨h1, h2⟩ := of_decide_eq_true h
  obtain ⟨k1, k2, k3⟩ := fol_asked v (fun _ h => h) v.asc.nodup h2
  rw [ids_len] at k1
  exact ⟨k1, h1, k2, k3⟩
set_option maxHeartbeats 4000000 in
instance TellB_ct (s : List Sto) (b : Bis) (bad : Bool) (t : Tag) [hs : Small (Valid s)] : FnC Tryz.prog 24 [.slice (s.map eSto) t, .agg (eBis b), .raw (.bool bad)] (.tuple [.agg (eBis (tellP s b bad).1), .raw (.int .i64 (tellP s b bad).2)]) := ⟨by
  have v := hs.out
  have h8 := v.close.1.1
  have hil := ids_len s
  refine fn_of Tryz.func24 Tryz.ntmps24 rfl (rs := [.cell 6 28, .tmp 7]) rfl rfl fun hb LF => ?_
  refine wf ?_
  refine s_alloc fun b6 => ?_
  refine wf ?_
  refine pwp_condN (fun h => ?_) (fun h => ?_)
  · refine wf ?_
    refine endC1 rfl ?_
    rw [tellP, if_pos h]
    exact .refl _
  obtain ⟨h0, hf⟩ := check_follow h
  have hbl := follow_len hf
  obtain ⟨hal, hab, _, _⟩ := follow_facts v hf
  have i3 : Small (b.left.length ≤ 1000000) := ⟨by omega⟩
  refine wf ?_
  refine s_alloc fun b9 => ?_
  refine wo ?_
  refine pops_nil ?_
  refine pwp_freezeD 9 ?_
  refine wf ?_
  refine s_alloc fun b11 => ?_
  refine wo ?_
  refine pops_nil ?_
  refine pwp_freezeD 11 ?_
  refine wf ?_
  refine pwp_condB (fun h2 => ?_) (fun h2 => ?_)
  · have h3 : ¬ (1 : Int) < b.left.length := by simpa using h2
    refine wf ?_
    refine endC1 rfl ?_
    rw [tellP, if_neg (by simp [h]), if_pos (by omega)]
    exact .refl _
  have h3 : (1 : Int) < b.left.length := by simpa using h2
  refine wn ?_
  refine pwp_drawA [8, 11, 14, 17, 19] (by decide +kernel) ?_
  refine pAny_quiet 0 rfl (by decide +kernel) rfl (fun L' => q_of_pops (N := 54) rfl rfl (by refine wo ?_; refine pops_nil ?_; exact ⟨upd_self _ _ _, rfl⟩)) ?_
  refine pAny_quiet 1 rfl (by decide +kernel) rfl (fun L' => q_of_pops (N := 54) rfl rfl (by refine wo ?_; refine pops_nil ?_; exact ⟨upd_self _ _ _, rfl⟩)) ?_
  refine pAny_quiet 2 rfl (by decide +kernel) rfl (fun L' => q_of_pops (N := 54) rfl rfl (by refine wo ?_; refine pops_nil ?_; exact ⟨upd_self _ _ _, rfl⟩)) ?_
  refine pAny_quiet 3 rfl (by decide +kernel) rfl (fun L' => q_of_pops (N := 54) rfl rfl (by refine wo ?_; refine pops_nil ?_; exact ⟨upd_self _ _ _, rfl⟩)) ?_
  refine pAny_quiet 4 rfl (by decide +kernel) rfl (fun L' => q_of_pops (N := 54) rfl rfl (by refine wo ?_; refine pops_nil ?_; exact ⟨upd_self _ _ _, rfl⟩)) ?_
  refine pAny_quiet 5 rfl (by decide +kernel) rfl (fun L' => q_of_pops (N := 54) rfl rfl (by refine wo ?_; refine pops_nil ?_; exact ⟨upd_self _ _ _, rfl⟩)) ?_
  refine pAny_quiet 6 rfl (by decide +kernel) rfl (fun L' => q_of_pops (N := 54) rfl rfl (by refine wo ?_; refine pops_nil ?_; exact ⟨upd_self _ _ _, rfl⟩)) ?_
  refine pAny_quiet 7 rfl (by decide +kernel) rfl (fun L' => q_of_pops (N := 54) rfl rfl (by refine wo ?_; refine pops_nil ?_; exact ⟨upd_self _ _ _, rfl⟩)) ?_
  refine pAny_quiet 9 rfl (by decide +kernel) rfl (fun L' => q_of_pops (N := 54) rfl rfl (by refine wo ?_; refine pops_nil ?_; exact ⟨upd_self _ _ _, rfl⟩)) ?_
  refine pAny_quiet 10 rfl (by decide +kernel) rfl (fun L' => q_of_pops (N := 54) rfl rfl (by refine wo ?_; refine pops_nil ?_; exact ⟨upd_self _ _ _, rfl⟩)) ?_
  refine pAny_quiet 12 rfl (by decide +kernel) rfl (fun L' => q_of_pops (N := 54) rfl rfl (by refine wo ?_; refine pops_nil ?_; exact ⟨upd_self _ _ _, rfl⟩)) ?_
  refine pAny_quiet 13 rfl (by decide +kernel) rfl (fun L' => q_of_pops (N := 54) rfl rfl (by refine wo ?_; refine pops_nil ?_; exact ⟨upd_self _ _ _, rfl⟩)) ?_
  refine pAny_quiet 15 rfl (by decide +kernel) rfl (fun L' => q_of_pops (N := 54) rfl rfl (by refine wo ?_; refine pops_nil ?_; exact ⟨upd_self _ _ _, rfl⟩)) ?_
  refine pAny_quiet 16 rfl (by decide +kernel) rfl (fun L' => q_of_pops (N := 54) rfl rfl (by refine wo ?_; refine pops_nil ?_; exact ⟨upd_self _ _ _, rfl⟩)) ?_
  refine pAny_next (fuel := 6) [8] (by decide +kernel) (by simp) fun i hi => ?_
  simp only [List.mem_cons, List.not_mem_nil, or_false] at hi
  subst hi
  refine ⟨_, rfl, ?_⟩
  refine s_callR (xs := [.tmp 42]) [] _ (f := 75) (cs := []) (le_func _) rfl rfl (.refl _) _ (cloneT_fn b.asked .ro (by omega)) fun r L1 ⟨t1, e1, e2⟩ => ?_
  subst e1 e2
  rw [List.cons_append, List.nil_append]
  refine pops_nil ?_
  refine pAny_next (fuel := 5) [11] (by decide +kernel) (by simp) fun i hi => ?_
  simp only [List.mem_cons, List.not_mem_nil, or_false] at hi
  subst hi
  refine ⟨_, rfl, ?_⟩
  refine wfa fun t11 => ?_
  refine pAny_next (fuel := 4) [14] (by decide +kernel) (by simp) fun i hi => ?_
  simp only [List.mem_cons, List.not_mem_nil, or_false] at hi
  subst hi
  refine ⟨_, rfl, ?_⟩
  refine s_callR (xs := [.tmp 48]) [] _ (f := 76) (cs := []) (le_func _) rfl rfl (.refl _) _ (cloneB_fn b.bad .ro (by omega)) fun r L2 ⟨t2, e1, e2⟩ => ?_
  subst e1 e2
  rw [List.cons_append, List.nil_append]
  refine pops_nil ?_
  refine pAny_next (fuel := 3) [17] (by decide +kernel) (by simp) fun i hi => ?_
  simp only [List.mem_cons, List.not_mem_nil, or_false] at hi
  subst hi
  refine ⟨_, rfl, ?_⟩
  refine wfa fun t17 => ?_
  refine pAny_next (fuel := 2) [18] (by decide +kernel) (by simp) fun i hi => ?_
  simp only [List.mem_cons, List.not_mem_nil, or_false] at hi
  subst hi
  refine ⟨_, rfl, ?_⟩
  refine wf ?_
  refine pAny_next (fuel := 1) [19] (by decide +kernel) (by simp) fun i hi => ?_
  simp only [List.mem_cons, List.not_mem_nil, or_false] at hi
  subst hi
  refine ⟨_, rfl, ?_⟩
  refine wf ?_
  refine pAny_next (fuel := 0) [20] (by decide +kernel) (by simp) fun i hi => ?_
  simp only [List.mem_cons, List.not_mem_nil, or_false] at hi
  subst hi
  refine ⟨_, rfl, ?_⟩
  refine wf ?_
  refine pAny_end (by decide +kernel) ?_
  refine wf ?_
  refine endC1 rfl ?_
  rw [tellP, if_neg (by simp [h]), if_neg (by omega)]
  exact .refl _⟩
end Go.Proofs
/- Plain: how many questions some candidates need; the greatest number of questions over all answers. -/
namespace Go.Proofs
open Go Go.Q

/-- One more answer. -/
theorem fol_more {s : List Sto} {asked : List Dig} {bad : List Bool} {left : List Dig} {p : Dig} {b : Bool} (hab : asked.length = bad.length) : ∀ k, k ≤ asked.length → fol s (asked ++ [p]) (bad ++ [b]) left k = fol s asked bad left k
  | 0, _ => rfl
  | k + 1, hk => by
    rw [fol_succ, fol_succ, fol_more hab k (by omega)]
    have e1 : (asked ++ [p]).getD k Dig.zero = asked.getD k Dig.zero := by simp [List.getD, List.getElem?_append_left (show k < asked.length by omega)]
    have e2 : (bad ++ [b]).getD k false = bad.getD k false := by simp [List.getD, List.getElem?_append_left (show k < bad.length by omega)]
    unfold folStep
    rw [e1, e2]
theorem tell_follow {s : List Sto} {b : Bis} {left : List Dig} (h : followP s b left = true) (h2 : 2 ≤ b.left.length) (bad : Bool) :
    followP s ⟨aft s b.left (questP (cloS s) b.left) bad, b.asked ++ [questP (cloS s) b.left], b.bad ++ [bad]⟩ left = true := by
  obtain ⟨h3, h4⟩ := of_decide_eq_true h
  refine decide_eq_true ⟨by simp [h3], ?_⟩
  have e : (b.asked ++ [questP (cloS s) b.left]).length = b.asked.length + 1 := by simp
  dsimp only
  rw [e, fol_succ, fol_more h3 _ (Nat.le_refl _), h4]
  have e1 : (b.asked ++ [questP (cloS s) b.left]).getD b.asked.length Dig.zero = questP (cloS s) b.left := by simp [List.getD]
  have e2 : (b.bad ++ [bad]).getD b.asked.length false = bad := by rw [h3]; simp [List.getD]
  unfold folStep
  rw [Option.bind_some, e1, e2, if_neg (by simp; omega)]
end Go.Proofs
/- Plain: the states that answers reach. -/
namespace Go.Proofs
open Go Go.Q

def reachStep (s : List Sto) (k : Bis × Int) (bad : Bool) : Bis × Int := if k.2 ≠ 0 ∨ k.1.left.length < 2 then k else tellP s k.1 bad
def reachP (s : List Sto) (l : List Bool) : Bis × Int := l.foldl (reachStep s) (startP s)
theorem reach_succ (s : List Sto) {l : List Bool} {k : Nat} (h : k < l.length) : reachP s (l.take (k + 1)) = reachStep s (reachP s (l.take k)) l[k] := by
  rw [List.take_succ_eq_append_getElem h, reachP, List.foldl_append]; rfl
/-- A state that some answers reach. -/
structure Reached (s : List Sto) (l : List Bool) (b : Bis) : Prop where
  fol : followP s b (ids s) = true
  pos : 0 < b.left.length
  pre : b.bad <+: l
  full : 2 ≤ b.left.length → b.bad = l
  nd : b.asked.Nodup
  apart : ∀ p ∈ b.asked, p ∈ b.left → ∀ x ∈ b.left, x ∈ cloS s p
theorem check_of {s : List Sto} {b : Bis} (h0 : s.length ≠ 0) (h : followP s b (ids s) = true) : checkP s b = 0 := by
  rw [checkP, if_neg h0, if_neg (by simp [h])]
theorem tell_of {s : List Sto} {b : Bis} (h0 : s.length ≠ 0) (h : followP s b (ids s) = true) (h2 : 2 ≤ b.left.length) (bad : Bool) : tellP s b bad = (⟨aft s b.left (questP (cloS s) b.left) bad, b.asked ++ [questP (cloS s) b.left], b.bad ++ [bad]⟩, 0) := by
  rw [tellP, if_neg (by simp [check_of h0 h]), if_neg (by omega)]
theorem mem_aft_true {s : List Sto} {left : List Dig} {p x : Dig} (h : x ∈ aft s left p true) : x ∈ cloS s p := by
  have h := (List.mem_filter.1 h).2
  simpa using h
theorem mem_aft_false {s : List Sto} {left : List Dig} {p x : Dig} (h : x ∈ aft s left p false) : x ∉ cloS s p := by
  have h := (List.mem_filter.1 h).2
  simpa using h
theorem Valid.self {s : List Sto} (v : Valid s) {p : Dig} (hp : p ∈ ids s) : p ∈ cloS s p := (v.mem_clo hp p).2 (.base (by simp))
/-- What is known of the question that is due. -/
theorem Valid.quest {s : List Sto} (v : Valid s) {left : List Dig} (hl : ∀ x ∈ left, x ∈ ids s) (hn : left.Nodup) (h2 : 2 ≤ left.length) :
    questP (cloS s) left ∈ left ∧ 0 < (inC (cloS s (questP (cloS s) left)) left).length ∧ 0 < (outC (cloS s (questP (cloS s) left)) left).length := by
  have hP := v.parts hl hn
  obtain ⟨h, hm⟩ := questR_pos (cloS s) hP h2
  rw [← questP_eq (cloS s) hP h2] at h hm
  unfold even at h
  exact ⟨hm, by omega, by omega⟩
theorem Reached.tell {s : List Sto} (v : Valid s) {l : List Bool} {b : Bis} (h : Reached s l b) (h2 : 2 ≤ b.left.length) (bad : Bool) :
    Reached s (l ++ [bad]) ⟨aft s b.left (questP (cloS s) b.left) bad, b.asked ++ [questP (cloS s) b.left], b.bad ++ [bad]⟩ := by
  obtain ⟨_, _, hl, hn⟩ := follow_facts v h.fol
  obtain ⟨hm, hi, ho⟩ := v.quest hl hn h2
  have hb := h.full h2
  refine ⟨tell_follow h.fol h2 bad, ?_, ?_, fun _ => ?_, ?_, ?_⟩
  · dsimp only [aft]; split <;> assumption
  · dsimp only; rw [hb]; exact List.prefix_refl _
  · dsimp only; rw [hb]
  · refine List.nodup_append.2 ⟨h.nd, by simp, ?_⟩
    intro a ha c hc e
    simp only [List.mem_singleton] at hc
    rw [hc] at e
    rw [e] at ha
    have := h.apart _ ha hm
    have e : outC (cloS s (questP (cloS s) b.left)) b.left = [] := List.filter_eq_nil_iff.2 fun x hx => by simp [this x hx]
    rw [e] at ho
    exact absurd ho (by simp)
  · intro p hp hpl x hx
    dsimp only at hp hpl hx
    rcases List.mem_append.1 hp with hp | hp
    · exact h.apart p hp (aft_sub hpl) x (aft_sub hx)
    · simp only [List.mem_singleton] at hp
      subst hp
      cases bad with
      | true => exact mem_aft_true hx
      | false => exact absurd (v.self (hl _ hm)) (mem_aft_false hpl)
theorem reach_facts {s : List Sto} (v : Valid s) (h0 : s.length ≠ 0) (l : List Bool) : ∀ k, k ≤ l.length → (reachP s (l.take k)).2 = 0 ∧ Reached s (l.take k) (reachP s (l.take k)).1
  | 0, _ => by
    have e : reachP s (l.take 0) = (⟨ids s, [], []⟩, 0) := by
      rw [List.take_zero]
      show startP s = _
      rw [startP, if_neg h0]
    rw [e]
    refine ⟨rfl, decide_eq_true ⟨rfl, rfl⟩, ?_, List.prefix_refl _, fun _ => rfl, List.nodup_nil, fun p hp => ?_⟩
    · dsimp only; rw [ids_len]; omega
    · cases hp
  | k + 1, hk => by
    obtain ⟨h1, h2⟩ := reach_facts v h0 l k (by omega)
    rw [reach_succ s (by omega), reachStep]
    by_cases h3 : (reachP s (l.take k)).1.left.length < 2
    · rw [if_pos (.inr h3)]
      have ht := List.take_succ_eq_append_getElem (show k < l.length by omega)
      refine ⟨h1, h2.fol, h2.pos, ?_, fun h => absurd h (by omega), h2.nd, h2.apart⟩
      rw [ht]
      exact h2.pre.trans (List.prefix_append _ _)
    · rw [if_neg (by omega), tell_of h0 h2.fol (by omega)]
      refine ⟨rfl, ?_⟩
      rw [List.take_succ_eq_append_getElem (show k < l.length by omega)]
      exact h2.tell v (by omega) _
theorem reach_all {s : List Sto} (v : Valid s) (h0 : s.length ≠ 0) (l : List Bool) : (reachP s l).2 = 0 ∧ Reached s l (reachP s l).1 := by
  have := reach_facts v h0 l l.length (Nat.le_refl _)
  rwa [List.take_length] at this
end Go.Proofs
/- The example of the statements of layer 31: four patches, each of which needs the one before. -/
namespace Go.Proofs
open Go Go.Q
def chC : Chg := { Chg.zero with kind := 1, type := 4 }
def chP (i : Int) (deps : List Dig) : Pat := ⟨[97, 110, 110], [], i, deps, [chC]⟩
def chDeps (i : Nat) (l : List Dig) : List Dig := if 0 < i then l.drop (i - 1) else []
def ch0 : Dig := ⟨[184, 193, 159, 207, 117, 155, 67, 187, 252, 82, 81, 149, 33, 16, 150, 124, 208, 104, 158, 145, 67, 228, 67, 10, 62, 2, 134, 61, 11, 246, 119, 239], rfl⟩
def ch1 : Dig := ⟨[139, 82, 244, 167, 78, 250, 253, 66, 143, 14, 170, 28, 21, 51, 214, 157, 244, 253, 39, 97, 187, 192, 127, 230, 188, 223, 201, 170, 12, 242, 26, 52], rfl⟩
def ch2 : Dig := ⟨[138, 239, 197, 63, 125, 156, 137, 96, 26, 165, 234, 58, 127, 89, 46, 216, 32, 209, 131, 65, 61, 98, 21, 225, 226, 216, 8, 74, 200, 255, 242, 207], rfl⟩
def ch3 : Dig := ⟨[35, 209, 182, 231, 46, 168, 32, 209, 28, 166, 221, 132, 10, 131, 161, 126, 74, 229, 25, 97, 233, 167, 206, 91, 213, 25, 11, 167, 3, 218, 74, 241], rfl⟩
def chI (k : Nat) : List Dig := [ch0, ch1, ch2, ch3].take k
def chS (k : Nat) : List Sto := [⟨ch3, chP 3 [ch2]⟩, ⟨ch2, chP 2 [ch1]⟩, ⟨ch1, chP 1 [ch0]⟩, ⟨ch0, chP 0 []⟩].drop (4 - k)
theorem chAdd : ∀ k : Nat, k < 4 → rAdd (chS k) (chP k (chDeps k (chI k))) = (chS (k + 1), (chI 4).getD k Dig.zero, 0) := by decide +kernel
theorem chGreat : ∀ k : Nat, k < 4 → rGreat (chP k (chDeps k (chI k))) = false ∧ rGreatS (chS k) = false := by decide +kernel
theorem chFine : rFine (chS 4) = true := by decide +kernel
theorem chI_succ : ∀ k : Nat, k < 4 → chI (k + 1) = chI k ++ [(chI 4).getD k Dig.zero] := by decide +kernel
theorem chValid : Valid (chS 4) := valid_of chFine
end Go.Proofs
/- Contracts: the example of the statements of layer 31. -/
namespace Go.Proofs
open Go Go.Q
attribute [local irreducible] pwp pops PCalls OpN

set_option maxHeartbeats 2000000 in
instance chain_ct : FnC Tryz.prog 66 [] (.tuple [.slice ((chS 4).map eSto) .ro, .slice ((chI 4).map eDig) .ro]) := ⟨by
  refine fn_of Tryz.func66 Tryz.ntmps66 rfl (rs := [.tmp 0, .tmp 1]) rfl rfl fun hb LF => ?_
  refine wf ?_
  refine pwp_tok 32 ?_
  refine pwp_loopS (σ := Nat × Tag × Tag) (fun k => k.1 ≤ 4) (fun k => 4 - k.1) (fun k => [(2, .slice ((chS k.1).map eSto) k.2.1), (3, .slice ((chI k.1).map eDig) k.2.2), (9, .raw (.int .i64 k.1))]) (fun k => .tok k.2.2 (chI k.1).length 32 :: LF) (0, .nil, .nil) (by simp) ⟨rfl, rfl, rfl⟩ (.refl _) ?_
  rintro ⟨k, ts, ti⟩ hk
  dsimp only at hk ⊢
  refine wf ?_
  refine pwp_condD (fun hc => ?_) (fun hc => ?_)
  · have hlt : k < 4 := by omega
    have hcl : (chI k).length = k := by simp only [chI, List.length_take]; simp; omega
    obtain ⟨hg1, hg2⟩ := chGreat k hlt
    have i1 : Small (rGreat (chP k (chDeps k (chI k))) = false) := ⟨hg1⟩
    have i2 : Small (goodS (chS k)) := ⟨goodS_of hg2⟩
    have hadd := chAdd k hlt
    have hsu := chI_succ k hlt
    refine wf ?_
    refine s_alloc fun b5 => ?_
    refine wf ?_
    refine pwp_join True [(2, .slice ((chS k).map eSto) ts), (3, .slice ((chI k).map eDig) ti), (4, .raw (.int .i64 k)), (5, .raw (.pointer (some ⟨b5, 0, none⟩))), (9, .raw (.int .i64 k))] (.box b5 57 (ePat (chP k (chDeps k (chI k)))) :: .tok ti (chI k).length 32 :: LF) ?_ fun _ => ?_
    · refine pwp_condD (fun h => ?_) (fun h => ?_)
      · have e : chDeps k (chI k) = (chI k).drop (k - 1) := by rw [chDeps, if_pos (by omega)]
        refine wf ?_
        refine s_cutL (i := k - 1) rfl (by show PV.raw (Value.int .i64 ((k : Int) - 1)) = PV.raw (Value.int .i64 ((k - 1 : Nat) : Int)); congr 2; omega) (by omega) ?_
        refine wf ?_
        rw [e]
        exact ⟨trivial, ⟨rfl, rfl, rfl, rfl, rfl⟩, .refl _⟩
      · have e : chDeps k (chI k) = [] := by rw [chDeps, if_neg (by omega)]
        refine wf ?_
        rw [e]
        exact ⟨trivial, ⟨rfl, rfl, rfl, rfl, rfl⟩, .refl _⟩
    refine wf ?_
    refine s_alloc fun b7 => ?_
    refine wo ?_
    refine pops_nil ?_
    refine pwp_freezeD 7 ?_
    rw [hadd]
    dsimp only
    refine wfa fun v' => ?_
    rw [← hsu]
    exact ⟨(k + 1, .ro, v'), by dsimp only; omega, by dsimp only; omega, ⟨rfl, rfl, rfl⟩, .cons _ (.refl _)⟩
  · have hk4 : k = 4 := by omega
    subst hk4
    refine wf ?_
    refine end2 ?_
    exact .tuple2 (.ro _ _) (.ro _ _)⟩
theorem chStart : startP (chS 4) = (⟨ids (chS 4), [], []⟩, 0) := rfl
theorem chNext : nextP (chS 4) ⟨ids (chS 4), [], []⟩ = (ch1, (chS 4).drop 2, true) := by decide +kernel
theorem chBound : worst (cloS (chS 4)) (chS 4).length (ids (chS 4)) = 2 := by decide +kernel
set_option maxHeartbeats 2000000 in
instance awake_ct : FnC Tryz.prog 16 [] (.raw (.bool true)) := ⟨by
  have i1 : Small (Valid (chS 4)) := ⟨chValid⟩
  have hl4 : (chI 4).length = 4 := rfl
  refine fn_of Tryz.func16 Tryz.ntmps16 rfl (rs := [.tmp 0]) rfl rfl fun hb LF => ?_
  refine wf ?_
  refine s_alloc fun b3 => ?_
  refine wo ?_
  refine pops_nil ?_
  refine pwp_freezeD 3 ?_
  rw [chStart]
  dsimp only
  refine wf ?_
  refine s_alloc fun b5 => ?_
  refine wo ?_
  refine pops_nil ?_
  refine pwp_freezeD 5 ?_
  rw [chNext]
  dsimp only
  refine wf ?_
  refine end1 (.of_eq ?_)
  rw [chBound]
  rfl⟩
end Go.Proofs
/- BisectBound's contract: it answers true, whatever the set. -/
namespace Go.Proofs
open Go Go.Q
attribute [local irreducible] pwp pops PCalls OpN

theorem small_valid {s : List Sto} {b : Bis} (h : rSmall s b = true) : Valid s := by
  refine valid_of ?_
  unfold rSmall at h
  simp only [Bool.and_eq_true] at h
  simp_all
end Go.Proofs
/- BisectReached's contract: it answers true, whatever the set and the answers. -/
namespace Go.Proofs
open Go Go.Q
attribute [local irreducible] pwp pops PCalls OpN

theorem reach_stop {s : List Sto} {k : Bis × Int} (h : k.2 ≠ 0 ∨ k.1.left.length < 2) (l : List Bool) : l.foldl (reachStep s) k = k := by
  induction l with
  | nil => rfl
  | cons x l ih => rw [List.foldl_cons, reachStep, if_pos h, ih]
theorem reach_end {s : List Sto} {l : List Bool} {k : Nat} (h : (reachP s (l.take k)).2 ≠ 0 ∨ (reachP s (l.take k)).1.left.length < 2) : reachP s l = reachP s (l.take k) := by
  conv => lhs; rw [← List.take_append_drop k l, reachP, List.foldl_append]
  exact reach_stop h _
set_option maxHeartbeats 1000000 in
instance Reached_ct (s : List Sto) (l : List Bool) (t u : Tag) [hs : Small (Valid s)] : FnC Tryz.prog 32 [.slice (s.map eSto) t, .slice (l.map eB) u] (.tuple [.agg (eBis (reachP s l).1), .raw (.bool (decide ((reachP s l).2 = 0)))]) := ⟨by
  refine fn_of Tryz.func32 Tryz.ntmps32 rfl (rs := [.cell 4 28, .tmp 5]) rfl rfl fun hb LF => ?_
  have hlen : l.length ≤ 140737488355328 := (hb (.slice (l.map eB) u) (by simp)).slice_map
  refine wf ?_
  refine s_alloc fun b4 => ?_
  refine wf ?_
  refine s_alloc fun b6 => ?_
  refine wf ?_
  refine pwp_loopS (σ := Nat) (fun k => k ≤ l.length) (fun k => l.length - k) (fun k => [(0, .slice (s.map eSto) t), (4, .raw (.pointer (some ⟨b4, 0, none⟩))), (6, .raw (.pointer (some ⟨b6, 0, none⟩))), (7, .raw (.int .i64 (reachP s (l.take k)).2)), (15, .slice (l.map eB) u), (16, .raw (.int .i64 l.length)), (17, .raw (.int .i64 k))]) (fun k => .box b6 28 (eBis (reachP s (l.take k)).1) :: .box b4 28 (eBis Bis.zero) :: LF) 0 (by simp) ⟨rfl, rfl, rfl, rfl, rfl, rfl, rfl⟩ (.refl _) ?_
  rintro k hk
  refine wf ?_
  refine pwp_condD (fun hc => ?_) (fun hc => ?_)
  · have hlt : k < l.length := by omega
    have hrs := reach_succ s hlt
    refine wf ?_
    refine pops_if (fun hp => ?_) (fun hp => ?_)
    · have he : (reachP s (l.take k)).2 ≠ 0 := by simpa using hp
      refine wf ?_
      refine endC1 rfl ?_
      rw [reach_end (k := k) (l := l) (.inl he)]
      exact .refl _
    have he : (reachP s (l.take k)).2 = 0 := by simpa using hp
    refine wf ?_
    refine pwp_condD (fun h => ?_) (fun h => ?_)
    · refine wf ?_
      refine endC1 rfl ?_
      rw [reach_end (k := k) (l := l) (.inr (by omega))]
      exact .refl _
    · refine wf ?_
      rw [reachStep, if_neg (by rintro (h' | h') <;> omega)] at hrs
      refine ⟨k + 1, by omega, by dsimp only; omega, ⟨rfl, rfl, rfl, by dsimp only; rw [hrs]; rfl, rfl, rfl, rfl⟩, ?_⟩
      dsimp only
      rw [hrs]
      exact .refl _
  · refine wf ?_
    refine endC1 rfl ?_
    rw [List.take_of_length_le (by omega)]
    exact .refl _⟩
end Go.Proofs
/- Contracts of the program: digests of strings (sha256): rotations, constants, the schedule of a block. -/
namespace Go.Proofs
open Go Go.Q
attribute [local irreducible] pwp pops PCalls OpN

section
variable {P : Program} {N : Nat} {all : Array Oper} {K : Env → List Res → Prop} {fl : List Bool} {os : List Oper} {ρ : Env} {L : List Res} {d : Nat} {ty : TypeId} {pos : String} {af : Array Edge}
theorem s_convNeg {S T : TypeId} {k' : IntKind} [hS : TInt P S k'] [hT : TInt P T .u64] {x : Operand} {k₀ : IntKind} {n : Nat} (hx : ρ.ev x = .raw (.int k₀ (-(n : Int)))) (hn : 0 < n ∧ n ≤ 32) (k : pops P N all K fl.tail os (upd ρ d (.raw (.int .u64 ((18446744073709551616 - n : Nat) : Int)))) L) (hd : Nat.blt d N = true := by rfl) :
    pops P N all K fl (⟨some d, .convert S T x, ty, pos, af, none⟩ :: os) ρ L := s_conv hx (by
  have e : IntKind.wrap .u64 (-(n : Int)) = ((18446744073709551616 - n : Nat) : Int) := by
    simp only [IntKind.wrap, IntKind.signed, IntKind.bits]
    simp
    omega
  rw [e]; exact k) hd
theorem s_and31 {T T' : TypeId} {x y : Operand} {n : Nat} (hx : ρ.ev x = .raw (.int .u64 ((18446744073709551616 - n : Nat) : Int))) (hy : ρ.ev y = .raw (.int .u64 31)) (hn : 0 < n ∧ n < 32) (k : pops P N all K fl.tail os (upd ρ d (.raw (.int .u64 ((32 - n : Nat) : Int)))) L) (hd : Nat.blt d N = true := by rfl) :
    pops P N all K fl (⟨some d, .binOp .and T x y T', ty, pos, af, none⟩ :: os) ρ L := s_int hx hy (fun w => by
  have key : ∀ m : Nat, m < 32 → 0 < m → IntKind.u64.wrap ((BitVec.ofInt 64 ((18446744073709551616 - m : Nat) : Int) &&& BitVec.ofInt 64 31).toNat : Int) = ((32 - m : Nat) : Int) := by decide
  simp only [binOp, ne_eq, not_true_eq_false, if_false]
  show (pure (Value.int .u64 (IntKind.u64.wrap ((BitVec.ofInt 64 ((18446744073709551616 - n : Nat) : Int) &&& BitVec.ofInt 64 31).toNat : Int))) : Sem Value).run P w = _
  rw [key n hn.2 hn.1]; rfl) k hd
end
theorem orW_comm (a b : Nat) : orW a b = orW b a := Nat.or_comm _ _
theorem rotl_fn (a n : Nat) (hn : 0 < n ∧ n < 32) : FnC Tryz.prog 216 [.raw (.int .u32 (a : Int)), .raw (.int .i64 (-(n : Int)))] (.raw (.int .u32 (rotW a n : Nat))) := ⟨by
  refine fn_of Tryz.func216 Tryz.ntmps216 rfl (rs := [.tmp 4]) rfl rfl fun hb LF => ?_
  refine walkW ?_
  refine s_convNeg (n := n) rfl ⟨hn.1, by omega⟩ ?_
  refine s_and31 (n := n) rfl rfl hn ?_
  refine walkW ?_
  refine s_subU (a := 32) (b := 32 - n) (by rfl) (by rfl) (by omega) (by decide) ?_
  refine walkW ?_
  refine end1 (.of_eq ?_)
  rw [show 32 - (32 - n) = n by omega, rotW, orW_comm]⟩
theorem right_fn (a n : Nat) (hn : 0 < n ∧ n < 32) : FnC Tryz.prog 175 [.raw (.int .u32 (a : Int)), .raw (.int .i64 (n : Int))] (.raw (.int .u32 (rotW a n : Nat))) := ⟨by
  have i1 : FnC Tryz.prog 216 [.raw (.int .u32 (a : Int)), .raw (.int .i64 (-(n : Int)))] (.raw (.int .u32 (rotW a n : Nat))) := rotl_fn a n hn
  refine fn_of Tryz.func175 Tryz.ntmps175 rfl (rs := [.tmp 4]) rfl rfl fun hb LF => ?_
  refine walkW ?_
  exact end1 (.refl _)⟩
instance right2_ct (a : Nat) : FnC Tryz.prog 175 [.raw (.int .u32 (a : Int)), .raw (.int .i64 2)] (.raw (.int .u32 (rotW a 2 : Nat))) := right_fn a 2 ⟨by decide, by decide⟩
instance right6_ct (a : Nat) : FnC Tryz.prog 175 [.raw (.int .u32 (a : Int)), .raw (.int .i64 6)] (.raw (.int .u32 (rotW a 6 : Nat))) := right_fn a 6 ⟨by decide, by decide⟩
instance right7_ct (a : Nat) : FnC Tryz.prog 175 [.raw (.int .u32 (a : Int)), .raw (.int .i64 7)] (.raw (.int .u32 (rotW a 7 : Nat))) := right_fn a 7 ⟨by decide, by decide⟩
instance right11_ct (a : Nat) : FnC Tryz.prog 175 [.raw (.int .u32 (a : Int)), .raw (.int .i64 11)] (.raw (.int .u32 (rotW a 11 : Nat))) := right_fn a 11 ⟨by decide, by decide⟩
instance right13_ct (a : Nat) : FnC Tryz.prog 175 [.raw (.int .u32 (a : Int)), .raw (.int .i64 13)] (.raw (.int .u32 (rotW a 13 : Nat))) := right_fn a 13 ⟨by decide, by decide⟩
instance right17_ct (a : Nat) : FnC Tryz.prog 175 [.raw (.int .u32 (a : Int)), .raw (.int .i64 17)] (.raw (.int .u32 (rotW a 17 : Nat))) := right_fn a 17 ⟨by decide, by decide⟩
instance right18_ct (a : Nat) : FnC Tryz.prog 175 [.raw (.int .u32 (a : Int)), .raw (.int .i64 18)] (.raw (.int .u32 (rotW a 18 : Nat))) := right_fn a 18 ⟨by decide, by decide⟩
instance right19_ct (a : Nat) : FnC Tryz.prog 175 [.raw (.int .u32 (a : Int)), .raw (.int .i64 19)] (.raw (.int .u32 (rotW a 19 : Nat))) := right_fn a 19 ⟨by decide, by decide⟩
instance right22_ct (a : Nat) : FnC Tryz.prog 175 [.raw (.int .u32 (a : Int)), .raw (.int .i64 22)] (.raw (.int .u32 (rotW a 22 : Nat))) := right_fn a 22 ⟨by decide, by decide⟩
instance right25_ct (a : Nat) : FnC Tryz.prog 175 [.raw (.int .u32 (a : Int)), .raw (.int .i64 25)] (.raw (.int .u32 (rotW a 25 : Nat))) := right_fn a 25 ⟨by decide, by decide⟩
instance constantsP_ct : FnC Tryz.prog 174 [] (.agg (eW rK)) := ⟨by
  refine fn_of Tryz.func174 Tryz.ntmps174 rfl (rs := [.cell 0 199]) rfl rfl fun hb LF => ?_
  refine walkWb fun b => ?_
  refine s_buildWe [.const (.int .u32 1116352408), .const (.int .u32 1899447441), .const (.int .u32 3049323471), .const (.int .u32 3921009573), .const (.int .u32 961987163), .const (.int .u32 1508970993), .const (.int .u32 2453635748), .const (.int .u32 2870763221), .const (.int .u32 3624381080), .const (.int .u32 310598401), .const (.int .u32 607225278), .const (.int .u32 1426881987), .const (.int .u32 1925078388), .const (.int .u32 2162078206), .const (.int .u32 2614888103), .const (.int .u32 3248222580), .const (.int .u32 3835390401), .const (.int .u32 4022224774), .const (.int .u32 264347078), .const (.int .u32 604807628), .const (.int .u32 770255983), .const (.int .u32 1249150122), .const (.int .u32 1555081692), .const (.int .u32 1996064986), .const (.int .u32 2554220882), .const (.int .u32 2821834349), .const (.int .u32 2952996808), .const (.int .u32 3210313671), .const (.int .u32 3336571891), .const (.int .u32 3584528711), .const (.int .u32 113926993), .const (.int .u32 338241895), .const (.int .u32 666307205), .const (.int .u32 773529912), .const (.int .u32 1294757372), .const (.int .u32 1396182291), .const (.int .u32 1695183700), .const (.int .u32 1986661051), .const (.int .u32 2177026350), .const (.int .u32 2456956037), .const (.int .u32 2730485921), .const (.int .u32 2820302411), .const (.int .u32 3259730800), .const (.int .u32 3345764771), .const (.int .u32 3516065817), .const (.int .u32 3600352804), .const (.int .u32 4094571909), .const (.int .u32 275423344), .const (.int .u32 430227734), .const (.int .u32 506948616), .const (.int .u32 659060556), .const (.int .u32 883997877), .const (.int .u32 958139571), .const (.int .u32 1322822218), .const (.int .u32 1537002063), .const (.int .u32 1747873779), .const (.int .u32 1955562222), .const (.int .u32 2024104815), .const (.int .u32 2227730452), .const (.int .u32 2361852424), .const (.int .u32 2428436474), .const (.int .u32 2756734187), .const (.int .u32 3204031479), .const (.int .u32 3329325298)] rK rfl rfl rfl rfl ?_
  have i1 : LenIs (eW rK) 64 := ⟨rfl⟩
  have i2 : LenIs (eW (List.replicate 64 0)) 64 := ⟨rfl⟩
  refine walkWp ?_
  exact endC rfl (.refl _) (hn := (rfl : (eW rK).length = 64))⟩

instance initialP_ct : FnC Tryz.prog 132 [] (.agg (eW rH)) := ⟨by
  refine fn_of Tryz.func132 Tryz.ntmps132 rfl (rs := [.cell 0 171]) rfl rfl fun hb LF => ?_
  refine walkWb fun b => ?_
  refine s_buildWe [.const (.int .u32 1779033703), .const (.int .u32 3144134277), .const (.int .u32 1013904242), .const (.int .u32 2773480762), .const (.int .u32 1359893119), .const (.int .u32 2600822924), .const (.int .u32 528734635), .const (.int .u32 1541459225)] rH rfl rfl (by simp [rH]) rfl ?_
  have i1 : LenIs (eW rH) 8 := ⟨rfl⟩
  have i2 : LenIs (eW (List.replicate 8 0)) 8 := ⟨rfl⟩
  refine walkWp ?_
  exact endC rfl (.refl _) (hn := (rfl : (eW rH).length = 8))⟩
end Go.Proofs
/- The small logic: a string's bytes in a row of their own. Library, no statement of its own. -/
namespace Go.Q
open Go
section
variable {P : Program} {N : Nat} {all : Array Oper} {K : Env → List Res → Prop} {fl : List Bool} {os : List Oper} {ρ : Env} {L : List Res} {d : Nat} {ty : TypeId} {pos : String} {af : Array Edge}
theorem opN_toBytes {S T : TypeId} [hS : TStr P S] [hT : TByt P T] {x : Operand} {s : Str} {ax : PV} {dst : Option Nat} {gd : Option (Nat × Bool)} (hx : ρ.ev x = ax) [jx : IsStr ax s] (hs : s.length ≤ maxN) {Ψ : PV → List Res → Prop}
    (k : ∀ t', Ψ (.slice (s.map eBy) t') (.tok t' s.length 1 :: L)) : OpN P ⟨dst, .convert S T x, ty, pos, af, gd⟩ ρ L Ψ := by
  intro a w g ha hi
  obtain ⟨E, e1, e2⟩ := hT.out
  have h1 := jx.out g _ (hx ▸ ha x (by simp [Op.operands]))
  let nc := grownCap w s.length 0 E
  have hnc : s.length ≤ nc := grownCap_ge w _ _ _
  let vs : List Value := s.map fun b => Value.int .u8 (b.toNat : Int)
  have hvl : vs.length = s.length := by simp [vs]
  have hsz : (bytesRow (sB s) nc).size = nc := by simp [bytesRow]; omega
  have hrow : ∀ j (h : j < vs.length), (bytesRow (sB s) nc)[j]? = some vs[j] := fun j h => by
    have h' : j < s.length := by omega
    rw [bytesRow, Array.getElem?_append_left (by simp; exact h')]
    simp [vs, sB, h']
  have hr : (execOp a.eval ⟨dst, .convert S T x, ty, pos, af, gd⟩).run P w = .ok (.value (.slice (some ⟨w.heap.size, 0, none⟩) s.length nc)) (w.drew.alloc (.cells (bytesRow (sB s) nc) E ((bytesRow (sB s) nc).size, (bytesRow (sB s) nc).size + 1))) := by
    show (do pure (Next.value (← convert S T (a.eval x))) : Sem Next).run P w = _
    rw [h1]
    have := run_bytes_of_string (P := P) w S T E (sB s) hS.out e1 e2
    rw [sB_size] at this
    rw [Sem.run_bind, this]
    rfl
  have hvr : VRl g vs (s.map eBy).flatten := by
    have e : ∀ l : Str, (l.map eBy).flatten = (l.map fun b => Value.int .u8 (b.toNat : Int)).map .raw := fun l => by
      induction l with
      | nil => rfl
      | cons b l ih => rw [List.map_cons, List.flatten_cons, ih]; rfl
    rw [e]; exact VRl.raws g vs
  have hH0 : ∀ o, g.H w.heap.size o = none := fun o => by
    cases h : g.H w.heap.size o with
    | none => rfl
    | some v => have := hi.sat _ _ _ h; simp [World.cell?] at this
  have hM0 : g.M w.heap.size = none := by
    cases h : g.M w.heap.size with
    | none => rfl
    | some v => exact absurd (hi.satM _ _ h).lt (Nat.lt_irrefl _)
  have hle := Gh.le_lay (g := g) (b := w.heap.size) (from_ := 0) (us := vs) (fun o _ => hH0 o)
  have hget : ∀ (o : Obj) b, b < w.heap.size → (w.drew.alloc o).heap[b]? = w.heap[b]? := fun o b hb => by
    show (w.heap.push o)[b]? = _
    rw [Array.getElem?_push, if_neg (by omega)]
  have hlast : ∀ (o : Obj), (w.drew.alloc o).heap[w.heap.size]? = some o := fun o => by show (w.heap.push o)[w.heap.size]? = _; simp
  have key := (hi.tok 1).repl (w' := w.drew.alloc (.cells (bytesRow (sB s) nc) E ((bytesRow (sB s) nc).size, (bytesRow (sB s) nc).size + 1))) (g' := g.lay w.heap.size 0 vs) (r' := .tok (.own w.heap.size nc) s.length 1) .here rfl rfl ⟨rfl, Nat.le_succ _⟩ (by simp) hle
    (fun k hk _ => hget _ k hk) (fun k hk _ => ⟨fun o => Gh.lay_out (fun h => by have := h.1; omega), rfl⟩)
    (fun b₂ o v hv => by
      by_cases hin : b₂ = w.heap.size ∧ 0 ≤ o ∧ o < 0 + vs.length
      · obtain ⟨rfl, _, h4⟩ := hin
        have hj : o < vs.length := by omega
        have := Gh.lay_in (g := g) (b := w.heap.size) (from_ := 0) hj
        rw [Nat.zero_add, hv] at this
        cases this
        simp only [World.cell?, hlast, Option.isSome_none, Bool.false_eq_true, if_false]
        exact hrow o hj
      · rw [Gh.lay_out hin] at hv
        have h3 := hi.sat b₂ o v hv
        have hb2 : b₂ < w.heap.size := by
          rcases Nat.lt_or_ge b₂ w.heap.size with h' | h'
          · exact h'
          · simp [World.cell?, Array.getElem?_eq_none h'] at h3
        simp only [World.cell?] at h3 ⊢
        rw [hget _ b₂ hb2]; exact h3)
    (fun b₂ es hM => (hi.satM b₂ es hM).congr (hget _ b₂ (hi.satM b₂ es hM).lt))
    ⟨_, E, _, hlast _, by rw [hsz, Nat.mul_one], hnc, fun o ho => by
      rw [Gh.lay_out (fun h => by have := h.2.2; omega)]
      exact hH0 o, hM0, .inr (Nat.le_refl _)⟩ (fun b₂ hb₂ => .inr (by simp [Res.block] at hb₂; omega))
  refine Oper.wq_of_run hr ?_
  refine ⟨_, .slice (s.map eBy) (.own w.heap.size nc), _, _, rfl, ?_, key.1, key.2.1, key.2.2, k _⟩
  have := VR.of_cells (g := g.lay w.heap.size 0 vs) (xs := s.map eBy) (t := .own w.heap.size nc) (sz := 1) (b := w.heap.size) (off := 0) (cap := nc) (fun e he => by obtain ⟨b, _, rfl⟩ := List.mem_map.1 he; rfl) (by simpa using hnc) (by simpa using hs) (us := vs) (hvr.mono hle) (fun j hj => Gh.lay_in hj) (fun b' cap' e => by cases e; exact ⟨rfl, rfl, rfl⟩) (by simp)
  simpa using this
theorem s_toBytes {S T : TypeId} [hS : TStr P S] [hT : TByt P T] {x : Operand} {s : Str} {ax : PV} (hx : ρ.ev x = ax) [jx : IsStr ax s] (hs : s.length ≤ 140737488355328)
    (k : ∀ t', pops P N all K fl.tail os (upd ρ d (.slice (s.map eBy) t')) (.tok t' s.length 1 :: L)) (hd : Nat.blt d N = true := by rfl) (hfl : fl.headD true = true := by rfl) : pops P N all K fl (⟨some d, .convert S T x, ty, pos, af, none⟩ :: os) ρ L :=
  pops_n rfl (dlt hd) hfl (opN_toBytes hx hs k)
end
end Go.Q
/- Contracts of the program: digests of strings (sha256), continued: the schedule of a block. -/
namespace Go.Proofs
open Go Go.Q
attribute [local irreducible] pwp pops PCalls OpN

theorem or_add {a b i : Nat} (hb : b < 2 ^ i) : a * 2 ^ i ||| b = a * 2 ^ i + b := by
  rw [← Nat.shiftLeft_eq]; exact (Nat.shiftLeft_add_eq_or_of_lt hb a).symm
/-- One byte more. -/
def byteW (v : Nat) (c : UInt8) : Nat := orW (shlW v 8) (c.toNat % 4294967296)
theorem byteW_eq {v : Nat} {c : UInt8} (hv : v < 16777216) : byteW v c = v * 256 + c.toNat := by
  have hc : c.toNat < 256 := c.toNat_lt
  unfold byteW orW shlW
  rw [show min 8 32 = 8 from rfl, Nat.mod_mod, Nat.mod_mod, Nat.mod_eq_of_lt (show c.toNat < 4294967296 by omega), Nat.mod_eq_of_lt (show v * 2 ^ 8 < 4294967296 by omega)]
  exact or_add (i := 8) (by omega)
theorem word_bytes (b : Str) (t : Nat) (h : 4 * t + 4 ≤ b.length) : (List.range 4).foldl (fun v i => byteW v (b.getD (4 * t + i) 0)) 0 = rWord b t := by
  have h0 : ∀ i, (b.getD i 0).toNat < 256 := fun i => UInt8.toNat_lt _
  have a0 := h0 (4 * t)
  have a1 := h0 (4 * t + 1)
  have a2 := h0 (4 * t + 2)
  have a3 := h0 (4 * t + 3)
  show byteW (byteW (byteW (byteW 0 (b.getD (4 * t + 0) 0)) (b.getD (4 * t + 1) 0)) (b.getD (4 * t + 2) 0)) (b.getD (4 * t + 3) 0) = _
  rw [Nat.add_zero]
  rw [byteW_eq (v := 0) (by omega), byteW_eq (v := 0 * 256 + (b.getD (4 * t) 0).toNat) (by omega), byteW_eq (v := (0 * 256 + (b.getD (4 * t) 0).toNat) * 256 + (b.getD (4 * t + 1) 0).toNat) (by omega),
    byteW_eq (v := ((0 * 256 + (b.getD (4 * t) 0).toNat) * 256 + (b.getD (4 * t + 1) 0).toNat) * 256 + (b.getD (4 * t + 2) 0).toNat) (by omega)]
  unfold rWord
  have e0 : (4 * (t : Int)).toNat = 4 * t := by omega
  have e1 : (4 * (t : Int) + 1).toNat = 4 * t + 1 := by omega
  have e2 : (4 * (t : Int) + 2).toNat = 4 * t + 2 := by omega
  have e3 : (4 * (t : Int) + 3).toNat = 4 * t + 3 := by omega
  rw [e0, e1, e2, e3]
  generalize (b.getD (4 * t) 0).toNat = x0 at *
  generalize (b.getD (4 * t + 1) 0).toNat = x1 at *
  generalize (b.getD (4 * t + 2) 0).toNat = x2 at *
  generalize (b.getD (4 * t + 3) 0).toNat = x3 at *
  unfold orW shlW
  rw [show min 24 32 = 24 from rfl, show min 16 32 = 16 from rfl, show min 8 32 = 8 from rfl]
  simp only [Nat.mod_eq_of_lt (show x0 < 4294967296 by omega), Nat.mod_eq_of_lt (show x1 < 4294967296 by omega), Nat.mod_eq_of_lt (show x2 < 4294967296 by omega), Nat.mod_eq_of_lt (show x3 < 4294967296 by omega), Nat.mod_eq_of_lt (show x0 * 2 ^ 24 < 4294967296 by omega), Nat.mod_eq_of_lt (show x1 * 2 ^ 16 < 4294967296 by omega), Nat.mod_eq_of_lt (show x2 * 2 ^ 8 < 4294967296 by omega)]
  have k1 : x0 * 2 ^ 24 ||| x1 * 2 ^ 16 = (x0 * 256 + x1) * 2 ^ 16 := by rw [or_add (by omega)]; omega
  rw [k1, Nat.mod_eq_of_lt (show (x0 * 256 + x1) * 2 ^ 16 < 4294967296 by omega)]
  have k2 : (x0 * 256 + x1) * 2 ^ 16 ||| x2 * 2 ^ 8 = ((x0 * 256 + x1) * 256 + x2) * 2 ^ 8 := by rw [or_add (by omega)]; omega
  rw [k2, Nat.mod_eq_of_lt (show ((x0 * 256 + x1) * 256 + x2) * 2 ^ 8 < 4294967296 by omega), or_add (by omega)]
  omega
def schS (b : Str) (k : Nat) : List Nat := (List.range (k - 16)).foldl rSched2 ((List.range (min k 16)).foldl (rSched1 b) (List.replicate 64 0))
theorem schS_len (b : Str) (k : Nat) : (schS b k).length = 64 := fold2_len (fold1_len b _) _
theorem schS_succ1 {b : Str} {k : Nat} (h : k < 16) : schS b (k + 1) = (schS b k).set k (rWord b k) := by
  unfold schS
  rw [show k + 1 - 16 = 0 by omega, show k - 16 = 0 by omega, show min (k + 1) 16 = k + 1 by omega, show min k 16 = k by omega, foldl_range_succ]; rfl
theorem schS_succ2 (b : Str) (j : Nat) : schS b (j + 16 + 1) = (schS b (j + 16)).set (j + 16) (rSigma (schS b (j + 16)) j) := by
  unfold schS
  rw [show j + 16 + 1 - 16 = j + 1 by omega, show j + 16 - 16 = j by omega, show min (j + 16 + 1) 16 = 16 by omega, show min (j + 16) 16 = 16 by omega, foldl_range_succ]; rfl
theorem fold1_zero (b : Str) (k : Nat) : ∀ j, k ≤ j → ((List.range k).foldl (rSched1 b) (List.replicate 64 0)).getD j 0 = 0 := by
  induction k with
  | zero => intro j _; rw [List.range_zero, List.foldl_nil, List.getD_eq_getElem?_getD, List.getElem?_replicate]; split <;> rfl
  | succ k ih =>
    intro j hj
    have := ih j (by omega)
    rw [foldl_range_succ, rSched1, List.getD, List.getElem?_set_ne (by omega)]
    exact this
theorem schS_zero {b : Str} {k : Nat} (h : k < 16) : (schS b k).set k 0 = schS b k := by
  have h0 := fold1_zero b k k (Nat.le_refl _)
  have hl := schS_len b k
  have e : schS b k = (List.range k).foldl (rSched1 b) (List.replicate 64 0) := by
    unfold schS
    rw [show k - 16 = 0 by omega, show min k 16 = k by omega]; rfl
  rw [← e] at h0
  refine List.ext_getElem (by simp) fun i h1 h2 => ?_
  rw [List.getElem_set]
  split
  · rename_i e
    subst e
    simpa [List.getD, h2] using h0.symm
  · rfl
set_option maxHeartbeats 2000000 in
instance scheduleP_ct (s : Str) [hs : Small (s.length = 64)] : FnC Tryz.prog 173 [.str s] (.agg (eW (rSched s))) := ⟨by
  refine fn_of Tryz.func173 Tryz.ntmps173 rfl (rs := [.cell 2 199]) rfl rfl fun hb LF => ?_
  have hl := hs.out
  have i2 : LenIs (eW (List.replicate 64 0)) 64 := ⟨rfl⟩
  refine walkWb fun b => ?_
  refine walkWbp fun b2 => ?_
  refine pwp_loopS (σ := Nat × List Nat) (fun k => k.1 ≤ 64 ∧ k.2.length = 64 ∧ k.2 = schS s k.1) (fun k => 64 - k.1) (fun k => [(0, .str s), (2, .raw (.pointer (some ⟨b, 0, none⟩))), (3, .raw (.pointer (some ⟨b2, 0, none⟩))), (9, .raw (.int .i64 k.1))]) (fun k => .box b2 199 (eW k.2) :: .box b 199 (eW (List.replicate 64 0)) :: LF) (0, List.replicate 64 0) ⟨by simp, by simp, rfl⟩ ⟨rfl, rfl, rfl, rfl⟩ (.refl _) ?_
  rintro ⟨k, w⟩ ⟨hk, hw, he⟩
  dsimp only at hk hw he ⊢
  have i3 : LenIs (eW w) 64 := ⟨by rw [len_eW, hw]⟩
  refine walkW ?_
  refine pwp_condD (fun hc => ?_) (fun hc => ?_)
  · refine walkW ?_
    refine pwp_condD (fun h16 => ?_) (fun h16 => ?_)
    · have h16' : k < 16 := by omega
      have hz := schS_zero (b := s) h16'
      rw [← he] at hz
      refine walkW ?_
      refine s_cutS (ax := .str s) (i := 4 * k) (j := 4 * k + 4) rfl (by show PV.raw (.int .i64 (4 * (k : Int))) = _; rw [show (4 * (k : Int)) = ((4 * k : Nat) : Int) by omega]) (by show PV.raw (.int .i64 (4 * (k : Int) + 4)) = _; rw [show (4 * (k : Int) + 4) = ((4 * k + 4 : Nat) : Int) by omega]) (by omega) (by omega) (by omega) ?_
      refine s_toBytes (ax := .str ((s.drop (4 * k)).take (4 * k + 4 - 4 * k))) rfl (by rw [List.length_take, List.length_drop]; omega) fun t => ?_
      have hcl : ((s.drop (4 * k)).take (4 * k + 4 - 4 * k)).length = 4 := by rw [List.length_take, List.length_drop]; omega
      have hce : ∀ i (h : i < ((s.drop (4 * k)).take (4 * k + 4 - 4 * k)).length), ((s.drop (4 * k)).take (4 * k + 4 - 4 * k))[i] = s.getD (4 * k + i) 0 := fun i h => by
        rw [List.getElem_take, List.getElem_drop, List.getD_eq_getElem?_getD, List.getElem?_eq_getElem (by omega)]; rfl
      generalize (s.drop (4 * k)).take (4 * k + 4 - 4 * k) = cs at hcl hce ⊢
      refine walkW ?_
      refine pwp_loopS (σ := Nat × Nat) (fun j => j.1 ≤ 4 ∧ j.2 = (List.range j.1).foldl (fun v i => byteW v (s.getD (4 * k + i) 0)) 0) (fun j => 4 - j.1) (fun j => [(0, .str s), (2, .raw (.pointer (some ⟨b, 0, none⟩))), (3, .raw (.pointer (some ⟨b2, 0, none⟩))), (4, .raw (.int .i64 k)), (9, .raw (.int .i64 k)), (21, .slice (cs.map eBy) t), (22, .raw (.int .i64 cs.length)), (23, .raw (.int .i64 j.1))]) (fun j => .box b2 199 (eW (w.set k j.2)) :: .box b 199 (eW (List.replicate 64 0)) :: LF) (0, 0) ⟨by simp, rfl⟩ ⟨rfl, rfl, rfl, rfl, rfl, rfl, rfl, rfl⟩ (by dsimp only; rw [hz]; exact .cons _ (.refl _)) ?_
      rintro ⟨j, v⟩ ⟨hj, hv⟩
      dsimp only at hj hv ⊢
      refine walkW ?_
      refine pwp_condD (fun hc2 => ?_) (fun hc2 => ?_)
      · have hj4 : j < 4 := by omega
        have hsl : (w.set k v).length = 64 := by rw [List.length_set, hw]
        have hkw : k < w.length := by omega
        refine wf ?_
        refine walkW ?_
        refine ⟨(j + 1, byteW v (s.getD (4 * k + j) 0)), ⟨by dsimp only; omega, ?_⟩, by dsimp only; omega, ⟨rfl, rfl, rfl, rfl, rfl, rfl, rfl, rfl⟩, ?_⟩
        · dsimp only
          rw [foldl_range_succ, ← hv]
        · have e : (w.set k v).getD k 0 = v := by simp [List.getD, hkw]
          dsimp only
          rw [e, hce j (by omega), List.set_set]
          exact .refl _
      · have hj4 : j = 4 := by omega
        subst hj4
        rw [word_bytes s k (by omega)] at hv
        refine walkW ?_
        refine ⟨(k + 1, w.set k v), ⟨by dsimp only; omega, by dsimp only; rw [List.length_set, hw], by dsimp only; rw [schS_succ1 h16', ← he, hv]⟩, by dsimp only; omega, ⟨rfl, rfl, rfl, rfl⟩, .refl _⟩
    · obtain ⟨j, rfl⟩ : ∃ j, k = j + 16 := ⟨k - 16, by omega⟩
      refine walkWn ?_
      refine pwp_drawQ (by decide +kernel) ?_
      refine walkWnp ?_
      refine pwp_drawN 29 ?_ ?_
      · decide +kernel
      refine walkWp ?_
      refine ⟨(j + 16 + 1, w.set (j + 16) (rSigma w j)), ⟨by dsimp only; omega, by dsimp only; rw [List.length_set, hw], by dsimp only; rw [schS_succ2, ← he]⟩, by dsimp only; omega, ⟨rfl, rfl, rfl, rfl⟩, ?_⟩
      dsimp only; rw [rSigma_int]; exact .refl _
  · refine walkW ?_
    refine endC rfl (.of_eq ?_) (hn := (by rw [len_eW, hw] : (eW w).length = 64))
    have hkk : k = 64 := by omega
    subst hkk
    rw [he]; rfl⟩
end Go.Proofs
/- Contracts of the program: digests of strings (sha256), continued: a block's steps. -/
namespace Go.Q
open Go
section
variable {P : Program} {N : Nat} {all : Array Oper} {K : Env → List Res → Prop} {fl : List Bool} {os : List Oper} {ρ : Env} {L : List Res} {d : Nat} {ty : TypeId} {pos : String} {af : Array Edge}
theorem s_indexA {T n E by_ : Nat} [hT : TArr P T n E] [hE : TSz P E 1 by_] [hS : TScal P E] {x y : Operand} {l : List Nat} {i : Nat} {kk : IntKind} (hx : ρ.ev x = .agg (eW l)) (hy : ρ.ev y = .raw (.int kk (i : Int))) (hl : l.length = n) (hi : i < n)
    (k : pops P N all K fl.tail os (upd ρ d (.raw (.int .u32 ((l.getD i 0 : Nat) : Int)))) L) (hd : Nat.blt d N = true := by rfl) : pops P N all K fl (⟨some d, .index T x y, ty, pos, af, none⟩ :: os) ρ L :=
  step_q hd (qop_of_run fun a w g ha hi' => ⟨.int .u32 ((l.getD i 0 : Nat) : Int), by
    have h1 := ha x (by simp [Op.operands])
    rw [hx] at h1
    have h2 := evRaw ha (x := y) (by simp [Op.operands]) hy
    obtain ⟨z, z1, z2, _⟩ := hE.out
    show (do pure (Next.value (← Instr.index T (a.eval x) (a.eval y))) : Sem Next).run P w = _
    rw [h2]
    generalize a.eval x = v at h1
    cases h1 with
    | agg hs hv =>
      rename_i vs
      have hil : i < l.length := by omega
      have hiv : i < vs.size := by rw [hs]; simpa using hil
      have h3 : vs[i] = .int .u32 ((l.getD i 0 : Nat) : Int) := by
        have := hv i hiv (by simpa using hil)
        simp only [eW, List.getElem_map] at this
        rw [this.raw_inv]
        simp [List.getD, hil]
      have hn : (0 : Int) ≤ (i : Int) ∧ (i : Int) < (n : Int) := ⟨by omega, by omega⟩
      have hp : (part E vs ((i : Int).toNat * 1)).run P w = .ok (.int .u32 ((l.getD i 0 : Nat) : Int)) w := by
        unfold part
        rw [Sem.run_bind, isAgg_run_no hS.out, Int.toNat_natCast, Nat.mul_one]
        simp only [Result.andThen_ok, Bool.false_eq_true, if_false, Array.getElem?_eq_getElem hiv, h3, Sem.run_pure]
      simp only [Instr.index, asIntOf, Sem.run_bind, Sem.run_pure, Result.andThen_ok, run_und hT.out, hn, and_self, if_true, sizeOf, typeInfo, run_program, z1, z2, hp], .raw _⟩) k
end
end Go.Q
namespace Go.Proofs
open Go Go.Q
attribute [local irreducible] pwp pops PCalls OpN

def v8 (v : List Nat) : List Nat := [v.getD 0 0, v.getD 1 0, v.getD 2 0, v.getD 3 0, v.getD 4 0, v.getD 5 0, v.getD 6 0, v.getD 7 0]
theorem v8_eq {v : List Nat} (h : v.length = 8) : v8 v = v := by
  match v, h with
  | [_, _, _, _, _, _, _, _], _ => rfl
set_option maxHeartbeats 4000000 in
instance compressP_ct (h : List Nat) (s : Str) [hs : Small (s.length = 64)] [hh : Small (h.length = 8)] : FnC Tryz.prog 134 [.agg (eW h), .str s] (.agg (eW (rStep h s))) := ⟨by
  refine fn_of Tryz.func134 Tryz.ntmps134 rfl (rs := [.cell 4 171]) rfl rfl fun hb LF => ?_
  have hl := hh.out
  have hsl := rSched_len s
  have j1 : LenIs (eW (List.replicate 64 0)) 64 := ⟨rfl⟩
  have j2 : LenIs (eW (List.replicate 8 0)) 8 := ⟨rfl⟩
  have j3 : LenIs (eW h) 8 := ⟨by rw [len_eW, hl]⟩
  have j4 : LenIs (eW rK) 64 := ⟨rfl⟩
  have j5 : LenIs (eW (rSched s)) 64 := ⟨by rw [len_eW, hsl]⟩
  have hkl : rK.length = 64 := rfl
  refine walkWb fun b2 => ?_
  refine walkWbp fun b4 => ?_
  refine walkWbp fun b5 => ?_
  refine walkWbp fun b6 => ?_
  refine pwp_loopS (σ := Nat × List Nat) (fun k => k.1 ≤ 64 ∧ k.2.length = 8 ∧ k.2 = (List.range k.1).foldl (rRound (rSched s)) h) (fun k => 64 - k.1) (fun k => [(2, .raw (.pointer (some ⟨b2, 0, none⟩))), (4, .raw (.pointer (some ⟨b4, 0, none⟩))), (5, .raw (.pointer (some ⟨b5, 0, none⟩))), (6, .raw (.pointer (some ⟨b6, 0, none⟩))), (7, .raw (.int .u32 ((k.2.getD 0 0 : Nat) : Int))), (8, .raw (.int .u32 ((k.2.getD 1 0 : Nat) : Int))), (9, .raw (.int .u32 ((k.2.getD 2 0 : Nat) : Int))), (10, .raw (.int .u32 ((k.2.getD 3 0 : Nat) : Int))), (11, .raw (.int .u32 ((k.2.getD 4 0 : Nat) : Int))), (12, .raw (.int .u32 ((k.2.getD 5 0 : Nat) : Int))), (13, .raw (.int .u32 ((k.2.getD 6 0 : Nat) : Int))), (14, .raw (.int .u32 ((k.2.getD 7 0 : Nat) : Int))), (39, .raw (.int .i64 k.1))]) (fun k => .box b6 199 (eW rK) :: .box b5 199 (eW (rSched s)) :: .box b4 171 (eW (List.replicate 8 0)) :: .box b2 171 (eW h) :: LF) (0, h) ⟨by simp, hl, rfl⟩ ⟨rfl, rfl, rfl, rfl, rfl, rfl, rfl, rfl, rfl, rfl, rfl, rfl, rfl⟩ (.refl _) ?_
  rintro ⟨k, v⟩ ⟨hk, hv, hve⟩
  dsimp only at hk hv hve ⊢
  refine walkW ?_
  refine pwp_condD (fun hc => ?_) (fun hc => ?_)
  · refine walkW ?_
    refine ⟨(k + 1, rRound (rSched s) v k), ⟨by dsimp only; omega, rfl, by dsimp only; rw [foldl_range_succ, ← hve]⟩, by dsimp only; omega, ⟨rfl, rfl, rfl, rfl, rfl, rfl, rfl, rfl, rfl, rfl, rfl, rfl, rfl⟩, .refl _⟩
  have hkk : k = 64 := by omega
  subst hkk
  replace hve : v = rRounds h s := hve
  have hv8 := v8_eq hv
  refine walkW ?_
  refine s_buildWe [.tmp 102, .tmp 103, .tmp 104, .tmp 105, .tmp 106, .tmp 107, .tmp 108, .tmp 109] (v8 v) rfl (hx8 (by rfl) (by rfl) (by rfl) (by rfl) (by rfl) (by rfl) (by rfl) (by rfl)) (by simp [v8]) (by simp [v8]) ?_
  rw [hv8]
  refine walkW ?_
  refine pwp_loopS (σ := Nat × List Nat) (fun k => k.1 ≤ 8 ∧ k.2.length = 8 ∧ k.2 = (List.range k.1).foldl (rAdd8 (rRounds h s)) h) (fun k => 8 - k.1) (fun k => [(2, .raw (.pointer (some ⟨b2, 0, none⟩))), (4, .raw (.pointer (some ⟨b4, 0, none⟩))), (110, .agg (eW v)), (111, .raw (.int .i64 k.1))]) (fun k => .box b4 171 (eW (List.replicate 8 0)) :: .box b2 171 (eW k.2) :: LF) (0, h) ⟨by simp, hl, rfl⟩ ⟨rfl, rfl, rfl, rfl⟩ (.cons _ (.cons _ (.refl _))) ?_
  rintro ⟨k, x⟩ ⟨hk, hx, hxe⟩
  dsimp only at hk hx hxe ⊢
  have j8 : LenIs (eW x) 8 := ⟨by rw [len_eW, hx]⟩
  refine walkW ?_
  refine pwp_condD (fun hc => ?_) (fun hc => ?_)
  · refine walkW ?_
    refine s_indexA rfl rfl hv (by omega) ?_
    refine walkW ?_
    refine ⟨(k + 1, x.set k (addW (x.getD k 0) ((rRounds h s).getD k 0))), ⟨by dsimp only; omega, by dsimp only; rw [List.length_set, hx], by dsimp only; rw [foldl_range_succ, ← hxe]; rfl⟩, by dsimp only; omega, ⟨rfl, rfl, rfl, rfl⟩, ?_⟩
    rw [← hve]
    exact .refl _
  · refine walkW ?_
    refine endC rfl (.of_eq ?_) (hn := (by rw [len_eW, hx] : (eW x).length = 8))
    have hkk : k = 8 := by omega
    subst hkk
    rw [rStep, hxe]⟩
end Go.Proofs
/- Contracts of the program: digests of strings (sha256), continued: the blocks of a padded message. -/
namespace Go.Q
open Go
section
variable {P : Program} {N : Nat} {all : Array Oper} {K : Env → List Res → Prop} {fl : List Bool} {os : List Oper} {ρ : Env} {L : List Res} {d : Nat} {ty : TypeId} {pos : String} {af : Array Edge}
theorem s_shrUI {T T' : TypeId} {x y : Operand} {a b : Nat} (hx : ρ.ev x = .raw (.int .u64 (a : Int))) (hy : ρ.ev y = .raw (.int .i64 (b : Int))) (k : pops P N all K fl.tail os (upd ρ d (.raw (.int .u64 ((a / 2 ^ (min b 64) : Nat) : Int)))) L) (hd : Nat.blt d N = true := by rfl) :
    pops P N all K fl (⟨some d, .binOp .shr T x y T', ty, pos, af, none⟩ :: os) ρ L := s_int hx hy (fun w => by
      have h0 : ¬ (b : Int) < 0 := by omega
      simp only [binOp, Op.shift, h0, if_false, IntKind.bits, Int.toNat_natCast]
      rw [fdiv_pow]; rfl) k hd
theorem s_cutLH {T E sz by_ : Nat} [hT : TSl P T E] [hE : TSz P E sz by_] {x y z : Operand} {α : Type} {f : α → List PV} [hf : Len f sz] {l : List α} {t : Tag} {k1 k2 : IntKind} {i j : Nat} (hx : ρ.ev x = .slice (l.map f) t) (hy : ρ.ev y = .raw (.int k1 (i : Int))) (hz : ρ.ev z = .raw (.int k2 (j : Int))) (hij : i ≤ j) (hj : j ≤ l.length)
    (k : pops P N all K fl.tail os (upd ρ d (.slice (((l.drop i).take (j - i)).map f) .ro)) L) (hd : Nat.blt d N = true := by rfl) : pops P N all K fl (⟨some d, .slice T x (some y) (some z) none, ty, pos, af, none⟩ :: os) ρ L :=
  step_q hd (qop_cut i j hx hij (by simpa using hj) (fun e he => by obtain ⟨a, _, rfl⟩ := List.mem_map.1 he; exact hf.out a) (fun o e => by cases e; exact ⟨_, hy⟩) (by simp) (fun o e => by cases e; exact ⟨_, hz⟩) (by simp)) (by
    rw [← List.map_drop, ← List.map_take]; exact k)
end
end Go.Q
namespace Go.Proofs
open Go Go.Q
attribute [local irreducible] pwp pops PCalls OpN

/-- The k-th block. -/
def blk (m : Str) (k : Nat) : Str := (m.drop (64 * k)).take 64
def eS1 (s : Str) : List PV := [.str s]
/-- The blocks that are yielded. -/
def blks (s : Str) : List Str := (List.range ((rPad s).length / 64)).map (blk (rPad s))
theorem rPad_mod (s : Str) : (rPad s).length % 64 = 0 := by rw [rPad_len]; omega
theorem rPad_split (s : Str) (n : Nat) (h : n ≤ s.length) : (rPad s).drop n = (s.drop n ++ [128]) ++ List.replicate ((120 - (s.length + 1) % 64) % 64) 0 ++ padTail (s.length * 8) 8 := by
  unfold rPad
  rw [List.append_assoc, List.append_assoc, List.drop_append_of_le_length h, List.append_assoc, List.append_assoc]
theorem blk_whole {s : Str} {k : Nat} (h : 64 * k + 64 ≤ s.length) : blk (rPad s) k = (s.drop (64 * k)).take 64 := by
  unfold blk
  rw [rPad_split s (64 * k) (by omega), List.append_assoc, List.append_assoc, List.take_append_of_le_length (by rw [List.length_drop]; omega)]
theorem blks_take (s : Str) {k : Nat} (h : k < (rPad s).length / 64) : (blks s).take (k + 1) = (blks s).take k ++ [blk (rPad s) k] := by
  have hl : k < (blks s).length := by simpa [blks] using h
  rw [List.take_succ_eq_append_getElem hl]
  simp [blks]
theorem padTail_succ (n j : Nat) : padTail n (j + 1) = padTail n j ++ [UInt8.ofNat (n / 2 ^ (min (8 * (7 - j)) 64))] := by
  rw [padTail, padTail, List.range_succ, List.map_append]; rfl
set_option maxHeartbeats 4000000 in
theorem blocks_iter (s : Str) (hs : s.length ≤ 1000000) : PIter Tryz.prog 172 [.pt [.str s] 0] eS1 (blks s) := by
  have hpl := rPad_len s
  have hpm := rPad_mod s
  obtain ⟨q, hq⟩ : ∃ q, q = s.length / 64 := ⟨_, rfl⟩
  have hq1 : 64 * q ≤ s.length := by omega
  have hq2 : s.length < 64 * q + 64 := by omega
  have hn : q < (rPad s).length / 64 := by omega
  intro l J Jx hY L hJ
  have e128 : EncC (.raw (.int .u8 128)) eBy (128 : UInt8) := (inferInstance : EncC (.raw (.int .u8 (((128 : UInt8)).toNat : Int))) eBy 128)
  have e0 : EncC (.raw (.int .u8 0)) eBy (0 : UInt8) := (inferInstance : EncC (.raw (.int .u8 (((0 : UInt8)).toNat : Int))) eBy 0)
  have hpre : ∀ k, (blks s).take k <+: blks s := fun k => List.take_prefix _ _
  refine pcalls_bd Tryz.func172 rfl Tryz.ntmps172 (rs := []) rfl rfl fun hb LF => ?_
  refine wf ?_
  refine s_quoL (by rfl) (by rfl) (by decide) (by omega) ?_
  rw [show s.length / (@OfNat.ofNat Nat 64 _) = q from hq.symm]
  refine wf ?_
  refine pwp_loopS (σ := Nat × List Res) (fun k => k.1 ≤ q ∧ J ((blks s).take k.1) k.2) (fun k => q - k.1) (fun k => [(0, .raw (.func (.yield l) #[] #[])), (1, .pt [.str s] 0), (3, .raw (.int .i64 ((64 * q : Nat) : Int))), (4, .raw (.int .i64 ((64 * k.1 : Nat) : Int)))]) (fun k => k.2 ++ LF) (0, L) ⟨by simp, hJ⟩ ⟨rfl, rfl, ?_, rfl⟩ (.refl _) ?_
  · show PV.raw (.int .i64 ((q : Int) * 64)) = _
    rw [show ((q : Int) * 64) = ((64 * q : Nat) : Int) by omega]
  rintro ⟨k, L1⟩ ⟨hk, hJ1⟩
  dsimp only at hk hJ1 ⊢
  refine wf ?_
  refine pwp_condD (fun hc => ?_) (fun hc => ?_)
  · have hkq : k < q := by omega
    have hb := blk_whole (s := s) (k := k) (by omega)
    have hbt := blks_take s (k := k) (by omega)
    refine wf ?_
    refine s_cutS (ax := .str s) (i := 64 * k) (j := 64 * k + 64) rfl rfl (by show PV.raw (.int .i64 (((64 * k : Nat) : Int) + 64)) = _; rw [show (((64 * k : Nat) : Int) + 64) = ((64 * k + 64 : Nat) : Int) by omega]) (by omega) (by omega) (by omega) ?_
    rw [show 64 * k + 64 - 64 * k = 64 by omega, ← hb]
    refine s_yield L1 LF rfl rfl rfl (.refl _) _ (hY ((blks s).take k) (blk (rPad s) k) L1 (by rw [← hbt]; exact hpre _) hJ1) fun bo L' hR => ?_
    refine wf ?_
    rw [← hbt] at hR
    rcases hR with ⟨rfl, hJ2⟩ | ⟨rfl, hJx⟩
    · refine wf ?_
      refine ⟨(k + 1, L'), ⟨by dsimp only; omega, hJ2⟩, by dsimp only; omega, ⟨rfl, rfl, rfl, ?_⟩, .refl _⟩
      show PV.raw (.int .i64 (((64 * k : Nat) : Int) + 64)) = _
      rw [show (((64 * k : Nat) : Int) + 64) = ((64 * (k + 1) : Nat) : Int) by omega]
    · refine wf ?_
      exact ⟨trivial, _, L', .nil, .refl _, .inr ⟨_, hJx⟩⟩
  · have hkq : k = q := by omega
    subst hkq
    refine wf ?_
    refine s_toBytes (ax := .str (s.drop (64 * k))) rfl (by rw [List.length_drop]; omega) fun t => ?_
    refine wfa fun t1 => ?_
    have hdl : (s.drop (64 * k)).length = s.length - 64 * k := List.length_drop
    refine pwp_loopS (σ := Nat × Tag) (fun j => j.1 ≤ (120 - (s.length + 1) % 64) % 64) (fun j => (120 - (s.length + 1) % 64) % 64 - j.1) (fun j => [(0, .raw (.func (.yield l) #[] #[])), (1, .pt [.str s] 0), (5, .slice (((s.drop (64 * k) ++ [128]) ++ List.replicate j.1 0).map eBy) j.2)]) (fun j => .tok j.2 ((s.drop (64 * k) ++ [128]) ++ List.replicate j.1 0).length 1 :: (L1 ++ LF)) (0, t1) (by simp) ⟨rfl, rfl, ?_⟩ ?_ ?_
    · rw [List.replicate_zero, List.append_nil]; rfl
    · rw [List.replicate_zero, List.append_nil]; exact .refl _
    rintro ⟨j, t2⟩ hj
    dsimp only at hj ⊢
    have hjl : ((s.drop (64 * k) ++ [128]) ++ List.replicate j (0 : UInt8)).length = s.length - 64 * k + 1 + j := by simp [hdl]; omega
    refine wf ?_
    refine s_remL (by rfl) (by rfl) (by decide) ?_
    refine wf ?_
    refine pwp_condN (fun hc2 => ?_) (fun hc2 => ?_)
    · have hlt : j < (120 - (s.length + 1) % 64) % 64 := by
        rcases Nat.lt_or_ge j ((120 - (s.length + 1) % 64) % 64) with h | h
        · exact h
        · exfalso
          apply hc2
          rw [hjl]
          omega
      generalize hmj : (s.drop (64 * k) ++ [128]) ++ List.replicate j (0 : UInt8) = mj at hjl ⊢
      refine wfa fun t3 => ?_
      refine ⟨(j + 1, t3), by dsimp only; omega, by dsimp only; omega, ⟨rfl, rfl, ?_⟩, ?_⟩
      · dsimp only
        rw [List.replicate_succ', ← List.append_assoc, hmj]; rfl
      · dsimp only
        rw [List.replicate_succ', ← List.append_assoc, hmj]; exact .refl _
    have hjz : j = (120 - (s.length + 1) % 64) % 64 := by
      rw [hjl] at hc2
      omega
    subst hjz
    generalize hm0 : (s.drop (64 * k) ++ [128]) ++ List.replicate ((120 - (s.length + 1) % 64) % 64) (0 : UInt8) = m0 at hjl ⊢
    refine wf ?_
    refine pwp_loopS (σ := Nat × Tag) (fun j => j.1 ≤ 8) (fun j => 8 - j.1) (fun j => [(0, .raw (.func (.yield l) #[] #[])), (1, .pt [.str s] 0), (5, .slice ((m0 ++ padTail (s.length * 8) j.1).map eBy) j.2), (6, .raw (.int .i64 (56 - 8 * (j.1 : Int))))]) (fun j => .tok j.2 (m0 ++ padTail (s.length * 8) j.1).length 1 :: (L1 ++ LF)) (0, t2) (by simp) ⟨rfl, rfl, ?_, rfl⟩ ?_ ?_
    · show _ = PV.slice ((m0 ++ []).map eBy) _
      rw [List.append_nil]; rfl
    · show List.Sublist (_ :: _) (_ :: _)
      rw [show m0 ++ padTail (s.length * 8) 0 = m0 from List.append_nil _]; exact .refl _
    rintro ⟨j, t3⟩ hj8
    dsimp only at hj8 ⊢
    have hpt : (m0 ++ padTail (s.length * 8) j).length = s.length - 64 * k + 1 + (120 - (s.length + 1) % 64) % 64 + j := by simp [padTail, hjl]
    refine wf ?_
    refine pwp_condD (fun hc3 => ?_) (fun hc3 => ?_)
    · generalize hmj : m0 ++ padTail (s.length * 8) j = mj at hpt ⊢
      refine wf ?_
      refine s_mulU (b := 8) (by rfl) (by rfl) (by omega) ?_
      refine wf ?_
      refine s_shrUI (b := 8 * (7 - j)) (by rfl) (by show PV.raw (.int .i64 (56 - 8 * (j : Int))) = _; rw [show (56 - 8 * (j : Int)) = ((8 * (7 - j) : Nat) : Int) by omega]) ?_
      refine wfa fun t4 => ?_
      refine ⟨(j + 1, t4), by dsimp only; omega, by dsimp only; omega, ⟨rfl, rfl, ?_, ?_⟩, ?_⟩
      · dsimp only
        rw [padTail_succ, ← List.append_assoc, hmj]; rfl
      · show PV.raw (.int .i64 (56 - 8 * (j : Int) - 8)) = PV.raw (.int .i64 (56 - 8 * ((j + 1 : Nat) : Int)))
        rw [show (56 - 8 * (j : Int) - 8) = 56 - 8 * ((j + 1 : Nat) : Int) by omega]
      · dsimp only
        rw [padTail_succ, ← List.append_assoc, hmj]; exact .refl _
    have hj : j = 8 := by omega
    subst hj
    have hm1 : m0 ++ padTail (s.length * 8) 8 = (rPad s).drop (64 * k) := by rw [rPad_split s (64 * k) hq1, ← hm0]
    rw [hm1] at hpt ⊢
    refine wf ?_
    refine pwp_loopS (σ := Nat × List Res) (fun i => k + i.1 ≤ (rPad s).length / 64 ∧ J ((blks s).take (k + i.1)) i.2) (fun i => (rPad s).length / 64 - (k + i.1)) (fun i => [(0, .raw (.func (.yield l) #[] #[])), (5, .slice (((rPad s).drop (64 * k)).map eBy) t3), (7, .raw (.int .i64 ((64 * i.1 : Nat) : Int)))]) (fun i => i.2 ++ LF) (0, L1) ⟨by dsimp only; omega, hJ1⟩ ⟨rfl, rfl, rfl⟩ (.cons _ (.refl _)) ?_
    rintro ⟨i, L2⟩ ⟨hi, hJ2⟩
    dsimp only at hi hJ2 ⊢
    refine wf ?_
    refine pwp_condD (fun hc4 => ?_) (fun hc4 => ?_)
    · have hbt := blks_take s (k := k + i) (by omega)
      refine wf ?_
      refine s_cutLH (i := 64 * i) (j := 64 * i + 64) rfl rfl (by show PV.raw (.int .i64 (((64 * i : Nat) : Int) + 64)) = _; rw [show (((64 * i : Nat) : Int) + 64) = ((64 * i + 64 : Nat) : Int) by omega]) (by omega) (by omega) ?_
      refine wf ?_
      have e : (((rPad s).drop (64 * k)).drop (64 * i)).take (64 * i + 64 - 64 * i) = blk (rPad s) (k + i) := by
        rw [List.drop_drop, blk, show 64 * i + 64 - 64 * i = 64 by omega, show 64 * k + 64 * i = 64 * (k + i) by omega]
      rw [e]
      refine s_yield L2 LF rfl rfl rfl (.refl _) _ (hY ((blks s).take (k + i)) (blk (rPad s) (k + i)) L2 (by rw [← hbt]; exact hpre _) hJ2) fun bo L' hR => ?_
      refine wf ?_
      rw [← hbt] at hR
      rcases hR with ⟨rfl, hJ3⟩ | ⟨rfl, hJx⟩
      · refine wf ?_
        refine ⟨(i + 1, L'), ⟨by dsimp only; omega, hJ3⟩, by dsimp only; omega, ⟨rfl, rfl, ?_⟩, .refl _⟩
        show PV.raw (.int .i64 (((64 * i : Nat) : Int) + 64)) = _
        rw [show (((64 * i : Nat) : Int) + 64) = ((64 * (i + 1) : Nat) : Int) by omega]
      · refine wf ?_
        exact ⟨trivial, _, L', .nil, .refl _, .inr ⟨_, hJx⟩⟩
    · have hie : k + i = (rPad s).length / 64 := by omega
      rw [hie, List.take_of_length_le (by simp [blks])] at hJ2
      refine wf ?_
      exact ⟨trivial, _, L2, .nil, .refl _, .inl hJ2⟩
end Go.Proofs
