/- Plain: the states that answers reach. -/
import Derived.Test.YtddlffkdpocmhaaGreatDoorWas
import Derived.Test.YtddlffkdpocmhaaGreatDoorWar
import Derived.Test.YtddlffkdpocmhaaGreatDoorWaq
set_option linter.unusedSimpArgs false
set_option linter.unusedVariables false
namespace Go.Proofs
open Go Go.Q

def reachStep (s : List Sto) (k : Bis × Int) (bad : Bool) : Bis × Int := if k.2 ≠ 0 ∨ k.1.left.length < 2 then k else tellP s k.1 bad
def reachP (s : List Sto) (l : List Bool) : Bis × Int := l.foldl (reachStep s) (startP s)
theorem reach_succ (s : List Sto) {l : List Bool} {k : Nat} (h : k < l.length) : reachP s (l.take (k + 1)) = reachStep s (reachP s (l.take k)) l[k] := by
  rw [List.take_succ_eq_append_getElem h, reachP, List.foldl_append]; rfl
/-- A state that some answers reach. -/
structure Reached (s : List Sto) (l : List Bool) (b : Bis) : Prop where
  fol : followP s b (ids s) = true
  pos : 0 < b.left.length
  pre : b.bad <+: l
  full : 2 ≤ b.left.length → b.bad = l
  nd : b.asked.Nodup
  apart : ∀ p ∈ b.asked, p ∈ b.left → ∀ x ∈ b.left, x ∈ cloS s p
theorem check_of {s : List Sto} {b : Bis} (h0 : s.length ≠ 0) (h : followP s b (ids s) = true) : checkP s b = 0 := by
  rw [checkP, if_neg h0, if_neg (by simp [h])]
theorem tell_of {s : List Sto} {b : Bis} (h0 : s.length ≠ 0) (h : followP s b (ids s) = true) (h2 : 2 ≤ b.left.length) (bad : Bool) : tellP s b bad = (⟨aft s b.left (questP (cloS s) b.left) bad, b.asked ++ [questP (cloS s) b.left], b.bad ++ [bad]⟩, 0) := by
  rw [tellP, if_neg (by simp [check_of h0 h]), if_neg (by omega)]
theorem mem_aft_true {s : List Sto} {left : List Dig} {p x : Dig} (h : x ∈ aft s left p true) : x ∈ cloS s p := by
  have h := (List.mem_filter.1 h).2
  simpa using h
theorem mem_aft_false {s : List Sto} {left : List Dig} {p x : Dig} (h : x ∈ aft s left p false) : x ∉ cloS s p := by
  have h := (List.mem_filter.1 h).2
  simpa using h
theorem Valid.self {s : List Sto} (v : Valid s) {p : Dig} (hp : p ∈ ids s) : p ∈ cloS s p := (v.mem_clo hp p).2 (.base (by simp))
/-- What is known of the question that is due. -/
theorem Valid.quest {s : List Sto} (v : Valid s) {left : List Dig} (hl : ∀ x ∈ left, x ∈ ids s) (hn : left.Nodup) (h2 : 2 ≤ left.length) :
    questP (cloS s) left ∈ left ∧ 0 < (inC (cloS s (questP (cloS s) left)) left).length ∧ 0 < (outC (cloS s (questP (cloS s) left)) left).length := by
  have hP := v.parts hl hn
  obtain ⟨h, hm⟩ := questR_pos (cloS s) hP h2
  rw [← questP_eq (cloS s) hP h2] at h hm
  unfold even at h
  exact ⟨hm, by omega, by omega⟩
theorem Reached.tell {s : List Sto} (v : Valid s) {l : List Bool} {b : Bis} (h : Reached s l b) (h2 : 2 ≤ b.left.length) (bad : Bool) :
    Reached s (l ++ [bad]) ⟨aft s b.left (questP (cloS s) b.left) bad, b.asked ++ [questP (cloS s) b.left], b.bad ++ [bad]⟩ := by
  obtain ⟨_, _, hl, hn⟩ := follow_facts v h.fol
  obtain ⟨hm, hi, ho⟩ := v.quest hl hn h2
  have hb := h.full h2
  refine ⟨tell_follow h.fol h2 bad, ?_, ?_, fun _ => ?_, ?_, ?_⟩
  · dsimp only [aft]; split <;> assumption
  · dsimp only; rw [hb]; exact List.prefix_refl _
  · dsimp only; rw [hb]
  · refine List.nodup_append.2 ⟨h.nd, by simp, ?_⟩
    intro a ha c hc e
    simp only [List.mem_singleton] at hc
    rw [hc] at e
    rw [e] at ha
    have := h.apart _ ha hm
    have e : outC (cloS s (questP (cloS s) b.left)) b.left = [] := List.filter_eq_nil_iff.2 fun x hx => by simp [this x hx]
    rw [e] at ho
    exact absurd ho (by simp)
  · intro p hp hpl x hx
    dsimp only at hp hpl hx
    rcases List.mem_append.1 hp with hp | hp
    · exact h.apart p hp (aft_sub hpl) x (aft_sub hx)
    · simp only [List.mem_singleton] at hp
      subst hp
      cases bad with
      | true => exact mem_aft_true hx
      | false => exact absurd (v.self (hl _ hm)) (mem_aft_false hpl)
theorem reach_facts {s : List Sto} (v : Valid s) (h0 : s.length ≠ 0) (l : List Bool) : ∀ k, k ≤ l.length → (reachP s (l.take k)).2 = 0 ∧ Reached s (l.take k) (reachP s (l.take k)).1
  | 0, _ => by
    have e : reachP s (l.take 0) = (⟨ids s, [], []⟩, 0) := by
      rw [List.take_zero]
      show startP s = _
      rw [startP, if_neg h0]
    rw [e]
    refine ⟨rfl, decide_eq_true ⟨rfl, rfl⟩, ?_, List.prefix_refl _, fun _ => rfl, List.nodup_nil, fun p hp => ?_⟩
    · dsimp only; rw [ids_len]; omega
    · cases hp
  | k + 1, hk => by
    obtain ⟨h1, h2⟩ := reach_facts v h0 l k (by omega)
    rw [reach_succ s (by omega), reachStep]
    by_cases h3 : (reachP s (l.take k)).1.left.length < 2
    · rw [if_pos (.inr h3)]
      have ht := List.take_succ_eq_append_getElem (show k < l.length by omega)
      refine ⟨h1, h2.fol, h2.pos, ?_, fun h => absurd h (by omega), h2.nd, h2.apart⟩
      rw [ht]
      exact h2.pre.trans (List.prefix_append _ _)
    · rw [if_neg (by omega), tell_of h0 h2.fol (by omega)]
      refine ⟨rfl, ?_⟩
      rw [List.take_succ_eq_append_getElem (show k < l.length by omega)]
      exact h2.tell v (by omega) _
theorem reach_all {s : List Sto} (v : Valid s) (h0 : s.length ≠ 0) (l : List Bool) : (reachP s l).2 = 0 ∧ Reached s l (reachP s l).1 := by
  have := reach_facts v h0 l l.length (Nat.le_refl _)
  rwa [List.take_length] at this
end Go.Proofs
/- Contracts of the library: IndexFunc and ContainsFunc over digests, over stored patches; the two closures of BisectFinds. -/
namespace Go.Proofs
open Go Go.Q
attribute [local irreducible] pwp pops PCalls OpN

def idxF {α : Type} (p : α → Bool) (l : List α) : Int := if l.any p = true then (l.findIdx p : Int) else -1
theorem findIdx_first {α : Type} {p : α → Bool} {l : List α} {k : Nat} (hk : k < l.length) (hn : (l.take k).any p = false) (e : p l[k] = true) : l.findIdx p = k := by
  refine List.findIdx_eq hk |>.2 ⟨e, fun j hj => ?_⟩
  have := List.any_eq_false.1 hn (l[j]) (List.mem_take_iff_getElem.2 ⟨j, by omega, rfl⟩)
  simpa using this
theorem indexD_fn (F : Nat) (cs : List PV) (p : Dig → Bool) [hF : TFun Tryz.prog F] [hp : ∀ d, FnC Tryz.prog F (.agg (eDig d) :: cs) (.raw (.bool (p d)))] (l : List Dig) (t : Tag) :
    FnC Tryz.prog 79 [.slice (l.map eDig) t, .clo F cs] (.raw (.int .i64 (idxF p l))) := ⟨by
  refine fn_of Tryz.func79 Tryz.ntmps79 rfl (rs := [.tmp 4]) rfl rfl fun hb LF => ?_
  have hlen : l.length ≤ 140737488355328 := (hb (.slice (l.map eDig) t) (by simp)).slice_map
  refine wf ?_
  refine pwp_loopS (σ := Nat) (fun k => k ≤ l.length ∧ (l.take k).any p = false) (fun k => l.length - k) (fun k => [(0, .slice (l.map eDig) t), (1, .clo F cs), (7, .raw (.int .i64 l.length)), (8, .raw (.int .i64 k))]) (fun _ => LF) 0 ⟨by simp, by simp⟩ ⟨rfl, rfl, rfl, rfl⟩ (.refl _) ?_
  rintro k ⟨hk, hn⟩
  refine wf ?_
  refine pwp_condD (fun hc => ?_) (fun hc => ?_)
  · have hlt : k < l.length := by omega
    refine wf ?_
    refine pwp_condB (fun h => ?_) (fun h => ?_)
    · refine wf ?_
      refine end1 (.of_eq ?_)
      have e : l.any p = true := List.any_eq_true.2 ⟨l[k], List.getElem_mem hlt, h⟩
      rw [idxF, if_pos e, findIdx_first hlt hn h]
    · refine wf ?_
      refine ⟨k + 1, ⟨by omega, ?_⟩, by dsimp only; omega, ⟨rfl, rfl, rfl, rfl⟩, .refl _⟩
      rw [List.take_succ_eq_append_getElem hlt, List.any_append, hn]
      simp [h]
  · refine wf ?_
    refine end1 (.of_eq ?_)
    rw [List.take_of_length_le (by omega)] at hn
    rw [idxF, if_neg (by simp [hn])]⟩
theorem containsD_fn (F : Nat) (cs : List PV) (p : Dig → Bool) [hF : TFun Tryz.prog F] [hp : ∀ d, FnC Tryz.prog F (.agg (eDig d) :: cs) (.raw (.bool (p d)))] (l : List Dig) (t : Tag) :
    FnC Tryz.prog 35 [.slice (l.map eDig) t, .clo F cs] (.raw (.bool (l.any p))) := ⟨by
  have i1 : ∀ t, FnC Tryz.prog 79 [.slice (l.map eDig) t, .clo F cs] (.raw (.int .i64 (idxF p l))) := indexD_fn F cs p l
  refine fn_of Tryz.func35 Tryz.ntmps35 rfl (rs := [.tmp 4]) rfl rfl fun hb LF => ?_
  refine wf ?_
  refine end1 (.of_eq ?_)
  cases h : l.any p <;> simp [idxF, h]⟩
theorem indexS_fn (F : Nat) (cs : List PV) (p : Sto → Bool) [hF : TFun Tryz.prog F] [hp : ∀ d, FnC Tryz.prog F (.agg (eSto d) :: cs) (.raw (.bool (p d)))] (l : List Sto) (t : Tag) :
    FnC Tryz.prog 80 [.slice (l.map eSto) t, .clo F cs] (.raw (.int .i64 (idxF p l))) := ⟨by
  refine fn_of Tryz.func80 Tryz.ntmps80 rfl (rs := [.tmp 4]) rfl rfl fun hb LF => ?_
  have hlen : l.length ≤ 140737488355328 := (hb (.slice (l.map eSto) t) (by simp)).slice_map
  refine wf ?_
  refine pwp_loopS (σ := Nat) (fun k => k ≤ l.length ∧ (l.take k).any p = false) (fun k => l.length - k) (fun k => [(0, .slice (l.map eSto) t), (1, .clo F cs), (7, .raw (.int .i64 l.length)), (8, .raw (.int .i64 k))]) (fun _ => LF) 0 ⟨by simp, by simp⟩ ⟨rfl, rfl, rfl, rfl⟩ (.refl _) ?_
  rintro k ⟨hk, hn⟩
  refine wf ?_
  refine pwp_condD (fun hc => ?_) (fun hc => ?_)
  · have hlt : k < l.length := by omega
    refine wf ?_
    refine pwp_condB (fun h => ?_) (fun h => ?_)
    · refine wf ?_
      refine end1 (.of_eq ?_)
      have e : l.any p = true := List.any_eq_true.2 ⟨l[k], List.getElem_mem hlt, h⟩
      rw [idxF, if_pos e, findIdx_first hlt hn h]
    · refine wf ?_
      refine ⟨k + 1, ⟨by omega, ?_⟩, by dsimp only; omega, ⟨rfl, rfl, rfl, rfl⟩, .refl _⟩
      rw [List.take_succ_eq_append_getElem hlt, List.any_append, hn]
      simp [h]
  · refine wf ?_
    refine end1 (.of_eq ?_)
    rw [List.take_of_length_le (by omega)] at hn
    rw [idxF, if_neg (by simp [hn])]⟩
theorem containsS_fn (F : Nat) (cs : List PV) (p : Sto → Bool) [hF : TFun Tryz.prog F] [hp : ∀ d, FnC Tryz.prog F (.agg (eSto d) :: cs) (.raw (.bool (p d)))] (l : List Sto) (t : Tag) :
    FnC Tryz.prog 37 [.slice (l.map eSto) t, .clo F cs] (.raw (.bool (l.any p))) := ⟨by
  have i1 : ∀ t, FnC Tryz.prog 80 [.slice (l.map eSto) t, .clo F cs] (.raw (.int .i64 (idxF p l))) := indexS_fn F cs p l
  refine fn_of Tryz.func37 Tryz.ntmps37 rfl (rs := [.tmp 4]) rfl rfl fun hb LF => ?_
  refine wf ?_
  refine end1 (.of_eq ?_)
  cases h : l.any p <;> simp [idxF, h]⟩
instance finds1_ct (l : List Dig) (t : Tag) (d : Dig) : FnC Tryz.prog 36 [.agg (eDig d), .pt [.slice (l.map eDig) t] 0] (.raw (.bool (decide (d ∈ l)))) := ⟨by
  refine fn_of Tryz.func36 Tryz.ntmps36 rfl (rs := [.tmp 3]) rfl rfl fun hb LF => ?_
  refine wf ?_
  exact end1 (.refl _)⟩
instance finds2_ct (l : List Dig) (t : Tag) (x : Sto) : FnC Tryz.prog 38 [.agg (eSto x), .pt [.slice (l.map eDig) t] 0] (.raw (.bool (decide (x.id ∈ l)))) := ⟨by
  refine fn_of Tryz.func38 Tryz.ntmps38 rfl (rs := [.tmp 3]) rfl rfl fun hb LF => ?_
  refine wf ?_
  exact end1 (.refl _)⟩
instance findsC1_ct (l m : List Dig) (t u : Tag) : FnC Tryz.prog 35 [.slice (l.map eDig) t, .clo 36 [.pt [.slice (m.map eDig) u] 0]] (.raw (.bool (l.any fun d => decide (d ∈ m)))) := containsD_fn _ _ _ l t
instance findsC2_ct (l : List Sto) (m : List Dig) (t u : Tag) : FnC Tryz.prog 37 [.slice (l.map eSto) t, .clo 38 [.pt [.slice (m.map eDig) u] 0]] (.raw (.bool (l.any fun x => decide (x.id ∈ m)))) := containsS_fn _ _ _ l t
end Go.Proofs
/- Plain: a search among bad patches. -/
namespace Go.Proofs
open Go Go.Q

theorem Reach.trans' {nd : Dig → List Dig} {q p x : Dig} (h : Q.Reach nd [q] p) (h2 : Q.Reach nd [p] x) : Q.Reach nd [q] x := by
  induction h2 with
  | base hd => rw [List.mem_singleton.1 hd]; exact h
  | step _ hd ih => exact .step ih hd
theorem Valid.clo_sub {s : List Sto} (v : Valid s) {p : Dig} (hp : p ∈ ids s) {x : Dig} (h : x ∈ cloS s p) : x ∈ ids s :=
  ((v.mem_clo hp x).1 h).in_ (fun x _ d hd => v.close.nd x d hd) (fun d hd => by rw [List.mem_singleton.1 hd]; exact hp)
theorem Valid.clo_trans {s : List Sto} (v : Valid s) {q p x : Dig} (hq : q ∈ ids s) (hp : p ∈ cloS s q) (hx : x ∈ cloS s p) : x ∈ cloS s q :=
  (v.mem_clo hq x).2 (Reach.trans' ((v.mem_clo hq p).1 hp) ((v.mem_clo (v.clo_sub hq hp) x).1 hx))
/-- The search is on the track of a bad patch. -/
structure Hunt (s : List Sto) (B : List Dig) (b : Bis) : Prop where
  fol : followP s b (ids s) = true
  trk : ∃ U : Dig → Prop, (∃ x, U x ∧ x ∈ B) ∧ (∀ x, U x → x ∈ B → x ∈ b.left) ∧ (∀ p ∈ b.left, ∀ x ∈ cloS s p, U x)
theorem hunt_start {s : List Sto} (v : Valid s) {B : List Dig} (h : ((ids s).any fun d => decide (d ∈ B)) = true) : Hunt s B ⟨ids s, [], []⟩ := by
  refine ⟨decide_eq_true ⟨rfl, rfl⟩, (· ∈ ids s), ?_, fun x h _ => h, fun p hp x hx => v.clo_sub hp hx⟩
  obtain ⟨x, h1, h2⟩ := List.any_eq_true.1 h
  exact ⟨x, h1, of_decide_eq_true h2⟩
/-- The test of the patches that a question asks about. -/
def testB (s : List Sto) (B : List Dig) (q : Dig) : Bool := (keepS s (cloS s q)).any fun x => decide (x.id ∈ B)
theorem testB_iff {s : List Sto} (v : Valid s) {B : List Dig} {q : Dig} (hq : q ∈ ids s) : testB s B q = true ↔ ∃ x, x ∈ cloS s q ∧ x ∈ B := by
  unfold testB
  rw [List.any_eq_true]
  constructor
  · rintro ⟨x, hx, h⟩
    have := (List.mem_filter.1 hx).2
    exact ⟨x.id, by simpa using this, of_decide_eq_true h⟩
  · rintro ⟨d, h1, h2⟩
    obtain ⟨x, hx, rfl⟩ := List.mem_map.1 (v.clo_sub hq h1)
    exact ⟨x, List.mem_filter.2 ⟨hx, by simpa using h1⟩, decide_eq_true h2⟩
theorem Hunt.tell {s : List Sto} (v : Valid s) {B : List Dig} {b : Bis} (h : Hunt s B b) (h2 : 2 ≤ b.left.length) :
    Hunt s B ⟨aft s b.left (questP (cloS s) b.left) (testB s B (questP (cloS s) b.left)), b.asked ++ [questP (cloS s) b.left], b.bad ++ [testB s B (questP (cloS s) b.left)]⟩ := by
  obtain ⟨_, _, hl, hn⟩ := follow_facts v h.fol
  obtain ⟨hm, _, _⟩ := v.quest hl hn h2
  have hq := hl _ hm
  refine ⟨tell_follow h.fol h2 _, ?_⟩
  obtain ⟨U, ⟨x0, u0, b0⟩, h3, h4⟩ := h.trk
  dsimp only
  cases ht : testB s B (questP (cloS s) b.left) with
  | true =>
    obtain ⟨x, k1, k2⟩ := (testB_iff v hq).1 ht
    refine ⟨(· ∈ cloS s (questP (cloS s) b.left)), ⟨x, k1, k2⟩, fun y hy hB => ?_, fun p hp y hy => v.clo_trans hq (mem_aft_true hp) hy⟩
    exact List.mem_filter.2 ⟨h3 y (h4 _ hm y hy) hB, by simpa using hy⟩
  | false =>
    refine ⟨U, ⟨x0, u0, b0⟩, fun y hy hB => ?_, fun p hp y hy => h4 p (aft_sub hp) y hy⟩
    refine List.mem_filter.2 ⟨h3 y hy hB, ?_⟩
    have : ¬ y ∈ cloS s (questP (cloS s) b.left) := fun hc => by
      have := (testB_iff v hq (B := B)).2 ⟨y, hc, hB⟩
      rw [ht] at this
      cases this
    simpa using this
theorem Hunt.pos {s : List Sto} {B : List Dig} {b : Bis} (h : Hunt s B b) : 0 < b.left.length := by
  obtain ⟨U, ⟨x, u, hB⟩, h3, _⟩ := h.trk
  exact List.length_pos_of_mem (h3 x u hB)
/-- Where one candidate is left, it is bad. -/
theorem Hunt.found {s : List Sto} {B : List Dig} {b : Bis} (h : Hunt s B b) (h1 : b.left.length = 1) : b.left.getD 0 Dig.zero ∈ B := by
  obtain ⟨U, ⟨x, u, hB⟩, h3, _⟩ := h.trk
  obtain ⟨d, hd⟩ := List.length_eq_one_iff.1 h1
  have := h3 x u hB
  rw [hd] at this ⊢
  rw [List.mem_singleton.1 this] at hB
  exact hB
theorem worst_aft {s : List Sto} (v : Valid s) {left : List Dig} (hl : ∀ x ∈ left, x ∈ ids s) (hn : left.Nodup) (h2 : 2 ≤ left.length) {n : Nat} (hN : left.length ≤ n) (bad : Bool) :
    1 + worst (cloS s) n (aft s left (questP (cloS s) left) bad) ≤ worst (cloS s) n left := by
  rw [worst_fuel (cloS s) n (n + 1) left (fun l _ hx hn => v.parts (fun x hx' => hl x (hx x hx')) hn) hn hN (by omega)]
  have hP := v.parts hl hn
  have hpos := (questR_pos (cloS s) hP h2).1
  unfold even at hpos
  rw [worst, if_neg (by omega), if_neg (by omega), questP_eq (cloS s) hP h2]
  unfold aft
  split <;> omega
end Go.Proofs
