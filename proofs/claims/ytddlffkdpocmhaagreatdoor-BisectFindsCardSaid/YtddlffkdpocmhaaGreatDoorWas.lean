/- BisectDeepest's contract: it answers true, whatever the set. -/
import Derived.Test.YtddlffkdpocmhaaGreatDoorWar
import Derived.Test.YtddlffkdpocmhaaGreatDoorWaq
set_option linter.unusedSimpArgs false
set_option linter.unusedVariables false
namespace Go.Proofs
open Go Go.Q
attribute [local irreducible] pwp pops PCalls OpN

section
variable {P : Program} {N : Nat} {all : Array Oper} {K : Env → List Res → Prop} {fl : List Bool} {os : List Oper} {ρ : Env} {L : List Res} {d : Nat} {ty : TypeId} {pos : String} {af : Array Edge}
theorem s_shlI {T T' : TypeId} {x y : Operand} {n : Int} (hx : ρ.ev x = .raw (.int .i64 1)) (hy : ρ.ev y = .raw (.int .i64 n)) (hn : 0 ≤ n ∧ n < 10) (k : pops P N all K fl.tail os (upd ρ d (.raw (.int .i64 ((2 ^ n.toNat : Nat) : Int)))) L) (hd : Nat.blt d N = true := by rfl) :
    pops P N all K fl (⟨some d, .binOp .shl T x y T', ty, pos, af, none⟩ :: os) ρ L := s_int hx hy (fun w => by
  have h0 : ¬ n < 0 := by omega
  have key : ∀ m : Nat, m < 10 → IntKind.wrap .i64 (1 * 2 ^ m) = ((2 ^ m : Nat) : Int) := by decide
  have hm : min n.toNat (IntKind.bits .i64) = n.toNat := by simp only [IntKind.bits]; omega
  simp only [binOp, Op.shift, h0, if_false, hm, key n.toNat (by omega)]
  rfl) k hd
end
theorem deepF_bd (s : List Sto) : ∀ (n : Nat) (b : Bis), 0 ≤ deepF s n b ∧ deepF s n b ≤ n
  | 0, _ => by simp [deepF]
  | n + 1, b => by
    rw [deepF]
    split
    · omega
    have h1 := deepF_bd s n (tellP s b false).1
    have h2 := deepF_bd s n (tellP s b true).1
    simp only [List.foldl_cons, List.foldl_nil]
    split <;> split <;> omega
def deepStep (s : List Sto) (n : Nat) (b : Bis) (m : Int) (bad : Bool) : Int := if (tellP s b bad).2 = 0 then max m (1 + deepF s n (tellP s b bad).1) else m
set_option maxHeartbeats 2000000 in
theorem deepest_fn (s : List Sto) (v : Valid s) (t : Tag) : ∀ (n : Nat) (b : Bis), n ≤ 10 → FnC Tryz.prog 20 [.slice (s.map eSto) t, .agg (eBis b), .raw (.int .i64 (n : Int))] (.raw (.int .i64 (deepF s n b)))
  | 0, b, _ => ⟨by
    have i1 : Small (Valid s) := ⟨v⟩
    refine fn_of Tryz.func20 Tryz.ntmps20 rfl (rs := [.tmp 6]) rfl rfl fun hb LF => ?_
    refine wf ?_
    refine s_alloc fun b7 => ?_
    refine wo ?_
    refine pops_nil ?_
    refine pwp_freezeD 7 ?_
    refine wf ?_
    refine pops_if (fun hp => ?_) (fun hp => ?_)
    · refine wf ?_
      refine end1 (.of_eq ?_)
      rfl
    · refine wf ?_
      refine end1 (.of_eq ?_)
      rfl⟩
  | n + 1, b, hn => ⟨by
    have i1 : Small (Valid s) := ⟨v⟩
    have ih : ∀ b, FnC Tryz.prog 20 [.slice (s.map eSto) t, .agg (eBis b), .raw (.int .i64 (((n + 1 : Nat) : Int) - 1))] (.raw (.int .i64 (deepF s n b))) := fun b => by
      rw [show (((n + 1 : Nat) : Int) - 1) = (n : Int) by omega]
      exact deepest_fn s v t n b (by omega)
    refine fn_of Tryz.func20 Tryz.ntmps20 rfl (rs := [.tmp 6]) rfl rfl fun hb LF => ?_
    refine wf ?_
    refine s_alloc fun b7 => ?_
    refine wo ?_
    refine pops_nil ?_
    refine pwp_freezeD 7 ?_
    refine wf ?_
    refine pops_if (fun hp => ?_) (fun hp => ?_)
    · refine wf ?_
      refine end1 (.of_eq ?_)
      rw [deepF, if_pos (by simpa using hp)]
    have hmore : ¬ (nextP s b).2.2 = false := by simpa using hp
    refine wf ?_
    refine pwp_loopS (σ := Nat × Int) (fun k => k.1 ≤ 2 ∧ k.2 = ([false, true].take k.1).foldl (deepStep s n b) 0 ∧ 0 ≤ k.2 ∧ k.2 ≤ 100) (fun k => 2 - k.1) (fun k => [(0, .slice (s.map eSto) t), (2, .raw (.int .i64 ((n + 1 : Nat) : Int))), (4, .pt (eBis b) 0), (10, .raw (.int .i64 k.2)), (28, .slice ([false, true].map eB) .ro), (29, .raw (.int .i64 2)), (30, .raw (.int .i64 k.1))]) (fun _ => LF) (0, 0) ⟨by simp, by simp, by simp, by simp⟩ ⟨rfl, rfl, rfl, rfl, rfl, rfl, rfl⟩ (.refl _) ?_
    rintro ⟨k, m⟩ ⟨hk, hm, hm0, hm1⟩
    dsimp only at hk hm hm0 hm1 ⊢
    refine wf ?_
    refine pwp_condD (fun hc => ?_) (fun hc => ?_)
    · have hlt : k < [false, true].length := by simp only [List.length_cons, List.length_nil]; omega
      have ht : [false, true].take (k + 1) = [false, true].take k ++ [[false, true][k]] := List.take_succ_eq_append_getElem hlt
      have hbd := deepF_bd s n (tellP s b [false, true][k]).1
      have e : ([false, true].take (k + 1)).foldl (deepStep s n b) 0 = deepStep s n b m [false, true][k] := by rw [ht, List.foldl_append, ← hm]; rfl
      refine wf ?_
      refine s_alloc fun b13 => ?_
      refine wo ?_
      refine pops_nil ?_
      refine pwp_freezeD 13 ?_
      refine wf ?_
      refine pwp_condD (fun h2 => ?_) (fun h2 => ?_)
      · refine wf ?_
        rw [deepStep, if_pos h2] at e
        exact ⟨(k + 1, max m (1 + deepF s n (tellP s b [false, true][k]).1)), ⟨by dsimp only; omega, e.symm, by dsimp only; omega, by dsimp only; omega⟩, by dsimp only; omega, ⟨rfl, rfl, rfl, rfl, rfl, rfl, rfl⟩, .refl _⟩
      · refine wf ?_
        rw [deepStep, if_neg h2] at e
        exact ⟨(k + 1, m), ⟨by dsimp only; omega, e.symm, hm0, hm1⟩, by dsimp only; omega, ⟨rfl, rfl, rfl, rfl, rfl, rfl, rfl⟩, .refl _⟩
    · rw [List.take_of_length_le (by simp only [List.length_cons, List.length_nil]; omega)] at hm
      refine wf ?_
      refine end1 (.of_eq ?_)
      rw [deepF, if_neg hmore, hm]
      rfl⟩
set_option maxHeartbeats 1000000 in
theorem bisectDeepest_fn (s : List Sto) (t : Tag) : FnC Tryz.prog 4 [.slice (s.map eSto) t] (.raw (.bool true)) := ⟨by
  refine fn_of Tryz.func4 Tryz.ntmps4 rfl (rs := [.tmp 2]) rfl rfl fun hb LF => ?_
  refine wf ?_
  refine pops_if (fun hp => ?_) (fun hp => ?_)
  · refine wf ?_
    exact end1 (.refl _)
  have v : Valid s := small_valid (b := Bis.zero) (nnot hp)
  have h8 := v.close.1.1
  have i1 : Small (Valid s) := ⟨v⟩
  refine wf ?_
  refine pwp_condD (fun h => ?_) (fun h => ?_)
  · refine wf ?_
    exact end1 (.refl _)
  have h0 : s.length ≠ 0 := by omega
  have hst : startP s = (⟨ids s, [], []⟩, 0) := by rw [startP, if_neg h0]
  have hf : followP s ⟨ids s, [], []⟩ (ids s) = true := decide_eq_true ⟨rfl, rfl⟩
  have hil := ids_len s
  obtain ⟨k1, k2⟩ := worst_bounds v s.length (ids s) (fun _ h => h) v.asc.nodup (by omega)
  have k0 := worst_nonneg (cloS s) s.length (ids s)
  have kd := deep_worst v h0 10 ⟨ids s, [], []⟩ hf (by dsimp only; omega)
  dsimp only at kd
  rw [worst_fuel (cloS s) 10 s.length (ids s) (fun l h2 hl hn => v.parts hl hn) v.asc.nodup (by omega) (by omega)] at kd
  have hd10 : ∀ t, FnC Tryz.prog 20 [.slice (s.map eSto) t, .agg (eBis ⟨ids s, [], []⟩), .raw (.int .i64 10)] (.raw (.int .i64 (deepF s 10 ⟨ids s, [], []⟩))) := fun t => deepest_fn s v t 10 ⟨ids s, [], []⟩ (by omega)
  rw [kd] at hd10
  rw [hil] at k1 k2
  have k1 := k1 (by omega)
  refine wf ?_
  refine s_alloc fun b3 => ?_
  refine wo ?_
  refine pops_nil ?_
  refine pwp_freezeD 3 ?_
  rw [hst]
  dsimp only
  refine wn ?_
  generalize hW : worst (cloS s) s.length (ids s) = W at *
  have g1 : decide ((0 : Int) ≤ W) = true := decide_eq_true k0
  have g2 : decide (W < (s.length : Int)) = true := decide_eq_true k1
  have g3 : decide (W < 10) = true := decide_eq_true (by omega)
  have g4 : decide ((s.length : Int) ≤ ((2 ^ W.toNat : Nat) : Int)) = true := decide_eq_true (by exact_mod_cast k2)
  have g5 : decide (W = W) = true := decide_eq_true rfl
  refine wf ?_
  refine s_shlI (n := W) rfl rfl ⟨k0, by omega⟩ ?_
  refine wf ?_
  refine end1 (.of_eq ?_)
  rfl⟩
end Go.Proofs
