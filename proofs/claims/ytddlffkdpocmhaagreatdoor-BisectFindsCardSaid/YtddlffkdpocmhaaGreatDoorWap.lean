/- Contracts of the program: trees of strings: checked, encoded. -/
import Derived.Test.YtddlffkdpocmhaaGreatDoorWao
import Derived.Test.YtddlffkdpocmhaaGreatDoorWam
import Derived.Test.YtddlffkdpocmhaaGreatDoorWan
import Derived.Test.YtddlffkdpocmhaaGreatDoorWaj
import Derived.Test.YtddlffkdpocmhaaGreatDoorWak
import Derived.Shelf.SlGeneric
import Derived.Ground.SlsfProg
set_option linter.unusedSimpArgs false
set_option linter.unusedVariables false
namespace Go.Proofs
open Go Go.Q
attribute [local irreducible] pwp pops PCalls OpN

set_option maxHeartbeats 1000000 in
theorem encP_fn : ∀ (d : Nat) (x : Sx), wfX d x → ∀ (b : Nat) (l : List UInt8) (L : List Res), Bld b l L → l.length + (encX d x).length ≤ 1000000000 → PCalls Tryz.prog 251 [.raw (self b), .agg (eSx x)] L (fun _ L' => Bld b (l ++ encX d x) L')
  | 0, x, hw, _, _, _, _, _ => hw.elim
  | d + 1, x, hw, b, l, L, hL, hl => by
    have ih := encP_fn d
    refine pcalls_bd Tryz.func251 rfl Tryz.ntmps251 (rs := []) rfl rfl fun hb LF => ?_
    have hlen : x.list.length ≤ 140737488355328 := by
      have := (hb (.agg (eSx x)) (by simp)).agg_at (c := .slice (x.list.map eSx) .ro) (by rw [eSx_eq]; simp)
      exact this.slice_map
    refine wf ?_
    refine pwp_condB (fun h2 => ?_) (fun h2 => ?_)
    · have hB : x.isList = false := by simpa using h2
      rcases hw with ⟨_, h3, h4⟩ | ⟨h3, _⟩
      · have : Small (-140737488355328 ≤ (x.atom.length : Int) ∧ (x.atom.length : Int) ≤ 140737488355328) := ⟨by omega, by omega⟩
        have e : rDecI (x.atom.length : Int) = rDec x.atom.length := by
          rw [rDecI, if_neg (by omega)]; rfl
        have he : encX (d + 1) x = rDec x.atom.length ++ 58 :: x.atom := by simp [encX, hB]
        rw [he] at hl ⊢
        simp only [List.length_append, List.length_cons] at hl
        refine wf ?_
        refine s_callR (xs := [.tmp 9, .tmp 13]) L LF (f := 271) (cs := []) (le_func _) rfl rfl (.refl _) _ (writeString_fn b l (rDecI (x.atom.length : Int)) L hL (by rw [e]; omega)) fun r L1 hL1 => ?_
        rw [e] at hL1
        refine wf ?_
        refine wf ?_
        refine s_callR (xs := [.tmp 15, .const (.int .u8 58)]) L1 LF (f := 272) (cs := []) (le_func _) rfl rfl (.refl _) _ (writeByte_fn b (l ++ rDec x.atom.length) 58 L1 hL1 (by simp only [List.length_append]; omega)) fun r L2 hL2 => ?_
        refine wf ?_
        refine wf ?_
        refine s_callR (xs := [.tmp 17, .tmp 19]) L2 LF (f := 271) (cs := []) (le_func _) rfl rfl (.refl _) _ (writeString_fn b (l ++ rDec x.atom.length ++ [58]) x.atom L2 hL2 (by simp only [List.length_append, List.length_cons, List.length_nil]; omega)) fun r L3 hL3 => ?_
        refine wf ?_
        refine wf ?_
        exact ⟨trivial, _, L3, .nil, .refl _, by simpa using hL3⟩
      · rw [hB] at h3; cases h3
    have hB : x.isList = true := by simpa using h2
    rcases hw with ⟨h3, _⟩ | ⟨_, ha, hw⟩
    · rw [hB] at h3; cases h3
    have he : encX (d + 1) x = 40 :: (x.list.flatMap (encX d) ++ [41]) := by simp [encX, hB]
    rw [he] at hl ⊢
    simp only [List.length_cons, List.length_append, List.length_nil] at hl
    refine wf ?_
    refine s_callR (xs := [.tmp 21, .const (.int .u8 40)]) L LF (f := 272) (cs := []) (le_func _) rfl rfl (.refl _) _ (writeByte_fn b l 40 L hL (by omega)) fun r L1 hL1 => ?_
    refine wf ?_
    refine wf ?_
    refine pwp_loopS (σ := Nat × List Res) (fun k => k.1 ≤ x.list.length ∧ Bld b (l ++ 40 :: (x.list.take k.1).flatMap (encX d)) k.2) (fun k => x.list.length - k.1) (fun k => [(0, .raw (self b)), (24, .slice (x.list.map eSx) .ro), (25, .raw (.int .i64 x.list.length)), (26, .raw (.int .i64 k.1))]) (fun k => k.2 ++ LF) (0, L1) ⟨by simp, by simpa using hL1⟩ ⟨rfl, rfl, rfl, rfl⟩ (.refl _) ?_
    rintro ⟨k, L2⟩ ⟨hk, hL2⟩
    dsimp only at hk hL2 ⊢
    have hsl := flatMap_take_len (l := x.list) (f := encX d) (k := k)
    refine wf ?_
    refine pwp_condD (fun hc => ?_) (fun hc => ?_)
    · have hlt : k < x.list.length := by omega
      have hel := flatMap_take_len (l := x.list) (f := encX d) (k := k + 1)
      rw [flatMap_take_succ hlt, List.length_append] at hel
      refine wz fun b5 => ?_
      refine pwp_freezeD 5 ?_
      refine wf ?_
      refine s_callR (xs := [.tmp 30, .tmp 31]) L2 LF (f := 251) (cs := []) (le_func _) rfl rfl (.refl _) _ (ih x.list[k] (hw _ (List.getElem_mem hlt)) b _ L2 hL2 (by simp only [List.length_append, List.length_cons]; omega)) fun r L3 hL3 => ?_
      refine wf ?_
      refine wf ?_
      refine ⟨(k + 1, L3), ⟨by dsimp only; omega, ?_⟩, by dsimp only; omega, ⟨rfl, rfl, rfl, rfl⟩, .refl _⟩
      dsimp only
      rw [flatMap_take_succ hlt]
      simpa using hL3
    · rw [List.take_of_length_le (by omega)] at hL2
      refine wf ?_
      refine s_callR (xs := [.tmp 34, .const (.int .u8 41)]) L2 LF (f := 272) (cs := []) (le_func _) rfl rfl (.refl _) _ (writeByte_fn b _ 41 L2 hL2 (by simp only [List.length_append, List.length_cons]; omega)) fun r L3 hL3 => ?_
      refine wf ?_
      refine wf ?_
      exact ⟨trivial, _, L3, .nil, .refl _, by simpa using hL3⟩

/-! ### Checked -/
def meas (b : Nat) (n : Int) : Res := .box b 276 [.raw (.int .i64 n), .raw (.bool false)]
set_option maxHeartbeats 1000000 in
theorem addP_fn : ∀ (d : Nat) (x : Sx), wfX d x → ∀ (b : Nat) (n lv : Int), 0 ≤ n → n + ndX d x ≤ 20000 → 1 ≤ lv → lv + d ≤ 13 → PCalls Tryz.prog 269 [.raw (self b), .agg (eSx x), .raw (.int .i64 lv)] [meas b n] (fun _ L' => L' = [meas b (n + ndX d x)])
  | 0, x, hw, _, _, _, _, _, _, _ => hw.elim
  | d + 1, x, hw, b, n, lv, hn0, hn, hl0, hl => by
    have ih := addP_fn d
    have hpos : 1 ≤ ndX (d + 1) x := by unfold ndX; split <;> omega
    refine pcalls_bd Tryz.func269 rfl Tryz.ntmps269 (rs := []) rfl rfl fun hb LF => ?_
    have hlen : x.list.length ≤ 140737488355328 := by
      have := (hb (.agg (eSx x)) (by simp)).agg_at (c := .slice (x.list.map eSx) .ro) (by rw [eSx_eq]; simp)
      exact this.slice_map
    rw [show [meas b n] ++ LF = .box b 276 [.raw (.int .i64 n), .raw (.bool false)] :: LF from rfl]
    refine wf ?_
    refine s_storeV [.raw (.int .i64 (n + 1)), .raw (.bool false)] rfl rfl rfl rfl (by simp) ?_
    refine wf ?_
    refine wf ?_
    refine pops_if (fun hp => ?_) (fun hp => ?_)
    · have := of_decide_eq_true hp; omega
    refine wf ?_
    refine pwp_condD (fun h1 => ?_) (fun h1 => ?_)
    · omega
    refine wf ?_
    refine pwp_condB (fun h2 => ?_) (fun h2 => ?_)
    · refine wf ?_
      have : x.isList = false := by simpa using h2
      exact ⟨trivial, _, [meas b (n + 1)], .nil, .refl _, by simp [ndX, this]⟩
    have hB : x.isList = true := by simpa using h2
    rcases hw with ⟨h3, _⟩ | ⟨_, _, hw⟩
    · rw [hB] at h3; cases h3
    have hnd : ndX (d + 1) x = 1 + (x.list.map (ndX d)).sum := by simp [ndX, hB]
    rw [hnd] at hn ⊢
    refine wf ?_
    refine pwp_loopS (σ := Nat) (fun k => k ≤ x.list.length) (fun k => x.list.length - k) (fun k => [(0, .raw (self b)), (2, .raw (.int .i64 lv)), (31, .slice (x.list.map eSx) .ro), (32, .raw (.int .i64 x.list.length)), (33, .raw (.int .i64 k))]) (fun k => meas b (n + (1 + ((x.list.map (ndX d)).take k).sum : Nat)) :: LF) 0 (by simp) ⟨rfl, rfl, rfl, rfl, rfl⟩ (by simp; exact .refl _) ?_
    intro k hk
    have hsk := sum_take_le (l := x.list.map (ndX d)) (k := k)
    have hsk1 := sum_take_le (l := x.list.map (ndX d)) (k := k + 1)
    refine wf ?_
    refine pwp_condD (fun hc => ?_) (fun hc => ?_)
    · have hlt : k < x.list.length := by omega
      have e : ((x.list.map (ndX d)).take (k + 1)).sum = ((x.list.map (ndX d)).take k).sum + ndX d x.list[k] := by
        rw [List.take_succ_eq_append_getElem (by simpa using hlt), List.sum_append]; simp
      refine wz fun b7 => ?_
      refine pwp_freezeD 7 ?_
      rw [show meas b (n + (1 + ((x.list.map (ndX d)).take k).sum : Nat)) :: LF = .box b 276 [.raw (.int .i64 (n + (1 + ((x.list.map (ndX d)).take k).sum : Nat))), .raw (.bool false)] :: LF from rfl]
      refine wf ?_
      refine s_callR (xs := [.tmp 41, .tmp 42, .tmp 44]) [meas b (n + (1 + ((x.list.map (ndX d)).take k).sum : Nat))] LF (f := 269) (cs := []) (le_func _) rfl rfl (.refl _) _ (ih x.list[k] (hw _ (List.getElem_mem hlt)) b _ (lv + 1) (by omega) (by omega) (by omega) (by omega)) fun r L3 hL3 => ?_
      subst hL3
      refine wf ?_
      refine wf ?_
      refine ⟨k + 1, by omega, by dsimp only; omega, ⟨rfl, rfl, rfl, rfl, rfl⟩, ?_⟩
      show (meas b (n + ((1 + ((x.list.map (ndX d)).take (k + 1)).sum : Nat) : Int)) :: LF).Sublist _
      rw [e, show n + ((1 + (((x.list.map (ndX d)).take k).sum + ndX d x.list[k]) : Nat) : Int) = n + ((1 + ((x.list.map (ndX d)).take k).sum : Nat) : Int) + (ndX d x.list[k] : Int) by omega]
      exact .refl _
    · refine wf ?_
      rw [List.take_of_length_le (by simp; omega)]
      exact ⟨trivial, _, [meas b (n + (1 + (x.list.map (ndX d)).sum : Nat))], .nil, .refl _, rfl⟩

set_option maxHeartbeats 1000000 in
theorem shapeP_fn : ∀ (d : Nat) (x : Sx), wfX d x → Q.Fn Tryz.prog 270 [.agg (eSx x)] (.raw (.int .i64 0))
  | 0, x, hw => hw.elim
  | d + 1, x, hw => by
    have ih : ∀ (y : Sx), [Small (wfX d y)] → FnC Tryz.prog 270 [.agg (eSx y)] (.raw (.int .i64 0)) := fun y h => ⟨shapeP_fn d y h.out⟩
    refine fn_of Tryz.func270 Tryz.ntmps270 rfl (rs := [.tmp 2]) rfl rfl fun hb LF => ?_
    have hlen : x.list.length ≤ 140737488355328 := by
      have := (hb (.agg (eSx x)) (by simp)).agg_at (c := .slice (x.list.map eSx) .ro) (by rw [eSx_eq]; simp)
      exact this.slice_map
    have hsh : (x.isList = true → x.atom = []) ∧ (x.isList = false → x.list = []) ∧ x.atom.length ≤ 65536 ∧ ∀ y ∈ x.list, wfX d y := by
      rcases hw with ⟨h1, h2, h3⟩ | ⟨h1, h2, h3⟩
      · exact ⟨fun h => (by rw [h1] at h; cases h), fun _ => h2, h3, fun y hy => (by rw [h2] at hy; cases hy)⟩
      · exact ⟨fun _ => h2, fun h => (by rw [h1] at h; cases h), by rw [h2]; simp, h3⟩
    refine wf ?_
    refine pops_cutE [(6, .raw (.bool (false))), (1, .pt (eSx x) 0)] (LF) ?_ ?_
    · repeat' (first | (refine pwp_condD (fun h => ?_) (fun h => ?_) <;> refine wf ?_) | (refine pwp_condN (fun h => ?_) (fun h => ?_) <;> refine wf ?_) | (refine pwp_condB (fun h => ?_) (fun h => ?_) <;> refine wf ?_) | (refine pops_if (fun h => ?_) (fun h => ?_) <;> (have h2 := h; (try simp only [decide_eq_true_eq, decide_eq_false_iff_not, Bool.not_eq_true', Bool.not_eq_false'] at h2); refine wf ?_)))
      all_goals (refine ⟨⟨holdsB (by rfl) ?_, rfl⟩, .refl _⟩; (have := hsh.1; have := hsh.2.1; cases hB : x.isList <;> simp_all))
    refine wf ?_
    refine pwp_condD (fun h5 => ?_) (fun h5 => ?_)
    · have := hsh.2.2.1; omega
    refine wf ?_
    refine pwp_loopS (σ := Nat) (fun k => k ≤ x.list.length) (fun k => x.list.length - k) (fun k => [(31, .slice (x.list.map eSx) .ro), (32, .raw (.int .i64 x.list.length)), (33, .raw (.int .i64 k))]) (fun _ => LF) 0 (by simp) ⟨rfl, rfl, rfl⟩ (.refl _) ?_
    intro k hk
    refine wf ?_
    refine pwp_condD (fun hc => ?_) (fun hc => ?_)
    · have hlt : k < x.list.length := by omega
      have : Small (wfX d x.list[k]) := ⟨hsh.2.2.2 _ (List.getElem_mem hlt)⟩
      refine wz fun b4 => ?_
      refine pwp_freezeD 4 ?_
      refine wf ?_
      exact ⟨k + 1, by omega, by dsimp only; omega, ⟨rfl, rfl, rfl⟩, .refl _⟩
    · refine wf ?_
      exact end1 (.refl _)
instance : ZeroE Tryz.prog 276 [.raw (.int .i64 0), .raw (.bool false)] := ZeroE.of (us := [PV.raw (.int .i64 0), .raw (.bool false)].map zv) (by kernel_rfl) (by kernel_rfl)
instance CheckXP_ct (x : Sx) [hs : Small (okX x)] : FnC Tryz.prog 250 [.agg (eSx x)] (.raw (.int .i64 0)) := ⟨by
  obtain ⟨h1, h2⟩ := hs.out
  have i2 : FnC Tryz.prog 270 [.agg (eSx x)] (.raw (.int .i64 0)) := ⟨shapeP_fn 8 x h1⟩
  refine fn_of Tryz.func250 Tryz.ntmps250 rfl (rs := [.tmp 2]) rfl rfl fun hb LF => ?_
  refine wkb fun b1 => ?_
  refine wkb fun b5 => ?_
  refine s_callR (xs := [.tmp 6, .tmp 7, .const (.int .i64 1)]) [meas b5 0] (.box b1 217 (eSx x) :: LF) (f := 269) (cs := []) (le_func _) rfl rfl (.refl _) _ (addP_fn 8 x h1 b5 0 1 (by omega) (by omega) (by omega) (by omega)) fun r L3 hL3 => ?_
  subst hL3
  rw [show [meas b5 (0 + ndX 8 x)] ++ (.box b1 217 (eSx x) :: LF) = .box b5 276 [.raw (.int .i64 (0 + ndX 8 x)), .raw (.bool false)] :: .box b1 217 (eSx x) :: LF from rfl]
  refine wk ?_
  refine wk ?_
  exact end1 (.refl _)⟩
instance : ZeroE Tryz.prog 260 [.raw (.pointer none), .raw (.slice none 0 0)] := ZeroE.of (us := [PV.raw (.pointer none), .raw (.slice none 0 0)].map zv) (by kernel_rfl) (by kernel_rfl)
theorem encX_ne {d : Nat} {x : Sx} (h : wfX d x) : encX d x ≠ [] := by
  cases d with
  | zero => exact h.elim
  | succ d => unfold encX; split <;> simp
instance EncodeXP_ct (x : Sx) [hs : Small (okX x ∧ (encX 8 x).length ≤ 1000000000)] : FnC Tryz.prog 215 [.agg (eSx x)] (.tuple [.str (encX 8 x), .raw (.int .i64 0)]) := ⟨by
  obtain ⟨h1, h2⟩ := hs.out
  have : Small (okX x) := ⟨h1⟩
  refine fn_of Tryz.func215 Tryz.ntmps215 rfl (rs := [.tmp 2, .tmp 3]) rfl rfl fun hb LF => ?_
  refine wfb fun b => ?_
  rw [show Res.box b 260 [.raw (.pointer none), .raw (.slice none 0 0)] :: LF = [bldB b (.pointer none) (.slice none 0 0)] ++ LF from rfl]
  refine s_callR (xs := [.tmp 5, .tmp 11]) [bldB b (.pointer none) (.slice none 0 0)] LF (f := 251) (cs := []) (le_func _) rfl rfl (.refl _) _ (encP_fn 8 x h1.1 b [] _ ⟨.pointer none, .slice none 0 0, [], .inl rfl, .nil, rfl⟩ (by simpa using h2)) fun r L1 hL1 => ?_
  rw [List.nil_append] at hL1
  refine wf ?_
  refine wf ?_
  refine s_callR (xs := [.tmp 5]) L1 LF (f := 252) (cs := []) (le_func _) rfl rfl (.refl _) _ (string_fn b (encX 8 x) L1 hL1 (encX_ne h1.1) (by omega)) fun r L2 ⟨hr, hL2⟩ => ?_
  subst hr
  subst hL2
  refine wf ?_
  refine wf ?_
  refine end2 ?_
  exact .refl _⟩
end Go.Proofs
/- Contracts of the program: patches as trees of strings. -/
namespace Go.Proofs
open Go Go.Q
attribute [local irreducible] pwp pops PCalls OpN

instance IntP_ct (n : Int) : FnC Tryz.prog 249 [.raw (.int .i64 n)] (.tuple [.agg (eSx (rInt n).1), .raw (.int .i64 (rInt n).2)]) := ⟨by
  refine fn_of Tryz.func249 Tryz.ntmps249 rfl (rs := [.cell 2 217, .tmp 3]) rfl rfl fun hb LF => ?_
  refine wfb fun b => ?_
  refine pops_cutE [(9, .raw (.bool (decide (n < -1099511627776 ∨ 1099511627776 < n)))), (0, .raw (.int .i64 n)), (2, .raw (.pointer (some ⟨b, 0, none⟩)))] (.box b 217 (eSx Sx.zero) :: LF) ?_ ?_
  · repeat' (first | (refine pwp_condD (fun h => ?_) (fun h => ?_) <;> refine wf ?_) | (refine pwp_condN (fun h => ?_) (fun h => ?_) <;> refine wf ?_) | (refine pwp_condB (fun h => ?_) (fun h => ?_) <;> refine wf ?_) | (refine pops_if (fun h => ?_) (fun h => ?_) <;> (have h2 := h; (try simp only [decide_eq_true_eq, decide_eq_false_iff_not, Bool.not_eq_true', Bool.not_eq_false'] at h2); refine wf ?_)))
    all_goals (refine ⟨⟨holdsB (by rfl) ?_, rfl, rfl⟩, .refl _⟩; first | (simp_all; done) | grind)
  refine wf ?_
  refine pwp_condD (fun h => ?_) (fun h => ?_)
  · refine wf ?_
    refine endC1 rfl (.of_eq ?_)
    rw [rInt, if_pos h]
  · have : Small (-140737488355328 ≤ n ∧ n ≤ 140737488355328) := ⟨by omega⟩
    refine wf ?_
    refine endC1 rfl (.of_eq ?_)
    rw [rInt, if_neg h]; rfl⟩
instance atomP_ct (s : Str) : FnC Tryz.prog 212 [.str s] (.agg (eSx (sAtom s))) := ⟨by
  refine fn_of Tryz.func212 Tryz.ntmps212 rfl (rs := [.cell 2 217]) rfl rfl fun hb LF => ?_
  refine wfb fun b => ?_
  refine endC rfl (.of_eq ?_)
  rfl⟩
/-- A list whose elements may still grow in number. -/
@[reducible] def lsC (l : List Sx) (t : Tag) : List PV := [.raw (.bool true), .str [], .slice (l.map eSx) t]
theorem lsC_ro (l : List Sx) : lsC l .ro = eSx (sList l) := by rw [eSx_eq]; rfl
theorem lsC_le (l : List Sx) (t : Tag) : Le (.agg (lsC l t)) (.agg (eSx (sList l))) := fun g v hv => by
  obtain ⟨vs, rfl, h⟩ := hv.agg_inv
  match vs, h with
  | [a, b, c], h =>
    rw [← lsC_ro]
    exact VRl.agg (.cons h.uncons.1 (.cons h.uncons.2.uncons.1 (.cons h.uncons.2.uncons.2.uncons.1.ro (.nil g))))
  | [], h => have := h.len; simp at this
  | [_], h => have := h.len; simp at this
  | [_, _], h => have := h.len; simp at this
  | _ :: _ :: _ :: _ :: _, h => have := h.len; simp at this
instance (l : List Sx) (t : Tag) : Norm (.agg (lsC l t)) (.agg (eSx (sList l))) := ⟨lsC_le l t⟩
instance (l : List Sx) (t : Tag) : EncC (.agg (lsC l t)) eSx (sList l) := ⟨fun g v hv => Cells.agg _ g v (lsC_le l t g v hv)⟩
instance {x y z : PV} : At [x, y, z] 2 z := ⟨rfl⟩
instance (c : Sx) (l : List Sx) (t : Tag) : Put (eSx c) 0 (lsC l t) (lsC l t) := ⟨by rw [eSx_eq]; simp⟩
instance (l m : List Sx) (t u : Tag) : Put (lsC l t) 0 (lsC m u) (lsC m u) := ⟨by simp⟩
instance (l : List Sx) (t : Tag) : LenIs (lsC l t) 3 := ⟨rfl⟩
instance (l : List Sx) (t : Tag) : Flat (lsC l t) := by unfold lsC; infer_instance
theorem list_any (l : List Sx) (t : Tag) : Q.Fn Tryz.prog 211 [.slice (l.map eSx) t] (.agg (lsC l t)) := by
  refine fn_of Tryz.func211 Tryz.ntmps211 rfl (rs := [.cell 2 217]) rfl rfl fun hb LF => ?_
  refine pwp_seq ?_
  refine pwp_region (by kernel_rfl) ?_
  refine s_alloc fun b => ?_
  refine pops_nil ?_
  refine pwp_seq ?_
  refine pwp_region (by kernel_rfl) ?_
  refine s_moveN (by (conv => lhs; whnf); done) ?_
  refine s_build2 (z := eSx Sx.zero) (c0 := [.raw (.bool true)]) (c1 := [.slice (l.map eSx) t]) (r1 := lsC l t) (hP0 := ⟨rfl, by simp⟩) (hP1 := ⟨rfl, by simp⟩) ?_ ?_ rfl rfl ?_
  · exact Cells.one (c := .raw (.bool true)) Flat.out
  · exact Cells.one (c := .slice (l.map eSx) t) Flat.out
  refine wf ?_
  exact endC rfl (.refl _)
instance listR_ct (l : List Sx) : FnC Tryz.prog 211 [.slice (l.map eSx) .ro] (.agg (eSx (sList l))) := ⟨lsC_ro l ▸ list_any l .ro⟩
instance (priority := low) listT_ct (l : List Sx) (t : Tag) : FnC Tryz.prog 211 [.slice (l.map eSx) t] (.agg (lsC l t)) := ⟨list_any l t⟩
instance listN_ct : FnC Tryz.prog 211 [.slice [] .nil] (.agg (lsC [] .nil)) := ⟨list_any [] .nil⟩
instance numberP_ct (n : Int) : FnC Tryz.prog 214 [.raw (.int .i64 n)] (.agg (eSx (sNum n))) := ⟨by
  refine fn_of Tryz.func214 Tryz.ntmps214 rfl (rs := [.cell 2 217]) rfl rfl fun hb LF => ?_
  refine wfb fun b => ?_
  refine wfb fun b2 => ?_
  refine endC rfl (.of_eq ?_)
  rfl⟩
instance encodeIdP_ct (x : Ident) : FnC Tryz.prog 241 [.agg (eIdent x)] (.agg (eSx (sRef x))) := ⟨by
  refine fn_of Tryz.func241 Tryz.ntmps241 rfl (rs := [.cell 2 217]) rfl rfl fun hb LF => ?_
  refine wf ?_
  refine s_alloc fun b => ?_
  refine wn ?_
  refine pwp_condD (fun h => ?_) (fun h => ?_)
  · refine wn ?_
    refine pwp_drawN 6 ?_ ?_
    · decide +kernel
    refine wf ?_
    refine endC rfl (.of_eq ?_)
    rw [sRef, sDig, if_pos h]
  · refine wn ?_
    refine pwp_drawN 9 ?_ ?_
    · decide +kernel
    refine wf ?_
    refine endC rfl (.of_eq ?_)
    rw [sRef, sDig, if_neg h]⟩

set_option maxHeartbeats 1000000 in
instance overP_ct (l : List Ident) (t : Tag) [hs : Small (l.length ≤ 1000000)] : FnC Tryz.prog 242 [.slice (l.map eIdent) t] (.agg (eSx (sOver l))) := ⟨by
  refine fn_of Tryz.func242 Tryz.ntmps242 rfl (rs := [.cell 2 217]) rfl rfl fun hb LF => ?_
  have hlen := hs.out
  refine wfb fun b => ?_
  refine wfb fun b3 => ?_
  refine pwp_tok 3 ?_
  refine pwp_loopS (σ := Nat × Tag × List Sx) (fun k => k.1 ≤ l.length ∧ k.2.2 = (l.take k.1).map sRef) (fun k => l.length - k.1) (fun k => [(2, .raw (.pointer (some ⟨b, 0, none⟩))), (3, .raw (.pointer (some ⟨b3, 0, none⟩))), (7, .slice (l.map eIdent) t), (8, .raw (.int .i64 l.length)), (9, .raw (.int .i64 k.1))]) (fun k => .tok k.2.1 k.2.2.length 3 :: .box b3 217 (lsC k.2.2 k.2.1) :: .box b 217 (eSx Sx.zero) :: LF) (0, .nil, []) ⟨by simp, by simp⟩ ⟨rfl, rfl, rfl, rfl, rfl⟩ (.refl _) ?_
  rintro ⟨k, v, out⟩ ⟨hk, he⟩
  dsimp only at hk he
  have hol : out.length = k := by rw [he]; simp; omega
  refine wf ?_
  refine pwp_condD (fun hc => ?_) (fun hc => ?_)
  · have hlt : k < l.length := by omega
    have ee : (l.take (k + 1)).map sRef = out ++ [sRef l[k]] := by rw [List.take_succ_eq_append_getElem hlt, List.map_append, he]; rfl
    refine wz fun b5 => ?_
    refine pwp_freezeD 5 ?_
    refine wn ?_
    refine pwp_drawN 5 ?_ ?_
    · decide +kernel
    refine wfa fun v' => ?_
    refine s_storeP (ay := .slice ((out ++ [sRef l[k]]).map eSx) v') (lsC (out ++ [sRef l[k]]) v') rfl rfl Flat.out rfl (by simp) ?_
    refine wf ?_
    refine wf ?_
    exact ⟨(k + 1, v', out ++ [sRef l[k]]), ⟨by dsimp only; omega, ee.symm⟩, by dsimp only; omega, ⟨rfl, rfl, rfl, rfl, rfl⟩, .refl _⟩
  · rw [List.take_of_length_le (by omega)] at he
    refine wf ?_
    refine endC rfl ?_
    rw [sOver, ← he]
    exact lsC_le _ _⟩
set_option maxHeartbeats 1000000 in
instance encodeLinesP_ct (l : List Str) (t : Tag) [hs : Small (l.length ≤ 1000000)] : FnC Tryz.prog 246 [.slice (l.map eS) t] (.agg (eSx (sList (l.map sAtom)))) := ⟨by
  refine fn_of Tryz.func246 Tryz.ntmps246 rfl (rs := [.cell 2 217]) rfl rfl fun hb LF => ?_
  have hlen := hs.out
  refine wfb fun b => ?_
  refine wfb fun b3 => ?_
  refine pwp_tok 3 ?_
  refine pwp_loopS (σ := Nat × Tag × List Sx) (fun k => k.1 ≤ l.length ∧ k.2.2 = (l.take k.1).map sAtom) (fun k => l.length - k.1) (fun k => [(2, .raw (.pointer (some ⟨b, 0, none⟩))), (3, .raw (.pointer (some ⟨b3, 0, none⟩))), (7, .slice (l.map eS) t), (8, .raw (.int .i64 l.length)), (9, .raw (.int .i64 k.1))]) (fun k => .tok k.2.1 k.2.2.length 3 :: .box b3 217 (lsC k.2.2 k.2.1) :: .box b 217 (eSx Sx.zero) :: LF) (0, .nil, []) ⟨by simp, by simp⟩ ⟨rfl, rfl, rfl, rfl, rfl⟩ (.refl _) ?_
  rintro ⟨k, v, out⟩ ⟨hk, he⟩
  dsimp only at hk he
  have hol : out.length = k := by rw [he]; simp; omega
  refine wf ?_
  refine pwp_condD (fun hc => ?_) (fun hc => ?_)
  · have hlt : k < l.length := by omega
    have ee : (l.take (k + 1)).map sAtom = out ++ [sAtom l[k]] := by rw [List.take_succ_eq_append_getElem hlt, List.map_append, he]; rfl
    refine wn ?_
    refine pwp_drawN 5 ?_ ?_
    · decide +kernel
    refine wfa fun v' => ?_
    refine s_storeP (ay := .slice ((out ++ [sAtom l[k]]).map eSx) v') (lsC (out ++ [sAtom l[k]]) v') rfl rfl Flat.out rfl (by simp) ?_
    refine wf ?_
    refine wf ?_
    exact ⟨(k + 1, v', out ++ [sAtom l[k]]), ⟨by dsimp only; omega, ee.symm⟩, by dsimp only; omega, ⟨rfl, rfl, rfl, rfl, rfl⟩, .refl _⟩
  · rw [List.take_of_length_le (by omega)] at he
    refine wf ?_
    refine endC rfl ?_
    rw [← he]
    exact lsC_le _ _⟩
end Go.Proofs
/- Contracts of the program: a patch encoded. -/
namespace Go.Proofs
open Go Go.Q
attribute [local irreducible] pwp pops PCalls OpN

def fd1 (c : Chg) : List Sx := [sNum c.type]
def fd2 (c : Chg) : List Sx := [sRef c.file, sRef c.parent, sAtom c.name, sOver c.over]
def fd3 (c : Chg) : List Sx := [sRef c.file, sNum c.mode, sOver c.over]
def fd4 (c : Chg) : List Sx := [sRef c.file, sAtom c.data, sOver c.over]
def fd5 (c : Chg) : List Sx := [sRef c.file, sRef c.after, sRef c.before, sList (c.lines.map sAtom)]
def fd6 (c : Chg) : List Sx := [sRef c.file, sRef c.after, sRef c.before, sOver c.over]
def fd7 (c : Chg) : List Sx := [sOver c.over]
instance fd1_ct (c : Chg) [hs : Small (c.lines.length ≤ 100000 ∧ c.over.length ≤ 100000)] : FnC Tryz.prog 239 [.agg (eChg c)] (.slice ((fd1 c).map eSx) .ro) := ⟨by
  obtain ⟨h1, h2⟩ := hs.out
  have i1 : Small (c.over.length ≤ 1000000) := ⟨by omega⟩
  have i2 : Small (c.lines.length ≤ 1000000) := ⟨by omega⟩
  refine fn_of Tryz.func239 Tryz.ntmps239 rfl (rs := [.tmp 2]) rfl rfl fun hb LF => ?_
  refine wf ?_
  refine end1 (.of_eq ?_)
  rfl⟩
instance fd2_ct (c : Chg) [hs : Small (c.lines.length ≤ 100000 ∧ c.over.length ≤ 100000)] : FnC Tryz.prog 240 [.agg (eChg c)] (.slice ((fd2 c).map eSx) .ro) := ⟨by
  obtain ⟨h1, h2⟩ := hs.out
  have i1 : Small (c.over.length ≤ 1000000) := ⟨by omega⟩
  have i2 : Small (c.lines.length ≤ 1000000) := ⟨by omega⟩
  refine fn_of Tryz.func240 Tryz.ntmps240 rfl (rs := [.tmp 2]) rfl rfl fun hb LF => ?_
  refine wn ?_
  refine pwp_drawN 14 ?_ ?_
  · decide +kernel
  refine wf ?_
  refine end1 (.of_eq ?_)
  rfl⟩
instance fd3_ct (c : Chg) [hs : Small (c.lines.length ≤ 100000 ∧ c.over.length ≤ 100000)] : FnC Tryz.prog 243 [.agg (eChg c)] (.slice ((fd3 c).map eSx) .ro) := ⟨by
  obtain ⟨h1, h2⟩ := hs.out
  have i1 : Small (c.over.length ≤ 1000000) := ⟨by omega⟩
  have i2 : Small (c.lines.length ≤ 1000000) := ⟨by omega⟩
  refine fn_of Tryz.func243 Tryz.ntmps243 rfl (rs := [.tmp 2]) rfl rfl fun hb LF => ?_
  refine wn ?_
  refine pwp_drawN 11 ?_ ?_
  · decide +kernel
  refine wf ?_
  refine end1 (.of_eq ?_)
  rfl⟩
instance fd4_ct (c : Chg) [hs : Small (c.lines.length ≤ 100000 ∧ c.over.length ≤ 100000)] : FnC Tryz.prog 244 [.agg (eChg c)] (.slice ((fd4 c).map eSx) .ro) := ⟨by
  obtain ⟨h1, h2⟩ := hs.out
  have i1 : Small (c.over.length ≤ 1000000) := ⟨by omega⟩
  have i2 : Small (c.lines.length ≤ 1000000) := ⟨by omega⟩
  refine fn_of Tryz.func244 Tryz.ntmps244 rfl (rs := [.tmp 2]) rfl rfl fun hb LF => ?_
  refine wn ?_
  refine pwp_drawN 11 ?_ ?_
  · decide +kernel
  refine wf ?_
  refine end1 (.of_eq ?_)
  rfl⟩
instance fd5_ct (c : Chg) [hs : Small (c.lines.length ≤ 100000 ∧ c.over.length ≤ 100000)] : FnC Tryz.prog 245 [.agg (eChg c)] (.slice ((fd5 c).map eSx) .ro) := ⟨by
  obtain ⟨h1, h2⟩ := hs.out
  have i1 : Small (c.over.length ≤ 1000000) := ⟨by omega⟩
  have i2 : Small (c.lines.length ≤ 1000000) := ⟨by omega⟩
  refine fn_of Tryz.func245 Tryz.ntmps245 rfl (rs := [.tmp 2]) rfl rfl fun hb LF => ?_
  refine wn ?_
  refine pwp_drawN 14 ?_ ?_
  · decide +kernel
  refine wf ?_
  refine end1 (.of_eq ?_)
  rfl⟩
instance fd6_ct (c : Chg) [hs : Small (c.lines.length ≤ 100000 ∧ c.over.length ≤ 100000)] : FnC Tryz.prog 247 [.agg (eChg c)] (.slice ((fd6 c).map eSx) .ro) := ⟨by
  obtain ⟨h1, h2⟩ := hs.out
  have i1 : Small (c.over.length ≤ 1000000) := ⟨by omega⟩
  have i2 : Small (c.lines.length ≤ 1000000) := ⟨by omega⟩
  refine fn_of Tryz.func247 Tryz.ntmps247 rfl (rs := [.tmp 2]) rfl rfl fun hb LF => ?_
  refine wn ?_
  refine pwp_drawN 14 ?_ ?_
  · decide +kernel
  refine wf ?_
  refine end1 (.of_eq ?_)
  rfl⟩
instance fd7_ct (c : Chg) [hs : Small (c.lines.length ≤ 100000 ∧ c.over.length ≤ 100000)] : FnC Tryz.prog 248 [.agg (eChg c)] (.slice ((fd7 c).map eSx) .ro) := ⟨by
  obtain ⟨h1, h2⟩ := hs.out
  have i1 : Small (c.over.length ≤ 1000000) := ⟨by omega⟩
  have i2 : Small (c.lines.length ≤ 1000000) := ⟨by omega⟩
  refine fn_of Tryz.func248 Tryz.ntmps248 rfl (rs := [.tmp 2]) rfl rfl fun hb LF => ?_
  refine wf ?_
  refine end1 (.of_eq ?_)
  rfl⟩
def fTab : List (Int × PV) := [(1, .raw (.func (.func 239) #[] #[])), (2, .raw (.func (.func 240) #[] #[])), (3, .raw (.func (.func 243) #[] #[])), (4, .raw (.func (.func 244) #[] #[])), (5, .raw (.func (.func 245) #[] #[])), (6, .raw (.func (.func 247) #[] #[])), (7, .raw (.func (.func 248) #[] #[]))]
theorem fieldsTab_fn : PCalls Tryz.prog 213 [] [] (fun r L' => ∃ b, r = .raw (.map (some b)) ∧ L' = [.map b (eMap kInt vId fTab)]) := by
  refine pcalls_bd Tryz.func213 rfl Tryz.ntmps213 (rs := [.tmp 0]) rfl rfl fun hb LF => ?_
  rw [List.nil_append]
  refine wfm fun b => ?_
  exact ⟨trivial, _, [.map b (eMap kInt vId fTab)], .cons (.tmp 0) .nil, .refl _, b, rfl, rfl⟩
def fOf (k : Int) : Nat := if k = 1 then 239 else if k = 2 then 240 else if k = 3 then 243 else if k = 4 then 244 else if k = 5 then 245 else if k = 6 then 247 else 248
def fdOf (c : Chg) : List Sx := if c.kind = 1 then fd1 c else if c.kind = 2 then fd2 c else if c.kind = 3 then fd3 c else if c.kind = 4 then fd4 c else if c.kind = 5 then fd5 c else if c.kind = 6 then fd6 c else fd7 c
theorem fdOf_len (c : Chg) : (fdOf c).length ≤ 4 := by
  unfold fdOf
  repeat' split
  all_goals simp [fd1, fd2, fd3, fd4, fd5, fd6, fd7]
theorem kinds {k : Int} (h : 1 ≤ k ∧ k ≤ 7) : k = 1 ∨ k = 2 ∨ k = 3 ∨ k = 4 ∨ k = 5 ∨ k = 6 ∨ k = 7 := by omega
theorem fTab_get {k : Int} (h : 1 ≤ k ∧ k ≤ 7) : vId ((mGet k fTab).getD (.raw .nilFunc)) = .raw (.func (.func (fOf k)) #[] #[]) := by
  rcases kinds h with h | h | h | h | h | h | h <;> (subst h; rfl)
theorem fOf_fun {k : Int} (h : 1 ≤ k ∧ k ≤ 7) : TFun Tryz.prog (fOf k) := by
  rcases kinds h with h | h | h | h | h | h | h <;> (subst h; simp only [fOf]; first | exact (inferInstance : TFun Tryz.prog 239) | exact (inferInstance : TFun Tryz.prog 240) | exact (inferInstance : TFun Tryz.prog 243) | exact (inferInstance : TFun Tryz.prog 244) | exact (inferInstance : TFun Tryz.prog 245) | exact (inferInstance : TFun Tryz.prog 247) | exact (inferInstance : TFun Tryz.prog 248))
theorem fd_call (c : Chg) (h : 1 ≤ c.kind ∧ c.kind ≤ 7) [hs : Small (c.lines.length ≤ 100000 ∧ c.over.length ≤ 100000)] : Q.Fn Tryz.prog (fOf c.kind) [.agg (eChg c)] (.slice ((fdOf c).map eSx) .ro) := by
  unfold fOf fdOf
  by_cases h1 : c.kind = 1
  · rw [if_pos h1, if_pos h1]; exact (fd1_ct c).out
  by_cases h2 : c.kind = 2
  · rw [if_neg h1, if_neg h1, if_pos h2, if_pos h2]; exact (fd2_ct c).out
  by_cases h3 : c.kind = 3
  · rw [if_neg h1, if_neg h1, if_neg h2, if_neg h2, if_pos h3, if_pos h3]; exact (fd3_ct c).out
  by_cases h4 : c.kind = 4
  · rw [if_neg h1, if_neg h1, if_neg h2, if_neg h2, if_neg h3, if_neg h3, if_pos h4, if_pos h4]; exact (fd4_ct c).out
  by_cases h5 : c.kind = 5
  · rw [if_neg h1, if_neg h1, if_neg h2, if_neg h2, if_neg h3, if_neg h3, if_neg h4, if_neg h4, if_pos h5, if_pos h5]; exact (fd5_ct c).out
  by_cases h6 : c.kind = 6
  · rw [if_neg h1, if_neg h1, if_neg h2, if_neg h2, if_neg h3, if_neg h3, if_neg h4, if_neg h4, if_neg h5, if_neg h5, if_pos h6, if_pos h6]; exact (fd6_ct c).out
  rw [if_neg h1, if_neg h1, if_neg h2, if_neg h2, if_neg h3, if_neg h3, if_neg h4, if_neg h4, if_neg h5, if_neg h5, if_neg h6, if_neg h6]; exact (fd7_ct c).out

/-! ### The whole -/
def sChgP (c : Chg) : Sx := sList ([sNum c.kind] ++ fdOf c)
def sPatP (p : Pat) : Sx := sList [sAtom [113, 117, 105, 108, 116, 49], sAtom p.author, sAtom p.message, sNum p.time, sList (p.deps.map fun d => sAtom d.bs), sList (p.changes.map sChgP)]
theorem sChgP_eq {c : Chg} (h : 1 ≤ c.kind ∧ c.kind ≤ 7) : sChgP c = sChg c := by
  unfold sChgP sChg sChg1 sChg2 sChg3 fdOf
  rcases kinds h with h | h | h | h | h | h | h <;> simp [h, fd1, fd2, fd3, fd4, fd5, fd6, fd7]
theorem sPatP_eq {p : Pat} (hd : ∀ d ∈ p.deps, d ≠ Dig.zero) (hk : ∀ c ∈ p.changes, 1 ≤ c.kind ∧ c.kind ≤ 7) : sPatP p = sPat p := by
  unfold sPatP sPat
  rw [List.map_congr_left (f := fun d : Dig => sAtom d.bs) (g := sDig) (fun d h => by rw [sDig, if_neg (hd d h)]), List.map_congr_left (f := sChgP) (g := sChg) (fun c h => sChgP_eq (hk c h))]

structure encOkP (p : Pat) : Prop where
  ok : encOk p
  deps : ∀ d ∈ p.deps, d ≠ Dig.zero
  kinds : ∀ c ∈ p.changes, 1 ≤ c.kind ∧ c.kind ≤ 7
set_option maxHeartbeats 2000000 in
instance encodePP_ct (p : Pat) [hs : Small (encOkP p)] : FnC Tryz.prog 171 [.agg (ePat p)] (.tuple [.str (rEnc p), .raw (.int .i64 0)]) := ⟨by
  refine fn_of Tryz.func171 Tryz.ntmps171 rfl (rs := [.tmp 2, .tmp 3]) rfl rfl fun hb LF => ?_
  have hd := hs.out.ok.deps
  have hch := hs.out.ok.chgs
  refine wfb fun b4 => ?_
  refine s_alloc fun b5 => ?_
  refine wf ?_
  refine pwp_tok 3 ?_
  refine pwp_loopS (σ := Nat × Tag × List Sx) (fun k => k.1 ≤ p.deps.length ∧ k.2.2 = (p.deps.take k.1).map fun d => sAtom d.bs) (fun k => p.deps.length - k.1) (fun k => [(1, .pt (ePat p) 0), (4, .raw (.pointer (some ⟨b4, 0, none⟩))), (5, .raw (.pointer (some ⟨b5, 0, none⟩))), (15, .slice (p.deps.map eDig) .ro), (16, .raw (.int .i64 p.deps.length)), (17, .raw (.int .i64 k.1))]) (fun k => .tok k.2.1 k.2.2.length 3 :: .box b5 217 (lsC [] .nil) :: .box b4 217 (lsC k.2.2 k.2.1) :: LF) (0, .nil, []) ⟨by simp, by simp⟩ ⟨rfl, rfl, rfl, rfl, rfl, rfl⟩ (.refl _) ?_
  rintro ⟨k, v, l⟩ ⟨hk, he⟩
  dsimp only at hk he
  have hll : l.length = k := by rw [he]; simp; omega
  refine wf ?_
  refine pwp_condD (fun hc => ?_) (fun hc => ?_)
  · have hlt : k < p.deps.length := by omega
    have ee : (p.deps.take (k + 1)).map (fun d => sAtom d.bs) = l ++ [sAtom p.deps[k].bs] := by rw [List.take_succ_eq_append_getElem hlt, List.map_append, he]; rfl
    refine wz fun b7 => ?_
    refine pwp_freezeD 7 ?_
    refine wn ?_
    refine pwp_drawN 6 ?_ ?_
    · decide +kernel
    refine wfa fun v' => ?_
    refine s_storeP (ay := .slice ((l ++ [sAtom p.deps[k].bs]).map eSx) v') (lsC (l ++ [sAtom p.deps[k].bs]) v') rfl rfl Flat.out rfl (by simp) ?_
    refine wf ?_
    refine wf ?_
    exact ⟨(k + 1, v', l ++ [sAtom p.deps[k].bs]), ⟨by dsimp only; omega, ee.symm⟩, by dsimp only; omega, ⟨rfl, rfl, rfl, rfl, rfl, rfl⟩, .refl _⟩
  rw [List.take_of_length_le (by omega)] at he
  clear hll
  refine wf ?_
  refine s_callR (xs := []) [] (.tok v l.length 3 :: .box b5 217 (lsC [] .nil) :: .box b4 217 (lsC l v) :: LF) (f := 213) (cs := []) (le_func _) rfl rfl (.refl _) _ fieldsTab_fn fun r L1 ⟨bm, hr, hL1⟩ => ?_
  subst hr
  subst hL1
  refine wo ?_
  refine pops_nil ?_
  refine pwp_freezeM [(1, .pt (ePat p) 0), (4, .raw (.pointer (some ⟨b4, 0, none⟩))), (5, .raw (.pointer (some ⟨b5, 0, none⟩))), (8, .fmap (eMap kInt vId fTab))] ⟨.inl rfl, .inl rfl, .inl rfl, .inr ⟨rfl, rfl⟩⟩ (.refl _) ?_
  refine wf ?_
  refine pwp_tok 3 ?_
  refine pwp_loopS (σ := Nat × Tag × List Sx) (fun k => k.1 ≤ p.changes.length ∧ k.2.2 = (p.changes.take k.1).map sChgP) (fun k => p.changes.length - k.1) (fun k => [(1, .pt (ePat p) 0), (4, .raw (.pointer (some ⟨b4, 0, none⟩))), (5, .raw (.pointer (some ⟨b5, 0, none⟩))), (8, .fmap (eMap kInt vId fTab)), (32, .slice (p.changes.map eChg) .ro), (33, .raw (.int .i64 p.changes.length)), (34, .raw (.int .i64 k.1))]) (fun k => .tok k.2.1 k.2.2.length 3 :: .box b5 217 (lsC k.2.2 k.2.1) :: .box b4 217 (lsC l v) :: LF) (0, .nil, []) ⟨by simp, by simp⟩ ⟨rfl, rfl, rfl, rfl, rfl, rfl, rfl⟩ (.cons_cons _ (.cons _ (.refl _))) ?_
  rintro ⟨k, u, m⟩ ⟨hk, hm⟩
  dsimp only at hk hm
  have hml : m.length = k := by rw [hm]; simp; omega
  refine wf ?_
  refine pwp_condD (fun hc => ?_) (fun hc => ?_)
  · have hlt : k < p.changes.length := by omega
    have ee : (p.changes.take (k + 1)).map sChgP = m ++ [sChgP p.changes[k]] := by rw [List.take_succ_eq_append_getElem hlt, List.map_append, hm]; rfl
    have hcc := hs.out.ok.chg _ (List.getElem_mem hlt)
    have hkc := hs.out.kinds _ (List.getElem_mem hlt)
    have : Small (p.changes[k].lines.length ≤ 100000 ∧ p.changes[k].over.length ≤ 100000) := ⟨hcc⟩
    have hfun := fOf_fun hkc
    have hfl := fdOf_len p.changes[k]
    refine wz fun b10 => ?_
    refine pwp_freezeD 10 ?_
    refine pwp_seq ?_
    refine pwp_region (by kernel_rfl) ?_
    refine s_fldF (by rfl) (hr := (by first | infer_instance | fail)) ?_
    refine s_loadS (by rfl) rfl ?_
    refine j_call1 (by (conv => lhs; whnf); done) (hN0 := (by first | infer_instance | fail)) (hc := (by first | infer_instance | fail)) ?_
    refine s_bsT1 (by (conv => lhs; whnf); done) (hC0 := (by first | infer_instance | fail)) (hf := (by first | infer_instance | fail)) (by decide) fun t => ?_
    refine wz fun b11 => ?_
    refine wn ?_
    refine pwp_drawN 8 ?_ ?_
    · decide +kernel
    refine wf ?_
    refine s_callV (xs := [.tmp 49]) (f := fOf p.changes[k].kind) (cs := []) (by show Le (vId ((mGet p.changes[k].kind fTab).getD (.raw .nilFunc))) _; rw [fTab_get hkc]; exact le_func _) rfl rfl (fd_call p.changes[k] hkc) ?_
    refine wfa fun v' => ?_
    refine s_storeP (ay := .slice (([sNum p.changes[k].kind] ++ fdOf p.changes[k]).map eSx) v') (lsC ([sNum p.changes[k].kind] ++ fdOf p.changes[k]) v') rfl rfl Flat.out rfl (by simp) ?_
    refine wf ?_
    refine wfa fun u' => ?_
    refine s_storeP (ay := .slice ((m ++ [sChgP p.changes[k]]).map eSx) u') (lsC (m ++ [sChgP p.changes[k]]) u') rfl rfl Flat.out rfl (by simp) ?_
    refine wf ?_
    exact ⟨(k + 1, u', m ++ [sChgP p.changes[k]]), ⟨by dsimp only; omega, ee.symm⟩, by dsimp only; omega, ⟨rfl, rfl, rfl, rfl, rfl, rfl, rfl⟩, by dsimp only; repeat (first | exact List.Sublist.refl _ | apply List.Sublist.cons_cons | apply List.Sublist.cons)⟩
  rw [List.take_of_length_le (by omega)] at hm
  have e : sPat p = sList [sAtom [113, 117, 105, 108, 116, 49], sAtom p.author, sAtom p.message, sNum p.time, sList l, sList m] := by rw [← sPatP_eq hs.out.deps hs.out.kinds, sPatP, ← he, ← hm]
  have i1 : Small (okX (sList [sAtom [113, 117, 105, 108, 116, 49], sAtom p.author, sAtom p.message, sNum p.time, sList l, sList m]) ∧ (encX 8 (sList [sAtom [113, 117, 105, 108, 116, 49], sAtom p.author, sAtom p.message, sNum p.time, sList l, sList m])).length ≤ 1000000000) := by
    rw [← e]; exact ⟨hs.out.ok.ok, hs.out.ok.len⟩
  refine wf ?_
  refine end2 ?_
  rw [rEnc, e]
  exact .refl _⟩
end Go.Proofs
/- Contracts of the program: a patch examined. -/
namespace Go.Proofs
open Go Go.Q
attribute [local irreducible] pwp pops PCalls OpN PYield

/-! ### Plain -/
theorem rMade_ids (c : Chg) (first : Int) : ∀ j (h : j < (rMade c first).length), ((rMade c first)[j]).id = ⟨Dig.zero, first + j⟩ := by
  intro j h
  have key : (∃ x : Atm, rMade c first = [x] ∧ x.id = ⟨Dig.zero, first⟩) ∨ rMade c first = (List.range c.lines.length).map (rLineA c first) ++ (List.range (c.lines.length + 1)).map (rEdgeA c first) := by
    unfold rMade
    repeat' split
    all_goals first | exact .inl ⟨_, rfl, rfl⟩ | exact .inr rfl
  rcases key with ⟨x, e, hx⟩ | e
  · have hj : j = 0 := by rw [e] at h; simpa using h
    subst hj
    simp only [e, List.getElem_cons_zero, hx]
    simp
  · have h2 := h
    simp only [e] at h2 ⊢
    rw [List.getElem_append]
    split
    · simp [rLineA]
    · rename_i h3
      simp only [List.length_map, List.length_range] at h3
      simp only [List.getElem_map, List.getElem_range, rEdgeA, List.length_map, List.length_range]
      congr 1
      omega
theorem idsOk_made {own : List Atm} (c : Chg) (h : idsOk own) : idsOk (own ++ rMade c own.length) := by
  intro i hi
  rw [List.getElem_append]
  split
  · exact h i _
  · rename_i h3
    rw [rMade_ids]
    congr 1
    omega
theorem rFields_kind {c : Chg} (h : rFields c = 0) : 1 ≤ c.kind ∧ c.kind ≤ 7 := by
  unfold rFields at h
  split at h
  · omega
  · omega
theorem rDeps_nz {l : List Dig} (h : rDeps l = 0) : ∀ d ∈ l, d ≠ Dig.zero := by
  intro d hd e
  unfold rDeps at h
  split at h
  · omega
  obtain ⟨i, hi, rfl⟩ := List.mem_iff_getElem.1 hd
  have h0 := firstErr_eq_zero h i (by simpa using hi)
  rw [rDepE, if_pos (by simp [List.getD, hi, e])] at h0
  omega

/-! ### The walk -/
def rEx (p : Pat) : List Atm × Str × Int := if (rCheckP p).2 ≠ 0 then ([], [], (rCheckP p).2) else if 65536 < ((rEnc p).length : Int) then ([], [], 4) else ((rCheckP p).1, rEnc p, 0)
theorem rCheckP_ok {p : Pat} (h : rHead p = 0) : rCheckP p = rChanges p.changes [] := by rw [checkP_head, if_neg (by simp [h])]
theorem rHead_deps {p : Pat} (h : rHead p = 0) : rDeps p.deps = 0 := by
  unfold rHead at h
  split at h
  · omega
  split at h
  · omega
  split at h
  · omega
  split at h
  · rename_i h4; exact absurd h h4
  · rename_i h4; simpa using h4
def box6 (b : Nat) (s : Tag × List Atm) (LF : List Res) : List Res := .box b 167 [.slice (s.2.map eAtm) s.1] :: .tok s.1 s.2.length 172 :: LF
set_option maxHeartbeats 2000000 in
instance examine_ct (p : Pat) [hs : Small (rGreat p = false)] : FnC Tryz.prog 131 [.agg (ePat p)] (.tuple [.slice ((rEx p).1.map eAtm) .ro, .str (rEx p).2.1, .raw (.int .i64 (rEx p).2.2)]) := ⟨by
  obtain ⟨hg1, hg2, hg3, hg4, hg5⟩ := great_facts hs.out
  refine fn_of Tryz.func131 Tryz.ntmps131 rfl (rs := [.tmp 2, .tmp 3, .tmp 4]) rfl rfl fun hb LF => ?_
  refine wf ?_
  refine pwp_condN (fun h1 => ?_) (fun h1 => ?_)
  · refine wf ?_
    refine end3 ?_
    have e : rCheckP p = ([], rHead p) := by rw [checkP_head, if_pos h1]
    have e2 : rEx p = ([], [], rHead p) := by rw [rEx, e, if_pos h1]
    rw [e2]
    exact .tuple3 (.ros rfl) (.refl _) (.refl _)
  have hH := rCheckP_ok h1
  refine wfb fun b6 => ?_
  refine pwp_tok 172 ?_
  refine pwp_perm (.swap _ _ _) ?_
  refine pwp_loopS (σ := Nat × Tag × List Atm) (fun k => k.1 ≤ p.changes.length ∧ k.2.2.length ≤ k.1 * 4001 ∧ idsOk k.2.2 ∧ (∀ c ∈ p.changes.take k.1, 1 ≤ c.kind ∧ c.kind ≤ 7) ∧ rCheckP p = rChanges (p.changes.drop k.1) k.2.2) (fun k => p.changes.length - k.1) (fun k => [(1, .pt (ePat p) 0), (6, .raw (.pointer (some ⟨b6, 0, none⟩))), (20, .slice (p.changes.map eChg) .ro), (21, .raw (.int .i64 p.changes.length)), (22, .raw (.int .i64 k.1))]) (fun k => box6 b6 k.2 LF) (0, .nil, []) ⟨by simp, by simp, fun i h => absurd h (by simp), by simp, hH⟩ ⟨rfl, rfl, rfl, rfl, rfl⟩ (.refl _) ?_
  rintro ⟨k, v, own⟩ ⟨hk, hlen, hid, hkd, he⟩
  dsimp only at hk hlen hid hkd he
  rw [show box6 b6 (k, v, own).2 LF = .box b6 167 [.slice (own.map eAtm) v] :: .tok v own.length 172 :: LF from rfl]
  refine wf ?_
  refine pwp_condD (fun hc => ?_) (fun hc => ?_)
  · have hlt : k < p.changes.length := by omega
    rw [rChanges_step hlt] at he
    refine wz fun b8 => ?_
    refine pwp_freezeD 8 ?_
    refine wf ?_
    refine pwp_condN (fun h2 => ?_) (fun h2 => ?_)
    · refine wf ?_
      rw [if_pos h2] at he
      have e2 : rEx p = ([], [], rFields p.changes[k]) := by rw [rEx, he, if_pos h2]
      refine end3 ?_
      rw [e2]
      exact .tuple3 (.ros rfl) (.refl _) (.refl _)
    rw [if_neg (by simp [h2])] at he
    have hll : p.changes[k].lines.length ≤ 2000 := rFields_lines h2
    have hkk : 1 ≤ p.changes[k].kind ∧ p.changes[k].kind ≤ 7 := rFields_kind h2
    have hmm := rMade_len p.changes[k] own.length
    have i1 : Small (rFields p.changes[k] = 0 ∧ own.length ≤ 100000 ∧ idsOk own) := ⟨h2, by omega, hid⟩
    refine wf ?_
    refine pwp_condN (fun h3 => ?_) (fun h3 => ?_)
    · refine wf ?_
      rw [if_pos h3] at he
      have e2 : rEx p = ([], [], rRefs p.changes[k] own) := by rw [rEx, he, if_pos h3]
      refine end3 ?_
      rw [e2]
      exact .tuple3 (.ros rfl) (.refl _) (.refl _)
    rw [if_neg (by simp [h3])] at he
    refine wf ?_
    refine pwp_rangeFunc (made_iter p.changes[k] own.length hkk ⟨hll, by omega, by omega⟩) [41] (σ := Tag × List Atm) (fun pre s => s.2 = own ++ pre) (fun _ _ => False) (fun s LF' => box6 b6 s LF') (v, own) LF ?_ rfl (fun _ => rfl) (by simp) (fun _ _ => rfl) (.refl _) (by simp) ?_ ?_ (fun _ _ h => h.elim)
    · exact .refl _
    · rintro pre x ⟨v1, own1⟩ LF' hpre hI
      dsimp only at hI
      have hpl := hpre.length_le
      have hol : own1.length ≤ 90000 := by
        rw [hI, List.length_append]
        rw [List.length_append, List.length_singleton] at hpl
        omega
      rw [show box6 b6 (v1, own1) LF' = .box b6 167 [.slice (own1.map eAtm) v1] :: .tok v1 own1.length 172 :: LF' from rfl]
      refine wz fun b11 => ?_
      refine pwp_freezeD 11 ?_
      refine wfa fun v2 => ?_
      exact ⟨(v2, own1 ++ [x]), by dsimp only; rw [hI, List.append_assoc], .refl _⟩
    · rintro ⟨v1, own1⟩ hI
      dsimp only at hI
      refine wf ?_
      refine ⟨(k + 1, v1, own1), ⟨by dsimp only; omega, ?_, ?_, ?_, ?_⟩, by dsimp only; omega, ⟨rfl, rfl, rfl, rfl, rfl⟩, .refl _⟩
      · dsimp only
        rw [hI, List.length_append]; omega
      · dsimp only
        rw [hI]; exact idsOk_made _ hid
      · dsimp only
        intro c hcm
        rw [List.take_succ_eq_append_getElem hlt] at hcm
        rcases List.mem_append.1 hcm with h | h
        · exact hkd c h
        · rw [List.mem_singleton.1 h]; exact hkk
      · dsimp only
        rw [hI]; exact he
  have hkk : k = p.changes.length := by omega
  rw [List.drop_eq_nil_of_le (by omega)] at he
  rw [List.take_of_length_le (by omega)] at hkd
  have he' : rCheckP p = (own, 0) := he
  have i1 : Small (encOkP p) := ⟨⟨encOk_of hs.out, rDeps_nz (rHead_deps h1), hkd⟩⟩
  refine wf ?_
  have h0 : ¬ (rCheckP p).2 ≠ 0 := by rw [he']; simp
  refine pwp_condD (fun h => ?_) (fun h => ?_)
  · refine wf ?_
    have e2 : rEx p = ([], [], 4) := by rw [rEx, if_neg h0, if_pos h]
    refine end3 ?_
    rw [e2]
    exact .tuple3 (.ros rfl) (.refl _) (.refl _)
  · refine wf ?_
    have e2 : rEx p = (own, rEnc p, 0) := by rw [rEx, if_neg h0, if_neg h, he']
    refine end3 ?_
    rw [e2]
    exact .tuple3 (.ros rfl) (.refl _) (.refl _)⟩
end Go.Proofs
/- Contracts of the program: whether a patch is valid, its encoding and identity. -/
namespace Go.Proofs
open Go Go.Q
attribute [local irreducible] pwp pops PCalls OpN

theorem rEx_err (p : Pat) : (rEx p).2.2 = (rEncodeP p).2 := by
  unfold rEx rEncodeP rEncode
  split
  · rfl
  · split <;> rfl
theorem rEx_str (p : Pat) : (rEx p).2.1 = (rEncodeP p).1 := by
  unfold rEx rEncodeP rEncode
  split
  · rfl
  · split <;> rfl
instance CheckPP_ct (p : Pat) [hs : Small (rGreat p = false)] : FnC Tryz.prog 107 [.agg (ePat p)] (.raw (.int .i64 (rEncodeP p).2)) := ⟨by
  refine fn_of Tryz.func107 Tryz.ntmps107 rfl (rs := [.tmp 2]) rfl rfl fun hb LF => ?_
  refine wf ?_
  refine end1 (.of_eq ?_)
  rw [← rEx_err]⟩
instance EncodePP_ct (p : Pat) [hs : Small (rGreat p = false)] : FnC Tryz.prog 105 [.agg (ePat p)] (.tuple [.str (rEncodeP p).1, .raw (.int .i64 (rEncodeP p).2)]) := ⟨by
  refine fn_of Tryz.func105 Tryz.ntmps105 rfl (rs := [.tmp 2, .tmp 3]) rfl rfl fun hb LF => ?_
  refine wf ?_
  refine end2 ?_
  rw [← rEx_err, ← rEx_str]
  exact .refl _⟩
end Go.Proofs
/- Contracts of the program: lists of digests that are sorted in place. -/
namespace Go.Proofs
open Go Go.Q
attribute [local irreducible] pwp pops PCalls OpN

def vDig (d : Dig) : List Value := bcs d.bs
instance : RawE eDig vDig := ⟨fun d => by simp [eDig, vDig, bcs, eU8]; intro a _; rfl, fun d x hx => by
  obtain ⟨b, _, rfl⟩ := List.mem_map.1 hx; rfl⟩
instance : TRw Tryz.prog 25 37 32 32 := ⟨by
  have h2 : (Tryz.prog.info? 37).map (fun i => (i.size, i.bytes, i.zero.isSome, (i.zero.getD undef).cells.size)) = some (32, 32, true, 32) := by kernel_rfl
  obtain ⟨i, hi, e⟩ := Option.map_eq_some_iff.1 h2
  simp only [Prod.mk.injEq] at e
  obtain ⟨e1, e2, e3, e4⟩ := e
  obtain ⟨z, hz⟩ := Option.isSome_iff_exists.1 e3
  rw [hz] at e4
  exact ⟨i, z, by kernel_rfl, hi, e1, e2, hz, e4, by decide, by decide⟩⟩
abbrev DRow (v : Value) (l : List Dig) (R : List Res) : Prop := RowL vDig 37 32 v l R
theorem cloneD_fn (l : List Dig) (t : Tag) (hl : l.length ≤ 1000000) : PCalls Tryz.prog 75 [.slice (l.map eDig) t] [] (fun r L' => ∃ v, r = .raw v ∧ DRow v l L') := by
  refine pcalls_bd Tryz.func75 rfl Tryz.ntmps75 (rs := [.tmp 2]) rfl rfl fun hb LF => ?_
  rw [List.nil_append]
  refine wf ?_
  refine s_eqNil rfl fun b hnil => ?_
  refine wf ?_
  refine pwp_condB (fun h => ?_) (fun h => ?_)
  · have h0 : l = [] := by simpa using hnil h
    subst h0
    refine pwp_seq ?_
    refine pwp_region (by kernel_rfl) ?_
    refine s_assign ?_
    refine pops_nil ?_
    refine wf ?_
    exact ⟨trivial, _, [], .cons (.tmp 2) .nil, .refl _, _, rfl, .nil none (by simp)⟩
  refine pwp_skip ?_
  refine pwp_seq ?_
  refine pwp_region (by kernel_rfl) ?_
  refine s_bsRow (vf := vDig) fun v0 hv0 => ?_
  refine wf ?_
  refine s_appRow (f := eDig) (R := []) (LF := LF) (fun R' => R' ++ LF) rfl rfl hv0 (.refl _) (fun R' => .refl _) (by simp only [List.length_nil]; omega) (by simp only [List.length_nil]; omega) fun v R' hv => ?_
  refine wf ?_
  refine wf ?_
  rw [List.nil_append] at hv
  exact ⟨trivial, _, R', .cons (.tmp 2) .nil, .refl _, v, rfl, hv⟩
end Go.Proofs
/- Contracts of the program: slices.Compact on a row of digests. -/
namespace Go.Proofs
open Go Go.Q
attribute [local irreducible] pwp pops PCalls OpN

/-- Runs of equals become one. -/
def dStep (acc : List Dig) (x : Dig) : List Dig := if acc.getLast? = some x then acc else acc ++ [x]
def ded (l : List Dig) : List Dig := l.foldl dStep []
theorem ded_snoc (l : List Dig) (x : Dig) : ded (l ++ [x]) = if (ded l).getLast? = some x then ded l else ded l ++ [x] := by rw [ded, List.foldl_append]; rfl
theorem ded_last (l : List Dig) : (ded l).getLast? = l.getLast? := by
  rcases List.eq_nil_or_concat l with rfl | ⟨m, x, rfl⟩
  · rfl
  · rw [List.concat_eq_append, ded_snoc]
    split
    · rename_i h; rw [h]; simp
    · simp
theorem ded_take {l : List Dig} {j : Nat} (h0 : 0 < j) (h : j < l.length) : ded (l.take (j + 1)) = if l[j] = l[j - 1] then ded (l.take j) else ded (l.take j) ++ [l[j]] := by
  rw [List.take_succ_eq_append_getElem h, ded_snoc, ded_last]
  have : (l.take j).getLast? = some l[j - 1] := by
    rw [List.getLast?_eq_getElem?, List.length_take, Nat.min_eq_left (by omega), List.getElem?_take, if_pos (by omega)]
    simp
  rw [this]
  by_cases e : l[j] = l[j - 1]
  · rw [if_pos (by rw [e]), if_pos e]
  · rw [if_neg (fun h => e (by injection h with h; exact h.symm)), if_neg e]
theorem vDig_len (d : Dig) : (vDig d).length = 32 := by
  have : (eDig d).length = 32 := by simp
  rw [(inferInstance : RawE eDig vDig).out] at this
  simpa using this
theorem zero37 : ∀ i z, Tryz.prog.info? 37 = some i → i.zero = some z → ∀ x ∈ z.cells, x.oneCell' = true := by
  have h : (Tryz.prog.info? 37).map (fun i => (i.zero.getD undef).cells.all (·.oneCell')) = some true := by kernel_rfl
  intro i z hi hz x hx
  rw [hi] at h
  simp only [Option.map_some, hz, Option.getD_some, Option.some.injEq, Array.all_eq_true_iff_forall_mem] at h
  exact h x hx
theorem take_rows (l : List Dig) (k : Nat) (h : k ≤ l.length) (rest : List Value) : (l.flatMap vDig ++ rest).take (k * 32) = (l.take k).flatMap vDig := by
  have e : (l.flatMap vDig ++ rest) = (l.take k).flatMap vDig ++ ((l.drop k).flatMap vDig ++ rest) := by
    rw [← List.append_assoc, ← List.flatMap_append, List.take_append_drop]
  rw [e]
  refine List.take_left' ?_
  rw [len_raws (f := eDig) (sz := 32), List.length_take, Nat.min_eq_left h]
set_option maxHeartbeats 2000000 in
theorem compact_fn (l : List Dig) (v : Value) (R : List Res) (hv : DRow v l R) (hl : l.length ≤ 1000000) : PCalls Tryz.prog 111 [.raw v] R (fun r L' => r = .slice ((ded l).map eDig) .ro ∧ L' = []) := by
  refine pcalls_bd Tryz.func111 rfl Tryz.ntmps111 (rs := [.tmp 2]) rfl rfl fun hb LF => ?_
  have hmx : ∀ m : List Dig, m.length ≤ l.length → m.length ≤ maxN ∧ m.length * 32 ≤ maxN := fun m h => by
    have : maxN = 140737488355328 := rfl
    omega
  obtain ⟨o, c, rfl⟩ := hv.slice
  refine wf ?_
  refine s_lenR rfl ?_
  refine wf ?_
  refine pwp_condD (fun h1 => ?_) (fun h1 => ?_)
  · refine pwp_seq ?_
    refine pwp_region (by kernel_rfl) ?_
    refine s_moveN (by (conv => lhs; whnf); done) ?_
    refine s_assign ?_
    refine pops_nil ?_
    have e : ded l = l := by
      match l, h1 with
      | [], _ => rfl
      | [x], _ => rfl
      | _ :: _ :: _, h => simp at h; omega
    refine pwp_freezeRow (f := eDig) 2 hv (hmx l (Nat.le_refl _)) (.refl _) rfl ?_
    refine wf ?_
    exact ⟨trivial, _, [], .cons (.tmp 2) .nil, .refl _, by rw [e]; exact ⟨rfl, rfl⟩⟩
  have hne : l ≠ [] := fun e => by subst e; exact h1 (by simp)
  obtain ⟨_, r, cur, rest, rfl, rfl, hcur, hsz, hlc⟩ := hv.inv hne
  refine wf ?_
  refine pwp_loopS (σ := Nat) (fun k => 1 ≤ k ∧ k ≤ l.length ∧ ded (l.take k) = l.take k) (fun k => l.length - k) (fun k => [(0, .raw (.slice (some ⟨r, 0, none⟩) l.length c)), (3, .raw (.int .i64 (k : Int)))]) (fun _ => [.raw r (.cells cur 37 (0, 0))] ++ LF) 1 ⟨by omega, by omega, ?_⟩ ⟨rfl, rfl⟩ (.refl _) ?_
  · match l, h1 with
    | [], _ => rfl
    | x :: _, _ => rfl
  rintro k ⟨hk1, hk, he⟩
  refine wf ?_
  refine s_lenR rfl ?_
  refine wf ?_
  refine pwp_condD (fun hc => ?_) (fun hc => ?_)
  · have hlt : k < l.length := by omega
    refine wn ?_
    refine pwp_drawN 10 ?_ ?_
    · decide +kernel
    refine wf ?_
    refine s_ixRow (k := k) rfl rfl hlt ?_
    refine s_ldRow (f := eDig) (a0 := l[k]) rfl List.mem_cons_self (by rw [hcur, Nat.zero_add]; exact row_at vDig_len l k hlt rest) (by omega) ?_
    refine wf ?_
    refine s_ixRow (k := k - 1) rfl (by show PV.raw (Value.int .i64 ((k : Int) - 1)) = PV.raw (Value.int .i64 ((k - 1 : Nat) : Int)); congr 2; omega) (by omega) ?_
    refine s_ldRow (f := eDig) (a0 := l[k - 1]) rfl List.mem_cons_self (by rw [hcur, Nat.zero_add]; exact row_at vDig_len l (k - 1) (by omega) rest) (by omega) ?_
    refine wf ?_
    have hd := ded_take (l := l) (j := k) (by omega) hlt
    refine pwp_condD (fun h2 => ?_) (fun h2 => ?_)
    · rw [if_pos h2] at hd
      refine pwp_seq ?_
      refine pwp_region (by kernel_rfl) ?_
      refine s_moveN (by (conv => lhs; whnf); done) ?_
      refine s_moveN (by (conv => lhs; whnf); done) ?_
      refine s_cutRow k l.length rfl (by omega) (Nat.le_refl _) (by omega) hlc (fun o e => by cases e; exact ⟨_, rfl⟩) (by simp) (by simp) (fun _ => rfl) ?_
      refine wf ?_
      refine pwp_loopS (σ := Nat × Nat × List Dig × Array Value) (fun j => 1 ≤ j.1 ∧ k + j.1 ≤ l.length ∧ 1 ≤ j.2.1 ∧ j.2.1 + 1 ≤ k + j.1 ∧ j.2.2.1.length = l.length ∧ j.2.2.1.take j.2.1 = ded (l.take (k + j.1)) ∧ (∀ i, k + j.1 ≤ i + 1 → j.2.2.1[i]? = l[i]?) ∧ j.2.2.2.toList = j.2.2.1.flatMap vDig ++ rest ∧ j.2.2.2.size = c * 32) (fun j => l.length - k - j.1) (fun j => [(0, .raw (.slice (some ⟨r, 0, none⟩) l.length c)), (3, .raw (.int .i64 (j.2.1 : Int))), (4, .raw (.slice (some ⟨r, 0 + k * 32, none⟩) (l.length - k) (c - k))), (5, .raw (.int .i64 (j.1 : Int)))]) (fun j => [.raw r (.cells j.2.2.2 37 (0, 0))] ++ LF) (1, k, l, cur) ⟨by omega, by dsimp only; omega, by dsimp only; omega, by dsimp only; omega, rfl, by dsimp only; rw [hd, he], fun _ _ => rfl, hcur, hsz⟩ ⟨rfl, rfl, rfl, rfl⟩ (.refl _) ?_
      rintro ⟨k2, kk, l1, cur1⟩ ⟨i1, i2, i3, i4, i5, i6, i7, i8, i9⟩
      dsimp only at i1 i2 i3 i4 i5 i6 i7 i8 i9 ⊢
      refine wf ?_
      refine s_lenR rfl ?_
      refine wf ?_
      refine pwp_condD (fun hc2 => ?_) (fun hc2 => ?_)
      · have hlt2 : k + k2 < l.length := by omega
        have g1 : l1[k + k2]'(by omega) = l[k + k2] := by
          have := i7 (k + k2) (by omega)
          rw [List.getElem?_eq_getElem (by omega), List.getElem?_eq_getElem hlt2] at this
          exact Option.some.inj this
        have g2 : l1[k + (k2 - 1)]'(by omega) = l[k + k2 - 1] := by
          have := i7 (k + (k2 - 1)) (by omega)
          rw [List.getElem?_eq_getElem (by omega), List.getElem?_eq_getElem (by omega)] at this
          have e := Option.some.inj this
          rw [e]
          congr 1
          omega
        have hd2 := ded_take (l := l) (j := k + k2) (by omega) hlt2
        refine wn ?_
        refine pwp_drawN 10 ?_ ?_
        · decide +kernel
        refine wf ?_
        refine s_ixRow (k := k2) rfl rfl (by omega) ?_
        refine s_ldRow (f := eDig) (a0 := l[k + k2]) rfl List.mem_cons_self (by rw [i8, show 0 + k * 32 + k2 * 32 = (k + k2) * 32 by omega, row_at vDig_len l1 (k + k2) (by omega) rest, g1]) (by omega) ?_
        refine wf ?_
        refine s_ixRow (k := k2 - 1) rfl (by show PV.raw (Value.int .i64 ((k2 : Int) - 1)) = PV.raw (Value.int .i64 ((k2 - 1 : Nat) : Int)); congr 2; omega) (by omega) ?_
        refine s_ldRow (f := eDig) (a0 := l[k + k2 - 1]) rfl List.mem_cons_self (by rw [i8, show 0 + k * 32 + (k2 - 1) * 32 = (k + (k2 - 1)) * 32 by omega, row_at vDig_len l1 (k + (k2 - 1)) (by omega) rest, g2]) (by omega) ?_
        refine wf ?_
        refine pwp_condN (fun h3 => ?_) (fun h3 => ?_)
        · rw [if_neg h3] at hd2
          refine wf ?_
          refine s_ixRow (k := k2) rfl rfl (by omega) ?_
          refine s_ldRow (f := eDig) (a0 := l[k + k2]) rfl List.mem_cons_self (by rw [i8, show 0 + k * 32 + k2 * 32 = (k + k2) * 32 by omega, row_at vDig_len l1 (k + k2) (by omega) rest, g1]) (by omega) ?_
          refine wf ?_
          refine s_ixRow (k := kk) rfl rfl (by omega) ?_
          refine s_stRow (f := eDig) (a0 := l[k + k2]) (E := 37) (cur := cur1) (L' := LF) (fun x => [x] ++ LF) rfl rfl (vDig_len _) (by omega) (.refl _) (fun _ => .refl _) ?_
          refine wf ?_
          refine wf ?_
          have hset : (l1.set kk l[k + k2]).take (kk + 1) = l1.take kk ++ [l[k + k2]] := by
            rw [List.take_succ_eq_append_getElem (by simp; omega)]
            congr 1
            · rw [List.take_set_of_le (by omega)]
            · simp
          have hcl : (cur1.toList.take (0 + kk * 32) ++ vDig l[k + k2] ++ cur1.toList.drop (0 + kk * 32 + 32)) = (l1.set kk l[k + k2]).flatMap vDig ++ rest := by
            rw [i8, Nat.zero_add]; exact flat_set vDig_len l1 kk (by omega) _ rest
          refine ⟨(k2 + 1, kk + 1, l1.set kk l[k + k2], (cur1.toList.take (0 + kk * 32) ++ vDig l[k + k2] ++ cur1.toList.drop (0 + kk * 32 + 32)).toArray), ⟨by dsimp only; omega, by dsimp only; omega, by dsimp only; omega, by dsimp only; omega, by dsimp only; rw [List.length_set]; exact i5, by dsimp only; rw [hset, i6, ← Nat.add_assoc, hd2], fun i hi => ?_, hcl, ?_⟩, by dsimp only; omega, ⟨rfl, rfl, rfl, rfl⟩, .refl _⟩
          · dsimp only at hi ⊢
            rw [List.getElem?_set_ne (by omega)]
            exact i7 i (by omega)
          · dsimp only
            have hv32 := vDig_len l[k + k2]
            simp only [List.size_toArray, List.length_append, List.length_take, List.length_drop, Array.length_toList, hv32]
            omega
        · rw [if_pos h3] at hd2
          refine wf ?_
          refine ⟨(k2 + 1, kk, l1, cur1), ⟨by dsimp only; omega, by dsimp only; omega, i3, by dsimp only; omega, i5, by dsimp only; rw [i6, ← Nat.add_assoc, hd2], fun i hi => i7 i (by dsimp only at hi; omega), i8, i9⟩, by dsimp only; omega, ⟨rfl, rfl, rfl, rfl⟩, .refl _⟩
      have hkk : k + k2 = l.length := by omega
      rw [hkk, List.take_of_length_le (Nat.le_refl _)] at i6
      refine wf ?_
      refine s_cutRow kk l.length rfl (by omega) (Nat.le_refl _) (by omega) hlc (fun o e => by cases e; exact ⟨_, rfl⟩) (by simp) (by simp) (fun _ => rfl) ?_
      refine s_clearRow (E := 37) (cur := cur1) (L' := LF) zero37 (fun x => [x] ++ LF) rfl (by omega) (by omega) (.refl _) (fun _ => .refl _) fun zs hzs => ?_
      refine pops_nil ?_
      refine pwp_seq ?_
      refine pwp_region (by kernel_rfl) ?_
      refine s_moveN (by (conv => lhs; whnf); done) ?_
      refine s_moveN (by (conv => lhs; whnf); done) ?_
      refine s_cutRow 0 kk rfl (by omega) (by omega) (by omega) hlc (by simp) (fun _ => rfl) (fun o e => by cases e; exact ⟨_, rfl⟩) (by simp) ?_
      refine s_assign ?_
      refine pops_nil ?_
      have hlk : (l1.take kk).length = kk := by rw [List.length_take, Nat.min_eq_left (by omega)]
      have hrow : RowL vDig 37 32 (.slice (some ⟨r, 0, none⟩) (l1.take kk).length c) (l1.take kk) [.raw r (.cells (cur1.toList.take (0 + kk * 32) ++ zs ++ cur1.toList.drop (0 + kk * 32 + (l.length - kk) * 32)).toArray 37 (0, 0))] := by
        refine RowL.mk (rest := zs ++ cur1.toList.drop (0 + kk * 32 + (l.length - kk) * 32)) vDig_len ?_ ?_ (by rw [hlk]; omega)
        · simp only [List.append_assoc]
          rw [Nat.zero_add, i8, take_rows l1 kk (by omega)]
        · simp only [List.size_toArray, List.length_append, List.length_take, List.length_drop, Array.length_toList, hzs]
          omega
      refine pwp_freezeRow (f := eDig) 2 hrow (hmx _ (by rw [hlk]; omega)) (.refl _) (by
        show PV.raw (Value.slice (some ⟨r, 0 + 0 * 32, none⟩) (kk - 0) (c - 0)) = _
        rw [hlk]; simp) ?_
      refine wf ?_
      exact ⟨trivial, _, [], .cons (.tmp 2) .nil, .refl _, by rw [← i6]; exact ⟨rfl, rfl⟩⟩
    · rw [if_neg h2] at hd
      refine wf ?_
      refine ⟨k + 1, ⟨by omega, by omega, ?_⟩, by dsimp only; omega, ⟨rfl, rfl⟩, .refl _⟩
      rw [hd, he, ← List.take_succ_eq_append_getElem hlt]
  have hkk : k = l.length := by omega
  rw [List.take_of_length_le (by omega)] at he
  refine pwp_exit ?_
  refine pwp_seq ?_
  refine pwp_region (by kernel_rfl) ?_
  refine s_moveN (by (conv => lhs; whnf); done) ?_
  refine s_assign ?_
  refine pops_nil ?_
  refine pwp_freezeRow (f := eDig) 2 hv (hmx l (Nat.le_refl _)) (.refl _) rfl ?_
  refine wf ?_
  exact ⟨trivial, _, [], .cons (.tmp 2) .nil, .refl _, by rw [he]; exact ⟨rfl, rfl⟩⟩
end Go.Proofs
/- Contracts of the program: slices.SortFunc on a row of digests. -/
namespace Go.Proofs
open Go Go.Q Go.Shelf Go.Sort
attribute [local irreducible] pwp pops OpN
instance : Inhabited Dig := ⟨Dig.zero⟩

def ltD (x y : Dig) : Bool := ltOf cmpD x y
theorem swoD : SWO (ltOf cmpD) where
  irrefl x := by
    unfold ltOf
    exact decide_eq_false (fun h => Dig.lt_irrefl x h)
  trans x y z h1 h2 := by
    unfold ltOf at *
    exact decide_eq_true (Dig.lt_trans (of_decide_eq_true h1) (of_decide_eq_true h2))
  ntrans x y z h1 h2 := by
    unfold ltOf at *
    refine decide_eq_false fun h => ?_
    have h1 := of_decide_eq_false h1
    have h2 := of_decide_eq_false h2
    rcases Dig.tri x y with h' | h' | h'
    · exact h1 h'
    · subst h'; exact h2 h
    · rcases Dig.tri y z with h3 | h3 | h3
      · exact h2 h3
      · subst h3; exact h1 h
      · exact Dig.lt_irrefl x (Dig.lt_trans h (Dig.lt_trans h3 h'))
def sortD (l : List Dig) : List Dig := l.mergeSort fun x y => !(ltOf cmpD) y x
theorem cmp_lays {w : World} {g : Gh} {r n E : Nat} {cur : Array Value} (hi : Inv w g []) (h1 : w.heap[r]? = some (.cells cur E (0, 0))) (h2 : ∀ o, g.H r o = none) (h3 : g.M r = none) : CmpLays Tryz.prog 83 #[] vDig 32 cmpD r 0 n w := by
  intro m os dk hdk x y
  have hI : Inv (sortWorldK vDig 32 w r 0 m dk os) g [] := hi.laterBut h2 h3 (by simp [blocks]) (fun k hk hn => sortWorld_other m dk os k hk hn)
  have hv : VRl g [.agg (vDig x).toArray, .agg (vDig y).toArray] [.agg (eDig x), .agg (eDig y)] := by
    have e : ∀ d : Dig, VR g (.agg (vDig d).toArray) (.agg (eDig d)) := fun d => by
      rw [(inferInstance : RawE eDig vDig).out]
      have : VRl g (vDig d) ((vDig d).map PV.raw) := ⟨by simp, fun i h1 h2 => by simp; exact .raw _⟩
      exact this.agg
    exact .cons (e x) (.cons (e y) (.nil g))
  have := (pCompare_ct x y).out _ (sortWorldK vDig 32 w r 0 m dk os) g [] hv hI
  refine Calls.mono this ?_
  rintro e w' ⟨v, x', g', L', rfl, k1, k2, k3, k4, rfl, rfl⟩
  refine ⟨by rw [k1.raw_inv], ?_⟩
  exact grown_eq k3.os k3.tape k3.output.1 k3.output.2 k3.size (fun k hk => k3.keep k hk (by simp [blocks]))
theorem sort_fn (l : List Dig) (v : Value) (R : List Res) (hv : DRow v l R) (hl : l.length ≤ 1000000) : PCalls Tryz.prog 110 [.raw v, .raw (.func (.func 83) #[] #[])] R (fun _ L' => ∃ v', v' = v ∧ DRow v' (sortD l) L') := fun vs w g LF hvs hi => by
  obtain ⟨v1, v2, rfl⟩ : ∃ a b, vs = [a, b] := by
    have := hvs.len
    match vs, this with
    | [a, b], _ => exact ⟨a, b, rfl⟩
  rw [hvs.uncons.1.raw_inv, hvs.uncons.2.uncons.1.raw_inv]
  obtain ⟨o, c, rfl⟩ := hv.slice
  by_cases hne : l = []
  · subst hne
    refine (AnyF.slices_SortFunc_none Tryz.sortD o c _ w).mono ?_
    rintro e w' ⟨rfl, rfl⟩
    exact ⟨_, .raw (.tuple #[]), g, R, rfl, .raw _, hi, .refl _ _ _, .refl _ _, _, rfl, by simpa [sortD] using hv⟩
  obtain ⟨_, r, cur, rest, rfl, rfl, hcur, hsz, hlc⟩ := hv.inv hne
  obtain ⟨k1, k2, k3, k4, k5⟩ := hi.rawHead
  have hlt : r < w.heap.size := (Array.getElem?_eq_some_iff.1 k1).1
  have hF : (flatK vDig 32 l.toArray).toList = l.flatMap vDig := flatK_eq (by decide) vDig_len l
  have hH : HoldsK vDig 32 w r 0 l.toArray := fun j hj => by
    have hj2 : j < l.length * 32 := by simpa using hj
    refine ⟨?_, by simp [World.frozen?, k1]⟩
    have hj3 : j < cur.size := by omega
    simp only [World.cell?, k1, Option.isSome_none, Bool.false_eq_true, if_false, Nat.zero_add]
    rw [getElem!_pos _ j hj]
    have e1 : cur.toList[j]? = (flatK vDig 32 l.toArray).toList[j]? := by
      rw [hcur, hF, List.getElem?_append_left (by rw [len_raws (f := eDig) (sz := 32)]; exact hj2)]
    rw [Array.getElem?_toList, Array.getElem?_toList, Array.getElem?_eq_getElem hj] at e1
    exact e1
  refine (AnyQ.slices_SortFunc_total Tryz.sortD 32 (fun w => ?_) (fun w => TSz.run (inferInstance : TSz Tryz.prog 37 32 32) w) vDig vDig_len (fun x v h => (inferInstance : RawE eDig vDig).one x v h) cmpD swoD 83 #[] r 0 c l.toArray w (fun args w => (inferInstance : TFun Tryz.prog 83).out args w) (cmp_lays (hi.sub (List.nil_sublist _)) k1 k2 k3) hH hlt (by simp; omega) ?_).mono ?_
  · have hu : Tryz.prog.underlying 37 = some (.array 32 5) := by kernel_rfl
    show (isAgg 37).run Tryz.prog w = _
    simp [isAgg, run_underlying hu]
  · intro x y h1 h2
    unfold ltOf at h1 h2
    have h1 := of_decide_eq_false h1
    have h2 := of_decide_eq_false h2
    rcases Dig.tri x y with h' | h' | h'
    · exact absurd h' h1
    · exact h'
    · exact absurd h' h2
  · rintro e w' ⟨rfl, n, os, rfl⟩
    have hlen : (sortD l).length = l.length := List.length_mergeSort _
    have hFs : (flatK vDig 32 (sortD l).toArray).toList = (sortD l).flatMap vDig := flatK_eq (by decide) vDig_len (sortD l)
    have hFz : (flatK vDig 32 (sortD l).toArray).size = l.length * 32 := by simp [hlen]
    have htk := putCells_take (cur := cur) (flatK vDig 32 (sortD l).toArray) (by omega)
    have hrow : RowL vDig 37 32 (.slice (some ⟨r, 0, none⟩) (sortD l).length c) (sortD l) [.raw r (.cells (putCells id 0 (flatK vDig 32 (sortD l).toArray) cur) 37 (0, 0))] := by
      refine RowL.mk (rest := (putCells id 0 (flatK vDig 32 (sortD l).toArray) cur).toList.drop (l.length * 32)) vDig_len ?_ (by simp [putCells, hsz]) (by omega)
      rw [← hFs, ← htk, hFz, List.take_append_drop]
    rw [hlen] at hrow
    refine ⟨_, .raw (.tuple #[]), g, [.raw r (.cells (putCells id 0 (flatK vDig 32 (sortD l).toArray) cur) 37 (0, 0))], rfl, .raw _, ?_, ⟨rfl, rfl, ⟨rfl, Nat.le_add_right _ _⟩, sortWorld_size n _ os, fun b hb hn => sortWorld_other n _ os b hb (fun e => hn (by rw [e]; simp [blocks, Res.block])), .refl g, fun _ _ _ => ⟨fun _ => rfl, rfl⟩⟩, fun b hb _ => by simpa [blocks, Res.block] using hb, _, rfl, hrow⟩
    exact (k5.laterBut k2 k3 k4 (fun k hk hn => sortWorld_other n _ os k hk hn)).addRaw (sortWorld_row k1 n _ os) k2 k3 k4
end Go.Proofs
/- Contracts of the program: what a patch needs, before it is sorted. -/
namespace Go.Proofs
open Go Go.Q
attribute [local irreducible] pwp pops PCalls OpN

def fgn (rs : List Rfc) : List Dig := (rs.filter fun r => !decide (r.id.patch = Dig.zero)).map (·.id.patch)
theorem fgn_append (a b : List Rfc) : fgn (a ++ b) = fgn a ++ fgn b := by simp [fgn]
theorem fgn_take {rs : List Rfc} {j : Nat} (h : j < rs.length) : fgn (rs.take (j + 1)) = fgn (rs.take j) ++ (if rs[j].id.patch = Dig.zero then [] else [rs[j].id.patch]) := by
  rw [List.take_succ_eq_append_getElem h, fgn_append]
  congr 1
  unfold fgn
  by_cases e : rs[j].id.patch = Dig.zero <;> simp [e]
def nList (p : Pat) : List Dig := p.deps ++ p.changes.flatMap fun c => fgn (refsP c)
/-- What Needs answers. -/
def nP (p : Pat) : List Dig := if (rEncodeP p).2 ≠ 0 then [] else ded (sortD (nList p))
set_option maxHeartbeats 1000000 in
theorem needsP_fn (p : Pat) [hs : Small (rGreat p = false)] : FnC Tryz.prog 65 [.agg (ePat p)] (.slice ((nP p).map eDig) .ro) := ⟨by
  obtain ⟨hg1, hg2, hg3, hg4, hg5⟩ := great_facts hs.out
  refine fn_of Tryz.func65 Tryz.ntmps65 rfl (rs := [.tmp 2]) rfl rfl fun hb LF => ?_
  refine wf ?_
  refine pwp_condN (fun h1 => ?_) (fun h1 => ?_)
  · refine wf ?_
    refine end1 (.ros ?_)
    rw [nP, if_pos h1]; rfl
  refine wf ?_
  refine s_callR (xs := [.tmp 12]) [] LF (f := 75) (cs := []) (le_func _) rfl rfl (.refl _) _ (cloneD_fn p.deps .ro (by omega)) fun r L1 ⟨v0, hr, hv0⟩ => ?_
  subst hr
  refine wf ?_
  refine wf ?_
  refine pwp_loopS (σ := Nat × Value × List Dig × List Res) (fun k => k.1 ≤ p.changes.length ∧ k.2.2.1.length ≤ 20 + k.1 * 404 ∧ k.2.2.1 = p.deps ++ (p.changes.take k.1).flatMap (fun c => fgn (refsP c)) ∧ DRow k.2.1 k.2.2.1 k.2.2.2) (fun k => p.changes.length - k.1) (fun k => [(3, .raw k.2.1), (15, .slice (p.changes.map eChg) .ro), (16, .raw (.int .i64 p.changes.length)), (17, .raw (.int .i64 k.1))]) (fun k => k.2.2.2 ++ LF) (0, v0, p.deps, L1) ⟨by simp, by simpa using hg3, by simp, hv0⟩ ⟨rfl, rfl, rfl, rfl⟩ (.refl _) ?_
  rintro ⟨k, v, l, R⟩ ⟨hk, hlen, hl, hv⟩
  dsimp only at hk hlen hl hv
  refine wf ?_
  refine pwp_condD (fun hc => ?_) (fun hc => ?_)
  · have hlt : k < p.changes.length := by omega
    have hov := (hg5 _ (List.getElem_mem hlt)).over
    have i1 : Small (p.changes[k].over.length ≤ 400) := ⟨by omega⟩
    have hrl := refsP_len (c := p.changes[k]) (by omega)
    refine wz fun b5 => ?_
    refine pwp_freezeD 5 ?_
    refine wf ?_
    refine pwp_loopS (σ := Nat × Value × List Dig × List Res) (fun j => j.1 ≤ (refsP p.changes[k]).length ∧ j.2.2.1.length ≤ 20 + k * 404 + j.1 ∧ j.2.2.1 = l ++ fgn ((refsP p.changes[k]).take j.1) ∧ DRow j.2.1 j.2.2.1 j.2.2.2) (fun j => (refsP p.changes[k]).length - j.1) (fun j => [(3, .raw j.2.1), (15, .slice (p.changes.map eChg) .ro), (16, .raw (.int .i64 p.changes.length)), (17, .raw (.int .i64 k)), (22, .slice ((refsP p.changes[k]).map eRfc) .ro), (23, .raw (.int .i64 (refsP p.changes[k]).length)), (24, .raw (.int .i64 j.1))]) (fun j => j.2.2.2 ++ LF) (0, v, l, R) ⟨by simp, by simpa using hlen, by simp [fgn], hv⟩ ⟨rfl, rfl, rfl, rfl, rfl, rfl, rfl⟩ (.refl _) ?_
    rintro ⟨j, v1, l1, R1⟩ ⟨hj, hlen1, hl1, hv1⟩
    dsimp only at hj hlen1 hl1 hv1
    refine wf ?_
    refine pwp_condD (fun hd => ?_) (fun hd => ?_)
    · have hjt : j < (refsP p.changes[k]).length := by omega
      have ht := fgn_take hjt
      refine wz fun b7 => ?_
      refine pwp_freezeD 7 ?_
      refine wf ?_
      refine pwp_condN (fun h2 => ?_) (fun h2 => ?_)
      · rw [if_neg h2] at ht
        refine wf ?_
        refine s_appRow (f := eDig) (m := [(refsP p.changes[k])[j].id.patch]) (R := R1) (LF := LF) (fun R' => R' ++ LF) rfl rfl hv1 (.refl _) (fun R' => .refl _) (by simp only [List.length_cons, List.length_nil]; omega) (by simp only [List.length_cons, List.length_nil]; omega) fun v2 R2 hv2 => ?_
        refine wf ?_
        refine wf ?_
        refine ⟨(j + 1, v2, l1 ++ [(refsP p.changes[k])[j].id.patch], R2), ⟨by dsimp only; omega, by simp only [List.length_append, List.length_cons, List.length_nil]; omega, ?_, hv2⟩, by dsimp only; omega, ⟨rfl, rfl, rfl, rfl, rfl, rfl, rfl⟩, .refl _⟩
        dsimp only
        rw [ht, ← List.append_assoc, hl1]
      · rw [if_pos h2, List.append_nil] at ht
        refine wf ?_
        refine ⟨(j + 1, v1, l1, R1), ⟨by dsimp only; omega, by dsimp only; omega, ?_, hv1⟩, by dsimp only; omega, ⟨rfl, rfl, rfl, rfl, rfl, rfl, rfl⟩, .refl _⟩
        dsimp only
        rw [ht, hl1]
    · rw [List.take_of_length_le (by omega)] at hl1
      refine wf ?_
      refine ⟨(k + 1, v1, l1, R1), ⟨by dsimp only; omega, by dsimp only; omega, ?_, hv1⟩, by dsimp only; omega, ⟨rfl, rfl, rfl, rfl⟩, .refl _⟩
      dsimp only
      rw [hl1, hl, List.take_succ_eq_append_getElem hlt, List.flatMap_append, List.append_assoc]
      simp
  rw [List.take_of_length_le (by omega)] at hl
  have hl' : l = nList p := hl
  have hsl : (sortD l).length = l.length := List.length_mergeSort _
  refine wf ?_
  refine s_callR (xs := [.tmp 40, .func 83]) R LF (f := 110) (cs := []) (le_func _) rfl rfl (.refl _) _ (sort_fn l v R hv (by omega)) fun r L2 ⟨v2, e2, hv2⟩ => ?_
  subst e2
  refine wf ?_
  refine wf ?_
  refine s_callR (xs := [.tmp 42]) L2 LF (f := 111) (cs := []) (le_func _) rfl rfl (.refl _) _ (compact_fn (sortD l) v2 L2 hv2 (by omega)) fun r L3 ⟨hr, hL3⟩ => ?_
  subst hr
  subst hL3
  refine wf ?_
  refine wf ?_
  refine end1 (.ros ?_)
  rw [nP, if_neg (by simp [h1]), ← hl']⟩
end Go.Proofs
/- Plain: what a patch needs, sorted and without doubles, is what the reference says. -/
namespace Go.Proofs
open Go Go.Q Go.Sort

theorem sortD_sorted (l : List Dig) : (sortD l).Pairwise fun x y => ¬ Dig.lt y x := by
  have h := List.pairwise_mergeSort (le := fun x y => !(ltOf cmpD) y x) (fun a b c h1 h2 => by
    simp only [Bool.not_eq_true', ltOf, decide_eq_false_iff_not] at h1 h2 ⊢
    intro h3
    have h1 : ¬ Dig.lt b a := h1
    have h2 : ¬ Dig.lt c b := h2
    have h3 : Dig.lt c a := h3
    rcases Dig.tri a b with h | h | h
    · exact h2 (Dig.lt_trans h3 h)
    · subst h; exact h2 h3
    · exact h1 h) (fun a b => by
    simp only [Bool.or_eq_true, Bool.not_eq_true', ltOf, decide_eq_false_iff_not]
    by_cases h : Dig.lt b a
    · exact .inr (Dig.lt_asymm h)
    · exact .inl h) l
  refine h.imp fun {a b} hab => ?_
  simp only [Bool.not_eq_true', ltOf, decide_eq_false_iff_not] at hab
  exact hab
theorem ded_facts {l : List Dig} (h : l.Pairwise fun x y => ¬ Dig.lt y x) : ∀ j, j ≤ l.length → Asc (ded (l.take j)) ∧ ∀ d, d ∈ ded (l.take j) ↔ d ∈ l.take j := by
  intro j
  induction j with
  | zero => intro _; exact ⟨Asc.nil, fun d => by simp [ded]⟩
  | succ j ih =>
    intro hj
    obtain ⟨i1, i2⟩ := ih (by omega)
    have hlt : j < l.length := by omega
    by_cases h0 : j = 0
    · subst h0
      have e : l.take 1 = [l[0]] := by
        rw [List.take_succ_eq_append_getElem hlt]; rfl
      rw [e]
      exact ⟨List.pairwise_singleton _ _, fun d => Iff.rfl⟩
    rw [ded_take (by omega) hlt]
    by_cases e : l[j] = l[j - 1]
    · rw [if_pos e]
      refine ⟨i1, fun d => ?_⟩
      rw [i2, List.take_succ_eq_append_getElem hlt]
      simp only [List.mem_append, List.mem_singleton]
      refine ⟨.inl, fun h => h.elim id fun h => ?_⟩
      rw [h, e]
      exact List.mem_take_iff_getElem.2 ⟨j - 1, by omega, rfl⟩
    · rw [if_neg e]
      refine ⟨?_, fun d => ?_⟩
      · refine List.pairwise_append.2 ⟨i1, List.pairwise_singleton _ _, fun a ha b hb => ?_⟩
        rw [List.mem_singleton.1 hb]
        obtain ⟨i, hi, rfl⟩ := List.mem_take_iff_getElem.1 ((i2 a).1 ha)
        have hp := List.pairwise_iff_getElem.1 h
        have h3 : ¬ Dig.lt l[j] l[j - 1] := hp (j - 1) j (by omega) hlt (by omega)
        have h4 : Dig.lt l[j - 1] l[j] := by
          rcases Dig.tri l[j - 1] l[j] with h' | h' | h'
          · exact h'
          · exact absurd h'.symm e
          · exact absurd h' h3
        by_cases h5 : i = j - 1
        · subst h5; exact h4
        · have h6 : ¬ Dig.lt l[j - 1] l[i] := hp i (j - 1) (by omega) (by omega) (by omega)
          rcases Dig.tri l[i] l[j - 1] with h' | h' | h'
          · exact Dig.lt_trans h' h4
          · rw [h']; exact h4
          · exact absurd h' h6
      · rw [List.take_succ_eq_append_getElem hlt]
        simp only [List.mem_append, i2]
theorem nS_asc (l : List Dig) : Asc (ded (sortD l)) := by
  have := (ded_facts (sortD_sorted l) (sortD l).length (Nat.le_refl _)).1
  rwa [List.take_length] at this
theorem nS_mem (l : List Dig) (d : Dig) : d ∈ ded (sortD l) ↔ d ∈ l := by
  have := (ded_facts (sortD_sorted l) (sortD l).length (Nat.le_refl _)).2 d
  rw [List.take_length] at this
  rw [this]
  exact List.mem_mergeSort
theorem mem_rForeign {l : List Ident} {d : Dig} : d ∈ rForeign l ↔ ∃ x ∈ l, x.patch ≠ Dig.zero ∧ x.patch = d := by
  unfold rForeign
  simp only [List.mem_map, List.mem_filter, Bool.not_eq_true', decide_eq_false_iff_not]
  constructor
  · rintro ⟨x, ⟨h1, h2⟩, h3⟩; exact ⟨x, h1, h2, h3⟩
  · rintro ⟨x, h1, h2, h3⟩; exact ⟨x, ⟨h1, h2⟩, h3⟩
theorem fgn_eq (rs : List Rfc) : fgn rs = rForeign (rs.map Rfc.id) := by
  unfold fgn rForeign
  rw [List.filter_map, List.map_map]
  rfl
theorem unused {c : Chg} (h : rFields c = 0) : (¬ (2 ≤ c.kind ∧ c.kind ≤ 6) → c.file = Ident.zero) ∧ (c.kind ≠ 2 → c.parent = Ident.zero) ∧ (¬ (c.kind = 5 ∨ c.kind = 6) → c.after = Ident.zero ∧ c.before = Ident.zero) := by
  unfold rFields at h
  split at h
  · omega
  split at h
  · omega
  rename_i h2
  simp only [Bool.not_eq_false, rEmpty, Bool.and_eq_true, decide_eq_true_eq] at h2
  obtain ⟨⟨⟨⟨⟨⟨⟨⟨⟨a1, _⟩, a2⟩, _⟩, _⟩, _⟩, a3⟩, a4⟩, _⟩, _⟩ := h2
  refine ⟨fun h => ?_, fun h => ?_, fun h => ⟨?_, ?_⟩⟩
  · have a : (if 2 ≤ c.kind ∧ c.kind ≤ 6 then Ident.zero else c.file) = Ident.zero := a1
    rwa [if_neg h] at a
  · have a : (if c.kind = 2 then Ident.zero else c.parent) = Ident.zero := a2
    rwa [if_neg h] at a
  · have a : (if c.kind = 5 ∨ c.kind = 6 then Ident.zero else c.after) = Ident.zero := a3
    rwa [if_neg h] at a
  · have a : (if c.kind = 5 ∨ c.kind = 6 then Ident.zero else c.before) = Ident.zero := a4
    rwa [if_neg h] at a
theorem refs_mem {c : Chg} (h : rFields c = 0) (d : Dig) : d ∈ fgn (refsP c) ↔ d ∈ rForeign (rIds c) := by
  obtain ⟨u1, u2, u3⟩ := unused h
  have hz : Ident.zero.patch = Dig.zero := rfl
  rw [fgn_eq, mem_rForeign, mem_rForeign]
  have key : ∀ x : Ident, x.patch ≠ Dig.zero → (x ∈ (refsP c).map Rfc.id ↔ x ∈ rIds c) := fun x hx => by
    have hk := rFields_kind h
    have e4 : ∀ l : List Ident, (refs4 c l).map Rfc.id = l := fun l => by
      rw [refs4, List.map_map]
      show l.map (fun x => x) = l
      simp
    unfold refsP rIds
    simp only [List.map_append, e4, List.mem_append, List.mem_cons, List.not_mem_nil, or_false]
    have n1 : x = Ident.zero → False := fun e => hx (by rw [e]; rfl)
    have n2 : x = ⟨Dig.zero, -1⟩ → False := fun e => hx (by rw [e])
    rcases kinds hk with k | k | k | k | k | k | k <;> simp only [refs1, refs2, refs3, k] at u1 u2 u3 ⊢ <;> simp <;> grind
  constructor
  · rintro ⟨x, h1, h2, h3⟩; exact ⟨x, (key x h2).1 h1, h2, h3⟩
  · rintro ⟨x, h1, h2, h3⟩; exact ⟨x, (key x h2).2 h1, h2, h3⟩
theorem rChanges_fields : ∀ (l : List Chg) (own : List Atm), (rChanges l own).2 = 0 → ∀ c ∈ l, rFields c = 0
  | [], _, _, c, hc => by cases hc
  | x :: l, own, h, c, hc => by
    rw [rChanges] at h
    split at h
    · rename_i h1; exact absurd h h1
    rename_i h1
    split at h
    · rename_i h2; exact absurd h h2
    rcases List.mem_cons.1 hc with rfl | hc
    · simpa using h1
    · exact rChanges_fields l _ h c hc
theorem needs_mem : ∀ (cs : List Chg) (m : List Dig) (d : Dig), d ∈ cs.foldl rNeedsC m ↔ d ∈ m ∨ ∃ c ∈ cs, d ∈ rForeign (rIds c)
  | [], m, d => by simp
  | c :: cs, m, d => by
    rw [List.foldl_cons, needs_mem cs, rNeedsC, mem_withAll]
    simp only [List.mem_cons, exists_eq_or_imp, or_assoc]
theorem needs_asc : ∀ (cs : List Chg) (m : List Dig), Asc m → Asc (cs.foldl rNeedsC m)
  | [], m, h => h
  | c :: cs, m, h => needs_asc cs _ (withAll_asc h)
theorem nP_eq (p : Pat) : nP p = rNeeds p := by
  unfold nP rNeeds
  by_cases h : (rEncodeP p).2 ≠ 0
  · rw [if_pos h, if_pos h]
  rw [if_neg h, if_neg h]
  have h0 : (rCheckP p).2 = 0 := by
    by_cases h1 : (rCheckP p).2 ≠ 0
    · rw [rEncodeP, if_pos h1] at h; exact absurd h1 h
    · simpa using h1
  have hF : ∀ c ∈ p.changes, rFields c = 0 := by
    rw [checkP_head] at h0
    split at h0
    · rename_i h1; exact absurd h0 h1
    · exact rChanges_fields _ _ h0
  refine Asc.ext (nS_asc _) (needs_asc _ _ (withAll_asc Asc.nil)) fun d => ?_
  rw [nS_mem, needs_mem, mem_withAll, nList]
  simp only [List.mem_append, List.mem_flatMap, List.not_mem_nil, false_or]
  constructor
  · rintro (h | ⟨c, hc, h⟩)
    · exact .inl h
    · exact .inr ⟨c, hc, (refs_mem (hF c hc) d).1 h⟩
  · rintro (h | ⟨c, hc, h⟩)
    · exact .inl h
    · exact .inr ⟨c, hc, (refs_mem (hF c hc) d).2 h⟩
instance NeedsP_ct (p : Pat) [hs : Small (rGreat p = false)] : FnC Tryz.prog 65 [.agg (ePat p)] (.slice ((rNeeds p).map eDig) .ro) := nP_eq p ▸ needsP_fn p
end Go.Proofs
/- Contracts of the program: what each patch of a set needs. -/
namespace Go.Proofs
open Go Go.Q
attribute [local irreducible] pwp pops PCalls OpN

def gr (s : List Sto) : List (Dig × List Dig) := s.foldl (fun m x => mSet x.id (rNeeds x.patch) m) []
theorem gr_take {s : List Sto} {k : Nat} (h : k < s.length) : gr (s.take (k + 1)) = mSet s[k].id (rNeeds s[k].patch) (gr (s.take k)) := by
  rw [List.take_succ_eq_append_getElem h, gr, List.foldl_append]; rfl
instance graphOf_ct (s : List Sto) (t : Tag) [hs : Small (goodS s)] : FnC Tryz.prog 81 [.slice (s.map eSto) t] (.fmap (eMap kDig (vSl eDig) (gr s))) := ⟨by
  have hs := hs.out
  refine fn_of Tryz.func81 Tryz.ntmps81 rfl (rs := [.tmp 2]) rfl rfl fun hb LF => ?_
  refine wfm fun b => ?_
  refine pwp_loopS (σ := Nat) (fun k => k ≤ s.length) (fun k => s.length - k) (fun k => [(3, .raw (.map (some b))), (7, .slice (s.map eSto) t), (8, .raw (.int .i64 s.length)), (9, .raw (.int .i64 k))]) (fun k => .map b (eMap kDig (vSl eDig) (gr (s.take k))) :: LF) 0 (by simp) ⟨rfl, rfl, rfl, rfl⟩ (.refl _) ?_
  intro k hk
  refine wf ?_
  refine pwp_condD (fun hc => ?_) (fun hc => ?_)
  · have hlt : k < s.length := by omega
    have h8 := hs.1
    have : Small (rGreat s[k].patch = false) := ⟨hs.2 _ (List.getElem_mem hlt)⟩
    refine wz fun b5 => ?_
    refine pwp_freezeD 5 ?_
    refine wn ?_
    refine pwp_drawN 6 ?_ ?_
    · decide +kernel
    refine wf ?_
    refine ⟨k + 1, by omega, by dsimp only; omega, ⟨rfl, rfl, rfl, rfl⟩, ?_⟩
    dsimp only
    rw [gr_take hlt]
    exact .refl _
  · refine pwp_exit ?_
    rw [List.take_of_length_le (by omega)]
    refine pwp_freezeM [(3, .fmap (eMap kDig (vSl eDig) (gr s)))] (.inr ⟨rfl, rfl⟩) (.refl _) ?_
    refine wf ?_
    exact end1 (.refl _)⟩
end Go.Proofs
/- Contracts of the program: what can be reached: the closure that collects. -/
namespace Go.Proofs
open Go Go.Q
attribute [local irreducible] pwp pops PCalls OpN

def addO (out l : List Dig) : List Dig := l.foldl (fun o d => if d ∈ o then o else o ++ [d]) out
theorem addO_take {out l : List Dig} {k : Nat} (h : k < l.length) : addO out (l.take (k + 1)) = if l[k] ∈ addO out (l.take k) then addO out (l.take k) else addO out (l.take k) ++ [l[k]] := by
  rw [List.take_succ_eq_append_getElem h, addO, List.foldl_append]; rfl
theorem addO_len (out : List Dig) : ∀ l : List Dig, (addO out l).length ≤ out.length + l.length := by
  intro l
  induction l generalizing out with
  | nil => simp [addO]
  | cons x l ih =>
    have := ih (if x ∈ out then out else out ++ [x])
    rw [addO, List.foldl_cons]
    refine Nat.le_trans this ?_
    split <;> simp <;> omega
/-- The word of met: who has come. -/
def MetOk (met : List (Dig × Bool)) (out : List Dig) : Prop := ∀ d, (mGet d met).getD false = decide (d ∈ out)
theorem MetOk.add {met : List (Dig × Bool)} {out : List Dig} (h : MetOk met out) (d : Dig) : MetOk (mSet d true met) (out ++ [d]) := fun x => by
  rw [mGet_mSet]
  by_cases e : x = d
  · subst e; simp
  · rw [if_neg e, h x]; simp [e]
/-- What the closure holds: met, out. -/
def Coll (b6 m b7 : Nat) (out : List Dig) (L : List Res) : Prop := ∃ met v R, MetOk met out ∧ DRow v out R ∧ L = .box b6 130 [.raw (.map (some m))] :: .map m (eMap kDig vBool met) :: .box b7 25 [.raw v] :: R
theorem perm_three {a b c : Res} {L LF : List Res} : (a :: b :: c :: (L ++ LF)).Perm (L ++ (a :: b :: c :: LF)) := ((List.perm_middle (l₁ := L)).trans (.cons a ((List.perm_middle (l₁ := L)).trans (.cons b List.perm_middle)))).symm
def allG (G : List (Dig × List Dig)) (l : List Dig) : Bool := l.all fun d => (mGet d G).isSome
set_option maxHeartbeats 400000 in
theorem coll_fn (G : List (Dig × List Dig)) (l : List Dig) (t : Tag) (b6 m b7 : Nat) (out : List Dig) (L : List Res) (hL : Coll b6 m b7 out L) (hb : out.length + l.length ≤ 1000) :
    PCalls Tryz.prog 115 [.slice (l.map eDig) t, .pt [.fmap (eMap kDig (vSl eDig) G)] 0, .raw (.pointer (some ⟨b6, 0, none⟩)), .raw (.pointer (some ⟨b7, 0, none⟩))] L (fun r L' => r = .raw (.bool (allG G l)) ∧ ∃ out', Coll b6 m b7 out' L' ∧ (allG G l = true → out' = addO out l)) := by
  refine pcalls_bd Tryz.func115 rfl Tryz.ntmps115 (rs := [.tmp 5]) rfl rfl fun hbd LF => ?_
  refine wf ?_
  refine pwp_loopS (σ := Nat × List Res) (fun k => k.1 ≤ l.length ∧ (∀ i (h : i < l.length), i < k.1 → (mGet l[i] G).isSome = true) ∧ Coll b6 m b7 (addO out (l.take k.1)) k.2) (fun k => l.length - k.1) (fun k => [(1, .pt [.fmap (eMap kDig (vSl eDig) G)] 0), (2, .raw (.pointer (some ⟨b6, 0, none⟩))), (3, .raw (.pointer (some ⟨b7, 0, none⟩))), (10, .slice (l.map eDig) t), (11, .raw (.int .i64 l.length)), (12, .raw (.int .i64 k.1))]) (fun k => k.2 ++ LF) (0, L) ⟨by simp, by simp, hL⟩ ⟨rfl, rfl, rfl, rfl, rfl, rfl⟩ (.refl _) ?_
  rintro ⟨k, L1⟩ ⟨hk, hall, met, v, R, hm, hv, rfl⟩
  dsimp only at hk hall hm hv ⊢
  refine wf ?_
  refine pwp_condD (fun hc => ?_) (fun hc => ?_)
  · have hlt : k < l.length := by omega
    refine wz fun b => ?_
    refine pwp_freezeD 7 ?_
    refine wf ?_
    refine pwp_condB (fun h => ?_) (fun h => ?_)
    · have h0 : (mGet l[k] G).isSome = false := by simpa using h
      have hA : allG G l = false := by
        unfold allG
        exact List.all_eq_false.2 ⟨l[k], List.getElem_mem hlt, by simp [h0]⟩
      refine wf ?_
      exact ⟨trivial, _, _, .cons (.tmp 5) .nil, .refl _, by rw [hA]; exact rfl, _, ⟨met, v, R, hm, hv, rfl⟩, fun h => by rw [hA] at h; cases h⟩
    have hi : (mGet l[k] G).isSome = true := by simpa using h
    have hall' : ∀ i (h : i < l.length), i < k + 1 → (mGet l[i] G).isSome = true := fun i hi' hik => by
      rcases Nat.lt_or_ge i k with h' | h'
      · exact hall i hi' h'
      · have e : i = k := by omega
        subst e; exact hi
    refine wf ?_
    have hml := hm l[k]
    have ht := addO_take (out := out) hlt
    refine pwp_condB (fun h => ?_) (fun h => ?_)
    · have hno : l[k] ∉ addO out (l.take k) := by
        rw [hml] at h; simpa using h
      rw [if_neg hno] at ht
      have hol := addO_len out (l.take k)
      rw [List.length_take] at hol
      refine wf ?_
      refine s_mapUpd (κ := Dig) (ek := kDig) (ev := vBool) (k0 := l[k]) (x0 := true) (L' := .box b6 130 [.raw (.map (some m))] :: .box b7 25 [.raw v] :: (R ++ LF)) rfl (.swap _ _ _) (.refl _) (.refl _) ?_
      refine pops_nil ?_
      refine pwp_perm (.swap _ _ _) ?_
      refine wf ?_
      refine s_appRow (f := eDig) (m := [l[k]]) (R := R) (LF := .box b6 130 [.raw (.map (some m))] :: .map m (eMap kDig vBool (mSet l[k] true met)) :: .box b7 25 [.raw v] :: LF) (fun R' => .box b6 130 [.raw (.map (some m))] :: .map m (eMap kDig vBool (mSet l[k] true met)) :: .box b7 25 [.raw v] :: (R' ++ LF)) rfl rfl hv perm_three (fun R' => perm_three.symm) (by simp only [List.length_cons, List.length_nil]; omega) (by simp only [List.length_cons, List.length_nil]; omega) fun v2 R2 hv2 => ?_
      refine wf ?_
      refine s_storeV [.raw v2] rfl rfl hv2.one rfl (by simp) ?_
      refine wf ?_
      refine wf ?_
      refine ⟨(k + 1, _), ⟨by dsimp only; omega, hall', mSet l[k] true met, v2, R2, ?_, ?_, rfl⟩, by dsimp only; omega, ⟨rfl, rfl, rfl, rfl, rfl, rfl⟩, .refl _⟩
      · dsimp only; rw [ht]; exact hm.add _
      · dsimp only; rw [ht]; exact hv2
    · have hyes : l[k] ∈ addO out (l.take k) := by
        rw [hml] at h; simpa using h
      rw [if_pos hyes] at ht
      refine wf ?_
      exact ⟨(k + 1, _), ⟨by dsimp only; omega, hall', met, v, R, by dsimp only; rw [ht]; exact hm, by dsimp only; rw [ht]; exact hv, rfl⟩, by dsimp only; omega, ⟨rfl, rfl, rfl, rfl, rfl, rfl⟩, .refl _⟩
  · have hA : allG G l = true := by
      unfold allG
      refine List.all_eq_true.2 fun d hd => ?_
      obtain ⟨i, hi, rfl⟩ := List.mem_iff_getElem.1 hd
      exact hall i hi (by omega)
    refine wf ?_
    rw [List.take_of_length_le (by omega)] at hm hv
    exact ⟨trivial, _, _, .cons (.tmp 5) .nil, .refl _, by rw [hA]; exact rfl, _, ⟨met, v, R, hm, hv, rfl⟩, fun _ => rfl⟩
end Go.Proofs
