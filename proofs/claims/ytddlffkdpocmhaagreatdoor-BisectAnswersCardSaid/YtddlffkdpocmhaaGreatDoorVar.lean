/- Contracts of the program: digests of strings (sha256): Sum. -/
import Derived.Test.YtddlffkdpocmhaaGreatDoorVaq
import Derived.Test.YtddlffkdpocmhaaGreatDoorVap
import Derived.Test.YtddlffkdpocmhaaGreatDoorVak
import Derived.Test.YtddlffkdpocmhaaGreatDoorVao
import Derived.Shelf.SlSortCmp.NoneTotal
import Derived.Shelf.SlGeneric
import Derived.Ground.SlsfProg
import Derived.Test.YtddlffkdpocmhaaGreatDoorProg
set_option linter.unusedSimpArgs false
set_option linter.unusedVariables false
namespace Go.Q
open Go
section
variable {P : Program} {N : Nat} {all : Array Oper} {K : Env → List Res → Prop} {fl : List Bool} {os : List Oper} {ρ : Env} {L : List Res} {d : Nat} {ty : TypeId} {pos : String} {af : Array Edge}
theorem s_shrWI {T T' : TypeId} {x y : Operand} {a b : Nat} (hx : ρ.ev x = .raw (.int .u32 (a : Int))) (hy : ρ.ev y = .raw (.int .i64 (b : Int))) (k : pops P N all K fl.tail os (upd ρ d (.raw (.int .u32 (shrW a b : Nat)))) L) (hd : Nat.blt d N = true := by rfl) :
    pops P N all K fl (⟨some d, .binOp .shr T x y T', ty, pos, af, none⟩ :: os) ρ L := s_int hx hy (fun w => by
      have h0 : ¬ (b : Int) < 0 := by omega
      simp only [binOp, Op.shift, h0, if_false, IntKind.bits, Int.toNat_natCast]
      rw [fdiv_pow]; rfl) k hd
end
end Go.Q
namespace Go.Proofs
open Go Go.Q
attribute [local irreducible] pwp pops PCalls OpN

instance blocks_ct (s : Str) : FnC Tryz.prog 133 [.str s] (.clo 172 [.pt [.str s] 0]) := ⟨by
  refine fn_of Tryz.func133 Tryz.ntmps133 rfl (rs := [.tmp 2]) rfl rfl fun hb LF => ?_
  refine wf ?_
  exact end1 (.refl _)⟩
theorem blks_len {s b : Str} (h : b ∈ blks s) : b.length = 64 := by
  obtain ⟨k, hk, rfl⟩ := List.mem_map.1 h
  have := List.mem_range.1 hk
  rw [blk, List.length_take, List.length_drop]
  omega
theorem blks_fold (s : Str) : (blks s).foldl rStep rH = rBlocks (rPad s) ((rPad s).length / 64) := by
  rw [blks, List.foldl_map]; rfl
set_option maxHeartbeats 4000000 in
instance SumP_ct (s : Str) [hs : Small (s.length ≤ 1000000)] : FnC Tryz.prog 106 [.str s] (.agg (eDig (rSum s))) := ⟨by
  refine fn_of Tryz.func106 Tryz.ntmps106 rfl (rs := [.cell 2 37]) rfl rfl fun hb LF => ?_
  have hl := hs.out
  have j2 : LenIs (eW (List.replicate 8 0)) 8 := ⟨rfl⟩
  have j3 : LenIs (eW rH) 8 := ⟨rfl⟩
  refine walkWb fun b2 => ?_
  refine walkWbp fun b3 => ?_
  refine pwp_rangeFunc (blocks_iter s hl) [12] (σ := List Nat) (fun pre h => h = pre.foldl rStep rH ∧ h.length = 8) (fun _ _ => False) (fun h LF' => .box b3 171 (eW h) :: .box b2 37 (eDig Dig.zero) :: LF') rH LF ?_ rfl (fun _ => rfl) (by simp) (fun s' LF' => rfl) (.refl _) ⟨rfl, rfl⟩ ?_ ?_ ?_
  · exact .refl _
  · rintro pre x h LF' hpx ⟨hh, h8⟩
    have hx : x ∈ blks s := hpx.subset (by simp)
    have i1 : Small (x.length = 64) := ⟨blks_len hx⟩
    have i2 : Small (h.length = 8) := ⟨h8⟩
    have j4 : LenIs (eW h) 8 := ⟨by rw [len_eW, h8]⟩
    have j5 : LenIs (eW (rStep h x)) 8 := ⟨by rw [len_eW, rStep_len h8]⟩
    refine walkW ?_
    refine ⟨rStep h x, ⟨by rw [List.foldl_append, ← hh]; rfl, rStep_len h8⟩, .refl _⟩
  · rintro h ⟨hh, h8⟩
    rw [blks_fold] at hh
    have hrs : rSum s = (List.range 32).foldl (rByte h) Dig.zero := by rw [rSum, ← hh]
    rw [hrs]
    have j4 : LenIs (eW h) 8 := ⟨by rw [len_eW, h8]⟩
    refine walkWb fun b5 => ?_
    refine pwp_loopS (σ := Nat × Dig) (fun k => k.1 ≤ 8 ∧ k.2 = (List.range (4 * k.1)).foldl (rByte h) Dig.zero) (fun k => 8 - k.1) (fun k => [(2, .raw (.pointer (some ⟨b2, 0, none⟩))), (5, .raw (.pointer (some ⟨b5, 0, none⟩))), (16, .agg (eW h)), (17, .raw (.int .i64 k.1))]) (fun k => .box b5 37 (eDig k.2) :: .box b2 37 (eDig Dig.zero) :: LF) (0, Dig.zero) ⟨by simp, rfl⟩ ⟨rfl, rfl, rfl, rfl⟩ (.cons_cons _ (.cons _ (.refl _))) ?_
    rintro ⟨k, d⟩ ⟨hk, hd⟩
    dsimp only at hk hd ⊢
    refine walkW ?_
    refine pwp_condD (fun hc => ?_) (fun hc => ?_)
    · refine walkW ?_
      refine s_indexA rfl rfl h8 (by omega) ?_
      refine walkW ?_
      refine pwp_loopS (σ := Nat × Dig) (fun j => j.1 ≤ 4 ∧ j.2 = (List.range (4 * k + j.1)).foldl (rByte h) Dig.zero) (fun j => 4 - j.1) (fun j => [(2, .raw (.pointer (some ⟨b2, 0, none⟩))), (5, .raw (.pointer (some ⟨b5, 0, none⟩))), (6, .raw (.int .i64 k)), (7, .raw (.int .u32 ((h.getD k 0 : Nat) : Int))), (16, .agg (eW h)), (17, .raw (.int .i64 k)), (21, .raw (.int .i64 j.1))]) (fun j => .box b5 37 (eDig j.2) :: .box b2 37 (eDig Dig.zero) :: LF) (0, d) ⟨by simp, hd⟩ ⟨rfl, rfl, rfl, rfl, rfl, rfl, rfl⟩ (.refl _) ?_
      rintro ⟨j, e⟩ ⟨hj, he⟩
      dsimp only at hj he ⊢
      refine walkW ?_
      refine pwp_condD (fun hc2 => ?_) (fun hc2 => ?_)
      · refine walkW ?_
        refine s_shrWI (a := h.getD k 0) (b := 24 - 8 * j) rfl (by show PV.raw (.int .i64 (24 - 8 * (j : Int))) = _; rw [show (24 - 8 * (j : Int)) = ((24 - 8 * j : Nat) : Int) by omega]) ?_
        refine walkW ?_
        have er : rByte h e (4 * k + j) = e.put (4 * k + j) (UInt8.ofNat (shrW (h.getD k 0) (24 - 8 * j))) := by
          rw [rByte, show (4 * k + j) / 4 = k by omega, show (4 * k + j) % 4 = j by omega]
        refine ⟨(j + 1, rByte h e (4 * k + j)), ⟨by dsimp only; omega, by dsimp only; rw [show 4 * k + (j + 1) = 4 * k + j + 1 by omega, foldl_range_succ, ← he]⟩, by dsimp only; omega, ⟨rfl, rfl, rfl, rfl, rfl, rfl, rfl⟩, ?_⟩
        dsimp only
        rw [er, show (4 * (k : Int) + (j : Int)).toNat = 4 * k + j by omega]
        exact .refl _
      · have hj4 : j = 4 := by omega
        subst hj4
        refine walkW ?_
        exact ⟨(k + 1, e), ⟨by dsimp only; omega, by dsimp only; rw [he, show 4 * (k + 1) = 4 * k + 4 by omega]⟩, by dsimp only; omega, ⟨rfl, rfl, rfl, rfl⟩, .refl _⟩
    · have hk8 : k = 8 := by omega
      subst hk8
      refine walkW ?_
      refine endC rfl (.of_eq ?_)
      rw [hd]
  · intro pre s' h
    exact h.elim⟩
end Go.Proofs
/- Contracts of the library: IndexFunc and ContainsFunc over digests, over stored patches; the two closures of BisectFinds. -/
namespace Go.Proofs
open Go Go.Q
attribute [local irreducible] pwp pops PCalls OpN

def idxF {α : Type} (p : α → Bool) (l : List α) : Int := if l.any p = true then (l.findIdx p : Int) else -1
theorem findIdx_first {α : Type} {p : α → Bool} {l : List α} {k : Nat} (hk : k < l.length) (hn : (l.take k).any p = false) (e : p l[k] = true) : l.findIdx p = k := by
  refine List.findIdx_eq hk |>.2 ⟨e, fun j hj => ?_⟩
  have := List.any_eq_false.1 hn (l[j]) (List.mem_take_iff_getElem.2 ⟨j, by omega, rfl⟩)
  simpa using this
theorem indexD_fn (F : Nat) (cs : List PV) (p : Dig → Bool) [hF : TFun Tryz.prog F] [hp : ∀ d, FnC Tryz.prog F (.agg (eDig d) :: cs) (.raw (.bool (p d)))] (l : List Dig) (t : Tag) :
    FnC Tryz.prog 79 [.slice (l.map eDig) t, .clo F cs] (.raw (.int .i64 (idxF p l))) := ⟨by
  refine fn_of Tryz.func79 Tryz.ntmps79 rfl (rs := [.tmp 4]) rfl rfl fun hb LF => ?_
  have hlen : l.length ≤ 140737488355328 := (hb (.slice (l.map eDig) t) (by simp)).slice_map
  refine wf ?_
  refine pwp_loopS (σ := Nat) (fun k => k ≤ l.length ∧ (l.take k).any p = false) (fun k => l.length - k) (fun k => [(0, .slice (l.map eDig) t), (1, .clo F cs), (7, .raw (.int .i64 l.length)), (8, .raw (.int .i64 k))]) (fun _ => LF) 0 ⟨by simp, by simp⟩ ⟨rfl, rfl, rfl, rfl⟩ (.refl _) ?_
  rintro k ⟨hk, hn⟩
  refine wf ?_
  refine pwp_condD (fun hc => ?_) (fun hc => ?_)
  · have hlt : k < l.length := by omega
    refine wf ?_
    refine pwp_condB (fun h => ?_) (fun h => ?_)
    · refine wf ?_
      refine end1 (.of_eq ?_)
      have e : l.any p = true := List.any_eq_true.2 ⟨l[k], List.getElem_mem hlt, h⟩
      rw [idxF, if_pos e, findIdx_first hlt hn h]
    · refine wf ?_
      refine ⟨k + 1, ⟨by omega, ?_⟩, by dsimp only; omega, ⟨rfl, rfl, rfl, rfl⟩, .refl _⟩
      rw [List.take_succ_eq_append_getElem hlt, List.any_append, hn]
      simp [h]
  · refine wf ?_
    refine end1 (.of_eq ?_)
    rw [List.take_of_length_le (by omega)] at hn
    rw [idxF, if_neg (by simp [hn])]⟩
theorem containsD_fn (F : Nat) (cs : List PV) (p : Dig → Bool) [hF : TFun Tryz.prog F] [hp : ∀ d, FnC Tryz.prog F (.agg (eDig d) :: cs) (.raw (.bool (p d)))] (l : List Dig) (t : Tag) :
    FnC Tryz.prog 35 [.slice (l.map eDig) t, .clo F cs] (.raw (.bool (l.any p))) := ⟨by
  have i1 : ∀ t, FnC Tryz.prog 79 [.slice (l.map eDig) t, .clo F cs] (.raw (.int .i64 (idxF p l))) := indexD_fn F cs p l
  refine fn_of Tryz.func35 Tryz.ntmps35 rfl (rs := [.tmp 4]) rfl rfl fun hb LF => ?_
  refine wf ?_
  refine end1 (.of_eq ?_)
  cases h : l.any p <;> simp [idxF, h]⟩
theorem indexS_fn (F : Nat) (cs : List PV) (p : Sto → Bool) [hF : TFun Tryz.prog F] [hp : ∀ d, FnC Tryz.prog F (.agg (eSto d) :: cs) (.raw (.bool (p d)))] (l : List Sto) (t : Tag) :
    FnC Tryz.prog 80 [.slice (l.map eSto) t, .clo F cs] (.raw (.int .i64 (idxF p l))) := ⟨by
  refine fn_of Tryz.func80 Tryz.ntmps80 rfl (rs := [.tmp 4]) rfl rfl fun hb LF => ?_
  have hlen : l.length ≤ 140737488355328 := (hb (.slice (l.map eSto) t) (by simp)).slice_map
  refine wf ?_
  refine pwp_loopS (σ := Nat) (fun k => k ≤ l.length ∧ (l.take k).any p = false) (fun k => l.length - k) (fun k => [(0, .slice (l.map eSto) t), (1, .clo F cs), (7, .raw (.int .i64 l.length)), (8, .raw (.int .i64 k))]) (fun _ => LF) 0 ⟨by simp, by simp⟩ ⟨rfl, rfl, rfl, rfl⟩ (.refl _) ?_
  rintro k ⟨hk, hn⟩
  refine wf ?_
  refine pwp_condD (fun hc => ?_) (fun hc => ?_)
  · have hlt : k < l.length := by omega
    refine wf ?_
    refine pwp_condB (fun h => ?_) (fun h => ?_)
    · refine wf ?_
      refine end1 (.of_eq ?_)
      have e : l.any p = true := List.any_eq_true.2 ⟨l[k], List.getElem_mem hlt, h⟩
      rw [idxF, if_pos e, findIdx_first hlt hn h]
    · refine wf ?_
      refine ⟨k + 1, ⟨by omega, ?_⟩, by dsimp only; omega, ⟨rfl, rfl, rfl, rfl⟩, .refl _⟩
      rw [List.take_succ_eq_append_getElem hlt, List.any_append, hn]
      simp [h]
  · refine wf ?_
    refine end1 (.of_eq ?_)
    rw [List.take_of_length_le (by omega)] at hn
    rw [idxF, if_neg (by simp [hn])]⟩
end Go.Proofs
/- Contracts of the program: a patch's identity; searches in a sorted set; what a set lacks. -/
namespace Go.Proofs
open Go Go.Q
attribute [local irreducible] pwp pops PCalls OpN

instance IdPP_ct (p : Pat) [hs : Small (rGreat p = false)] : FnC Tryz.prog 62 [.agg (ePat p)] (.tuple [.agg (eDig (rId p).1), .raw (.int .i64 (rId p).2)]) := ⟨by
  have i1 : Small ((rEncodeP p).1.length ≤ 1000000) := ⟨by have := rEncodeP_len p; omega⟩
  refine fn_of Tryz.func62 Tryz.ntmps62 rfl (rs := [.cell 2 37, .tmp 3]) rfl rfl fun hb LF => ?_
  refine wf ?_
  refine s_alloc fun b2 => ?_
  refine wf ?_
  refine pwp_condN (fun h => ?_) (fun h => ?_)
  · refine wf ?_
    refine endC1 rfl ?_
    rw [rId, if_pos h]
    exact .refl _
  · refine wf ?_
    refine endC1 rfl ?_
    rw [rId, if_neg (by simpa using h)]
    exact .refl _⟩
instance search1_ct (x : Sto) (d : Dig) : FnC Tryz.prog 128 [.agg (eSto x), .agg (eDig d)] (.raw (.int .i64 (cmpD x.id d))) := ⟨by
  refine fn_of Tryz.func128 Tryz.ntmps128 rfl (rs := [.tmp 4]) rfl rfl fun hb LF => ?_
  refine wf ?_
  exact end1 (.refl _)⟩
/-- Where an identity stands in a set, or would stand. -/
def posD (s : List Sto) (d : Dig) : Nat := s.findIdx fun x => decide (0 ≤ cmpD x.id d)
theorem posD_of {s : List Sto} {d : Dig} {i : Nat} (hi : i ≤ s.length) (h1 : ∀ k (h : k < s.length), k < i → cmpD s[k].id d < 0) (h2 : ∀ k (h : k < s.length), i ≤ k → 0 ≤ cmpD s[k].id d) : posD s d = i := by
  unfold posD
  rcases Nat.lt_or_ge i s.length with h | h
  · refine (List.findIdx_eq h).2 ⟨decide_eq_true (h2 i h (Nat.le_refl _)), fun j hj => decide_eq_false ?_⟩
    have := h1 j (by omega) hj
    omega
  · have e : i = s.length := by omega
    subst e
    refine List.findIdx_eq_length.2 fun x hx => decide_eq_false ?_
    obtain ⟨k, hk, rfl⟩ := List.mem_iff_getElem.1 hx
    have := h1 k hk hk
    omega
theorem posD_mem {s : List Sto} (ha : Asc (ids s)) {d : Dig} {i : Nat} (h1 : ∀ k (h : k < s.length), k < i → cmpD s[k].id d < 0) (h2 : ∀ k (h : k < s.length), i ≤ k → 0 ≤ cmpD s[k].id d) : d ∈ ids s ↔ ∃ h : i < s.length, cmpD s[i].id d = 0 := by
  constructor
  · intro h
    obtain ⟨x, hx, rfl⟩ := List.mem_map.1 h
    obtain ⟨k, hk, rfl⟩ := List.mem_iff_getElem.1 hx
    have hz : cmpD s[k].id s[k].id = 0 := cmpD_zero.2 rfl
    have hik : i ≤ k := by
      rcases Nat.lt_or_ge k i with h' | h'
      · have := h1 k hk h'; omega
      · exact h'
    have hi : i < s.length := by omega
    refine ⟨hi, ?_⟩
    rcases Nat.lt_or_ge i k with h' | h'
    · have hp := List.pairwise_iff_getElem.1 ha i k (by simpa [ids] using hi) (by simpa [ids] using hk) h'
      simp only [ids, List.getElem_map] at hp
      have := h2 i hi (Nat.le_refl _)
      have hp : cmpD s[i].id s[k].id < 0 := hp
      omega
    · have e : i = k := by omega
      subst e; exact hz
  · rintro ⟨h, e⟩
    rw [← cmpD_zero.1 e]
    exact List.mem_map.2 ⟨s[i], List.getElem_mem h, rfl⟩
theorem asc_le {s : List Sto} (ha : Asc (ids s)) {i k : Nat} (hk : k < s.length) (hik : i ≤ k) {d : Dig} : (cmpD s[k].id d < 0 → cmpD s[i].id d < 0) ∧ (0 ≤ cmpD s[i].id d → 0 ≤ cmpD s[k].id d) := by
  rcases Nat.lt_or_ge i k with h | h
  · have hp := List.pairwise_iff_getElem.1 ha i k (by simp [ids]; omega) (by simpa [ids] using hk) h
    simp only [ids, List.getElem_map] at hp
    refine ⟨fun h' => Dig.lt_trans hp h', fun h' => ?_⟩
    rcases Int.lt_or_le (cmpD s[k].id d) 0 with h2 | h2
    · have : cmpD s[i].id d < 0 := Dig.lt_trans hp h2
      omega
    · exact h2
  · have e : i = k := by omega
    subst e; exact ⟨id, id⟩
set_option maxHeartbeats 1000000 in
theorem binary_fn (s : List Sto) (t : Tag) (d : Dig) (ha : Asc (ids s)) (hl : s.length ≤ 1000000) : FnC Tryz.prog 127 [.slice (s.map eSto) t, .agg (eDig d), .clo 128 []] (.tuple [.raw (.int .i64 (posD s d)), .raw (.bool (decide (d ∈ ids s)))]) := ⟨by
  refine fn_of Tryz.func127 Tryz.ntmps127 rfl (rs := [.tmp 6, .tmp 7]) rfl rfl fun hb LF => ?_
  refine wf ?_
  refine pwp_loopS (σ := Nat × Nat) (fun k => k.1 ≤ k.2 ∧ k.2 ≤ s.length ∧ (∀ i (h : i < s.length), i < k.1 → cmpD s[i].id d < 0) ∧ (∀ i (h : i < s.length), k.2 ≤ i → 0 ≤ cmpD s[i].id d)) (fun k => k.2 - k.1) (fun k => [(0, .slice (s.map eSto) t), (2, .clo 128 []), (4, .pt (eDig d) 0), (8, .raw (.int .i64 s.length)), (9, .raw (.int .i64 k.1)), (10, .raw (.int .i64 k.2))]) (fun _ => LF) (0, s.length) ⟨by simp, by simp, fun i h h' => by omega, fun i h h' => by omega⟩ ⟨rfl, rfl, rfl, rfl, rfl, rfl⟩ (.refl _) ?_
  rintro ⟨i, j⟩ ⟨hij, hjn, h1, h2⟩
  dsimp only at hij hjn h1 h2 ⊢
  refine wf ?_
  refine pwp_condD (fun hc => ?_) (fun hc => ?_)
  · have hlt : i < j := by omega
    obtain ⟨m, hm⟩ : ∃ m, m = (i + j) / 2 ^ (min 1 64) := ⟨_, rfl⟩
    have hm2 : m = (i + j) / 2 := hm
    have hmn : m < s.length := by omega
    refine wf ?_
    refine s_convI (n := (((i + j) / 2 ^ (min 1 64) : Nat) : Int)) rfl (IntWalk.i64_in _ ⟨by omega, by omega⟩) ?_
    rw [← hm]
    refine wf ?_
    refine pwp_condD (fun h => ?_) (fun h => ?_)
    · refine wf ?_
      exact ⟨(m + 1, j), ⟨by dsimp only; omega, hjn, fun k hk hkm => (asc_le (d := d) ha hmn (by omega)).1 h, h2⟩, by dsimp only; omega, ⟨rfl, rfl, rfl, rfl, rfl, rfl⟩, .refl _⟩
    · refine wf ?_
      exact ⟨(i, m), ⟨by dsimp only; omega, by dsimp only; omega, h1, fun k hk hkm => (asc_le (d := d) ha hk hkm).2 (Int.not_lt.1 h)⟩, by dsimp only; omega, ⟨rfl, rfl, rfl, rfl, rfl, rfl⟩, .refl _⟩
  · have e : i = j := by omega
    subst e
    refine Decidable.byCases (p := i < s.length) (fun hin => ?_) (fun hin => ?_)
    · have g : decide ((i : Int) < (s.length : Int)) = true := decide_eq_true (by omega)
      refine wf ?_
      refine end2 (.of_eq ?_)
      have hpm := posD_mem ha h1 h2
      rw [posD_of hjn h1 h2]
      have e2 : decide (d ∈ ids s) = decide (cmpD s[i].id d = 0) := by
        rw [decide_eq_decide, hpm]
        exact ⟨fun ⟨_, h⟩ => h, fun h => ⟨hin, h⟩⟩
      rw [e2]
    · have g : decide ((i : Int) < (s.length : Int)) = false := decide_eq_false (by omega)
      refine wf ?_
      refine end2 (.of_eq ?_)
      have hpm := posD_mem ha h1 h2
      rw [posD_of hjn h1 h2, decide_eq_false (fun h => hin (hpm.1 h).1)]⟩
theorem searchP_fn (s : List Sto) (t : Tag) (d : Dig) (ha : Asc (ids s)) (hl : s.length ≤ 1000000) : FnC Tryz.prog 95 [.slice (s.map eSto) t, .agg (eDig d)] (.tuple [.raw (.int .i64 (posD s d)), .raw (.bool (decide (d ∈ ids s)))]) := ⟨by
  have i1 : ∀ t, FnC Tryz.prog 127 [.slice (s.map eSto) t, .agg (eDig d), .clo 128 []] (.tuple [.raw (.int .i64 (posD s d)), .raw (.bool (decide (d ∈ ids s)))]) := fun t => binary_fn s t d ha hl
  refine fn_of Tryz.func95 Tryz.ntmps95 rfl (rs := [.tmp 4, .tmp 5]) rfl rfl fun hb LF => ?_
  refine wf ?_
  exact end2 (.refl _)⟩
theorem lacks1_fn (s : List Sto) (t : Tag) (d : Dig) (ha : Asc (ids s)) (hl : s.length ≤ 1000000) : FnC Tryz.prog 117 [.agg (eDig d), .pt [.slice (s.map eSto) t] 0] (.raw (.bool (!decide (d ∈ ids s)))) := ⟨by
  have i1 : ∀ t, FnC Tryz.prog 95 [.slice (s.map eSto) t, .agg (eDig d)] (.tuple [.raw (.int .i64 (posD s d)), .raw (.bool (decide (d ∈ ids s)))]) := fun t => searchP_fn s t d ha hl
  refine fn_of Tryz.func117 Tryz.ntmps117 rfl (rs := [.tmp 3]) rfl rfl fun hb LF => ?_
  refine wf ?_
  exact end1 (.refl _)⟩
theorem lacks_fn (s : List Sto) (t : Tag) (p : Pat) (ha : Asc (ids s)) (hl : s.length ≤ 1000000) (hg : rGreat p = false) : FnC Tryz.prog 84 [.slice (s.map eSto) t, .agg (ePat p)] (.raw (.bool (!allIn (ids s) (rNeeds p)))) := ⟨by
  have i0 : Small (rGreat p = false) := ⟨hg⟩
  have i1 : ∀ t d, FnC Tryz.prog 117 [.agg (eDig d), .pt [.slice (s.map eSto) t] 0] (.raw (.bool (!decide (d ∈ ids s)))) := fun t d => lacks1_fn s t d ha hl
  have i2 : ∀ t u, FnC Tryz.prog 35 [.slice ((rNeeds p).map eDig) t, .clo 117 [.pt [.slice (s.map eSto) u] 0]] (.raw (.bool ((rNeeds p).any fun d => !decide (d ∈ ids s)))) := fun t u => containsD_fn 117 [.pt [.slice (s.map eSto) u] 0] (fun d => !decide (d ∈ ids s)) (rNeeds p) t
  refine fn_of Tryz.func84 Tryz.ntmps84 rfl (rs := [.tmp 4]) rfl rfl fun hb LF => ?_
  refine wf ?_
  refine end1 (.of_eq ?_)
  rw [allIn, List.not_all_eq_any_not]⟩
end Go.Proofs
/- Contracts of the program: what a change refers to in a set: the closures, what their atoms must be. -/
namespace Go.Proofs
open Go Go.Q
attribute [local irreducible] pwp pops PCalls OpN

instance supers_ct (k : Int) : FnC Tryz.prog 152 [.raw (.int .i64 k)] (.raw (.int .i64 (ovK k))) := ⟨by
  refine fn_of Tryz.func152 Tryz.ntmps152 rfl (rs := [.tmp 2]) rfl rfl fun hb LF => ?_
  refine wf ?_
  repeat' (first | (refine pwp_condD (fun h => ?_) (fun h => ?_) <;> refine wf ?_) | (refine pwp_condN (fun h => ?_) (fun h => ?_) <;> refine wf ?_) | (refine pwp_condB (fun h => ?_) (fun h => ?_) <;> refine wf ?_) | (refine pops_if (fun h => ?_) (fun h => ?_) <;> (have h2 := h; (try simp only [decide_eq_true_eq, decide_eq_false_iff_not, Bool.not_eq_true', Bool.not_eq_false'] at h2); refine wf ?_)))
  all_goals (refine end1 (.of_eq ?_); simp only [ovK]; first | (simp_all; done) | grind)⟩
def ffP (k : Int) (a : Atm) : Bool := if a.kind ≠ 1 then false else if k = 5 ∨ k = 6 then decide (a.type = 1) else if k = 4 then decide (a.type = 2 ∨ a.type = 3) else true
instance fitsFile_ct (k : Int) (a : Atm) : FnC Tryz.prog 149 [.raw (.int .i64 k), .agg (eAtm a)] (.raw (.bool (ffP k a))) := ⟨by
  refine fn_of Tryz.func149 Tryz.ntmps149 rfl (rs := [.tmp 4]) rfl rfl fun hb LF => ?_
  refine wf ?_
  repeat' (first | (refine pwp_condD (fun h => ?_) (fun h => ?_) <;> refine wf ?_) | (refine pwp_condN (fun h => ?_) (fun h => ?_) <;> refine wf ?_) | (refine pwp_condB (fun h => ?_) (fun h => ?_) <;> refine wf ?_) | (refine pops_if (fun h => ?_) (fun h => ?_) <;> (have h2 := h; (try simp only [decide_eq_true_eq, decide_eq_false_iff_not, Bool.not_eq_true', Bool.not_eq_false'] at h2); refine wf ?_)))
  all_goals (refine end1 (.of_eq ?_); simp only [ffP]; first | (simp_all; done) | grind)⟩
def sf4 (x f g : Ident) (a : Atm) : Bool := decide (x = f) || (decide (a.kind = 5) && decide (a.file = g))
def sf5 (k : Int) (g : Ident) (a : Atm) : Bool := decide (k = 0) || (decide (a.kind = k) && decide (a.file = g))
instance sf2_ct (c : Chg) (a : Atm) : FnC Tryz.prog 148 [.agg (eAtm a), .pt (eChg c) 0] (.raw (.bool (ffP c.kind a))) := ⟨by
  refine fn_of Tryz.func148 Tryz.ntmps148 rfl (rs := [.tmp 3]) rfl rfl fun hb LF => ?_
  refine wf ?_
  exact end1 (.refl _)⟩
instance sf3_ct (a : Atm) : FnC Tryz.prog 150 [.agg (eAtm a)] (.raw (.bool (pf5 a))) := ⟨by
  refine fn_of Tryz.func150 Tryz.ntmps150 rfl (rs := [.tmp 2]) rfl rfl fun hb LF => ?_
  refine wf ?_
  repeat' (first | (refine pwp_condD (fun h => ?_) (fun h => ?_) <;> refine wf ?_) | (refine pwp_condN (fun h => ?_) (fun h => ?_) <;> refine wf ?_) | (refine pwp_condB (fun h => ?_) (fun h => ?_) <;> refine wf ?_) | (refine pops_if (fun h => ?_) (fun h => ?_) <;> (have h2 := h; (try simp only [decide_eq_true_eq, decide_eq_false_iff_not, Bool.not_eq_true', Bool.not_eq_false'] at h2); refine wf ?_)))
  all_goals (refine end1 (.of_eq ?_); simp only [pf5]; first | (simp_all; done) | grind)⟩
instance sf4_ct (x g : Ident) (c : Chg) (a : Atm) : FnC Tryz.prog 151 [.agg (eAtm a), .pt (eIdent x) 0, .pt (eChg c) 0, .pt (eIdent g) 0] (.raw (.bool (sf4 x c.file g a))) := ⟨by
  refine fn_of Tryz.func151 Tryz.ntmps151 rfl (rs := [.tmp 5]) rfl rfl fun hb LF => ?_
  refine wf ?_
  repeat' (first | (refine pwp_condD (fun h => ?_) (fun h => ?_) <;> refine wf ?_) | (refine pwp_condN (fun h => ?_) (fun h => ?_) <;> refine wf ?_) | (refine pwp_condB (fun h => ?_) (fun h => ?_) <;> refine wf ?_) | (refine pops_if (fun h => ?_) (fun h => ?_) <;> (have h2 := h; (try simp only [decide_eq_true_eq, decide_eq_false_iff_not, Bool.not_eq_true', Bool.not_eq_false'] at h2); refine wf ?_)))
  all_goals (refine end1 (.of_eq ?_); simp only [sf4]; first | (simp_all; done) | grind)⟩
instance sf5_ct (k : Int) (g : Ident) (a : Atm) : FnC Tryz.prog 153 [.agg (eAtm a), .pt [.raw (.int .i64 k)] 0, .pt (eIdent g) 0] (.raw (.bool (sf5 k g a))) := ⟨by
  refine fn_of Tryz.func153 Tryz.ntmps153 rfl (rs := [.tmp 4]) rfl rfl fun hb LF => ?_
  refine wf ?_
  repeat' (first | (refine pwp_condD (fun h => ?_) (fun h => ?_) <;> refine wf ?_) | (refine pwp_condN (fun h => ?_) (fun h => ?_) <;> refine wf ?_) | (refine pwp_condB (fun h => ?_) (fun h => ?_) <;> refine wf ?_) | (refine pops_if (fun h => ?_) (fun h => ?_) <;> (have h2 := h; (try simp only [decide_eq_true_eq, decide_eq_false_iff_not, Bool.not_eq_true', Bool.not_eq_false'] at h2); refine wf ?_)))
  all_goals (refine end1 (.of_eq ?_); simp only [sf5]; first | (simp_all; done) | grind)⟩
/-! ### The closure that collects -/
def putR (l : List Rfc) (r : Rfc) : List Rfc := if r.id.patch = Dig.zero then l else l ++ [r]
def addS (b : Nat) (l : List Rfc) (t : Tag) : List Res := [.box b 152 [.slice (l.map eRfc) t], .tok t l.length 34]
set_option maxHeartbeats 1000000 in
theorem addS_fn (x : Ident) (f : Nat) (cs : List PV) (b : Nat) (l : List Rfc) (t : Tag) (hl : l.length ≤ 1000000) :
    PCalls Tryz.prog 147 [.agg (eIdent x), .clo f cs, .raw (.pointer (some ⟨b, 0, none⟩))] (addS b l t) (fun _ L' => ∃ t', L' = addS b (putR l ⟨x, f, cs⟩) t') := by
  refine pcalls_bd Tryz.func147 rfl Tryz.ntmps147 (rs := []) rfl rfl fun hb LF => ?_
  rw [show addS b l t ++ LF = .box b 152 [.slice (l.map eRfc) t] :: .tok t l.length 34 :: LF from rfl]
  refine wf ?_
  refine pwp_condN (fun h => ?_) (fun h => ?_)
  · refine wfa fun t' => ?_
    exact ⟨trivial, [], addS b (l ++ [⟨x, f, cs⟩]) t', .nil, .refl _, t', by rw [putR, if_neg h]⟩
  · refine wf ?_
    have h0 : x.patch = Dig.zero := by simpa using h
    exact ⟨trivial, [], addS b l t, .nil, .refl _, t, by rw [putR, if_pos h0]⟩
end Go.Proofs
/- Contracts of the program: the references of a change of a patch in a set. -/
namespace Go.Proofs
open Go Go.Q
attribute [local irreducible] pwp pops PCalls OpN

section
variable {N : Nat} {all : Array Oper} {K : Env → List Res → Prop} {fl : List Bool} {os : List Oper} {ρ : Env} {L : List Res} {Q : PPost} {c : Code} {d : Nat} {ty : TypeId} {pos : String} {af : Array Edge}
theorem j_addS {x x0 x1 : Operand} {ats : Array TypeId} {b f : Nat} {l : List Rfc} {t : Tag} {id : Ident} {cs : List PV} {a1 : PV} {LF : List Res}
    (qx : ρ.ev x = .clo 147 [.raw (.pointer (some ⟨b, 0, none⟩))]) (q0 : ρ.ev x0 = .agg (eIdent id)) (q1 : ρ.ev x1 = a1) [h1 : IsClo a1 f cs] (hl : l.length ≤ 1000000)
    (k : ∀ t' u, pops Tryz.prog N all K fl.tail os (upd ρ d u) (.box b 152 [.slice ((putR l (Rfc.mk id f cs)).map eRfc) t'] :: .tok t' (putR l (Rfc.mk id f cs)).length 34 :: LF)) (hd : Nat.blt d N = true := by rfl) (hfl : fl.headD true = true := by rfl) :
    pops Tryz.prog N all K fl (⟨some d, .call { callee := .value x, args := #[x0, x1], argTypes := ats }, ty, pos, af, none⟩ :: os) ρ (.box b 152 [.slice (l.map eRfc) t] :: .tok t l.length 34 :: LF) :=
  s_callR (xs := [x0, x1]) (addS b l t) LF (.of_eq qx) rfl rfl (.refl _) (fun _ L' => ∃ t', L' = addS b (putR l ⟨id, f, cs⟩) t')
    (PCalls.args (bs := [.agg (eIdent id), .clo f cs, .raw (.pointer (some ⟨b, 0, none⟩))]) rfl (fun i g1 g2 => by
      match i, g1, g2 with
      | 0, _, _ => exact .of_eq q0
      | 1, _, _ => show Le (ρ.ev x1) _; rw [q1]; exact h1.out
      | 2, _, _ => exact .refl _
      | m + 3, g1, _ => exact absurd g1 (by simp)) (addS_fn id f cs b l t hl)) (fun r L' ⟨t', e⟩ => by subst e; exact k t' r) hd hfl
end
theorem putR_len (l : List Rfc) (r : Rfc) : (putR l r).length ≤ l.length + 1 := by unfold putR; split <;> simp
def fileS (id : Dig) (c : Chg) : Ident := if c.file.patch = Dig.zero then { c.file with patch := id } else c.file
def rs1 (c : Chg) : List Rfc := if c.kind ≠ 1 ∧ c.kind ≠ 7 then putR [] ⟨c.file, 148, [.pt (eChg c) 0]⟩ else []
def rs2 (c : Chg) (l : List Rfc) : List Rfc := if c.kind = 2 then putR l ⟨c.parent, 150, []⟩ else l
def end1R (g : Ident) (c : Chg) (x : Ident) : Rfc := ⟨x, 151, [.pt (eIdent x) 0, .pt (eChg c) 0, .pt (eIdent g) 0]⟩
def rs3 (g : Ident) (c : Chg) (l : List Rfc) : List Rfc := if c.kind = 5 ∨ c.kind = 6 then [c.after, c.before].foldl (fun l x => putR l (end1R g c x)) l else l
def over1R (g : Ident) (c : Chg) (x : Ident) : Rfc := ⟨x, 153, [.pt [.raw (.int .i64 (ovK c.kind))] 0, .pt (eIdent g) 0]⟩
def rs4 (g : Ident) (c : Chg) (l : List Rfc) (o : List Ident) : List Rfc := o.foldl (fun l x => putR l (over1R g c x)) l
def refsS (id : Dig) (c : Chg) : List Rfc := rs4 (fileS id c) c (rs3 (fileS id c) c (rs2 c (rs1 c))) c.over
theorem foldR_len' {α : Type} (f : α → Rfc) : ∀ (o : List α) (l : List Rfc), (o.foldl (fun l x => putR l (f x)) l).length ≤ l.length + o.length
  | [], l => by simp
  | x :: o, l => by
    have := foldR_len' f o (putR l (f x))
    have := putR_len l (f x)
    simp only [List.foldl_cons, List.length_cons]
    omega
theorem rs1_len (c : Chg) : (rs1 c).length ≤ 1 := by
  unfold rs1; split
  · exact putR_len _ _
  · simp
theorem rs2_len (c : Chg) (l : List Rfc) : (rs2 c l).length ≤ l.length + 1 := by
  unfold rs2; split
  · exact putR_len _ _
  · omega
theorem rs3_len (g : Ident) (c : Chg) (l : List Rfc) : (rs3 g c l).length ≤ l.length + 2 := by
  unfold rs3; split
  · exact foldR_len' _ _ _
  · omega
set_option maxHeartbeats 4000000 in
instance referencesS_ct (id : Dig) (c : Chg) [hs : Small (c.over.length ≤ 400)] : FnC Tryz.prog 118 [.agg (eDig id), .agg (eChg c)] (.slice ((refsS id c).map eRfc) .ro) := ⟨by
  have hover := hs.out
  have r1 := rs1_len c
  have r2 := rs2_len c (rs1 c)
  have r3 := rs3_len (fileS id c) c (rs2 c (rs1 c))
  refine fn_of Tryz.func118 Tryz.ntmps118 rfl (rs := [.tmp 4]) rfl rfl fun hb LF => ?_
  refine wf ?_
  refine s_alloc fun b5 => ?_
  refine wf ?_
  refine pwp_join True [(2, .pt (eDig id) 0), (3, .pt (eChg c) 0), (5, .raw (.pointer (some ⟨b5, 0, none⟩)))] (.box b5 115 (eIdent (fileS id c)) :: LF) ?_ fun _ => ?_
  · refine pwp_condD (fun h => ?_) (fun h => ?_)
    · refine wf ?_
      rw [fileS, if_pos h]
      exact ⟨trivial, ⟨rfl, rfl, rfl⟩, .refl _⟩
    · refine wf ?_
      rw [fileS, if_neg h]
      exact ⟨trivial, ⟨rfl, rfl, rfl⟩, .refl _⟩
  generalize hg : fileS id c = g at r3 ⊢
  refine pwp_freezeD 5 ?_
  refine wf ?_
  refine s_alloc fun b6 => ?_
  refine wo ?_
  refine pops_nil ?_
  refine pwp_tok 34 ?_
  refine pwp_perm (.swap _ _ _) ?_
  refine ws ?_
  refine pops_cutE [(29, .raw (.bool (decide (c.kind ≠ 1 ∧ c.kind ≠ 7)))), (3, .pt (eChg c) 0), (5, .pt (eIdent g) 0), (6, .raw (.pointer (some ⟨b6, 0, none⟩))), (7, .clo 147 [.raw (.pointer (some ⟨b6, 0, none⟩))])] (.box b6 152 [.slice [] .nil] :: .tok .nil 0 34 :: LF) ?_ ?_
  · repeat' (first | (refine pwp_condD (fun h => ?_) (fun h => ?_) <;> refine wf ?_) | (refine pwp_condN (fun h => ?_) (fun h => ?_) <;> refine wf ?_) | (refine pwp_condB (fun h => ?_) (fun h => ?_) <;> refine wf ?_) | (refine pops_if (fun h => ?_) (fun h => ?_) <;> (have h2 := h; (try simp only [decide_eq_true_eq, decide_eq_false_iff_not, Bool.not_eq_true', Bool.not_eq_false'] at h2); refine wf ?_)))
    all_goals (refine ⟨⟨holdsB (by rfl) ?_, rfl, rfl, rfl, rfl⟩, .refl _⟩; first | (simp_all; done) | grind)
  refine pwp_joinG (σ := List Rfc × Tag) (fun s => s.1 = rs1 c) (fun s => [(3, .pt (eChg c) 0), (5, .pt (eIdent g) 0), (6, .raw (.pointer (some ⟨b6, 0, none⟩))), (7, .clo 147 [.raw (.pointer (some ⟨b6, 0, none⟩))])]) (fun s => .box b6 152 [.slice (s.1.map eRfc) s.2] :: .tok s.2 s.1.length 34 :: LF) ?_ ?_
  · refine pwp_condD (fun h => ?_) (fun h => ?_)
    · refine wf ?_
      refine j_addS (l := []) rfl rfl (by (conv => lhs; whnf); done) (h1 := (by first | infer_instance | fail)) (by simp) fun t' u => ?_
      refine wf ?_
      exact ⟨(putR [] ⟨c.file, 148, [.pt (eChg c) 0]⟩, t'), by rw [rs1, if_pos h], ⟨rfl, rfl, rfl, rfl⟩, .refl _⟩
    · refine wf ?_
      exact ⟨([], .nil), by rw [rs1, if_neg h], ⟨rfl, rfl, rfl, rfl⟩, .refl _⟩
  rintro ⟨l1, t1⟩ hl1
  dsimp only at hl1 ⊢
  have k1 : l1.length ≤ 1 := by rw [hl1]; exact r1
  rw [← hl1] at r2 r3
  refine wf ?_
  refine pwp_joinG (σ := List Rfc × Tag) (fun s => s.1 = rs2 c l1) (fun s => [(3, .pt (eChg c) 0), (5, .pt (eIdent g) 0), (6, .raw (.pointer (some ⟨b6, 0, none⟩))), (7, .clo 147 [.raw (.pointer (some ⟨b6, 0, none⟩))])]) (fun s => .box b6 152 [.slice (s.1.map eRfc) s.2] :: .tok s.2 s.1.length 34 :: LF) ?_ ?_
  · refine pwp_condD (fun h => ?_) (fun h => ?_)
    · refine wf ?_
      refine j_addS rfl rfl (by (conv => lhs; whnf); done) (h1 := (by first | infer_instance | fail)) (by omega) fun t' u => ?_
      refine wf ?_
      exact ⟨(putR l1 ⟨c.parent, 150, []⟩, t'), by rw [rs2, if_pos h], ⟨rfl, rfl, rfl, rfl⟩, .refl _⟩
    · refine wf ?_
      exact ⟨(l1, t1), by rw [rs2, if_neg h], ⟨rfl, rfl, rfl, rfl⟩, .refl _⟩
  rintro ⟨l2, t2⟩ hl2
  dsimp only at hl2 ⊢
  rw [← hl2] at r2 r3
  refine ws ?_
  refine pops_cutE [(49, .raw (.bool (decide (c.kind = 5 ∨ c.kind = 6)))), (3, .pt (eChg c) 0), (5, .pt (eIdent g) 0), (6, .raw (.pointer (some ⟨b6, 0, none⟩))), (7, .clo 147 [.raw (.pointer (some ⟨b6, 0, none⟩))])] (.box b6 152 [.slice (l2.map eRfc) t2] :: .tok t2 l2.length 34 :: LF) ?_ ?_
  · repeat' (first | (refine pwp_condD (fun h => ?_) (fun h => ?_) <;> refine wf ?_) | (refine pwp_condN (fun h => ?_) (fun h => ?_) <;> refine wf ?_) | (refine pwp_condB (fun h => ?_) (fun h => ?_) <;> refine wf ?_) | (refine pops_if (fun h => ?_) (fun h => ?_) <;> (have h2 := h; (try simp only [decide_eq_true_eq, decide_eq_false_iff_not, Bool.not_eq_true', Bool.not_eq_false'] at h2); refine wf ?_)))
    all_goals (refine ⟨⟨holdsB (by rfl) ?_, rfl, rfl, rfl, rfl⟩, .refl _⟩; first | (simp_all; done) | grind)
  refine pwp_joinG (σ := List Rfc × Tag) (fun s => s.1 = rs3 g c l2) (fun s => [(3, .pt (eChg c) 0), (5, .pt (eIdent g) 0), (6, .raw (.pointer (some ⟨b6, 0, none⟩))), (7, .clo 147 [.raw (.pointer (some ⟨b6, 0, none⟩))])]) (fun s => .box b6 152 [.slice (s.1.map eRfc) s.2] :: .tok s.2 s.1.length 34 :: LF) ?_ ?_
  · refine pwp_condD (fun h => ?_) (fun h => ?_)
    · refine wf ?_
      refine pwp_loopS (σ := Nat × List Rfc × Tag) (fun k => k.1 ≤ 2 ∧ k.2.1 = ([c.after, c.before].take k.1).foldl (fun l x => putR l (end1R g c x)) l2) (fun k => 2 - k.1) (fun k => [(3, .pt (eChg c) 0), (5, .pt (eIdent g) 0), (6, .raw (.pointer (some ⟨b6, 0, none⟩))), (7, .clo 147 [.raw (.pointer (some ⟨b6, 0, none⟩))]), (54, .slice ([c.after, c.before].map eIdent) .ro), (55, .raw (.int .i64 2)), (56, .raw (.int .i64 k.1))]) (fun k => .box b6 152 [.slice (k.2.1.map eRfc) k.2.2] :: .tok k.2.2 k.2.1.length 34 :: LF) (0, l2, t2) ⟨by simp, rfl⟩ ⟨rfl, rfl, rfl, rfl, rfl, rfl, rfl⟩ (.refl _) ?_
      rintro ⟨k, m, t3⟩ ⟨hk, hm⟩
      dsimp only at hk hm ⊢
      have hml : m.length ≤ 10 := by
        have := foldR_len' (end1R g c) ([c.after, c.before].take k) l2
        rw [← hm, List.length_take] at this
        simp only [List.length_cons, List.length_nil] at this
        omega
      refine wf ?_
      refine pwp_condD (fun hc => ?_) (fun hc => ?_)
      · have hlt : k < [c.after, c.before].length := by simp only [List.length_cons, List.length_nil]; omega
        refine wz fun b9 => ?_
        refine pwp_freezeD 9 ?_
        refine wf ?_
        refine j_addS rfl rfl (by (conv => lhs; whnf); done) (h1 := (by first | infer_instance | fail)) (by omega) fun t' u => ?_
        refine wf ?_
        refine ⟨(k + 1, putR m (end1R g c [c.after, c.before][k]), t'), ⟨by dsimp only; omega, ?_⟩, by dsimp only; omega, ⟨rfl, rfl, rfl, rfl, rfl, rfl, rfl⟩, .refl _⟩
        dsimp only
        rw [List.take_succ_eq_append_getElem hlt, List.foldl_append, ← hm]; rfl
      · rw [List.take_of_length_le (by simp only [List.length_cons, List.length_nil]; omega)] at hm
        refine wf ?_
        exact ⟨(m, t3), by rw [rs3, if_pos h]; exact hm, ⟨rfl, rfl, rfl, rfl⟩, .refl _⟩
    · refine wf ?_
      exact ⟨(l2, t2), by rw [rs3, if_neg h], ⟨rfl, rfl, rfl, rfl⟩, .refl _⟩
  rintro ⟨l3, t3⟩ hl3
  dsimp only at hl3 ⊢
  rw [← hl3] at r3
  refine wf ?_
  refine s_alloc fun b10 => ?_
  refine wo ?_
  refine pops_nil ?_
  refine pwp_freezeD 10 ?_
  refine wf ?_
  refine pwp_loopS (σ := Nat × List Rfc × Tag) (fun k => k.1 ≤ c.over.length ∧ k.2.1 = rs4 g c l3 (c.over.take k.1)) (fun k => c.over.length - k.1) (fun k => [(5, .pt (eIdent g) 0), (6, .raw (.pointer (some ⟨b6, 0, none⟩))), (7, .clo 147 [.raw (.pointer (some ⟨b6, 0, none⟩))]), (10, .pt [.raw (.int .i64 (ovK c.kind))] 0), (69, .slice (c.over.map eIdent) .ro), (70, .raw (.int .i64 c.over.length)), (71, .raw (.int .i64 k.1))]) (fun k => .box b6 152 [.slice (k.2.1.map eRfc) k.2.2] :: .tok k.2.2 k.2.1.length 34 :: LF) (0, l3, t3) ⟨by simp, rfl⟩ ⟨rfl, rfl, rfl, rfl, rfl, rfl, rfl⟩ (.refl _) ?_
  rintro ⟨k, m, t4⟩ ⟨hk, hm⟩
  dsimp only at hk hm ⊢
  have hml : m.length ≤ 1000 := by
    have := foldR_len' (over1R g c) (c.over.take k) l3
    rw [List.length_take] at this
    have e : m.length = ((c.over.take k).foldl (fun l x => putR l (over1R g c x)) l3).length := by rw [hm]; rfl
    omega
  refine wf ?_
  refine pwp_condD (fun hc => ?_) (fun hc => ?_)
  · have hlt : k < c.over.length := by omega
    refine wz fun b12 => ?_
    refine pwp_freezeD 12 ?_
    refine wf ?_
    refine j_addS rfl rfl (by (conv => lhs; whnf); done) (h1 := (by first | infer_instance | fail)) (by omega) fun t' u => ?_
    refine wf ?_
    refine ⟨(k + 1, putR m (over1R g c c.over[k]), t'), ⟨by dsimp only; omega, ?_⟩, by dsimp only; omega, ⟨rfl, rfl, rfl, rfl, rfl, rfl, rfl⟩, .refl _⟩
    dsimp only
    rw [List.take_succ_eq_append_getElem hlt, rs4, List.foldl_append, hm]; rfl
  · rw [List.take_of_length_le (by omega)] at hm
    refine wf ?_
    refine end1 (.ros ?_)
    rw [hm, refsS, hg, ← hl1, ← hl2, ← hl3]⟩
end Go.Proofs
/- The small logic: rows of one's own with elements of any form; a row lent to a callee that only reads. Library, no statement of its own. -/
namespace Go.Q
open Go

/-- A row's elements, as a slice of frozen ones. -/
theorem Inv.lendRow {w : World} {g : Gh} {r E sz cap : Nat} {xs : List (List PV)} {rest : List PV} {LF : List Res} (hi : Inv w g (.box r E (xs.flatten ++ rest) :: LF)) (hs : ∀ e ∈ xs, e.length = sz) (hc : xs.length ≤ cap) (hm : xs.length ≤ maxN ∧ xs.length * sz ≤ maxN) :
    ∃ g', g.le g' ∧ Inv w g' [] ∧ VR g' (.slice (some ⟨r, 0, none⟩) xs.length cap) (.slice xs .ro) := by
  obtain ⟨us, h1, h2, h3, h4⟩ := hi.res _ (List.mem_cons_self)
  have hlen : us.length = (xs.flatten ++ rest).length := h2.len
  let u := us.take xs.flatten.length
  have hul : u.length = xs.flatten.length := by
    simp only [u, List.length_take, hlen, List.length_append]; omega
  have hu : VRl g u xs.flatten := ⟨hul, fun i k1 k2 => by
    have := h2.at_ i (by rw [hlen, List.length_append]; omega) (by rw [List.length_append]; omega)
    rw [List.getElem_append_left k2] at this
    simpa [u] using this⟩
  have hle := Gh.le_lay (g := g) (b := r) (from_ := 0) (us := u) (fun o _ => h3 o)
  have hcell : ∀ j (h : j < u.length), w.cell? ⟨r, j, none⟩ = some u[j] := fun j h => by
    have hj : j < us.length := by rw [hlen, List.length_append]; omega
    simp only [World.cell?, h1, Option.isSome_none, Bool.false_eq_true, if_false, List.getElem?_toArray]
    rw [List.getElem?_eq_getElem hj]
    simp [u]
  refine ⟨g.lay r 0 u, hle, ⟨fun b o v hv => ?_, hi.satM, by simp, by simp [blocks], hi.glob.mono hle⟩, ?_⟩
  · by_cases hin : b = r ∧ 0 ≤ o ∧ o < 0 + u.length
    · obtain ⟨rfl, _, h5⟩ := hin
      have hj : o < u.length := by omega
      have := Gh.lay_in (g := g) (b := b) (from_ := 0) hj
      rw [Nat.zero_add, hv] at this
      cases this
      exact hcell o hj
    · rw [Gh.lay_out hin] at hv
      exact hi.sat b o v hv
  · exact VR.of_cells (g := g.lay r 0 u) (t := .ro) (sz := sz) (b := r) (off := 0) (cap := cap) hs hc hm (us := u) (hu.mono hle) (fun j hj => Gh.lay_in hj) (fun b' cap' e => by cases e) (by simp)
theorem VRl.repl {g g' : Gh} {vs : List Value} {ps bs : List PV} {a b : PV} (hv : VRl g vs (ps ++ a :: bs)) (hle : g.le g') (h : ∀ v, VR g v a → VR g' v b) : VRl g' vs (ps ++ b :: bs) :=
  ⟨by rw [hv.len]; simp, fun i k1 k2 => by
    have h0 := hv.at_ i k1 (by simpa using k2)
    by_cases hi1 : i < ps.length
    · rw [List.getElem_append_left hi1] at h0 ⊢; exact h0.mono hle
    · rw [List.getElem_append_right (by omega)] at h0 ⊢
      by_cases hi2 : i - ps.length = 0
      · have e1 : ∀ (a : PV), (a :: bs)[i - ps.length]'(by simp [hi2]) = a := fun a => by simp [hi2]
        rw [e1] at h0 ⊢
        exact h _ h0
      · obtain ⟨m, hm'⟩ : ∃ m, i - ps.length = m + 1 := ⟨i - ps.length - 1, by omega⟩
        simp only [hm', List.getElem_cons_succ] at h0 ⊢
        exact h0.mono hle⟩
/-- A callee that only reads may be lent a row. -/
theorem PCalls.lend {P : Program} {f : Nat} {X : Value} {r E sz n cap : Nat} {xs : List (List PV)} {rest : List PV} (ps bs : List PV) (hs : ∀ e ∈ xs, e.length = sz) (hn : xs.length = n) (hc : n ≤ cap) (hm : n ≤ maxN ∧ n * sz ≤ maxN)
    (h : Fn P f (ps ++ .slice xs .ro :: bs) (.raw X)) : PCalls P f (ps ++ .raw (.slice (some ⟨r, 0, none⟩) n cap) :: bs) [.box r E (xs.flatten ++ rest)] (fun x L' => x = .raw X ∧ L' = [.box r E (xs.flatten ++ rest)]) := by
  intro vs w g LF hv hi
  subst hn
  obtain ⟨g', hle, hi', hsl⟩ := hi.lendRow hs hc hm
  have hv' : VRl g' vs (ps ++ .slice xs .ro :: bs) := hv.repl hle fun v hv => by rw [hv.raw_inv]; exact hsl
  refine (h vs w g' [] hv' (by simpa using hi')).mono ?_
  rintro e w' ⟨v, x, g'', L', rfl, k2, k3, k4, k5, rfl, rfl⟩
  have hk : ∀ k, k < w.heap.size → w'.heap[k]? = w.heap[k]? := fun k hk => k4.keep k hk (by simp [blocks])
  exact ⟨v, .raw X, g, _, rfl, by rw [k2.raw_inv]; exact .raw _, hi.later hk, ⟨k4.os, k4.tape, k4.output, k4.size, fun k h _ => hk k h, .refl g, fun _ _ _ => ⟨fun _ => rfl, rfl⟩⟩, .refl _ _, rfl, rfl⟩

theorem Inv.boxRaw {w : World} {g : Gh} {r E : Nat} {cs : List PV} {LF : List Res} (hi : Inv w g (.box r E cs :: LF)) : ∃ us : List Value, VRl g us cs ∧ Inv w g (.raw r (.cells us.toArray E (0, 0)) :: LF) := by
  obtain ⟨us, h1, h2, h3, h4⟩ := hi.res _ (List.mem_cons_self)
  refine ⟨us, h2, hi.sat, hi.satM, fun x hx => ?_, hi.nodup, hi.glob⟩
  rcases List.mem_cons.1 hx with rfl | hx
  · exact ⟨h1, h3, h4⟩
  · exact hi.res x (List.mem_cons_of_mem _ hx)
theorem Inv.rawBox {w : World} {g : Gh} {r E : Nat} {cur : Array Value} {cs : List PV} {LF : List Res} (hi : Inv w g (.raw r (.cells cur E (0, 0)) :: LF)) (h : VRl g cur.toList cs) : Inv w g (.box r E cs :: LF) := by
  obtain ⟨h1, h3, h4⟩ := hi.res _ (List.mem_cons_self)
  refine ⟨hi.sat, hi.satM, fun x hx => ?_, hi.nodup, hi.glob⟩
  rcases List.mem_cons.1 hx with rfl | hx
  · exact ⟨cur.toList, by simpa using h1, h, h3, h4⟩
  · exact hi.res x (List.mem_cons_of_mem _ hx)
/-- A slice with a row of its own, whose elements are these. -/
inductive RowB (E sz : Nat) : Value → List (List PV) → List Res → Prop
  | nil (o : Option Addr) (ho : ∀ a, o = some a → a.spot = none) : RowB E sz (.slice o 0 0) [] []
  | row {r n cap : Nat} {xs : List (List PV)} {rest : List PV} (hn : xs.length = n) (hl : n ≤ cap) (hs : ∀ e ∈ xs, e.length = sz) (hc : xs.flatten.length + rest.length = cap * sz) : RowB E sz (.slice (some ⟨r, 0, none⟩) n cap) xs [.box r E (xs.flatten ++ rest)]
theorem RowB.slice {E sz : Nat} {v : Value} {xs : List (List PV)} {R : List Res} (h : RowB E sz v xs R) : (∃ o c, v = .slice o xs.length c) ∧ ∀ e ∈ xs, e.length = sz := by
  cases h with
  | nil o ho => exact ⟨⟨_, _, rfl⟩, by simp⟩
  | row hn hl hs hc => subst hn; exact ⟨⟨_, _, rfl⟩, hs⟩
/-- Its values, known to the letter. -/
theorem RowB.open {E sz : Nat} {v : Value} {xs : List (List PV)} {R LF : List Res} {w : World} {g : Gh} (h : RowB E sz v xs R) (hi : Inv w g (R ++ LF)) : ∃ us R₁, VRl g us xs.flatten ∧ RowG E sz v xs.length us R₁ ∧ Inv w g (R₁ ++ LF) ∧ blocks R₁ = blocks R := by
  cases h with
  | nil o ho => exact ⟨[], [], .nil g, .nil o ho, hi, rfl⟩
  | row hn hl hs hc =>
    rename_i r n cap rest
    subst hn
    obtain ⟨us, h1, h2⟩ := Inv.boxRaw hi
    have hfl := flatten_len hs
    have hul : us.length = xs.flatten.length + rest.length := by rw [h1.len, List.length_append]
    refine ⟨us.take (xs.length * sz), _, ⟨by rw [List.length_take, hul, hfl]; omega, fun i k1 k2 => ?_⟩, .row hl (by rw [List.size_toArray, hul, hc]) (by rw [List.length_take, hul, hfl]; omega) (by simp), h2, rfl⟩
    have := h1.at_ i (by rw [hul]; omega) (by rw [List.length_append]; omega)
    rw [List.getElem_append_left k2] at this
    simpa using this
theorem RowB.close {E sz : Nat} {v : Value} {xs : List (List PV)} {us : List Value} {R LF : List Res} {w : World} {g : Gh} {n : Nat} (hn : xs.length = n) (hs : ∀ e ∈ xs, e.length = sz) (h : RowG E sz v n us R) (hu : VRl g us xs.flatten) (hi : Inv w g (R ++ LF)) : ∃ R', RowB E sz v xs R' ∧ Inv w g (R' ++ LF) ∧ blocks R' = blocks R := by
  have hfl := flatten_len hs
  cases h with
  | nil o ho =>
    have hx : xs = [] := List.eq_nil_of_length_eq_zero hn
    subst hx
    exact ⟨[], .nil o ho, hi, rfl⟩
  | row hl hc hu' hcur =>
    subst hn
    rename_i r cap cur
    have hcl : cur.toList.length = cap * sz := by simpa using hc
    have hle : xs.length * sz ≤ cap * sz := Nat.mul_le_mul_right _ hl
    have hv : VRl g cur.toList (xs.flatten ++ (cur.toList.drop (xs.length * sz)).map .raw) := by
      conv => lhs; rw [← List.take_append_drop (xs.length * sz) cur.toList]
      rw [hcur]
      exact hu.append (VRl.raws g _)
    exact ⟨_, .row rfl hl hs (by rw [List.length_map, List.length_drop, hcl, hfl]; omega), Inv.rawBox hi hv, rfl⟩
theorem RowB.lend {P : Program} {f E sz : Nat} {X v : Value} {xs : List (List PV)} {R : List Res} (hr : RowB E sz v xs R) (ps bs : List PV) (hm : xs.length ≤ maxN ∧ xs.length * sz ≤ maxN) (h : Fn P f (ps ++ .slice xs .ro :: bs) (.raw X)) :
    PCalls P f (ps ++ .raw v :: bs) R (fun x L' => x = .raw X ∧ L' = R) := by
  cases hr with
  | nil o ho =>
    intro vs w g LF hv hi
    exact h vs w g LF (hv.repl (.refl g) fun v hv => by rw [hv.raw_inv]; exact .nilR) hi
  | row hn hl hs hc =>
    subst hn
    exact PCalls.lend ps bs hs rfl hl hm h
section
variable {P : Program} {N : Nat} {all : Array Oper} {K : Env → List Res → Prop} {fl : List Bool} {os : List Oper} {ρ : Env} {L : List Res} {d : Nat} {ty : TypeId} {pos : String} {af : Array Edge}
/-- append to a row of one's own: frozen elements. -/
theorem s_appB {T T₂ E E₂ sz by_ : Nat} {α : Type} {f : α → List PV} [hT : TRw P T E sz by_] [h2 : TSl P T₂ E₂] [hf : Len f sz] [hff : FlatF f] {x y : Operand} {v : Value} {xs : List (List PV)} {m : List α} {t : Tag} {R LF : List Res} (F : List Res → List Res)
    (hx : ρ.ev x = .raw v) (hy : ρ.ev y = .slice (m.map f) t) (hv : RowB E sz v xs R) (hp : L.Perm (R ++ LF)) (hq : ∀ R', (R' ++ LF).Perm (F R')) (hb : (xs.length + m.length) * by_ ≤ 140737488355328) (hm : xs.length + m.length ≤ 140737488355328)
    (k : ∀ v' R', RowB E sz v' (xs ++ m.map f) R' → pops P N all K fl.tail os (upd ρ d (.raw v')) (F R')) (hd : Nat.blt d N = true := by rfl) (hfl : fl.headD true = true := by rfl) :
    pops P N all K fl (⟨some d, .call { callee := .builtin .append, args := #[x, y], argTypes := #[T, T₂] }, ty, pos, af, none⟩ :: os) ρ L :=
  pops_n rfl (dlt hd) hfl (OpN.perm hp fun a w g ha hi => by
    have h1 := evRaw ha (x := x) (by simp [Op.operands, Call.operands]) hx
    have h3 := ha y (by simp [Op.operands, Call.operands])
    rw [hy] at h3
    have hms : ∀ e ∈ m.map f, e.length = sz := fun e he => by obtain ⟨a, _, rfl⟩ := List.mem_map.1 he; exact hf.out a
    obtain ⟨base, cap, e, _, _, hnone, _, _, us, hus, hcell⟩ := h3.slice_cells (sz := sz) hms
    rw [List.length_map] at e
    have hvl : us.length = m.length * sz := by rw [hus.len, flatten_len hms, List.length_map]
    obtain ⟨us0, R₁, q1, q2, q3, q4⟩ := hv.open hi
    have hone : ∀ x ∈ us, x.oneCell' = true := hus.one (fun c hc => by
      obtain ⟨e, he, hce⟩ := List.mem_flatten.1 hc
      obtain ⟨a, _, rfl⟩ := List.mem_map.1 he
      exact hff.out a c hce)
    obtain ⟨v', w', R', p1, p2, p3, p4, p5⟩ := app_coreG (P := P) (T := T) (T₂ := T₂) (ty := ty) (.inr ⟨_, h2.out⟩) (.slice base m.length cap) us q3 q2 (fun _ => rfl) hvl hone (fun w' hs' => by
      cases base with
      | none =>
        have h0 := (hnone rfl).1
        have hm0 : m = [] := by simpa using h0
        have : us = [] := List.eq_nil_of_length_eq_zero (by rw [hvl, hm0]; simp)
        rw [this]; rfl
      | some ad =>
        obtain ⟨b, o, s⟩ := ad
        obtain ⟨hsp, hH⟩ := hcell _ rfl
        show (loadCells _ (m.length * sz)).run P w' = _
        rw [← hvl]
        exact loadCells_of (hsp.imp_left fun h => us_nil hus h.1) fun j hj => hs' _ _ _ (hH j hj)) hb hm
    obtain ⟨R₂, z1, z2, z3⟩ := RowB.close (xs := xs ++ m.map f) (n := xs.length + m.length) (by simp) (fun e he => (List.mem_append.1 he).elim (hv.slice.2 e) (hms e)) p2 (by rw [List.flatten_append]; exact q1.append hus) p3
    have hbl : ∀ (A B : List Res), blocks A = blocks B → blocks (A ++ LF) = blocks (B ++ LF) := fun A B h => by
      simp only [blocks, List.filterMap_append] at h ⊢; rw [h]
    refine Oper.wq_of_run (show (do pure (.value (← Builtin.append_ #[T, T₂] ty (#[x, y].map a.eval))) : Sem Next).run P w = .ok (.value v') w' by
      simp only [List.map_toArray, List.map_cons, List.map_nil, h1, e, Sem.run_bind, p1, Result.andThen_ok, Sem.run_pure]) ?_
    refine ⟨_, .raw v', g, F R₂, rfl, .raw _, z2.perm (hq R₂), ?_, ?_, k v' R₂ z1⟩
    · rw [← hbl _ _ q4]; exact p4
    · intro b hb' hlt
      rw [← hbl _ _ q4]
      have hb2 : b ∈ blocks (R' ++ LF) := by rw [← hbl _ _ z3]; exact ((hq R₂).filterMap _).symm.subset hb'
      exact p5 b hb2 hlt)
end
end Go.Q
/- Contracts of the program: the atoms of a patch, in a row of their own. -/
namespace Go.Proofs
open Go Go.Q
attribute [local irreducible] pwp pops PCalls OpN

instance trw_Atm : TRw Tryz.prog 167 157 172 296 := ⟨by
  have h2 : (Tryz.prog.info? 157).map (fun i => (i.size, i.bytes, i.zero.isSome, (i.zero.getD undef).cells.size)) = some (172, 296, true, 172) := by kernel_rfl
  obtain ⟨i, hi, e⟩ := Option.map_eq_some_iff.1 h2
  simp only [Prod.mk.injEq] at e
  obtain ⟨e1, e2, e3, e4⟩ := e
  obtain ⟨z, hz⟩ := Option.isSome_iff_exists.1 e3
  rw [hz] at e4
  exact ⟨i, z, by kernel_rfl, hi, e1, e2, hz, e4, by decide, by decide⟩⟩

def bxA (b : Nat) (v : Value) (R LF : List Res) : List Res := .box b 167 [.raw v] :: (R ++ LF)
set_option maxHeartbeats 2000000 in
theorem examineB_fn (p : Pat) (hs : rGreat p = false) : PCalls Tryz.prog 131 [.agg (ePat p)] [] (fun r L' => ∃ x y, r = .tuple [x, y, .raw (.int .i64 (rEx p).2.2)] ∧ (((rEx p).2.2 ≠ 0 ∧ L' = []) ∨ ((rEx p).2.2 = 0 ∧ ∃ v, x = .raw v ∧ RowB 157 172 v ((rEx p).1.map eAtm) L' ∧ (rEx p).1.length ≤ 100000))) := by
  obtain ⟨hg1, hg2, hg3, hg4, hg5⟩ := great_facts hs
  refine pcalls_bd Tryz.func131 rfl Tryz.ntmps131 (rs := [.tmp 2, .tmp 3, .tmp 4]) rfl rfl fun hb LF => ?_
  have zr : ZeroE Tryz.prog 167 [.raw (.slice none 0 0)] := zero1 (v := .slice none 0 0) (by kernel_rfl) rfl fun _ => .raw _
  refine wf ?_
  refine pwp_condN (fun h1 => ?_) (fun h1 => ?_)
  · refine wf ?_
    have e : rCheckP p = ([], rHead p) := by rw [checkP_head, if_pos h1]
    have e2 : rEx p = ([], [], rHead p) := by rw [rEx, e, if_pos h1]
    rw [e2]
    exact ⟨trivial, _, [], .cons (.tmp 2) (.cons (.tmp 3) (.cons (.tmp 4) .nil)), .refl _, _, _, rfl, .inl ⟨h1, rfl⟩⟩
  have hH := rCheckP_ok h1
  refine wf ?_
  refine s_alloc (hZ := zr) fun b6 => ?_
  refine wf ?_
  refine pwp_loopS (σ := Nat × Value × List Res × List Atm) (fun k => k.1 ≤ p.changes.length ∧ RowB 157 172 k.2.1 (k.2.2.2.map eAtm) k.2.2.1 ∧ k.2.2.2.length ≤ k.1 * 4001 ∧ idsOk k.2.2.2 ∧ (∀ c ∈ p.changes.take k.1, 1 ≤ c.kind ∧ c.kind ≤ 7) ∧ rCheckP p = rChanges (p.changes.drop k.1) k.2.2.2) (fun k => p.changes.length - k.1) (fun k => [(1, .pt (ePat p) 0), (6, .raw (.pointer (some ⟨b6, 0, none⟩))), (20, .slice (p.changes.map eChg) .ro), (21, .raw (.int .i64 p.changes.length)), (22, .raw (.int .i64 k.1))]) (fun k => bxA b6 k.2.1 k.2.2.1 LF) (0, .slice none 0 0, [], []) ⟨by simp, .nil none (by simp), by simp, fun i h => absurd h (by simp), by simp, hH⟩ ⟨rfl, rfl, rfl, rfl, rfl⟩ (.refl _) ?_
  rintro ⟨k, v, R, own⟩ ⟨hk, hrow, hlen, hid, hkd, he⟩
  dsimp only at hk hrow hlen hid hkd he
  rw [show bxA b6 (k, v, R, own).2.1 (k, v, R, own).2.2.1 LF = .box b6 167 [.raw v] :: (R ++ LF) from rfl]
  refine wf ?_
  refine pwp_condD (fun hc => ?_) (fun hc => ?_)
  · have hlt : k < p.changes.length := by omega
    rw [rChanges_step hlt] at he
    refine wz fun b8 => ?_
    refine pwp_freezeD 8 ?_
    refine wf ?_
    refine pwp_condN (fun h2 => ?_) (fun h2 => ?_)
    · refine wf ?_
      rw [if_pos h2] at he
      have e2 : rEx p = ([], [], rFields p.changes[k]) := by rw [rEx, he, if_pos h2]
      rw [e2]
      exact ⟨trivial, _, [], .cons (.tmp 2) (.cons (.tmp 3) (.cons (.tmp 4) .nil)), .cons _ (List.sublist_append_right R LF), _, _, rfl, .inl ⟨h2, rfl⟩⟩
    rw [if_neg (by simp [h2])] at he
    have hll : p.changes[k].lines.length ≤ 2000 := rFields_lines h2
    have hkk : 1 ≤ p.changes[k].kind ∧ p.changes[k].kind ≤ 7 := rFields_kind h2
    have hmm := rMade_len p.changes[k] own.length
    have i1 : Small (rFields p.changes[k] = 0 ∧ own.length ≤ 100000 ∧ idsOk own) := ⟨h2, by omega, hid⟩
    have hmx : (own.map eAtm).length ≤ maxN ∧ (own.map eAtm).length * 172 ≤ maxN := by
      have : maxN = 140737488355328 := rfl
      rw [List.length_map]; omega
    refine wf ?_
    refine s_callR (xs := [.tmp 31, .tmp 32]) R (.box b6 167 [.raw v] :: LF) (f := 169) (cs := []) (le_func _) rfl rfl List.perm_middle.symm _ (hrow.lend [.agg (eChg p.changes[k])] [] hmx (inferInstance : FnC Tryz.prog 169 [.agg (eChg p.changes[k]), .slice (own.map eAtm) .ro] (.raw (.int .i64 (rRefs p.changes[k] own)))).out) fun r L' ⟨e1, e2⟩ => ?_
    subst e1
    rw [e2]
    refine wf ?_
    refine wf ?_
    refine pwp_perm List.perm_middle ?_
    refine pwp_condN (fun h3 => ?_) (fun h3 => ?_)
    · refine wf ?_
      rw [if_pos h3] at he
      have e2 : rEx p = ([], [], rRefs p.changes[k] own) := by rw [rEx, he, if_pos h3]
      rw [e2]
      exact ⟨trivial, _, [], .cons (.tmp 2) (.cons (.tmp 3) (.cons (.tmp 4) .nil)), .cons _ (List.sublist_append_right R LF), _, _, rfl, .inl ⟨h3, rfl⟩⟩
    rw [if_neg (by simp [h3])] at he
    have hrow' := hrow
    obtain ⟨⟨o, cc, ev⟩, _⟩ := hrow.slice
    rw [List.length_map] at ev
    subst ev
    refine wf ?_
    refine s_lenR rfl ?_
    refine wf ?_
    refine pwp_rangeFunc (made_iter p.changes[k] own.length hkk ⟨hll, by omega, by omega⟩) [41] (σ := Value × List Res × List Atm) (fun pre s => RowB 157 172 s.1 (s.2.2.map eAtm) s.2.1 ∧ s.2.2 = own ++ pre) (fun _ _ => False) (fun s LF' => bxA b6 s.1 s.2.1 LF') (.slice o own.length cc, R, own) LF ?_ rfl (fun _ => rfl) (by simp) (fun _ _ => by simp [bxA]) (.refl _) ⟨hrow', by simp⟩ ?_ ?_ (fun _ _ h => h.elim)
    · exact .refl _
    · rintro pre x ⟨v1, R1, own1⟩ LF' hpre ⟨hr1, hI⟩
      dsimp only at hr1 hI
      have hpl := hpre.length_le
      have hol : own1.length ≤ 90000 := by
        rw [hI, List.length_append]
        rw [List.length_append, List.length_singleton] at hpl
        omega
      rw [show bxA b6 (v1, R1, own1).1 (v1, R1, own1).2.1 LF' = .box b6 167 [.raw v1] :: (R1 ++ LF') from rfl]
      refine wz fun b11 => ?_
      refine pwp_freezeD 11 ?_
      refine wf ?_
      refine s_appB (f := eAtm) (m := [x]) (R := R1) (LF := .box b6 167 [.raw v1] :: LF') (fun R' => .box b6 167 [.raw v1] :: (R' ++ LF')) rfl rfl hr1 List.perm_middle.symm (fun R' => List.perm_middle) (by simp only [List.length_map, List.length_cons, List.length_nil]; omega) (by simp only [List.length_map, List.length_cons, List.length_nil]; omega) fun v2 R2 hr2 => ?_
      have h1c : v2.oneCell' = true := by
        obtain ⟨⟨o2, c2, e2⟩, _⟩ := hr2.slice
        rw [e2]; rfl
      refine s_storeV [.raw v2] rfl rfl h1c rfl (by simp) ?_
      refine wf ?_
      exact ⟨(v2, R2, own1 ++ [x]), ⟨by dsimp only; rw [List.map_append]; exact hr2, by dsimp only; rw [hI, List.append_assoc]⟩, .refl _⟩
    · rintro ⟨v1, R1, own1⟩ ⟨hr1, hI⟩
      dsimp only at hr1 hI
      refine wf ?_
      refine ⟨(k + 1, v1, R1, own1), ⟨by dsimp only; omega, hr1, ?_, ?_, ?_, ?_⟩, by dsimp only; omega, ⟨rfl, rfl, rfl, rfl, rfl⟩, .refl _⟩
      · dsimp only
        rw [hI, List.length_append]; omega
      · dsimp only
        rw [hI]; exact idsOk_made _ hid
      · dsimp only
        intro c hcm
        rw [List.take_succ_eq_append_getElem hlt] at hcm
        rcases List.mem_append.1 hcm with h | h
        · exact hkd c h
        · rw [List.mem_singleton.1 h]; exact hkk
      · dsimp only
        rw [hI]; exact he
  have hkk : k = p.changes.length := by omega
  rw [List.drop_eq_nil_of_le (by omega)] at he
  rw [List.take_of_length_le (by omega)] at hkd
  have he' : rCheckP p = (own, 0) := he
  have i1 : Small (encOkP p) := ⟨⟨encOk_of hs, rDeps_nz (rHead_deps h1), hkd⟩⟩
  refine wf ?_
  have h0 : ¬ (rCheckP p).2 ≠ 0 := by rw [he']; simp
  refine pwp_condD (fun h => ?_) (fun h => ?_)
  · refine wf ?_
    have e2 : rEx p = ([], [], 4) := by rw [rEx, if_neg h0, if_pos h]
    rw [e2]
    exact ⟨trivial, _, [], .cons (.tmp 2) (.cons (.tmp 3) (.cons (.tmp 4) .nil)), .cons _ (List.sublist_append_right R LF), _, _, rfl, .inl ⟨by decide, rfl⟩⟩
  · refine wf ?_
    have e2 : rEx p = (own, rEnc p, 0) := by rw [rEx, if_neg h0, if_neg h, he']
    rw [e2]
    exact ⟨trivial, _, R, .cons (.tmp 2) (.cons (.tmp 3) (.cons (.tmp 4) .nil)), .cons _ (.refl _), _, _, rfl, .inr ⟨rfl, _, rfl, hrow, by dsimp only; omega⟩⟩
end Go.Proofs
/- What the kit's shelf proves of sorting a list of identities of atoms, laid over this program (printed by the kit's lay-plain). -/
namespace Go.Proofs
open Go.Shelf
def Tryz.sortI_ren : Go.Shelf.Ren := ⟨fun | 6 => 223 | 15 => 145 | 14 => 254 | 28 => 184 | 29 => 185 | 20 => 273 | 21 => 274 | 22 => 275 | 23 => 276 | 24 => 277 | 25 => 278 | 26 => 279 | 27 => 280 | 46 => 287 | 47 => 218 | 48 => 219 | 49 => 288 | 50 => 289 | 57 => 293 | n => n, fun | 22 => 117 | 24 => 115 | 25 => 229 | 3 => 3 | 39 => 182 | 0 => 0 | 53 => 170 | 55 => 198 | 4 => 4 | 46 => 206 | 45 => 205 | 50 => 123 | 5 => 5 | 9 => 9 | 66 => 235 | 70 => 239 | 76 => 263 | 77 => 264 | n => n, fun | n => n⟩
theorem Tryz.sortI : Go.Proofs.SlLaysF0.n6 Tryz.prog Tryz.sortI_ren := {
  mixed := by kernel_rfl
  f6 := ⟨Tryz.f223.name, by decide, Tryz.func223.trans (congrArg some (by kernel_rfl))⟩
  f14 := ⟨Tryz.f254.name, by decide, Tryz.func254.trans (congrArg some (by kernel_rfl))⟩
  f15 := Tryz.func145.trans (congrArg some (by kernel_rfl))
  f20 := ⟨Tryz.f273.name, by decide, Tryz.func273.trans (congrArg some (by kernel_rfl))⟩
  f21 := ⟨Tryz.f274.name, by decide, Tryz.func274.trans (congrArg some (by kernel_rfl))⟩
  f22 := ⟨Tryz.f275.name, by decide, Tryz.func275.trans (congrArg some (by kernel_rfl))⟩
  f23 := ⟨Tryz.f276.name, by decide, Tryz.func276.trans (congrArg some (by kernel_rfl))⟩
  f24 := ⟨Tryz.f277.name, by decide, Tryz.func277.trans (congrArg some (by kernel_rfl))⟩
  f25 := ⟨Tryz.f278.name, by decide, Tryz.func278.trans (congrArg some (by kernel_rfl))⟩
  f26 := ⟨Tryz.f279.name, by decide, Tryz.func279.trans (congrArg some (by kernel_rfl))⟩
  f27 := ⟨Tryz.f280.name, by decide, Tryz.func280.trans (congrArg some (by kernel_rfl))⟩
  f28 := Tryz.func184.trans (congrArg some (by kernel_rfl))
  f29 := Tryz.func185.trans (congrArg some (by kernel_rfl))
  f46 := ⟨Tryz.f287.name, by decide, Tryz.func287.trans (congrArg some (by kernel_rfl))⟩
  f47 := Tryz.func218.trans (congrArg some (by kernel_rfl))
  f48 := Tryz.func219.trans (congrArg some (by kernel_rfl))
  f49 := ⟨Tryz.f288.name, by decide, Tryz.func288.trans (congrArg some (by kernel_rfl))⟩
  f50 := ⟨Tryz.f289.name, by decide, Tryz.func289.trans (congrArg some (by kernel_rfl))⟩
  f57 := ⟨Tryz.f293.name, by decide, Tryz.func293.trans (congrArg some (by kernel_rfl))⟩
  t0 := Tryz.underlying0
  a0 := Tryz.isAgg0
  z0 := Tryz.sizeOf0
  v0 := Tryz.zeroValue0
  t3 := Tryz.underlying3
  a3 := Tryz.isAgg3
  z3 := Tryz.sizeOf3
  v3 := Tryz.zeroValue3
  t4 := Tryz.underlying4
  a4 := Tryz.isAgg4
  z4 := Tryz.sizeOf4
  v4 := Tryz.zeroValue4
  t5 := Tryz.underlying5
  a5 := Tryz.isAgg5
  z5 := Tryz.sizeOf5
  v5 := Tryz.zeroValue5
  t9 := Tryz.underlying9
  a9 := Tryz.isAgg9
  z9 := Tryz.sizeOf9
  v9 := Tryz.zeroValue9
  t22 := Tryz.underlying117
  a22 := Tryz.isAgg117
  z22 := Tryz.sizeOf117
  v22 := Tryz.zeroValue117
  t25 := Tryz.underlying229
  a25 := Tryz.isAgg229
  z25 := Tryz.sizeOf229
  v25 := Tryz.zeroValue229
  t39 := Tryz.underlying182
  a39 := Tryz.isAgg182
  z39 := Tryz.sizeOf182
  v39 := Tryz.zeroValue182
  t45 := Tryz.underlying205
  a45 := Tryz.isAgg205
  z45 := Tryz.sizeOf205
  v45 := Tryz.zeroValue205
  t46 := Tryz.underlying206
  a46 := Tryz.isAgg206
  z46 := Tryz.sizeOf206
  v46 := Tryz.zeroValue206
  t50 := Tryz.underlying123
  a50 := Tryz.isAgg123
  z50 := Tryz.sizeOf123
  v50 := Tryz.zeroValue123
  t53 := Tryz.underlying170
  a53 := Tryz.isAgg170
  z53 := Tryz.sizeOf170
  v53 := Tryz.zeroValue170
  t55 := Tryz.underlying198
  a55 := Tryz.isAgg198
  z55 := Tryz.sizeOf198
  v55 := Tryz.zeroValue198
  t66 := Tryz.underlying235
  a66 := Tryz.isAgg235
  z66 := Tryz.sizeOf235
  v66 := Tryz.zeroValue235
  t70 := Tryz.underlying239
  a70 := Tryz.isAgg239
  z70 := Tryz.sizeOf239
  v70 := Tryz.zeroValue239
  t76 := Tryz.underlying263
  a76 := Tryz.isAgg263
  z76 := Tryz.sizeOf263
  v76 := Tryz.zeroValue263
  t77 := Tryz.underlying264
  a77 := Tryz.isAgg264
  z77 := Tryz.sizeOf264
  v77 := Tryz.zeroValue264 }
end Go.Proofs
/- Contracts of the program: slices.SortFunc on a row of identities of atoms. -/
namespace Go.Proofs
open Go Go.Q Go.Shelf Go.Sort
attribute [local irreducible] pwp pops OpN
instance inh_Id : Inhabited Ident := ⟨Ident.zero⟩
def vIdn (x : Ident) : List Value := bcs x.patch.bs ++ [.int .i64 x.n]
theorem vIdn_len (x : Ident) : (vIdn x).length = 33 := by
  have := vDig_len x.patch
  unfold vDig at this
  simp [vIdn, this]
instance rawE_Id : RawE eIdent vIdn := ⟨fun x => by
  have := (inferInstance : RawE eDig vDig).out x.patch
  unfold vDig at this
  rw [eIdent, this, vIdn, List.map_append]; rfl, fun x v hv => by
  rcases List.mem_append.1 hv with h | h
  · exact (inferInstance : RawE eDig vDig).one x.patch v h
  · rw [List.mem_singleton.1 h]; rfl⟩
instance trw_Id : TRw Tryz.prog 117 115 33 40 := ⟨by
  have h2 : (Tryz.prog.info? 115).map (fun i => (i.size, i.bytes, i.zero.isSome, (i.zero.getD undef).cells.size)) = some (33, 40, true, 33) := by kernel_rfl
  obtain ⟨i, hi, e⟩ := Option.map_eq_some_iff.1 h2
  simp only [Prod.mk.injEq] at e
  obtain ⟨e1, e2, e3, e4⟩ := e
  obtain ⟨z, hz⟩ := Option.isSome_iff_exists.1 e3
  rw [hz] at e4
  exact ⟨i, z, by kernel_rfl, hi, e1, e2, hz, e4, by decide, by decide⟩⟩
theorem cmpI_neg {a b : Ident} : cmpI a b < 0 ↔ Dig.lt a.patch b.patch ∨ (a.patch = b.patch ∧ a.n < b.n) := by
  unfold cmpI
  by_cases h : cmpD a.patch b.patch = 0
  · have e := cmpD_zero.1 h
    rw [if_neg (by simp [h])]
    constructor
    · intro h2
      refine .inr ⟨e, ?_⟩
      split at h2
      · assumption
      · split at h2 <;> omega
    · rintro (h2 | ⟨_, h2⟩)
      · rw [e] at h2; exact absurd h2 (Dig.lt_irrefl _)
      · rw [if_pos h2]; omega
  · rw [if_pos h]
    constructor
    · exact fun h2 => .inl h2
    · rintro (h2 | ⟨e, _⟩)
      · exact h2
      · exact absurd (cmpD_zero.2 e) h
theorem Ident.lt_irrefl (a : Ident) : ¬ cmpI a a < 0 := fun h => by
  rcases cmpI_neg.1 h with h | ⟨_, h⟩
  · exact Dig.lt_irrefl _ h
  · omega
theorem Ident.lt_trans {a b c : Ident} (h : cmpI a b < 0) (k : cmpI b c < 0) : cmpI a c < 0 := by
  refine cmpI_neg.2 ?_
  rcases cmpI_neg.1 h with h | ⟨e, h⟩ <;> rcases cmpI_neg.1 k with k | ⟨e2, k⟩
  · exact .inl (Dig.lt_trans h k)
  · exact .inl (e2 ▸ h)
  · exact .inl (e ▸ k)
  · exact .inr ⟨e.trans e2, by omega⟩
theorem Ident.tri (a b : Ident) : cmpI a b < 0 ∨ a = b ∨ cmpI b a < 0 := by
  rcases Dig.tri a.patch b.patch with h | h | h
  · exact .inl (cmpI_neg.2 (.inl h))
  · rcases Int.lt_trichotomy a.n b.n with h2 | h2 | h2
    · exact .inl (cmpI_neg.2 (.inr ⟨h, h2⟩))
    · refine .inr (.inl ?_)
      cases a; cases b
      simp only at h h2
      rw [h, h2]
    · exact .inr (.inr (cmpI_neg.2 (.inr ⟨h.symm, h2⟩)))
  · exact .inr (.inr (cmpI_neg.2 (.inl h)))
abbrev IRow (v : Value) (l : List Ident) (R : List Res) : Prop := RowL vIdn 115 33 v l R
theorem swoI : SWO (ltOf cmpI) where
  irrefl x := by
    unfold ltOf
    exact decide_eq_false (fun h => Ident.lt_irrefl x h)
  trans x y z h1 h2 := by
    unfold ltOf at *
    exact decide_eq_true (Ident.lt_trans (of_decide_eq_true h1) (of_decide_eq_true h2))
  ntrans x y z h1 h2 := by
    unfold ltOf at *
    refine decide_eq_false fun h => ?_
    have h1 := of_decide_eq_false h1
    have h2 := of_decide_eq_false h2
    rcases Ident.tri x y with h' | h' | h'
    · exact h1 h'
    · subst h'; exact h2 h
    · rcases Ident.tri y z with h3 | h3 | h3
      · exact h2 h3
      · subst h3; exact h1 h
      · exact Ident.lt_irrefl x (Ident.lt_trans h (Ident.lt_trans h3 h'))
def sortI (l : List Ident) : List Ident := l.mergeSort fun x y => !(ltOf cmpI) y x
theorem cmpI_lays {w : World} {g : Gh} {r n E : Nat} {cur : Array Value} (hi : Inv w g []) (h1 : w.heap[r]? = some (.cells cur E (0, 0))) (h2 : ∀ o, g.H r o = none) (h3 : g.M r = none) : CmpLays Tryz.prog 208 #[] vIdn 33 cmpI r 0 n w := by
  intro m os dk hdk x y
  have hI : Inv (sortWorldK vIdn 33 w r 0 m dk os) g [] := hi.laterBut h2 h3 (by simp [blocks]) (fun k hk hn => sortWorld_other m dk os k hk hn)
  have hv : VRl g [.agg (vIdn x).toArray, .agg (vIdn y).toArray] [.agg (eIdent x), .agg (eIdent y)] := by
    have e : ∀ d : Ident, VR g (.agg (vIdn d).toArray) (.agg (eIdent d)) := fun d => by
      rw [(inferInstance : RawE eIdent vIdn).out]
      have : VRl g (vIdn d) ((vIdn d).map PV.raw) := ⟨by simp, fun i h1 h2 => by simp; exact .raw _⟩
      exact this.agg
    exact .cons (e x) (.cons (e y) (.nil g))
  have := (piCompare_ct x y).out _ (sortWorldK vIdn 33 w r 0 m dk os) g [] hv hI
  refine Calls.mono this ?_
  rintro e w' ⟨v, x', g', L', rfl, k1, k2, k3, k4, rfl, rfl⟩
  refine ⟨by rw [k1.raw_inv], ?_⟩
  exact grown_eq k3.os k3.tape k3.output.1 k3.output.2 k3.size (fun k hk => k3.keep k hk (by simp [blocks]))
theorem sortI_fn (l : List Ident) (v : Value) (R : List Res) (hv : IRow v l R) (hl : l.length ≤ 1000000) : PCalls Tryz.prog 223 [.raw v, .raw (.func (.func 208) #[] #[])] R (fun _ L' => ∃ v', v' = v ∧ IRow v' (sortI l) L') := fun vs w g LF hvs hi => by
  obtain ⟨v1, v2, rfl⟩ : ∃ a b, vs = [a, b] := by
    have := hvs.len
    match vs, this with
    | [a, b], _ => exact ⟨a, b, rfl⟩
  rw [hvs.uncons.1.raw_inv, hvs.uncons.2.uncons.1.raw_inv]
  obtain ⟨o, c, rfl⟩ := hv.slice
  by_cases hne : l = []
  · subst hne
    refine (AnyF.slices_SortFunc_none Tryz.sortI o c _ w).mono ?_
    rintro e w' ⟨rfl, rfl⟩
    exact ⟨_, .raw (.tuple #[]), g, R, rfl, .raw _, hi, .refl _ _ _, .refl _ _, _, rfl, by simpa [sortI] using hv⟩
  obtain ⟨_, r, cur, rest, rfl, rfl, hcur, hsz, hlc⟩ := hv.inv hne
  obtain ⟨k1, k2, k3, k4, k5⟩ := hi.rawHead
  have hlt : r < w.heap.size := (Array.getElem?_eq_some_iff.1 k1).1
  have hF : (flatK vIdn 33 l.toArray).toList = l.flatMap vIdn := flatK_eq (by decide) vIdn_len l
  have hH : HoldsK vIdn 33 w r 0 l.toArray := fun j hj => by
    have hj2 : j < l.length * 33 := by simpa using hj
    refine ⟨?_, by simp [World.frozen?, k1]⟩
    have hj3 : j < cur.size := by omega
    simp only [World.cell?, k1, Option.isSome_none, Bool.false_eq_true, if_false, Nat.zero_add]
    rw [getElem!_pos _ j hj]
    have e1 : cur.toList[j]? = (flatK vIdn 33 l.toArray).toList[j]? := by
      rw [hcur, hF, List.getElem?_append_left (by rw [len_raws (f := eIdent) (sz := 33)]; exact hj2)]
    rw [Array.getElem?_toList, Array.getElem?_toList, Array.getElem?_eq_getElem hj] at e1
    exact e1
  refine (AnyQ.slices_SortFunc_total Tryz.sortI 33 (fun w => ?_) (fun w => TSz.run (inferInstance : TSz Tryz.prog 115 33 40) w) vIdn vIdn_len (fun x v h => (inferInstance : RawE eIdent vIdn).one x v h) cmpI swoI 208 #[] r 0 c l.toArray w (fun args w => (inferInstance : TFun Tryz.prog 208).out args w) (cmpI_lays (hi.sub (List.nil_sublist _)) k1 k2 k3) hH hlt (by simp; omega) ?_).mono ?_
  · exact (isAgg_run (inferInstance : TAgg Tryz.prog 115 33).out w).1
  · intro x y h1 h2
    unfold ltOf at h1 h2
    have h1 := of_decide_eq_false h1
    have h2 := of_decide_eq_false h2
    rcases Ident.tri x y with h' | h' | h'
    · exact absurd h' h1
    · exact h'
    · exact absurd h' h2
  · rintro e w' ⟨rfl, n, os, rfl⟩
    have hlen : (sortI l).length = l.length := List.length_mergeSort _
    have hFs : (flatK vIdn 33 (sortI l).toArray).toList = (sortI l).flatMap vIdn := flatK_eq (by decide) vIdn_len (sortI l)
    have hFz : (flatK vIdn 33 (sortI l).toArray).size = l.length * 33 := by simp [hlen]
    have htk := putCells_take (cur := cur) (flatK vIdn 33 (sortI l).toArray) (by omega)
    have hrow : RowL vIdn 115 33 (.slice (some ⟨r, 0, none⟩) (sortI l).length c) (sortI l) [.raw r (.cells (putCells id 0 (flatK vIdn 33 (sortI l).toArray) cur) 115 (0, 0))] := by
      refine RowL.mk (rest := (putCells id 0 (flatK vIdn 33 (sortI l).toArray) cur).toList.drop (l.length * 33)) vIdn_len ?_ (by simp [putCells, hsz]) (by omega)
      rw [← hFs, ← htk, hFz, List.take_append_drop]
    rw [hlen] at hrow
    refine ⟨_, .raw (.tuple #[]), g, [.raw r (.cells (putCells id 0 (flatK vIdn 33 (sortI l).toArray) cur) 115 (0, 0))], rfl, .raw _, ?_, ⟨rfl, rfl, ⟨rfl, Nat.le_add_right _ _⟩, sortWorld_size n _ os, fun b hb hn => sortWorld_other n _ os b hb (fun e => hn (by rw [e]; simp [blocks, Res.block])), .refl g, fun _ _ _ => ⟨fun _ => rfl, rfl⟩⟩, fun b hb _ => by simpa [blocks, Res.block] using hb, _, rfl, hrow⟩
    exact (k5.laterBut k2 k3 k4 (fun k hk hn => sortWorld_other n _ os k hk hn)).addRaw (sortWorld_row k1 n _ os) k2 k3 k4
end Go.Proofs
/- The small logic: elements of a row of one's own, read and written. Library, no statement of its own. -/
namespace Go.Q
open Go

theorem flat_split {sz : Nat} {xs : List (List PV)} (hs : ∀ e ∈ xs, e.length = sz) {i : Nat} (hi : i < xs.length) : xs.flatten = (xs.take i).flatten ++ (xs[i] ++ (xs.drop (i + 1)).flatten) ∧ (xs.take i).flatten.length = i * sz := by
  constructor
  · conv => lhs; rw [← List.take_append_drop i xs, List.flatten_append, List.drop_eq_getElem_cons hi, List.flatten_cons]
  · rw [flatten_len (sz := sz) fun e he => hs e (List.mem_of_mem_take he), List.length_take, Nat.min_eq_left (by omega)]
theorem flat_sub {sz : Nat} {xs : List (List PV)} {rest : List PV} (hs : ∀ e ∈ xs, e.length = sz) {i : Nat} (hi : i < xs.length) : Sub (xs.flatten ++ rest) (0 + i * sz) sz xs[i] := by
  obtain ⟨h1, h2⟩ := flat_split hs hi
  have h3 := hs _ (List.getElem_mem hi)
  rw [Nat.zero_add, h1, List.append_assoc]
  refine ⟨?_, ?_⟩
  · rw [← h2, List.drop_left, List.append_assoc, ← h3, List.take_left]
  · simp only [List.length_append]; omega
theorem flat_put {sz : Nat} {xs : List (List PV)} {rest new : List PV} (hs : ∀ e ∈ xs, e.length = sz) {i : Nat} (hi : i < xs.length) (hn : new.length = sz) : Put (xs.flatten ++ rest) (0 + i * sz) new ((xs.set i new).flatten ++ rest) := by
  obtain ⟨h1, h2⟩ := flat_split hs hi
  have h3 := hs _ (List.getElem_mem hi)
  have h4 : (xs.set i new).flatten = (xs.take i).flatten ++ (new ++ (xs.drop (i + 1)).flatten) := by
    rw [List.set_eq_take_append_cons_drop, if_pos hi, List.flatten_append, List.flatten_cons]
  rw [Nat.zero_add, h1, h4]
  refine ⟨?_, ?_⟩
  · have e1 : ((xs.take i).flatten ++ (xs[i] ++ (xs.drop (i + 1)).flatten) ++ rest).take (i * sz) = (xs.take i).flatten := by
      rw [List.append_assoc, ← h2, List.take_left]
    have e2 : ((xs.take i).flatten ++ (xs[i] ++ (xs.drop (i + 1)).flatten) ++ rest).drop (i * sz + new.length) = (xs.drop (i + 1)).flatten ++ rest := by
      rw [hn, ← h2, ← h3, ← List.drop_drop, List.append_assoc, List.drop_left, List.append_assoc, List.drop_left]
    rw [e1, e2]
    simp only [List.append_assoc]
  · simp only [List.length_append]; omega
theorem RowB.inv {E sz n c : Nat} {o : Option Addr} {xs : List (List PV)} {R : List Res} (h : RowB E sz (.slice o n c) xs R) (h0 : 0 < n) : ∃ r rest, o = some ⟨r, 0, none⟩ ∧ R = [.box r E (xs.flatten ++ rest)] ∧ xs.length = n ∧ n ≤ c ∧ (∀ e ∈ xs, e.length = sz) ∧ xs.flatten.length + rest.length = c * sz := by
  generalize hv : Value.slice o n c = v at h
  cases h with
  | nil o' ho => injection hv with _ e2 _; omega
  | row hn hl hs hc => injection hv with e1 e2 e3; subst e1 e2 e3; exact ⟨_, _, rfl, rfl, hn, hl, hs, hc⟩
/-- A row of one's own, frozen for good. -/
theorem RowB.freeze {E sz : Nat} {w : World} {g : Gh} {R L' : List Res} {v : Value} {xs : List (List PV)} (hi : Inv w g (R ++ L')) (hv : RowB E sz v xs R) (hm : xs.length ≤ maxN ∧ xs.length * sz ≤ maxN) :
    ∃ g', Inv w g' L' ∧ Step (blocks (R ++ L')) w g w g' ∧ Within w (R ++ L') L' ∧ VR g' v (.slice xs .ro) := by
  cases hv with
  | nil o ho => exact ⟨g, hi, .refl _ _ _, .refl _ _, .nilR⟩
  | row hn hl hs hc =>
    rename_i r n cap rest
    subst hn
    obtain ⟨us, h1, h2⟩ := Inv.boxRaw hi
    obtain ⟨k1, k2, k3, k4, k5⟩ := h2.rawHead
    have hul : us.length = xs.flatten.length + rest.length := by rw [h1.len, List.length_append]
    let u := us.take xs.flatten.length
    have hu0 : u.length = xs.flatten.length := by simp only [u, List.length_take]; omega
    have hu : VRl g u xs.flatten := ⟨hu0, fun i k1 k2 => by
      have := h1.at_ i (by omega) (by rw [List.length_append]; omega)
      rw [List.getElem_append_left k2] at this
      simpa [u] using this⟩
    have hle := Gh.le_lay (g := g) (b := r) (from_ := 0) (us := u) (fun o _ => k2 o)
    have hcell : ∀ j (h : j < u.length), w.cell? ⟨r, j, none⟩ = some u[j] := fun j h => by
      have hj : j < us.length := by omega
      simp only [World.cell?, k1, Option.isSome_none, Bool.false_eq_true, if_false, List.getElem?_toArray]
      rw [List.getElem?_eq_getElem hj]
      simp [u]
    refine ⟨g.lay r 0 u, ⟨fun b' o v hv => ?_, fun b' z hz => hi.satM b' z hz, fun r' hr' => ?_, k5.nodup, hi.glob.mono hle⟩, ⟨rfl, rfl, ⟨rfl, Nat.le_refl _⟩, Nat.le_refl _, fun _ _ _ => rfl, hle, fun k _ hn => ⟨fun o => Gh.lay_out (fun h => hn (by rw [h.1]; simp [blocks, Res.block])), rfl⟩⟩, fun b hb _ => ?_, ?_⟩
    · by_cases hin : b' = r ∧ 0 ≤ o ∧ o < 0 + u.length
      · obtain ⟨rfl, _, h6⟩ := hin
        have hj : o < u.length := by omega
        have := Gh.lay_in (g := g) (b := b') (from_ := 0) hj
        rw [Nat.zero_add, hv] at this
        cases this
        exact hcell o hj
      · rw [Gh.lay_out hin] at hv; exact hi.sat b' o v hv
    · exact Res.holds_kept hle (k5.res r' hr') fun b' hb' => ⟨rfl, fun o => Gh.lay_out (fun h => k4 (List.mem_filterMap.2 ⟨r', hr', by rw [hb', h.1]⟩)), rfl⟩
    · simp only [blocks, List.filterMap_append] at hb ⊢; exact List.mem_append_right _ hb
    · exact VR.of_cells (g := g.lay r 0 u) (t := .ro) (sz := sz) (b := r) (off := 0) (cap := cap) hs hl hm (us := u) (hu.mono hle) (fun j hj => Gh.lay_in hj) (fun b' cap' e => by cases e) (by simp)
section
variable {P : Program} {N : Nat} {ρ : Env} {L : List Res}
theorem pwp_freezeB {E sz : Nat} {R L' : List Res} {v : Value} {xs : List (List PV)} {c : Code} {Q : PPost} (i : Nat) (hv : RowB E sz v xs R) (hm : xs.length ≤ maxN ∧ xs.length * sz ≤ maxN) (hp : L.Perm (R ++ L')) (hi : ρ i = .raw v) (k : pwp P N c Q (upd ρ i (.slice xs .ro)) L') : pwp P N c Q ρ L :=
  pwp_ghost (fun base a w g ha hI => by
    obtain ⟨g', h1, h2, h3, h4⟩ := RowB.freeze (hI.perm hp) hv hm
    refine ⟨g', ⟨ha.size, ha.defers.mono h2.le, fun j => ?_⟩, h1, h2.grow (fun b hb => (blocks_perm hp).symm.subset hb), fun b hb hlt => (blocks_perm hp).symm.subset (h3 b hb hlt)⟩
    have hj := (ha.slot j).mono h2.le
    by_cases e : j = i
    · subst e
      rw [hi] at hj
      show VR g' _ (upd ρ j _ j)
      rw [upd_self, hj.raw_inv]; exact h4
    · show VR g' _ (upd ρ i _ j)
      rw [upd_ne _ _ e]; exact hj) k
end
end Go.Q
