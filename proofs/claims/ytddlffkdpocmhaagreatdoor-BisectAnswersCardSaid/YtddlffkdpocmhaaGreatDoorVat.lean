/- BisectAnswers's contract: it answers true, whatever the set and the answers. -/
import Derived.Test.YtddlffkdpocmhaaGreatDoorVaq
import Derived.Test.YtddlffkdpocmhaaGreatDoorVas
import Derived.Test.YtddlffkdpocmhaaGreatDoorVap
import Derived.Test.YtddlffkdpocmhaaGreatDoorVaf
import Derived.Test.YtddlffkdpocmhaaGreatDoorRows
import Derived.LaidMore
import Derived.Stop.Joined
import Derived.Test.YtddlffkdpocmhaaGreatDoorCards
import Derived.Test.YtddlffkdpocmhaaGreatDoorTie
set_option linter.unusedSimpArgs false
set_option linter.unusedVariables false
namespace Go.Proofs
open Go Go.Q
attribute [local irreducible] pwp pops PCalls OpN

theorem clo_one {s : List Sto} {q : Dig} (hq : q ∈ ids s) : rClosure s [q] = (cloS s q, 0) := by
  have h : allIn (ids s) [q] = true := by simp [allIn, hq]
  unfold cloS rClosure
  rw [if_neg (by simp [h])]
set_option maxHeartbeats 2000000 in
theorem bisectAnswers_fn (s : List Sto) (t : Tag) (l : List Bool) (u : Tag) : FnC Tryz.prog 8 [.slice (s.map eSto) t, .slice (l.map eB) u] (.raw (.bool true)) := ⟨by
  refine fn_of Tryz.func8 Tryz.ntmps8 rfl (rs := [.tmp 4]) rfl rfl fun hb LF => ?_
  refine wf ?_
  refine pops_if (fun hp => ?_) (fun hp => ?_)
  · refine wf ?_
    exact end1 (.refl _)
  have v : Valid s := small_valid (b := Bis.zero) (nnot hp)
  have h8 := v.close.1.1
  have i1 : Small (Valid s) := ⟨v⟩
  refine wf ?_
  refine pops_if (fun hp2 => ?_) (fun hp2 => ?_)
  · refine wf ?_
    exact end1 (.refl _)
  have h0 : s.length ≠ 0 := by have := of_decide_eq_false hp2; omega
  refine wf ?_
  refine pwp_condD (fun h10 => ?_) (fun h10 => ?_)
  · refine wf ?_
    exact end1 (.refl _)
  obtain ⟨r0, hR⟩ := reach_all v h0 l
  have hrc := fun t u => Reached_ct s l t u
  simp only [r0] at hrc
  generalize (reachP s l).1 = b at hR hrc
  have hrc : ∀ t u, FnC Tryz.prog 32 [.slice (s.map eSto) t, .slice (l.map eB) u] (.tuple [.agg (eBis b), .raw (.bool true)]) := hrc
  obtain ⟨_, hab, hl, hn⟩ := follow_facts v hR.fol
  have hpos := hR.pos
  have nx := fun t => NextP_ct s b t
  have hne : ¬ (s.length = 0 ∨ followP s b (ids s) = false) := by simp [h0, hR.fol]
  refine wf ?_
  refine s_alloc fun b5 => ?_
  refine wo ?_
  refine pops_nil ?_
  refine pwp_freezeD 5 ?_
  refine Decidable.byCases (p := b.left.length < 2) (fun hw => ?_) (fun hw => ?_)
  · have e1 : nextP s b = (Dig.zero, [], false) := by rw [nextP, if_neg hne, if_pos hw]
    simp only [e1] at nx
    have g1 : decide ((b.left.length : Int) = 1) = true := by simp; omega
    refine wf ?_
    refine s_alloc fun b7 => ?_
    refine wo ?_
    refine pops_nil ?_
    refine pwp_freezeD 7 ?_
    refine wf ?_
    exact end1 (.refl _)
  obtain ⟨hqm, hin, hout⟩ := v.quest hl hn (by omega)
  have e1 : nextP s b = (questP (cloS s) b.left, keepS s (cloS s (questP (cloS s) b.left)), true) := by rw [nextP, if_neg hne, if_neg hw]
  simp only [e1] at nx
  have tx1 := fun t => TellB_ct s b true t
  have tx2 := fun t => TellB_ct s b false t
  rw [tell_of h0 hR.fol (by omega) true] at tx1
  rw [tell_of h0 hR.fol (by omega) false] at tx2
  have hq : questP (cloS s) b.left ∈ ids s := hl _ hqm
  have hlen := inC_len_add (cloS s (questP (cloS s) b.left)) b.left
  generalize questP (cloS s) b.left = q at *
  have v2 : Valid (keepS s (cloS s q)) := v.keep (v.clo_closed hq)
  have i2 : Small (goodS (keepS s (cloS s q))) := ⟨v2.close.1⟩
  have ck := fun t => CheckPS_ct (keepS s (cloS s q)) t
  rw [check_of_valid v2] at ck
  have cx := fun t u => ClosureP_ct s [q] t u (hl := ⟨by simp⟩)
  rw [clo_one hq] at cx
  have sm : ∀ t u, FnC Tryz.prog 41 [.slice ((ids (keepS s (cloS s q))).map eDig) t, .slice ((cloS s q).map eDig) u] (.raw (.bool true)) := fun t u => by
    have h := SameD_ct (ids (keepS s (cloS s q))) (cloS s q) t u
    rw [v.ids_keep_clo hq] at h ⊢
    simpa using h
  dsimp only at tx1 tx2
  have m1 : ∀ d ∈ b.left, decide (d ∈ aft s b.left q true) = decide (d ∈ cloS s q) := fun d hd => by
    simp [aft, inC, hd]
  have m2 : ∀ d ∈ b.left, decide (d ∈ aft s b.left q false) = !decide (d ∈ cloS s q) := fun d hd => by
    simp [aft, outC, hd]
  have n1 : 1 ≤ (aft s b.left q true).length := by
    have : (aft s b.left q true).length = (inC (cloS s q) b.left).length := rfl
    omega
  have n2 : 1 ≤ (aft s b.left q false).length := by
    have : (aft s b.left q false).length = (outC (cloS s q) b.left).length := rfl
    omega
  have n3 : (aft s b.left q true).length + (aft s b.left q false).length = b.left.length := by
    have e1 : (aft s b.left q true).length = (inC (cloS s q) b.left).length := rfl
    have e2 : (aft s b.left q false).length = (outC (cloS s q) b.left).length := rfl
    omega
  obtain ⟨Y, hY⟩ : ∃ Y : Bis, Y = ⟨aft s b.left q true, b.asked ++ [q], b.bad ++ [true]⟩ := ⟨_, rfl⟩
  obtain ⟨Z, hZ⟩ : ∃ Z : Bis, Z = ⟨aft s b.left q false, b.asked ++ [q], b.bad ++ [false]⟩ := ⟨_, rfl⟩
  rw [← hY] at tx1
  rw [← hZ] at tx2
  rw [show aft s b.left q true = Y.left by rw [hY]] at m1 n1 n3
  rw [show aft s b.left q false = Z.left by rw [hZ]] at m2 n2 n3
  clear hY hZ
  have g1 : decide ((Y.left.length : Int) = 0) = false := decide_eq_false (by omega)
  have g2 : decide ((Z.left.length : Int) = 0) = false := decide_eq_false (by omega)
  have g4 : decide (q ∈ b.left) = true := decide_eq_true hqm
  refine wf ?_
  refine s_alloc fun b7 => ?_
  refine wo ?_
  refine pops_nil ?_
  refine pwp_freezeD 7 ?_
  refine wf ?_
  refine s_alloc fun b12 => ?_
  refine wo ?_
  refine pops_nil ?_
  refine pwp_freezeD 12 ?_
  refine wf ?_
  refine s_alloc fun b14 => ?_
  refine wo ?_
  refine pops_nil ?_
  refine pwp_freezeD 14 ?_
  refine wf ?_
  have g3 : (Y.left.length : Int) + Z.left.length = b.left.length := by omega
  refine pwp_condN (fun h => ?_) (fun _ => ?_)
  · exact absurd g3 h
  refine wf ?_
  refine pwp_loopS (σ := Nat) (fun k => k ≤ b.left.length) (fun k => b.left.length - k) (fun k => [(5, .pt (eBis b) 0), (7, .pt (eDig q) 0), (10, .slice ((cloS s q).map eDig) .ro), (12, .pt (eBis Y) 0), (14, .pt (eBis Z) 0), (124, .slice (b.left.map eDig) .ro), (125, .raw (.int .i64 b.left.length)), (126, .raw (.int .i64 k))]) (fun _ => LF) 0 (by simp) ⟨rfl, rfl, rfl, rfl, rfl, rfl, rfl, rfl⟩ (.refl _) ?_
  intro k hk
  refine wf ?_
  refine pwp_condD (fun hc => ?_) (fun hc => ?_)
  · have hlt : k < b.left.length := by omega
    have e1 := m1 _ (List.getElem_mem hlt)
    have e2 := m2 _ (List.getElem_mem hlt)
    refine wf ?_
    refine s_alloc fun b17 => ?_
    refine wo ?_
    refine pops_nil ?_
    refine pwp_freezeD 17 ?_
    refine wf ?_
    refine pops_if (fun hp => ?_) (fun hp => ?_)
    · exfalso
      rw [e1] at hp
      simp at hp
    · refine wf ?_
      refine pwp_condD (fun h => ?_) (fun h => ?_)
      · exfalso
        rw [e2] at h
        cases hd : decide (b.left[k] ∈ cloS s q) <;> rw [hd] at h <;> cases h
      · refine wf ?_
        exact ⟨k + 1, by omega, by dsimp only; omega, ⟨rfl, rfl, rfl, rfl, rfl, rfl, rfl, rfl⟩, .refl _⟩
  · refine wf ?_
    exact end1 (.refl _)⟩
end Go.Proofs
/- What the statements hand over: sets of patches; the table that is laid. -/
namespace Go.Proofs
open Go Go.Q

theorem ble {a b : Nat} (h : Nat.ble a b = true) : a ≤ b := Nat.le_of_ble_eq_true h
theorem o_int : Opens Tryz.prog 3 (fun xs => ∃ n, (Lit.int .i64 n).wf = true ∧ xs = [.raw (.int .i64 n)]) := opens_int (by kernel_rfl)
theorem o_bool : Opens Tryz.prog 4 (fun xs => ∃ b, xs = eB b) := opens_bool (by kernel_rfl)
theorem o_str : Opens Tryz.prog 9 (fun xs => ∃ s, xs = eS s) := opens_str (by kernel_rfl)
theorem o_dig : Opens Tryz.prog 37 (fun xs => ∃ d, xs = eDig d) := opens_dig (e := 5) (by kernel_rfl) (by kernel_rfl) (by kernel_rfl) (by kernel_rfl)
theorem o_id : Opens Tryz.prog 115 (fun xs => ∃ x, xs = eIdent x) :=
  Opens.to (opens_struct (n := 33) (r := [(37, 0), (3, 32)]) (by kernel_rfl) (by kernel_rfl) (.cons 32 (by kernel_rfl) o_dig (.cons 1 (by kernel_rfl) o_int (.nil _))))
    fun xs ⟨_, .cons ⟨d, e0⟩ (.cons ⟨n, _, e1⟩ .nil), e⟩ => ⟨⟨d, n⟩, by subst e0 e1 e; simp [eIdent]⟩
theorem o_strs : Opens Tryz.prog 116 (fun xs => ∃ l : List Str, xs = [.slice (l.map eS) .ro]) := Opens.list o_str (fun _ => rfl) (by kernel_rfl) (by kernel_rfl) rfl (by decide) (ble (by kernel_rfl))
theorem o_ids : Opens Tryz.prog 117 (fun xs => ∃ l : List Ident, xs = [.slice (l.map eIdent) .ro]) := Opens.list (sz := 33) o_id (fun _ => by simp) (by kernel_rfl) (by kernel_rfl) rfl (by decide) (ble (by kernel_rfl))
theorem o_digs : Opens Tryz.prog 25 (fun xs => ∃ l : List Dig, xs = [.slice (l.map eDig) .ro]) := Opens.list (sz := 32) o_dig (fun _ => by simp) (by kernel_rfl) (by kernel_rfl) rfl (by decide) (ble (by kernel_rfl))
theorem o_bools : Opens Tryz.prog 26 (fun xs => ∃ l : List Bool, xs = [.slice (l.map eB) .ro]) := Opens.list o_bool (fun _ => rfl) (by kernel_rfl) (by kernel_rfl) rfl (by decide) (ble (by kernel_rfl))
theorem o_chg : Opens Tryz.prog 119 (fun xs => ∃ c, xs = eChg c) :=
  Opens.to (opens_struct (n := 139) (r := [(3, 0), (115, 1), (3, 34), (115, 35), (9, 68), (3, 69), (9, 70), (115, 71), (115, 104), (116, 137), (117, 138)]) (by kernel_rfl) (by kernel_rfl)
    (.cons 1 (by kernel_rfl) o_int (.cons 33 (by kernel_rfl) o_id (.cons 1 (by kernel_rfl) o_int (.cons 33 (by kernel_rfl) o_id (.cons 1 (by kernel_rfl) o_str (.cons 1 (by kernel_rfl) o_int (.cons 1 (by kernel_rfl) o_str (.cons 33 (by kernel_rfl) o_id (.cons 33 (by kernel_rfl) o_id (.cons 1 (by kernel_rfl) o_strs (.cons 1 (by kernel_rfl) o_ids (.nil _)))))))))))))
    fun xs ⟨yss, h, e⟩ => by
      rcases h with _ | ⟨⟨a0, _, e0⟩, h⟩
      rcases h with _ | ⟨⟨a1, e1⟩, h⟩
      rcases h with _ | ⟨⟨a2, _, e2⟩, h⟩
      rcases h with _ | ⟨⟨a3, e3⟩, h⟩
      rcases h with _ | ⟨⟨a4, e4⟩, h⟩
      rcases h with _ | ⟨⟨a5, _, e5⟩, h⟩
      rcases h with _ | ⟨⟨a6, e6⟩, h⟩
      rcases h with _ | ⟨⟨a7, e7⟩, h⟩
      rcases h with _ | ⟨⟨a8, e8⟩, h⟩
      rcases h with _ | ⟨⟨a9, e9⟩, h⟩
      rcases h with _ | ⟨⟨a10, e10⟩, h⟩
      cases h
      exact ⟨⟨a0, a1, a2, a3, a4, a5, a6, a7, a8, a9, a10⟩, by subst e0 e1 e2 e3 e4 e5 e6 e7 e8 e9 e10 e; simp [eChg, eS]⟩
theorem o_chgs : Opens Tryz.prog 55 (fun xs => ∃ l : List Chg, xs = [.slice (l.map eChg) .ro]) := Opens.list (sz := 139) o_chg (fun _ => by simp) (by kernel_rfl) (by kernel_rfl) rfl (by decide) (ble (by kernel_rfl))
theorem o_pat : Opens Tryz.prog 57 (fun xs => ∃ c, xs = ePat c) :=
  Opens.to (opens_struct (n := 5) (r := [(9, 0), (9, 1), (3, 2), (25, 3), (55, 4)]) (by kernel_rfl) (by kernel_rfl)
    (.cons 1 (by kernel_rfl) o_str (.cons 1 (by kernel_rfl) o_str (.cons 1 (by kernel_rfl) o_int (.cons 1 (by kernel_rfl) o_digs (.cons 1 (by kernel_rfl) o_chgs (.nil _)))))))
    fun xs ⟨_, .cons ⟨a0, e0⟩ (.cons ⟨a1, e1⟩ (.cons ⟨a2, _, e2⟩ (.cons ⟨a3, e3⟩ (.cons ⟨a4, e4⟩ .nil)))), e⟩ => ⟨⟨a0, a1, a2, a3, a4⟩, by subst e0 e1 e2 e3 e4 e; simp [ePat, eS]⟩
theorem o_sto : Opens Tryz.prog 59 (fun xs => ∃ c, xs = eSto c) :=
  Opens.to (opens_struct (n := 37) (r := [(37, 0), (57, 32)]) (by kernel_rfl) (by kernel_rfl) (.cons 32 (by kernel_rfl) o_dig (.cons 5 (by kernel_rfl) o_pat (.nil _))))
    fun xs ⟨_, .cons ⟨a0, e0⟩ (.cons ⟨a1, e1⟩ .nil), e⟩ => ⟨⟨a0, a1⟩, by subst e0 e1 e; simp [eSto]⟩
theorem o_set : Opens Tryz.prog 23 (fun xs => ∃ l : List Sto, xs = [.slice (l.map eSto) .ro]) := Opens.list (sz := 37) o_sto (fun _ => by simp) (by kernel_rfl) (by kernel_rfl) rfl (by decide) (ble (by kernel_rfl))
set_option maxRecDepth 20000 in
/-- An argument that is a slice. -/
theorem arg_slice {t e : Nat} {W : World} {base : Nat} {v : Value} {g : Gh} {x : PV} (ht : Tryz.prog.underlying t = some (.slice e)) (hv : Value.okWide Tryz.prog W .any base t v) (h : VRl g v.cells.toList [x]) : VR g v x := by
  have : v.cells = #[v] := by
    unfold Value.okWide at hv
    rw [ht] at hv
    simp only [Cell.okWide, ht] at hv
    cases v <;> simp [Cell.ok, ht] at hv <;> rfl
  rw [this] at h
  exact h.uncons.1
set_option maxRecDepth 20000 in
theorem glob_of_laid {W : World} (h : laidMetH Tryz.prog [("math/bits.deBruijn32tab", YtddlffkdpocmhaaGreatDoor.Rows.laid_math_bits_deBruijn32tab), ("math/bits.deBruijn64tab", YtddlffkdpocmhaaGreatDoor.Rows.laid_math_bits_deBruijn64tab), ("internal/strconv.uint64pow10", YtddlffkdpocmhaaGreatDoor.Rows.laid_internal_strconv_uint64pow10)] W) :
    ∃ T p, W.heap[globAt]? = some (.cells pow10Tab.toArray T p) := by
  rw [MakeChecks.laidMetH_plain _ _ _ (by kernel_rfl)] at h
  obtain ⟨ps, ⟨_, _, _, _, _, _, _, _, _, _, ⟨_, _, _, _, _, _, _, _, _, _, ⟨g2, t2, cs2, f2, p2, q2, hg2, ht2, hv2, hd2, _, _⟩, _⟩, _⟩, _, _⟩ := h
  have e1 : Tryz.prog.globalNamed "internal/strconv.uint64pow10" = some globAt := by kernel_rfl
  obtain rfl := Option.some.inj (e1.symm.trans hg2)
  have e2 : (Tryz.prog.globals[globAt]?).map (·.type) = some 302 := by kernel_rfl
  obtain rfl := Option.some.inj (e2.symm.trans ht2)
  obtain ⟨xs, m, rfl, hx, k1, k2, k3⟩ := DataW.trod_array (n := 20) (e := 198) (by kernel_rfl) hd2
  have hce : Tryz.prog.cellsOf 198 = 1 := by kernel_rfl
  have hct : Tryz.prog.cellsOf 302 = 20 := by kernel_rfl
  have hlaid : (YtddlffkdpocmhaaGreatDoor.Rows.laid_internal_strconv_uint64pow10 : DataW Unit) = .agg ((List.range 20).map fun i => .lit (.int .u64 (10 ^ i))) := rfl
  rw [hct] at k1
  have hxs : xs.map (·.1) = (List.range 20).map fun i => .lit (.int .u64 (10 ^ i)) := by
    have h1 := (Prod.mk.inj hx).1
    rw [hlaid] at h1
    exact (DataW.agg.inj h1).symm
  have key : cs2.toList = pow10Tab := by
    refine List.ext_getElem (by rw [k1]; rfl) fun i h1 h2 => ?_
    have hi : i < 20 := by omega
    have h3 := k3 i hi
    have hix : i < xs.length := by omega
    rw [List.getElem?_eq_getElem hix, hce, Nat.mul_one] at h3
    obtain ⟨n, f1, f2, _⟩ := DataW.trod_int (k := .u64) (by kernel_rfl) h3
    have f3 : (cs2.toList.drop i).take 1 = [cs2.toList[i]] := by
      rw [List.drop_eq_getElem_cons h1]; rfl
    rw [f3] at f1
    simp only [List.cons.injEq, and_true] at f1
    have f4 : (xs.map (·.1))[i]'(by simpa using hix) = .lit (.int .u64 n) := by simp [f2]
    have f5 : (xs.map (·.1))[i]'(by simpa using hix) = .lit (.int .u64 (10 ^ i)) := by
      have := List.getElem_of_eq hxs (i := i) (by simpa using hix)
      rw [this]; simp
    rw [f4] at f5
    have f6 := (Lit.int.inj (DataW.lit.inj f5)).2
    rw [f1, f6]
    simp [pow10Tab]
  simp only [World.var?, hg2, Option.bind_some] at hv2
  split at hv2
  · rename_i cs T p hh
    cases hv2
    refine ⟨T, p, ?_⟩
    rw [hh, ← key]
  · cases hv2
end Go.Proofs
/- A start that meets what the rows ask: the world that the door's own run leaves. -/
namespace Go.Proofs
open Go Go.Q

def laid3 : List (String × DataW Unit) := [("math/bits.deBruijn32tab", YtddlffkdpocmhaaGreatDoor.Rows.laid_math_bits_deBruijn32tab), ("math/bits.deBruijn64tab", YtddlffkdpocmhaaGreatDoor.Rows.laid_math_bits_deBruijn64tab), ("internal/strconv.uint64pow10", YtddlffkdpocmhaaGreatDoor.Rows.laid_internal_strconv_uint64pow10)]
theorem own : ownKnob Tryz.prog.godebug = none := by kernel_rfl
theorem door_met (os : Os) (args : Array Value) : laidMetH Tryz.prog laid3 ((World.doorLaid Tryz.prog 400 os).forCall (fun _ _ => 0) ⟨#[], args, []⟩).memory :=
  laidMetH_of_parts3 (fuel := 8) (laidMet_of_run' 8 (by kernel_rfl) (by kernel_rfl)) (by kernel_rfl) (by kernel_rfl)
theorem door_shaped (os : Os) (args : Array Value) : ((World.doorLaid Tryz.prog 400 os).forCall (fun _ _ => 0) ⟨#[], args, []⟩).Shaped Tryz.checked.prog := World.shaped_of_RefB (by kernel_rfl) (by kernel_rfl)
end Go.Proofs
/- Arguments of the rows; that a law has answered true. -/
namespace Go.Proofs
open Go Go.Q Go.ChangeShapes Go.WideShapes Go.ChangeAt Go.WideMaps Go.WideElems Go.RowKit

theorem trueOk {W' : World} {f : Func} (hr : f.resultTypes = #[4]) {H : Type} {enc : TypeId × Value → H} (b : Nat) (sp : Nat → Bool) (hd : Bool) : DataW.TrodAll enc Tryz.prog W' b sp hd f.resultTypes.toList ((Value.bool true).resultList f.resultTypes.size) [.lit (.bool true)] [] := by
  rw [hr]
  exact trodAll_mk1 (shut_bool (by kernel_rfl) _)
end Go.Proofs
