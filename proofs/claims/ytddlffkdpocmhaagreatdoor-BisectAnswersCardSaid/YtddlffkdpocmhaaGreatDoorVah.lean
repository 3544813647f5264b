/- The small logic: cuts within a region; more steps. Library, no statement of its own. -/
import Derived.Test.YtddlffkdpocmhaaGreatDoorVag
set_option linter.unusedSimpArgs false
set_option linter.unusedVariables false
namespace Go.Q
open Go
section
variable {P : Program} {N : Nat} {all : Array Oper} {K : Env → List Res → Prop} {fl : List Bool} {os : List Oper} {ρ : Env} {L : List Res} {Q : PPost} {c : Code} {d : Nat} {ty : TypeId} {pos : String} {af : Array Edge}

theorem pops_mono {K' : Env → List Res → Prop} (hk : ∀ ρ L, K' ρ L → K ρ L) : ∀ {os : List Oper} {fl : List Bool} {ρ : Env} {L : List Res}, pops P N all K' fl os ρ L → pops P N all K fl os ρ L
  | [], _, _, _, h => hk _ _ h
  | o :: os, fl, ρ, L, h => by
    obtain ⟨hd, h⟩ := h
    refine ⟨hd, ?_⟩
    rcases h with ⟨hno, h⟩ | ⟨hy, h⟩
    · exact .inl ⟨hno, pops_mono hk h⟩
    · refine .inr ⟨hy, ?_⟩
      rcases h with ⟨x, hq, h⟩ | ⟨hf, h⟩
      · exact .inl ⟨x, hq, pops_mono hk h⟩
      · exact .inr ⟨hf, h.mono fun x L' h => pops_mono hk h⟩

/-- What a region leaves, said at once. -/
theorem pops_cutE {y : Code} (E : List (Nat × PV)) (LL : List Res) (h : pops P N all (fun ρ L => Holds ρ E ∧ LL.Sublist L) fl os ρ L) (k : pwp P N y Q (env E) LL)
    (hK : ∀ ρ L, pwp P N y Q ρ L → K ρ L := by intro _ _ h; exact h) : pops P N all K fl os ρ L :=
  pops_mono (fun ρ' L' ⟨h1, h2⟩ => hK _ _ (pwp_env E h1 h2 k)) h
/-- Two ways that meet again: what is known there, said at once. -/
theorem pwp_join {c y : Code} (F : Prop) (E : List (Nat × PV)) (LL : List Res) (h : pwp P N c (PThen (fun ρ L => F ∧ Holds ρ E ∧ LL.Sublist L) Q) ρ L) (k : F → pwp P N y Q (env E) LL) : pwp P N c (PThen (pwp P N y Q) Q) ρ L :=
  pwp_mono h fun e ρ' L' hq => by
    cases e with
    | normal => obtain ⟨h1, h2, h3⟩ := hq; exact pwp_env E h2 h3 (k h1)
    | _ => exact hq
/-- Goes on by itself; not into a region whose order is drawn. -/
theorem walkn {A B : Prop} (k : B) (h : Wrap B → A := by
    intro hB
    repeat (first
      | refine pops_nil ?_
      | (refine g_guard ?_; first | refine pops_yes rfl (by rfl) ?_ | refine pops_yesA rfl (by first | ((conv => lhs; whnf); done) | fail) (by assumption) ?_ | refine pops_noT rfl (by first | ((conv => lhs; whnf); done) | fail) (by assumption) ?_ | refine pops_noF rfl (by first | ((conv => lhs; whnf); done) | fail) (by assumption) ?_ | refine pops_noU rfl (by rfl) ?_ | refine pops_noT rfl (by rfl) rfl ?_ | refine pops_noF rfl (by rfl) rfl ?_)
      | (refine g_move ?_; first | refine s_moveN (by (conv => lhs; whnf); done) ?_)
      | (refine g_assign ?_; first | refine s_assignN (by (conv => lhs; whnf); done) ?_)
      | (refine g_load ?_; first | refine s_loadAL (by rfl) (hl := (by first | infer_instance | fail)) ?_ | refine s_loadS (by rfl) rfl ?_ | refine s_loadBL (by rfl) (by repeat (first | exact List.mem_cons_self | apply List.mem_cons_of_mem)) (hl := (by first | infer_instance | fail)) ?_ | refine s_loadBF (by rfl) (by repeat (first | exact List.mem_cons_self | apply List.mem_cons_of_mem)) (hs := (by first | infer_instance | fail)) ?_ | refine s_loadBG (by rfl) (by repeat (first | exact List.mem_cons_self | apply List.mem_cons_of_mem)) (hs := (by first | infer_instance | fail)) ?_ | refine s_loadD (by rfl) (by repeat (first | exact List.mem_cons_self | apply List.mem_cons_of_mem)) (by omega) ?_ | refine s_loadW (by rfl) (by repeat (first | exact List.mem_cons_self | apply List.mem_cons_of_mem)) (by omega) ?_)
      | (refine g_fld ?_; first | refine s_fldF (by rfl) (hr := (by first | infer_instance | fail)) ?_ | refine s_fldBq (by rfl) (by (conv => lhs; whnf); done) ?_)
      | (refine g_len ?_; first | refine s_lenM (by rfl) ?_ | refine s_lenS (by (conv => lhs; whnf); done) (jx := (by first | infer_instance | fail)) ?_ | refine s_len (by rfl) ?_)
      | (refine g_call ?_; first | refine j_call1 (by (conv => lhs; whnf); done) (hN0 := (by first | infer_instance | fail)) (hc := (by first | infer_instance | fail)) ?_ | refine j_call2 (by (conv => lhs; whnf); done) (by (conv => lhs; whnf); done) (hN0 := (by first | infer_instance | fail)) (hN1 := (by first | infer_instance | fail)) (hc := (by first | infer_instance | fail)) ?_ | refine j_call3 (by (conv => lhs; whnf); done) (by (conv => lhs; whnf); done) (by (conv => lhs; whnf); done) (hN0 := (by first | infer_instance | fail)) (hN1 := (by first | infer_instance | fail)) (hN2 := (by first | infer_instance | fail)) (hc := (by first | infer_instance | fail)) ?_ | refine j_call0 (hc := (by first | infer_instance | fail)) ?_ | refine j_call4 (by (conv => lhs; whnf); done) (by (conv => lhs; whnf); done) (by (conv => lhs; whnf); done) (by (conv => lhs; whnf); done) (hN0 := (by first | infer_instance | fail)) (hN1 := (by first | infer_instance | fail)) (hN2 := (by first | infer_instance | fail)) (hN3 := (by first | infer_instance | fail)) (hc := (by first | infer_instance | fail)) ?_ | refine j_call5 (by (conv => lhs; whnf); done) (by (conv => lhs; whnf); done) (by (conv => lhs; whnf); done) (by (conv => lhs; whnf); done) (by (conv => lhs; whnf); done) (hN0 := (by first | infer_instance | fail)) (hN1 := (by first | infer_instance | fail)) (hN2 := (by first | infer_instance | fail)) (hN3 := (by first | infer_instance | fail)) (hN4 := (by first | infer_instance | fail)) (hc := (by first | infer_instance | fail)) ?_ | refine j_call6 (by (conv => lhs; whnf); done) (by (conv => lhs; whnf); done) (by (conv => lhs; whnf); done) (by (conv => lhs; whnf); done) (by (conv => lhs; whnf); done) (by (conv => lhs; whnf); done) (hN0 := (by first | infer_instance | fail)) (hN1 := (by first | infer_instance | fail)) (hN2 := (by first | infer_instance | fail)) (hN3 := (by first | infer_instance | fail)) (hN4 := (by first | infer_instance | fail)) (hN5 := (by first | infer_instance | fail)) (hc := (by first | infer_instance | fail)) ?_)
      | (refine g_bi ?_; first | refine s_min (by rfl) (by rfl) ?_ | refine s_max (by rfl) (by rfl) ?_)
      | (refine g_bin ?_; first | refine s_lss (by rfl) (by rfl) ?_ | refine s_leq (by rfl) (by rfl) ?_ | refine s_gtr (by rfl) (by rfl) ?_ | refine s_geq (by rfl) (by rfl) ?_ | refine s_eqi (by rfl) (by rfl) ?_ | refine s_nei (by rfl) (by rfl) ?_ | refine s_add (by rfl) (by rfl) (by constructor <;> omega) ?_ | refine s_sub (by rfl) (by rfl) (by constructor <;> omega) ?_ | refine s_eqDig (by rfl) (by rfl) ?_ | refine s_neDig (by rfl) (by rfl) ?_ | refine s_eqId (by rfl) (by rfl) ?_ | refine s_neId (by rfl) (by rfl) ?_ | refine s_eqS (by (conv => lhs; whnf); done) (by (conv => lhs; whnf); done) (jx := (by first | infer_instance | fail)) (jy := (by first | infer_instance | fail)) ?_ | refine s_neS (by (conv => lhs; whnf); done) (by (conv => lhs; whnf); done) (jx := (by first | infer_instance | fail)) (jy := (by first | infer_instance | fail)) ?_ | refine s_eqB (by rfl) (by rfl) ?_ | refine s_neB (by rfl) (by rfl) ?_ | refine s_cat (by (conv => lhs; whnf); done) (by (conv => lhs; whnf); done) (jx := (by first | infer_instance | fail)) (jy := (by first | infer_instance | fail)) (by first | omega | (simp only [List.length_append, List.length_cons, List.length_nil, Nat.zero_add]; omega)) ?_ | refine s_mul (by rfl) (by rfl) (by constructor <;> omega) ?_ | refine s_quo (by rfl) (by rfl) (by first | omega | decide) (by omega) ?_ | refine s_rem (by rfl) (by rfl) (by first | omega | decide) ?_ | refine s_addW (by rfl) (by rfl) ?_ | refine s_xorW (by rfl) (by rfl) ?_ | refine s_andW (by rfl) (by rfl) ?_ | refine s_orW (by rfl) (by rfl) ?_ | refine s_shrW (by rfl) (by rfl) ?_ | refine s_shlW (by rfl) (by rfl) ?_ | refine s_shrU (by rfl) (by rfl) ?_ | refine s_subU (by rfl) (by rfl) (by omega) (by omega) ?_ | refine s_mulU (by rfl) (by rfl) (by omega) ?_)
      | (refine g_ix ?_; first | refine s_indexN (by rfl) (by rfl) (by omega) ?_ | refine s_indexB (by rfl) (by rfl) (by omega) ?_ | refine s_indexZ (by rfl) (by rfl) (by omega) (by omega) ?_)
      | (refine g_ext ?_; first | refine s_extract (by rfl) rfl ?_)
      | (refine g_pick ?_; first | refine s_pickTA (by rfl) rfl (by (conv => lhs; whnf); done) ?_ | refine s_pickFA (by rfl) rfl (by (conv => lhs; whnf); done) ?_ | refine s_pickTA (by first | ((conv => lhs; whnf); done) | fail) (by assumption) (by (conv => lhs; whnf); done) ?_ | refine s_pickFA (by first | ((conv => lhs; whnf); done) | fail) (by assumption) (by (conv => lhs; whnf); done) ?_)
      | (refine g_un ?_; first | refine s_not (by rfl) ?_ | refine s_neg (by rfl) (by constructor <;> omega) ?_ | refine s_notW (by rfl) ?_)
      | (refine g_store ?_; first | refine s_storeC (by rfl) (by (conv => lhs; whnf); done) (hC := (by first | infer_instance | fail)) (hB := (by first | infer_instance | fail)) (hp := (by first | infer_instance | fail)) (hu := (by first | infer_instance | fail)) (hf := (by first | infer_instance | fail)) (hlen := (by first | infer_instance | fail)) ?_ | refine s_storeX (by rfl) (by rfl) (hB := (by first | infer_instance | fail)) (hu := (by first | infer_instance | fail)) (hf := (by first | infer_instance | fail)) (hlen := (by first | infer_instance | fail)) (hcs := (by first | infer_instance | fail)) ?_ | refine s_storeW32 (by rfl) (by rfl) (by repeat (first | exact List.mem_cons_self | apply List.mem_cons_of_mem)) (by omega) (hu := (by first | infer_instance | fail)) ?_ | refine s_storeD (by rfl) (by rfl) (by repeat (first | exact List.mem_cons_self | apply List.mem_cons_of_mem)) (by omega) (hu := (by first | infer_instance | fail)) ?_)
      | (refine g_bs ?_; first | refine s_bs0 ?_ | refine s_bs1 (by (conv => lhs; whnf); done) (hC0 := (by first | infer_instance | fail)) (hf := (by first | infer_instance | fail)) (by decide) ?_ | refine s_bs2 (by (conv => lhs; whnf); done) (by (conv => lhs; whnf); done) (hC0 := (by first | infer_instance | fail)) (hC1 := (by first | infer_instance | fail)) (hf := (by first | infer_instance | fail)) (by decide) ?_ | refine s_bs3 (by (conv => lhs; whnf); done) (by (conv => lhs; whnf); done) (by (conv => lhs; whnf); done) (hC0 := (by first | infer_instance | fail)) (hC1 := (by first | infer_instance | fail)) (hC2 := (by first | infer_instance | fail)) (hf := (by first | infer_instance | fail)) (by decide) ?_ | refine s_bs4 (by (conv => lhs; whnf); done) (by (conv => lhs; whnf); done) (by (conv => lhs; whnf); done) (by (conv => lhs; whnf); done) (hC0 := (by first | infer_instance | fail)) (hC1 := (by first | infer_instance | fail)) (hC2 := (by first | infer_instance | fail)) (hC3 := (by first | infer_instance | fail)) (hf := (by first | infer_instance | fail)) (by decide) ?_ | refine s_bs5 (by (conv => lhs; whnf); done) (by (conv => lhs; whnf); done) (by (conv => lhs; whnf); done) (by (conv => lhs; whnf); done) (by (conv => lhs; whnf); done) (hC0 := (by first | infer_instance | fail)) (hC1 := (by first | infer_instance | fail)) (hC2 := (by first | infer_instance | fail)) (hC3 := (by first | infer_instance | fail)) (hC4 := (by first | infer_instance | fail)) (hf := (by first | infer_instance | fail)) (by decide) ?_ | refine s_bs6 (by (conv => lhs; whnf); done) (by (conv => lhs; whnf); done) (by (conv => lhs; whnf); done) (by (conv => lhs; whnf); done) (by (conv => lhs; whnf); done) (by (conv => lhs; whnf); done) (hC0 := (by first | infer_instance | fail)) (hC1 := (by first | infer_instance | fail)) (hC2 := (by first | infer_instance | fail)) (hC3 := (by first | infer_instance | fail)) (hC4 := (by first | infer_instance | fail)) (hC5 := (by first | infer_instance | fail)) (hf := (by first | infer_instance | fail)) (by decide) ?_)
      | (refine g_build ?_; first | refine s_build0 ?_ | refine s_buildA0 ?_ | refine b_build1 (by (conv => lhs; whnf); done) (hC0 := (by first | infer_instance | fail)) (hP0 := (by first | infer_instance | fail)) (hl0 := (by first | infer_instance | fail)) ?_ | refine b_build2 (by (conv => lhs; whnf); done) (by (conv => lhs; whnf); done) (hC0 := (by first | infer_instance | fail)) (hC1 := (by first | infer_instance | fail)) (hP0 := (by first | infer_instance | fail)) (hP1 := (by first | infer_instance | fail)) (hl0 := (by first | infer_instance | fail)) (hl1 := (by first | infer_instance | fail)) ?_ | refine b_build3 (by (conv => lhs; whnf); done) (by (conv => lhs; whnf); done) (by (conv => lhs; whnf); done) (hC0 := (by first | infer_instance | fail)) (hC1 := (by first | infer_instance | fail)) (hC2 := (by first | infer_instance | fail)) (hP0 := (by first | infer_instance | fail)) (hP1 := (by first | infer_instance | fail)) (hP2 := (by first | infer_instance | fail)) (hl0 := (by first | infer_instance | fail)) (hl1 := (by first | infer_instance | fail)) (hl2 := (by first | infer_instance | fail)) ?_ | refine b_build4 (by (conv => lhs; whnf); done) (by (conv => lhs; whnf); done) (by (conv => lhs; whnf); done) (by (conv => lhs; whnf); done) (hC0 := (by first | infer_instance | fail)) (hC1 := (by first | infer_instance | fail)) (hC2 := (by first | infer_instance | fail)) (hC3 := (by first | infer_instance | fail)) (hP0 := (by first | infer_instance | fail)) (hP1 := (by first | infer_instance | fail)) (hP2 := (by first | infer_instance | fail)) (hP3 := (by first | infer_instance | fail)) (hl0 := (by first | infer_instance | fail)) (hl1 := (by first | infer_instance | fail)) (hl2 := (by first | infer_instance | fail)) (hl3 := (by first | infer_instance | fail)) ?_ | refine b_build5 (by (conv => lhs; whnf); done) (by (conv => lhs; whnf); done) (by (conv => lhs; whnf); done) (by (conv => lhs; whnf); done) (by (conv => lhs; whnf); done) (hC0 := (by first | infer_instance | fail)) (hC1 := (by first | infer_instance | fail)) (hC2 := (by first | infer_instance | fail)) (hC3 := (by first | infer_instance | fail)) (hC4 := (by first | infer_instance | fail)) (hP0 := (by first | infer_instance | fail)) (hP1 := (by first | infer_instance | fail)) (hP2 := (by first | infer_instance | fail)) (hP3 := (by first | infer_instance | fail)) (hP4 := (by first | infer_instance | fail)) (hl0 := (by first | infer_instance | fail)) (hl1 := (by first | infer_instance | fail)) (hl2 := (by first | infer_instance | fail)) (hl3 := (by first | infer_instance | fail)) (hl4 := (by first | infer_instance | fail)) ?_ | refine b_build6 (by (conv => lhs; whnf); done) (by (conv => lhs; whnf); done) (by (conv => lhs; whnf); done) (by (conv => lhs; whnf); done) (by (conv => lhs; whnf); done) (by (conv => lhs; whnf); done) (hC0 := (by first | infer_instance | fail)) (hC1 := (by first | infer_instance | fail)) (hC2 := (by first | infer_instance | fail)) (hC3 := (by first | infer_instance | fail)) (hC4 := (by first | infer_instance | fail)) (hC5 := (by first | infer_instance | fail)) (hP0 := (by first | infer_instance | fail)) (hP1 := (by first | infer_instance | fail)) (hP2 := (by first | infer_instance | fail)) (hP3 := (by first | infer_instance | fail)) (hP4 := (by first | infer_instance | fail)) (hP5 := (by first | infer_instance | fail)) (hl0 := (by first | infer_instance | fail)) (hl1 := (by first | infer_instance | fail)) (hl2 := (by first | infer_instance | fail)) (hl3 := (by first | infer_instance | fail)) (hl4 := (by first | infer_instance | fail)) (hl5 := (by first | infer_instance | fail)) ?_ | refine b_build7 (by (conv => lhs; whnf); done) (by (conv => lhs; whnf); done) (by (conv => lhs; whnf); done) (by (conv => lhs; whnf); done) (by (conv => lhs; whnf); done) (by (conv => lhs; whnf); done) (by (conv => lhs; whnf); done) (hC0 := (by first | infer_instance | fail)) (hC1 := (by first | infer_instance | fail)) (hC2 := (by first | infer_instance | fail)) (hC3 := (by first | infer_instance | fail)) (hC4 := (by first | infer_instance | fail)) (hC5 := (by first | infer_instance | fail)) (hC6 := (by first | infer_instance | fail)) (hP0 := (by first | infer_instance | fail)) (hP1 := (by first | infer_instance | fail)) (hP2 := (by first | infer_instance | fail)) (hP3 := (by first | infer_instance | fail)) (hP4 := (by first | infer_instance | fail)) (hP5 := (by first | infer_instance | fail)) (hP6 := (by first | infer_instance | fail)) (hl0 := (by first | infer_instance | fail)) (hl1 := (by first | infer_instance | fail)) (hl2 := (by first | infer_instance | fail)) (hl3 := (by first | infer_instance | fail)) (hl4 := (by first | infer_instance | fail)) (hl5 := (by first | infer_instance | fail)) (hl6 := (by first | infer_instance | fail)) ?_ | refine b_build8 (by (conv => lhs; whnf); done) (by (conv => lhs; whnf); done) (by (conv => lhs; whnf); done) (by (conv => lhs; whnf); done) (by (conv => lhs; whnf); done) (by (conv => lhs; whnf); done) (by (conv => lhs; whnf); done) (by (conv => lhs; whnf); done) (hC0 := (by first | infer_instance | fail)) (hC1 := (by first | infer_instance | fail)) (hC2 := (by first | infer_instance | fail)) (hC3 := (by first | infer_instance | fail)) (hC4 := (by first | infer_instance | fail)) (hC5 := (by first | infer_instance | fail)) (hC6 := (by first | infer_instance | fail)) (hC7 := (by first | infer_instance | fail)) (hP0 := (by first | infer_instance | fail)) (hP1 := (by first | infer_instance | fail)) (hP2 := (by first | infer_instance | fail)) (hP3 := (by first | infer_instance | fail)) (hP4 := (by first | infer_instance | fail)) (hP5 := (by first | infer_instance | fail)) (hP6 := (by first | infer_instance | fail)) (hP7 := (by first | infer_instance | fail)) (hl0 := (by first | infer_instance | fail)) (hl1 := (by first | infer_instance | fail)) (hl2 := (by first | infer_instance | fail)) (hl3 := (by first | infer_instance | fail)) (hl4 := (by first | infer_instance | fail)) (hl5 := (by first | infer_instance | fail)) (hl6 := (by first | infer_instance | fail)) (hl7 := (by first | infer_instance | fail)) ?_)
      | (refine g_slice ?_; first | refine s_cutL (by rfl) (by rfl) (by omega) ?_ | refine s_cutH (by rfl) (by rfl) (by omega) ?_ | refine s_cutS (by (conv => lhs; whnf); done) (by rfl) (by rfl) (jx := (by first | infer_instance | fail)) (by omega) (by omega) (by omega) ?_ | refine s_cutSL (by (conv => lhs; whnf); done) (by rfl) (jx := (by first | infer_instance | fail)) (by omega) (by omega) ?_ | refine s_sliceD (by rfl) ?_)
      | (refine g_conv ?_; first | refine s_convB (by rfl) ?_ | refine s_convW (by rfl) ?_ | refine s_convU (by rfl) (by omega) ?_ | refine s_strB (by rfl) ?_ | refine s_strBox (by rfl) (by repeat (first | exact List.mem_cons_self | apply List.mem_cons_of_mem)) (hs := (by first | infer_instance | fail)) ?_)
      | (refine g_index ?_; first | refine s_indexS (by (conv => lhs; whnf); done) (by rfl) (jx := (by first | infer_instance | fail)) (by omega) ?_)
      | (refine g_nck ?_; first | refine s_nilCheckP (by rfl) ?_)
      | refine pwp_seq ?_
      | refine pwp_region (by kernel_rfl) ?_
      | refine pwp_block ?_
      | refine pwp_skip ?_
      | refine pwp_ret ?_
      | refine pwp_exit ?_
      | refine pwp_condT (by rfl) ?_
      | refine pwp_condF (by rfl) ?_)
    exact hB.out) : A := h ⟨k⟩
/-- Up to a new variable, and on; not into a region whose order is drawn. -/
theorem walkbn {A : Prop} {B : Nat → Prop} (k : ∀ b, B b) (h : WrapF B → A := by
    intro hB
    refine walkn ?_
    first | refine s_box (by rfl) fun b => ?_ | refine s_alloc fun b => ?_
    refine walkn ?_
    exact hB.out b) : A := h ⟨k⟩
/-- The same, from within a region. -/
theorem walkbnp {A : Prop} {B : Nat → Prop} (k : ∀ b, B b) (h : WrapF B → A := by
    intro hB
    refine walkbn fun b => ?_
    exact hB.out b) : A := h ⟨k⟩
/-- A new list that may grow. -/
theorem opN_bsT {T n sz by_ : Nat} [hE : TApp P T sz by_] {xs : List Operand} {cs : List (List PV)} {dst : Option Nat} {gd : Option (Nat × Bool)} (hn : xs.length = n) (hl : cs.length = n) (h24 : n * sz ≤ 16777216) (hm : n ≤ maxN)
    (hx : ∀ i (h1 : i < xs.length) (h2 : i < cs.length), Cells (ρ.ev xs[i]) cs[i] ∧ cs[i].length = sz) {Ψ : PV → List Res → Prop} (k : ∀ t', Ψ (.slice cs t') (.tok t' n sz :: L)) : OpN P ⟨dst, .buildSlice T n ((xs.zipIdx.map fun p => (p.2, p.1)).toArray), ty, pos, af, gd⟩ ρ L Ψ := by
  intro a w g ha hi
  obtain ⟨E, i, z, t1, t2, t3, t4, t5, t6, t7, t8⟩ := hE.out
  have hcell : ∀ i, i < n → ∃ us : List Value, (∀ (h1 : i < xs.length), (a.eval xs[i]).cells = us.toArray) ∧ (∀ (h2 : i < cs.length), VRl g us cs[i]) := fun i h1 => by
    obtain ⟨us, e1, e2⟩ := (hx i (by omega) (by omega)).1 g _ (ha xs[i] (bs_operand (by omega)))
    exact ⟨us, fun _ => e1, fun _ => e2⟩
  let F : Nat → List Value := fun i => by classical exact if h : i < n then Classical.choose (hcell i h) else []
  have hF : ∀ i (h : i < n), (∀ (h1 : i < xs.length), (a.eval xs[i]).cells = (F i).toArray) ∧ (∀ (h2 : i < cs.length), VRl g (F i) cs[i]) := fun i h => by
    have := Classical.choose_spec (hcell i h)
    simp only [F, dif_pos h]; exact this
  let vs : List (List Value) := (List.range n).map F
  have hvl : vs.length = n := by simp [vs]
  have hvi : ∀ i (h : i < vs.length), vs[i] = F i := fun i h => by simp [vs]
  have hFl : ∀ i, i < n → (F i).length = sz := fun i h => by rw [((hF i h).2 (by omega)).len, (hx i (by omega) (by omega)).2]
  have hflat : VRl g vs.flatten cs.flatten := by
    have : ∀ m, m ≤ n → VRl g (vs.take m).flatten (cs.take m).flatten := by
      intro m
      induction m with
      | zero => intro _; simp; exact .nil g
      | succ m ih =>
        intro hm'
        rw [List.take_succ_eq_append_getElem (by omega : m < vs.length), List.take_succ_eq_append_getElem (by omega : m < cs.length), List.flatten_append, List.flatten_append]
        refine (ih (by omega)).append ?_
        simp only [List.flatten_cons, List.flatten_nil, List.append_nil, hvi]
        exact (hF m (by omega)).2 (by omega)
    have := this n (Nat.le_refl _)
    rwa [List.take_of_length_le (by omega), List.take_of_length_le (by omega)] at this
  have hcs : ∀ e ∈ cs, e.length = sz := fun e he => by
    obtain ⟨j, hj, rfl⟩ := List.mem_iff_getElem.1 he
    exact (hx j (by omega) hj).2
  have hparts : (((xs.zipIdx.map fun p => (p.2, p.1)).toArray).map fun (p : Nat × Operand) => (p.1, a.eval p.2)).toList = ((xs.map a.eval).zipIdx 0).map fun p => (p.2, p.1) := by
    simp only [List.map_toArray, List.map_map]
    rw [List.zipIdx_map, List.map_map]
    rfl
  obtain ⟨j1, j2, j3⟩ := hi.lay vs.flatten E
  have hr : (execOp a.eval ⟨dst, .buildSlice T n ((xs.zipIdx.map fun p => (p.2, p.1)).toArray), ty, pos, af, gd⟩).run P w = .ok (.value (.slice (some ⟨w.heap.size, 0, none⟩) n n)) { w with heap := w.heap.push (.cells vs.flatten.toArray E (0, 0)) } := by
    have hz : ∀ (zz : Array Value), Instr.fill (fun i => some (i * sz, sz)) ((Array.range (n * sz)).map (zz[· % zz.size]!)) (((xs.map a.eval).zipIdx 0).map fun p => (p.2, p.1)) = some vs.flatten.toArray := fun zz => by
      have e : (Array.range (n * sz)).map (zz[· % zz.size]!) = ((List.range (n * sz)).map (zz[· % zz.size]!)).toArray := by
        apply Array.ext'; simp
      rw [e, fill_all vs (xs.map a.eval) 0 _ (by simp [hvl, hn]) (fun i h1 h2 => by
        simp only [List.length_map] at h1
        rw [hvi]
        simp only [List.getElem_map]
        exact ⟨(hF i (by omega)).1 h1, hFl i (by omega)⟩) (by simp [hvl])]
      simp
    show (do pure (Next.value (← Instr.buildSlice T n (((xs.zipIdx.map fun p => (p.2, p.1)).toArray).map fun (p : Nat × Operand) => (p.1, a.eval p.2)))) : Sem Next).run P w = _
    simp only [Instr.buildSlice, Sem.run_bind, run_underlying t1, Result.andThen_ok, sizeOf, typeInfo, run_program, t2, Sem.run_pure, t3, hparts]
    rw [if_neg (by have : (2 : Nat) ^ 24 = 16777216 := by decide
                   omega)]
    have hzv : (zeroValue E).run P w = .ok z w := by simp [zeroValue, typeInfo, t2, t5]
    split
    · simp only [Sem.run_bind, Sem.run_pure, Result.andThen_ok, hz #[], newRow, run_newObj]
    · simp only [Sem.run_bind, hzv, Sem.run_pure, Result.andThen_ok, hz z.cells, newRow, run_newObj]
  refine Oper.wq_of_run hr ?_
  have hH0 : ∀ o, g.H w.heap.size o = none := fun o => by
    cases h : g.H w.heap.size o with
    | none => rfl
    | some v => have := hi.sat _ _ _ h; simp [World.cell?] at this
  have hM0 : g.M w.heap.size = none := by
    cases h : g.M w.heap.size with
    | none => rfl
    | some v => exact absurd (hi.satM _ _ h).lt (Nat.lt_irrefl _)
  have hfl : vs.flatten.length = n * sz := by
    rw [hflat.len]
    have : ∀ (l : List (List PV)), (∀ e ∈ l, e.length = sz) → l.flatten.length = l.length * sz := by
      intro l
      induction l with
      | nil => simp
      | cons e l ih => intro h; simp only [List.flatten_cons, List.length_append, h e (by simp), ih fun e' he => h e' (by simp [he]), List.length_cons, Nat.add_mul]; omega
    rw [this cs hcs, hl]
  refine ⟨_, .slice cs (.own w.heap.size n), _, .tok (.own w.heap.size n) n sz :: L, rfl, ?_, ⟨j1.sat, j1.satM, fun r hr => ?_, ?_, j1.glob⟩, ?_, ?_, k _⟩
  · have := VR.of_cells (g := g.lay w.heap.size 0 vs.flatten) (xs := cs) (t := .own w.heap.size n) (sz := sz) (b := w.heap.size) (off := 0) (cap := n) hcs (by omega) ⟨by omega, by rw [hl]; exact Nat.le_trans h24 (by decide)⟩ (us := vs.flatten) (hflat.mono j3) (fun j hj => Gh.lay_in hj) (fun b' cap' e => by cases e; exact ⟨rfl, rfl, rfl⟩) (by simp)
    rw [hl] at this
    exact this
  · rcases List.mem_cons.1 hr with rfl | hr
    · refine ⟨vs.flatten.toArray, E, (0, 0), by simp, by simp [hfl], Nat.le_refl _, fun o ho => ?_, hM0, .inl (Nat.le_refl _)⟩
      rw [Gh.lay_out (fun h => by have := h.2.2; omega)]; exact hH0 o
    · exact j1.res r hr
  · have hb : w.heap.size ∉ blocks L := fun h => by
      obtain ⟨r, hr, e⟩ := List.mem_filterMap.1 h
      have := Res.holds_lt (hi.res r hr) e
      omega
    simp only [blocks, List.filterMap_cons, Res.block]
    exact List.nodup_cons.2 ⟨hb, hi.nodup⟩
  · exact j2
  · intro b' hb' hlt
    simp only [blocks, List.filterMap_cons, Res.block, List.mem_cons] at hb'
    rcases hb' with h | h
    · omega
    · exact h
theorem s_bsT1 {T sz by_ : Nat} [hE : TApp P T sz by_] {x0 : Operand} {a0 : PV} {α : Type} {f : α → List PV} {e0 : α} (q0 : ρ.ev x0 = a0) [hC0 : EncC a0 f e0] [hf : Len f sz] (h24 : 1 * sz ≤ 16777216)
    (k : ∀ t, pops P N all K fl.tail os (upd ρ d (.slice ([e0].map f) t)) (.tok t [e0].length sz :: L)) (hd : Nat.blt d N = true := by rfl) (hfl : fl.headD true = true := by rfl) : pops P N all K fl (⟨some d, .buildSlice T 1 #[(0, x0)], ty, pos, af, none⟩ :: os) ρ L :=
  pops_n rfl (dlt hd) hfl (opN_bsT (n := 1) (xs := [x0]) (cs := [e0].map f) rfl rfl h24 (by decide) (fun i h1 h2 => by
    match i, h1, h2 with
    | 0, _, _ => exact ⟨q0 ▸ hC0.out, hf.out e0⟩
    | m + 1, h1, _ => exact absurd h1 (by simp only [List.length_cons, List.length_nil]; omega)) k)
/-- Goes on by itself; no new list. -/
theorem walkx {A B : Prop} (k : B) (h : Wrap B → A := by
    intro hB
    repeat (first
      | refine pops_nil ?_
      | (refine g_guard ?_; first | refine pops_yes rfl (by rfl) ?_ | refine pops_yesA rfl (by first | ((conv => lhs; whnf); done) | fail) (by assumption) ?_ | refine pops_noT rfl (by first | ((conv => lhs; whnf); done) | fail) (by assumption) ?_ | refine pops_noF rfl (by first | ((conv => lhs; whnf); done) | fail) (by assumption) ?_ | refine pops_noU rfl (by rfl) ?_ | refine pops_noT rfl (by rfl) rfl ?_ | refine pops_noF rfl (by rfl) rfl ?_)
      | (refine g_move ?_; first | refine s_moveN (by (conv => lhs; whnf); done) ?_)
      | (refine g_assign ?_; first | refine s_assignN (by (conv => lhs; whnf); done) ?_)
      | (refine g_load ?_; first | refine s_loadAL (by rfl) (hl := (by first | infer_instance | fail)) ?_ | refine s_loadS (by rfl) rfl ?_ | refine s_loadBL (by rfl) (by repeat (first | exact List.mem_cons_self | apply List.mem_cons_of_mem)) (hl := (by first | infer_instance | fail)) ?_ | refine s_loadBF (by rfl) (by repeat (first | exact List.mem_cons_self | apply List.mem_cons_of_mem)) (hs := (by first | infer_instance | fail)) ?_ | refine s_loadBG (by rfl) (by repeat (first | exact List.mem_cons_self | apply List.mem_cons_of_mem)) (hs := (by first | infer_instance | fail)) ?_ | refine s_loadD (by rfl) (by repeat (first | exact List.mem_cons_self | apply List.mem_cons_of_mem)) (by omega) ?_ | refine s_loadW (by rfl) (by repeat (first | exact List.mem_cons_self | apply List.mem_cons_of_mem)) (by omega) ?_)
      | (refine g_fld ?_; first | refine s_fldF (by rfl) (hr := (by first | infer_instance | fail)) ?_ | refine s_fldBq (by rfl) (by (conv => lhs; whnf); done) ?_)
      | (refine g_len ?_; first | refine s_lenM (by rfl) ?_ | refine s_lenS (by (conv => lhs; whnf); done) (jx := (by first | infer_instance | fail)) ?_ | refine s_len (by rfl) ?_)
      | (refine g_call ?_; first | refine j_call1 (by (conv => lhs; whnf); done) (hN0 := (by first | infer_instance | fail)) (hc := (by first | infer_instance | fail)) ?_ | refine j_call2 (by (conv => lhs; whnf); done) (by (conv => lhs; whnf); done) (hN0 := (by first | infer_instance | fail)) (hN1 := (by first | infer_instance | fail)) (hc := (by first | infer_instance | fail)) ?_ | refine j_call3 (by (conv => lhs; whnf); done) (by (conv => lhs; whnf); done) (by (conv => lhs; whnf); done) (hN0 := (by first | infer_instance | fail)) (hN1 := (by first | infer_instance | fail)) (hN2 := (by first | infer_instance | fail)) (hc := (by first | infer_instance | fail)) ?_ | refine j_call0 (hc := (by first | infer_instance | fail)) ?_ | refine j_call4 (by (conv => lhs; whnf); done) (by (conv => lhs; whnf); done) (by (conv => lhs; whnf); done) (by (conv => lhs; whnf); done) (hN0 := (by first | infer_instance | fail)) (hN1 := (by first | infer_instance | fail)) (hN2 := (by first | infer_instance | fail)) (hN3 := (by first | infer_instance | fail)) (hc := (by first | infer_instance | fail)) ?_ | refine j_call5 (by (conv => lhs; whnf); done) (by (conv => lhs; whnf); done) (by (conv => lhs; whnf); done) (by (conv => lhs; whnf); done) (by (conv => lhs; whnf); done) (hN0 := (by first | infer_instance | fail)) (hN1 := (by first | infer_instance | fail)) (hN2 := (by first | infer_instance | fail)) (hN3 := (by first | infer_instance | fail)) (hN4 := (by first | infer_instance | fail)) (hc := (by first | infer_instance | fail)) ?_ | refine j_call6 (by (conv => lhs; whnf); done) (by (conv => lhs; whnf); done) (by (conv => lhs; whnf); done) (by (conv => lhs; whnf); done) (by (conv => lhs; whnf); done) (by (conv => lhs; whnf); done) (hN0 := (by first | infer_instance | fail)) (hN1 := (by first | infer_instance | fail)) (hN2 := (by first | infer_instance | fail)) (hN3 := (by first | infer_instance | fail)) (hN4 := (by first | infer_instance | fail)) (hN5 := (by first | infer_instance | fail)) (hc := (by first | infer_instance | fail)) ?_)
      | (refine g_bi ?_; first | refine s_min (by rfl) (by rfl) ?_ | refine s_max (by rfl) (by rfl) ?_)
      | (refine g_bin ?_; first | refine s_lss (by rfl) (by rfl) ?_ | refine s_leq (by rfl) (by rfl) ?_ | refine s_gtr (by rfl) (by rfl) ?_ | refine s_geq (by rfl) (by rfl) ?_ | refine s_eqi (by rfl) (by rfl) ?_ | refine s_nei (by rfl) (by rfl) ?_ | refine s_add (by rfl) (by rfl) (by constructor <;> omega) ?_ | refine s_sub (by rfl) (by rfl) (by constructor <;> omega) ?_ | refine s_eqDig (by rfl) (by rfl) ?_ | refine s_neDig (by rfl) (by rfl) ?_ | refine s_eqId (by rfl) (by rfl) ?_ | refine s_neId (by rfl) (by rfl) ?_ | refine s_eqS (by (conv => lhs; whnf); done) (by (conv => lhs; whnf); done) (jx := (by first | infer_instance | fail)) (jy := (by first | infer_instance | fail)) ?_ | refine s_neS (by (conv => lhs; whnf); done) (by (conv => lhs; whnf); done) (jx := (by first | infer_instance | fail)) (jy := (by first | infer_instance | fail)) ?_ | refine s_eqB (by rfl) (by rfl) ?_ | refine s_neB (by rfl) (by rfl) ?_ | refine s_cat (by (conv => lhs; whnf); done) (by (conv => lhs; whnf); done) (jx := (by first | infer_instance | fail)) (jy := (by first | infer_instance | fail)) (by first | omega | (simp only [List.length_append, List.length_cons, List.length_nil, Nat.zero_add]; omega)) ?_ | refine s_mul (by rfl) (by rfl) (by constructor <;> omega) ?_ | refine s_quo (by rfl) (by rfl) (by first | omega | decide) (by omega) ?_ | refine s_rem (by rfl) (by rfl) (by first | omega | decide) ?_ | refine s_addW (by rfl) (by rfl) ?_ | refine s_xorW (by rfl) (by rfl) ?_ | refine s_andW (by rfl) (by rfl) ?_ | refine s_orW (by rfl) (by rfl) ?_ | refine s_shrW (by rfl) (by rfl) ?_ | refine s_shlW (by rfl) (by rfl) ?_ | refine s_shrU (by rfl) (by rfl) ?_ | refine s_subU (by rfl) (by rfl) (by omega) (by omega) ?_ | refine s_mulU (by rfl) (by rfl) (by omega) ?_)
      | (refine g_ix ?_; first | refine s_indexN (by rfl) (by rfl) (by omega) ?_ | refine s_indexB (by rfl) (by rfl) (by omega) ?_ | refine s_indexZ (by rfl) (by rfl) (by omega) (by omega) ?_)
      | (refine g_ext ?_; first | refine s_extract (by rfl) rfl ?_)
      | (refine g_pick ?_; first | refine s_pickTA (by rfl) rfl (by (conv => lhs; whnf); done) ?_ | refine s_pickFA (by rfl) rfl (by (conv => lhs; whnf); done) ?_ | refine s_pickTA (by first | ((conv => lhs; whnf); done) | fail) (by assumption) (by (conv => lhs; whnf); done) ?_ | refine s_pickFA (by first | ((conv => lhs; whnf); done) | fail) (by assumption) (by (conv => lhs; whnf); done) ?_)
      | (refine g_un ?_; first | refine s_not (by rfl) ?_ | refine s_neg (by rfl) (by constructor <;> omega) ?_ | refine s_notW (by rfl) ?_)
      | (refine g_store ?_; first | refine s_storeC (by rfl) (by (conv => lhs; whnf); done) (hC := (by first | infer_instance | fail)) (hB := (by first | infer_instance | fail)) (hp := (by first | infer_instance | fail)) (hu := (by first | infer_instance | fail)) (hf := (by first | infer_instance | fail)) (hlen := (by first | infer_instance | fail)) ?_ | refine s_storeX (by rfl) (by rfl) (hB := (by first | infer_instance | fail)) (hu := (by first | infer_instance | fail)) (hf := (by first | infer_instance | fail)) (hlen := (by first | infer_instance | fail)) (hcs := (by first | infer_instance | fail)) ?_ | refine s_storeW32 (by rfl) (by rfl) (by repeat (first | exact List.mem_cons_self | apply List.mem_cons_of_mem)) (by omega) (hu := (by first | infer_instance | fail)) ?_ | refine s_storeD (by rfl) (by rfl) (by repeat (first | exact List.mem_cons_self | apply List.mem_cons_of_mem)) (by omega) (hu := (by first | infer_instance | fail)) ?_)
      | (refine g_build ?_; first | refine s_build0 ?_ | refine s_buildA0 ?_ | refine b_build1 (by (conv => lhs; whnf); done) (hC0 := (by first | infer_instance | fail)) (hP0 := (by first | infer_instance | fail)) (hl0 := (by first | infer_instance | fail)) ?_ | refine b_build2 (by (conv => lhs; whnf); done) (by (conv => lhs; whnf); done) (hC0 := (by first | infer_instance | fail)) (hC1 := (by first | infer_instance | fail)) (hP0 := (by first | infer_instance | fail)) (hP1 := (by first | infer_instance | fail)) (hl0 := (by first | infer_instance | fail)) (hl1 := (by first | infer_instance | fail)) ?_ | refine b_build3 (by (conv => lhs; whnf); done) (by (conv => lhs; whnf); done) (by (conv => lhs; whnf); done) (hC0 := (by first | infer_instance | fail)) (hC1 := (by first | infer_instance | fail)) (hC2 := (by first | infer_instance | fail)) (hP0 := (by first | infer_instance | fail)) (hP1 := (by first | infer_instance | fail)) (hP2 := (by first | infer_instance | fail)) (hl0 := (by first | infer_instance | fail)) (hl1 := (by first | infer_instance | fail)) (hl2 := (by first | infer_instance | fail)) ?_ | refine b_build4 (by (conv => lhs; whnf); done) (by (conv => lhs; whnf); done) (by (conv => lhs; whnf); done) (by (conv => lhs; whnf); done) (hC0 := (by first | infer_instance | fail)) (hC1 := (by first | infer_instance | fail)) (hC2 := (by first | infer_instance | fail)) (hC3 := (by first | infer_instance | fail)) (hP0 := (by first | infer_instance | fail)) (hP1 := (by first | infer_instance | fail)) (hP2 := (by first | infer_instance | fail)) (hP3 := (by first | infer_instance | fail)) (hl0 := (by first | infer_instance | fail)) (hl1 := (by first | infer_instance | fail)) (hl2 := (by first | infer_instance | fail)) (hl3 := (by first | infer_instance | fail)) ?_ | refine b_build5 (by (conv => lhs; whnf); done) (by (conv => lhs; whnf); done) (by (conv => lhs; whnf); done) (by (conv => lhs; whnf); done) (by (conv => lhs; whnf); done) (hC0 := (by first | infer_instance | fail)) (hC1 := (by first | infer_instance | fail)) (hC2 := (by first | infer_instance | fail)) (hC3 := (by first | infer_instance | fail)) (hC4 := (by first | infer_instance | fail)) (hP0 := (by first | infer_instance | fail)) (hP1 := (by first | infer_instance | fail)) (hP2 := (by first | infer_instance | fail)) (hP3 := (by first | infer_instance | fail)) (hP4 := (by first | infer_instance | fail)) (hl0 := (by first | infer_instance | fail)) (hl1 := (by first | infer_instance | fail)) (hl2 := (by first | infer_instance | fail)) (hl3 := (by first | infer_instance | fail)) (hl4 := (by first | infer_instance | fail)) ?_ | refine b_build6 (by (conv => lhs; whnf); done) (by (conv => lhs; whnf); done) (by (conv => lhs; whnf); done) (by (conv => lhs; whnf); done) (by (conv => lhs; whnf); done) (by (conv => lhs; whnf); done) (hC0 := (by first | infer_instance | fail)) (hC1 := (by first | infer_instance | fail)) (hC2 := (by first | infer_instance | fail)) (hC3 := (by first | infer_instance | fail)) (hC4 := (by first | infer_instance | fail)) (hC5 := (by first | infer_instance | fail)) (hP0 := (by first | infer_instance | fail)) (hP1 := (by first | infer_instance | fail)) (hP2 := (by first | infer_instance | fail)) (hP3 := (by first | infer_instance | fail)) (hP4 := (by first | infer_instance | fail)) (hP5 := (by first | infer_instance | fail)) (hl0 := (by first | infer_instance | fail)) (hl1 := (by first | infer_instance | fail)) (hl2 := (by first | infer_instance | fail)) (hl3 := (by first | infer_instance | fail)) (hl4 := (by first | infer_instance | fail)) (hl5 := (by first | infer_instance | fail)) ?_ | refine b_build7 (by (conv => lhs; whnf); done) (by (conv => lhs; whnf); done) (by (conv => lhs; whnf); done) (by (conv => lhs; whnf); done) (by (conv => lhs; whnf); done) (by (conv => lhs; whnf); done) (by (conv => lhs; whnf); done) (hC0 := (by first | infer_instance | fail)) (hC1 := (by first | infer_instance | fail)) (hC2 := (by first | infer_instance | fail)) (hC3 := (by first | infer_instance | fail)) (hC4 := (by first | infer_instance | fail)) (hC5 := (by first | infer_instance | fail)) (hC6 := (by first | infer_instance | fail)) (hP0 := (by first | infer_instance | fail)) (hP1 := (by first | infer_instance | fail)) (hP2 := (by first | infer_instance | fail)) (hP3 := (by first | infer_instance | fail)) (hP4 := (by first | infer_instance | fail)) (hP5 := (by first | infer_instance | fail)) (hP6 := (by first | infer_instance | fail)) (hl0 := (by first | infer_instance | fail)) (hl1 := (by first | infer_instance | fail)) (hl2 := (by first | infer_instance | fail)) (hl3 := (by first | infer_instance | fail)) (hl4 := (by first | infer_instance | fail)) (hl5 := (by first | infer_instance | fail)) (hl6 := (by first | infer_instance | fail)) ?_ | refine b_build8 (by (conv => lhs; whnf); done) (by (conv => lhs; whnf); done) (by (conv => lhs; whnf); done) (by (conv => lhs; whnf); done) (by (conv => lhs; whnf); done) (by (conv => lhs; whnf); done) (by (conv => lhs; whnf); done) (by (conv => lhs; whnf); done) (hC0 := (by first | infer_instance | fail)) (hC1 := (by first | infer_instance | fail)) (hC2 := (by first | infer_instance | fail)) (hC3 := (by first | infer_instance | fail)) (hC4 := (by first | infer_instance | fail)) (hC5 := (by first | infer_instance | fail)) (hC6 := (by first | infer_instance | fail)) (hC7 := (by first | infer_instance | fail)) (hP0 := (by first | infer_instance | fail)) (hP1 := (by first | infer_instance | fail)) (hP2 := (by first | infer_instance | fail)) (hP3 := (by first | infer_instance | fail)) (hP4 := (by first | infer_instance | fail)) (hP5 := (by first | infer_instance | fail)) (hP6 := (by first | infer_instance | fail)) (hP7 := (by first | infer_instance | fail)) (hl0 := (by first | infer_instance | fail)) (hl1 := (by first | infer_instance | fail)) (hl2 := (by first | infer_instance | fail)) (hl3 := (by first | infer_instance | fail)) (hl4 := (by first | infer_instance | fail)) (hl5 := (by first | infer_instance | fail)) (hl6 := (by first | infer_instance | fail)) (hl7 := (by first | infer_instance | fail)) ?_)
      | (refine g_slice ?_; first | refine s_cutL (by rfl) (by rfl) (by omega) ?_ | refine s_cutH (by rfl) (by rfl) (by omega) ?_ | refine s_cutS (by (conv => lhs; whnf); done) (by rfl) (by rfl) (jx := (by first | infer_instance | fail)) (by omega) (by omega) (by omega) ?_ | refine s_cutSL (by (conv => lhs; whnf); done) (by rfl) (jx := (by first | infer_instance | fail)) (by omega) (by omega) ?_ | refine s_sliceD (by rfl) ?_)
      | (refine g_conv ?_; first | refine s_convB (by rfl) ?_ | refine s_convW (by rfl) ?_ | refine s_convU (by rfl) (by omega) ?_ | refine s_strB (by rfl) ?_ | refine s_strBox (by rfl) (by repeat (first | exact List.mem_cons_self | apply List.mem_cons_of_mem)) (hs := (by first | infer_instance | fail)) ?_)
      | (refine g_index ?_; first | refine s_indexS (by (conv => lhs; whnf); done) (by rfl) (jx := (by first | infer_instance | fail)) (by omega) ?_)
      | (refine g_nck ?_; first | refine s_nilCheckP (by rfl) ?_)
      | refine pwp_seq ?_
      | refine pwp_region (by kernel_rfl) ?_
      | refine pwp_block ?_
      | refine pwp_skip ?_
      | refine pwp_ret ?_
      | refine pwp_exit ?_
      | refine pwp_drawQ (by decide +kernel) ?_
      | refine pwp_condT (by rfl) ?_
      | refine pwp_condF (by rfl) ?_)
    exact hB.out) : A := h ⟨k⟩
/-- Up to a new list with one element that may grow, and on. -/
theorem walkt {A : Prop} {B : Tag → Prop} (k : ∀ t, B t) (h : WrapF B → A := by
    intro hB
    refine walkx ?_
    refine s_bsT1 (by (conv => lhs; whnf); done) (hC0 := (by first | infer_instance | fail)) (hf := (by first | infer_instance | fail)) (by decide) fun t => ?_
    refine walk ?_
    exact hB.out t) : A := h ⟨k⟩
/-- The same, from within a region. -/
theorem walktp {A : Prop} {B : Tag → Prop} (k : ∀ t, B t) (h : WrapF B → A := by
    intro hB
    refine walkt fun t => ?_
    exact hB.out t) : A := h ⟨k⟩
theorem holdsB {s : Nat} {v t : Bool} (h : ρ s = .raw (.bool v)) (e : v = t) : ρ s = .raw (.bool t) := e ▸ h
end
end Go.Q
/- Contracts: why the fields of a change are not allowed; explicit dependencies (the reference's layer 16). -/
namespace Go.Proofs
open Go Go.Q
attribute [local irreducible] pwp pops PCalls OpN

def rFields (c : Chg) : Int :=
  if c.kind < 1 ∨ 7 < c.kind then 8 else
  if rEmpty (rRest c) = false then 1 else
  if c.kind = 1 ∧ (c.type < 1 ∨ 4 < c.type) then 8 else
  if c.kind = 2 ∧ rName c.name = false then 5 else
  if c.kind = 3 ∧ (c.mode < 0 ∨ 511 < c.mode) then 2 else
  if 65536 < (c.data.length : Int) then 4 else
  if c.kind = 5 then rLines c.lines else
  if c.kind = 7 ∧ (c.over.length : Int) = 0 then 1 else
  if 400 < (c.over.length : Int) then 4 else
  if rAsc c.over = false then 9 else 0
set_option maxHeartbeats 1000000 in
instance fields_ct (c : Chg) : FnC Tryz.prog 224 [.agg (eChg c)] (.raw (.int .i64 (rFields c))) := ⟨by
  refine fn_of Tryz.func224 Tryz.ntmps224 rfl (rs := [.tmp 2]) rfl rfl fun hb LF => ?_
  refine walkb fun b => ?_
  refine pops_cutE [(10, .raw (.bool (decide (c.kind < 1 ∨ 7 < c.kind)))), (1, .raw (.pointer (some ⟨b, 0, none⟩)))] (.box b 119 (eChg c) :: LF) ?_ ?_
  · repeat' (first | (refine pwp_condD (fun h => ?_) (fun h => ?_) <;> refine walk ?_) | (refine pwp_condN (fun h => ?_) (fun h => ?_) <;> refine walk ?_) | (refine pwp_condB (fun h => ?_) (fun h => ?_) <;> refine walk ?_) | (refine pops_if (fun h => ?_) (fun h => ?_) <;> (have h2 := h; (try simp only [decide_eq_true_eq, decide_eq_false_iff_not, Bool.not_eq_true', Bool.not_eq_false'] at h2); refine walkp ?_)))
    all_goals (refine ⟨⟨holdsB (by rfl) ?_, rfl⟩, .refl _⟩; first | (simp_all; done) | (simp_all; omega) | grind)
  refine walk ?_
  refine pwp_condD (fun h1 => ?_) (fun h1 => ?_)
  · refine walk ?_
    refine end1 (.of_eq ?_)
    rw [rFields, if_pos h1]
  refine walk ?_
  refine pwp_condB (fun h2 => ?_) (fun h2 => ?_)
  · refine walk ?_
    refine end1 (.of_eq ?_)
    simp only [Bool.not_eq_true'] at h2
    rw [rFields, if_neg h1, if_pos h2]
  replace h2 : ¬ rEmpty (rRest c) = false := by simpa using h2
  refine walk ?_
  refine pops_cutE [(27, .raw (.bool (decide (c.kind = 1 ∧ (c.type < 1 ∨ 4 < c.type))))), (1, .raw (.pointer (some ⟨b, 0, none⟩)))] (.box b 119 (eChg c) :: LF) ?_ ?_
  · repeat' (first | (refine pwp_condD (fun h => ?_) (fun h => ?_) <;> refine walk ?_) | (refine pwp_condN (fun h => ?_) (fun h => ?_) <;> refine walk ?_) | (refine pwp_condB (fun h => ?_) (fun h => ?_) <;> refine walk ?_) | (refine pops_if (fun h => ?_) (fun h => ?_) <;> (have h2 := h; (try simp only [decide_eq_true_eq, decide_eq_false_iff_not, Bool.not_eq_true', Bool.not_eq_false'] at h2); refine walkp ?_)))
    all_goals (refine ⟨⟨holdsB (by rfl) ?_, rfl⟩, .refl _⟩; first | (simp_all; done) | (simp_all; omega) | grind)
  refine walk ?_
  refine pwp_condD (fun h3 => ?_) (fun h3 => ?_)
  · refine walk ?_
    refine end1 (.of_eq ?_)
    rw [rFields, if_neg h1, if_neg h2, if_pos h3]
  refine walk ?_
  refine pops_cutE [(36, .raw (.bool (decide (c.kind = 2 ∧ rName c.name = false)))), (1, .raw (.pointer (some ⟨b, 0, none⟩)))] (.box b 119 (eChg c) :: LF) ?_ ?_
  · repeat' (first | (refine pwp_condD (fun h => ?_) (fun h => ?_) <;> refine walk ?_) | (refine pwp_condN (fun h => ?_) (fun h => ?_) <;> refine walk ?_) | (refine pwp_condB (fun h => ?_) (fun h => ?_) <;> refine walk ?_) | (refine pops_if (fun h => ?_) (fun h => ?_) <;> (have h2 := h; (try simp only [decide_eq_true_eq, decide_eq_false_iff_not, Bool.not_eq_true', Bool.not_eq_false'] at h2); refine walkp ?_)))
    all_goals (refine ⟨⟨holdsB (by rfl) ?_, rfl⟩, .refl _⟩; first | (simp_all; done) | (simp_all; omega) | grind)
  refine walk ?_
  refine pwp_condD (fun h4 => ?_) (fun h4 => ?_)
  · refine walk ?_
    refine end1 (.of_eq ?_)
    rw [rFields, if_neg h1, if_neg h2, if_neg h3, if_pos h4]
  refine walk ?_
  refine pops_cutE [(49, .raw (.bool (decide (c.kind = 3 ∧ (c.mode < 0 ∨ 511 < c.mode))))), (1, .raw (.pointer (some ⟨b, 0, none⟩)))] (.box b 119 (eChg c) :: LF) ?_ ?_
  · repeat' (first | (refine pwp_condD (fun h => ?_) (fun h => ?_) <;> refine walk ?_) | (refine pwp_condN (fun h => ?_) (fun h => ?_) <;> refine walk ?_) | (refine pwp_condB (fun h => ?_) (fun h => ?_) <;> refine walk ?_) | (refine pops_if (fun h => ?_) (fun h => ?_) <;> (have h2 := h; (try simp only [decide_eq_true_eq, decide_eq_false_iff_not, Bool.not_eq_true', Bool.not_eq_false'] at h2); refine walkp ?_)))
    all_goals (refine ⟨⟨holdsB (by rfl) ?_, rfl⟩, .refl _⟩; first | (simp_all; done) | (simp_all; omega) | grind)
  refine walk ?_
  refine pwp_condD (fun h5 => ?_) (fun h5 => ?_)
  · refine walk ?_
    refine end1 (.of_eq ?_)
    rw [rFields, if_neg h1, if_neg h2, if_neg h3, if_neg h4, if_pos h5]
  refine walk ?_
  refine pwp_condD (fun h6 => ?_) (fun h6 => ?_)
  · refine walk ?_
    refine end1 (.of_eq ?_)
    rw [rFields, if_neg h1, if_neg h2, if_neg h3, if_neg h4, if_neg h5, if_pos h6]
  refine walk ?_
  refine pwp_condD (fun h7 => ?_) (fun h7 => ?_)
  · refine walk ?_
    refine end1 (.of_eq ?_)
    rw [rFields, if_neg h1, if_neg h2, if_neg h3, if_neg h4, if_neg h5, if_neg h6, if_pos h7]
  refine walk ?_
  refine pops_cutE [(68, .raw (.bool (decide (c.kind = 7 ∧ (c.over.length : Int) = 0)))), (1, .raw (.pointer (some ⟨b, 0, none⟩)))] (.box b 119 (eChg c) :: LF) ?_ ?_
  · repeat' (first | (refine pwp_condD (fun h => ?_) (fun h => ?_) <;> refine walk ?_) | (refine pwp_condN (fun h => ?_) (fun h => ?_) <;> refine walk ?_) | (refine pwp_condB (fun h => ?_) (fun h => ?_) <;> refine walk ?_) | (refine pops_if (fun h => ?_) (fun h => ?_) <;> (have h2 := h; (try simp only [decide_eq_true_eq, decide_eq_false_iff_not, Bool.not_eq_true', Bool.not_eq_false'] at h2); refine walkp ?_)))
    all_goals (refine ⟨⟨holdsB (by rfl) ?_, rfl⟩, .refl _⟩; first | (simp_all; done) | (simp_all; omega) | grind)
  refine walk ?_
  refine pwp_condD (fun h8 => ?_) (fun h8 => ?_)
  · refine walk ?_
    refine end1 (.of_eq ?_)
    rw [rFields, if_neg h1, if_neg h2, if_neg h3, if_neg h4, if_neg h5, if_neg h6, if_neg h7, if_pos h8]
  refine walk ?_
  refine pwp_condD (fun h9 => ?_) (fun h9 => ?_)
  · refine walk ?_
    refine end1 (.of_eq ?_)
    rw [rFields, if_neg h1, if_neg h2, if_neg h3, if_neg h4, if_neg h5, if_neg h6, if_neg h7, if_neg h8, if_pos h9]
  refine walk ?_
  refine pwp_condB (fun h => ?_) (fun h => ?_)
  · refine walk ?_
    refine end1 (.of_eq ?_)
    simp only [Bool.not_eq_true'] at h
    rw [rFields, if_neg h1, if_neg h2, if_neg h3, if_neg h4, if_neg h5, if_neg h6, if_neg h7, if_neg h8, if_neg h9, if_pos h]
  · refine walk ?_
    refine end1 (.of_eq ?_)
    replace h : ¬ rAsc c.over = false := by simpa using h
    rw [rFields, if_neg h1, if_neg h2, if_neg h3, if_neg h4, if_neg h5, if_neg h6, if_neg h7, if_neg h8, if_neg h9, if_neg h]⟩
end Go.Proofs
/- Contracts: why the references of a change are not allowed; explicit dependencies (the reference's layer 16). -/
namespace Go.Proofs
open Go Go.Q
attribute [local irreducible] pwp pops PCalls OpN

/-- The first error of some. -/
def firstErr {α : Type} (f : α → Int) : List α → Int
  | [] => 0
  | x :: l => if f x = 0 then firstErr f l else f x
theorem firstErr_zero {α : Type} {f : α → Int} : ∀ {l : List α}, (∀ i (h : i < l.length), f l[i] = 0) → firstErr f l = 0
  | [], _ => rfl
  | x :: l, h => by
    have h0 := h 0 (by simp)
    simp only [List.getElem_cons_zero] at h0
    rw [firstErr, if_pos h0]
    exact firstErr_zero fun i hi => by have := h (i + 1) (by simpa using hi); simpa using this
theorem firstErr_at {α : Type} {f : α → Int} : ∀ {l : List α} {k : Nat} (hk : k < l.length), (∀ i (h : i < l.length), i < k → f l[i] = 0) → f l[k] ≠ 0 → firstErr f l = f l[k]
  | x :: l, 0, hk, _, hn => by simp only [List.getElem_cons_zero] at hn ⊢; rw [firstErr, if_neg hn]
  | x :: l, k + 1, hk, h, hn => by
    have h0 := h 0 (by simp) (by omega)
    simp only [List.getElem_cons_zero] at h0
    simp only [List.getElem_cons_succ] at hn ⊢
    rw [firstErr, if_pos h0]
    exact firstErr_at (by simpa using hk) (fun i hi hik => by have := h (i + 1) (by simpa using hi) (by omega); simpa using this) hn
theorem upto_succ0 {α : Type} {l : List α} {f : α → Int} {k : Nat} (he : ∀ i (h : i < l.length), i < k → f l[i] = 0) (hk : k < l.length) (h : f l[k] = 0) : ∀ i (h : i < l.length), i < k + 1 → f l[i] = 0 := fun i hi hik => by
  rcases Nat.lt_or_ge i k with h' | h'
  · exact he i hi h'
  · have : i = k := by omega
    subst this; exact h

def rRoot : Ident := ⟨Dig.zero, -1⟩
def rRefF (c : Chg) (own : List Atm) : Int := if 2 ≤ c.kind ∧ c.kind ≤ 6 then rOne c.file own (rFitsFile c.kind (rGet own c.file)) else 0
def rRefP (c : Chg) (own : List Atm) : Int := if c.kind = 2 ∧ c.parent ≠ rRoot then rOne c.parent own (rDirectory (rGet own c.parent)) else 0
def rRefE (c : Chg) (own : List Atm) (x : Ident) : Int := rOne x own (decide (x = c.file) || rFitsEnd c.file (rGet own x))
def rRefO (c : Chg) (own : List Atm) (x : Ident) : Int := rOne x own (rFitsOver c.kind c.file (rGet own x))
def rRefEs (c : Chg) (own : List Atm) : Int := if rText c.kind = true then firstErr (rRefE c own) [c.after, c.before] else 0
def rRefs (c : Chg) (own : List Atm) : Int :=
  if rRefF c own ≠ 0 then rRefF c own else if rRefP c own ≠ 0 then rRefP c own else if rRefEs c own ≠ 0 then rRefEs c own else
  if firstErr (rRefO c own) c.over ≠ 0 then firstErr (rRefO c own) c.over else if c.kind = 2 ∧ c.parent = c.file then 20 else
  if (rText c.kind = true ∧ c.after = c.before) ∧ (c.kind = 6 ∨ c.after ≠ c.file) then 1 else 0

set_option maxHeartbeats 2000000 in
instance references_ct (c : Chg) (own : List Atm) (t : Tag) : FnC Tryz.prog 225 [.agg (eChg c), .slice (own.map eAtm) t] (.raw (.int .i64 (rRefs c own))) := ⟨by
  refine fn_of Tryz.func225 Tryz.ntmps225 rfl (rs := [.tmp 4]) rfl rfl fun hb LF => ?_
  have hlen : c.over.length ≤ 140737488355328 := ((hb (.agg (eChg c)) (by simp)).agg_at (c := .slice (c.over.map eIdent) .ro) (by simp [eChg])).slice_map
  refine walkb fun b => ?_
  refine pops_cutE [(20, .raw (.bool (decide (2 ≤ c.kind ∧ c.kind ≤ 6)))), (1, .slice (own.map eAtm) t), (2, .raw (.pointer (some ⟨b, 0, none⟩)))] (.box b 119 (eChg c) :: LF) ?_ ?_
  · repeat' (first | (refine pwp_condD (fun h => ?_) (fun h => ?_) <;> refine walk ?_) | (refine pwp_condN (fun h => ?_) (fun h => ?_) <;> refine walk ?_) | (refine pwp_condB (fun h => ?_) (fun h => ?_) <;> refine walk ?_) | (refine pops_if (fun h => ?_) (fun h => ?_) <;> (have h2 := h; (try simp only [decide_eq_true_eq, decide_eq_false_iff_not, Bool.not_eq_true', Bool.not_eq_false'] at h2); refine walkp ?_)))
    all_goals (refine ⟨⟨holdsB (by rfl) ?_, rfl, rfl⟩, .refl _⟩; first | (simp_all; done) | (simp_all; omega) | grind)
  refine walk ?_
  refine pwp_join (rRefF c own = 0) [(1, .slice (own.map eAtm) t), (2, .raw (.pointer (some ⟨b, 0, none⟩)))] (.box b 119 (eChg c) :: LF) ?_ fun hF => ?_
  · refine pwp_condD (fun h => ?_) (fun h => ?_)
    · refine walk ?_
      have e : rRefF c own = rOne c.file own (rFitsFile c.kind (rGet own c.file)) := by rw [rRefF, if_pos h]
      refine pwp_condN (fun h' => ?_) (fun h' => ?_)
      · refine walk ?_
        refine end1 (.of_eq ?_)
        rw [rRefs, if_pos (by rw [e]; exact h'), e]
      · refine walk ?_
        exact ⟨e.trans h', ⟨rfl, rfl⟩, .refl _⟩
    · refine walk ?_
      exact ⟨by rw [rRefF, if_neg h], ⟨rfl, rfl⟩, .refl _⟩
  refine walk ?_
  refine pops_cutE [(43, .raw (.bool (decide (c.kind = 2 ∧ c.parent ≠ rRoot)))), (1, .slice (own.map eAtm) t), (2, .raw (.pointer (some ⟨b, 0, none⟩)))] (.box b 119 (eChg c) :: LF) ?_ ?_
  · repeat' (first | (refine pwp_condD (fun h => ?_) (fun h => ?_) <;> refine walk ?_) | (refine pwp_condN (fun h => ?_) (fun h => ?_) <;> refine walk ?_) | (refine pwp_condB (fun h => ?_) (fun h => ?_) <;> refine walk ?_) | (refine pops_if (fun h => ?_) (fun h => ?_) <;> (have h2 := h; (try simp only [decide_eq_true_eq, decide_eq_false_iff_not, Bool.not_eq_true', Bool.not_eq_false'] at h2); refine walkp ?_)))
    all_goals (refine ⟨⟨holdsB (by rfl) ?_, rfl, rfl⟩, .refl _⟩; simp_all [rRoot])
  refine walk ?_
  refine pwp_join (rRefP c own = 0) [(1, .slice (own.map eAtm) t), (2, .raw (.pointer (some ⟨b, 0, none⟩)))] (.box b 119 (eChg c) :: LF) ?_ fun hP => ?_
  · refine pwp_condD (fun h => ?_) (fun h => ?_)
    · refine walkb fun b2 => ?_
      have e : rRefP c own = rOne c.parent own (rDirectory (rGet own c.parent)) := by rw [rRefP, if_pos h]
      refine pops_if (fun hp => ?_) (fun hp => ?_)
      · refine walkp ?_
        have e2 : rDirectory (rGet own c.parent) = decide ((rGet own c.parent).type = 4) := by rw [rDirectory, hp, Bool.true_and]
        rw [e2] at e
        refine pwp_condN (fun h' => ?_) (fun h' => ?_)
        · refine walk ?_
          refine end1 (.of_eq ?_)
          rw [rRefs, if_neg (by simp [hF]), if_pos (by rw [e]; exact h'), e]
        · refine walk ?_
          exact ⟨e.trans h', ⟨rfl, rfl⟩, .cons _ (.refl _)⟩
      · refine walkp ?_
        have e2 : rDirectory (rGet own c.parent) = false := by rw [rDirectory, hp, Bool.false_and]
        rw [e2] at e
        refine pwp_condN (fun h' => ?_) (fun h' => ?_)
        · refine walk ?_
          refine end1 (.of_eq ?_)
          rw [rRefs, if_neg (by simp [hF]), if_pos (by rw [e]; exact h'), e]
        · refine walk ?_
          exact ⟨e.trans h', ⟨rfl, rfl⟩, .cons _ (.refl _)⟩
    · refine walk ?_
      exact ⟨by rw [rRefP, if_neg h], ⟨rfl, rfl⟩, .refl _⟩
  refine walk ?_
  refine pwp_join (rRefEs c own = 0) [(1, .slice (own.map eAtm) t), (2, .raw (.pointer (some ⟨b, 0, none⟩)))] (.box b 119 (eChg c) :: LF) ?_ fun hE => ?_
  · refine pwp_condB (fun h => ?_) (fun h => ?_)
    · refine walk ?_
      have e : rRefEs c own = firstErr (rRefE c own) [c.after, c.before] := by rw [rRefEs, if_pos h]
      generalize hends : [c.after, c.before] = ends at e
      have hl2 : ends.length = 2 := by rw [← hends]; rfl
      refine pwp_loopS (σ := Nat) (fun k => k ≤ 2 ∧ ∀ i (h : i < ends.length), i < k → rRefE c own ends[i] = 0) (fun k => 2 - k) (fun k => [(1, .slice (own.map eAtm) t), (2, .raw (.pointer (some ⟨b, 0, none⟩))), (8, .slice (ends.map eIdent) .ro), (9, .raw (.int .i64 k))]) (fun _ => .box b 119 (eChg c) :: LF) 0 ⟨by simp, by simp⟩ ⟨rfl, rfl, by rw [← hends]; rfl, rfl⟩ (.refl _) ?_
      rintro k ⟨hk, he⟩
      refine walk ?_
      refine pwp_condD (fun hc => ?_) (fun hc => ?_)
      · have hlt : k < ends.length := by omega
        refine walk ?_
        refine pops_if (fun hp => ?_) (fun hp => ?_)
        · refine walkp ?_
          have e2 : rRefE c own ends[k] = rOne ends[k] own true := by rw [rRefE, hp, Bool.true_or]
          refine pwp_condN (fun h' => ?_) (fun h' => ?_)
          · refine walk ?_
            refine end1 (.of_eq ?_)
            have e3 : rRefEs c own = rOne ends[k] own true := by rw [e, firstErr_at hlt he (by rw [e2]; exact h'), e2]
            rw [rRefs, if_neg (by simp [hF]), if_neg (by simp [hP]), if_pos (by rw [e3]; exact h'), e3]
          · refine walk ?_
            exact ⟨k + 1, ⟨by omega, upto_succ0 he hlt (e2.trans h')⟩, by dsimp only; omega, ⟨rfl, rfl, rfl, rfl⟩, .refl _⟩
        · refine walkp ?_
          have e2 : rRefE c own ends[k] = rOne ends[k] own (rFitsEnd c.file (rGet own ends[k])) := by rw [rRefE, hp, Bool.false_or]
          refine pwp_condN (fun h' => ?_) (fun h' => ?_)
          · refine walk ?_
            refine end1 (.of_eq ?_)
            have e3 : rRefEs c own = rOne ends[k] own (rFitsEnd c.file (rGet own ends[k])) := by rw [e, firstErr_at hlt he (by rw [e2]; exact h'), e2]
            rw [rRefs, if_neg (by simp [hF]), if_neg (by simp [hP]), if_pos (by rw [e3]; exact h'), e3]
          · refine walk ?_
            exact ⟨k + 1, ⟨by omega, upto_succ0 he hlt (e2.trans h')⟩, by dsimp only; omega, ⟨rfl, rfl, rfl, rfl⟩, .refl _⟩
      · refine walk ?_
        exact ⟨by rw [e, firstErr_zero fun i h => he i h (by omega)], ⟨rfl, rfl⟩, .refl _⟩
    · refine walk ?_
      exact ⟨by rw [rRefEs, if_neg (by simp [h])], ⟨rfl, rfl⟩, .refl _⟩
  refine walk ?_
  refine pwp_loopS (σ := Nat) (fun k => k ≤ c.over.length ∧ ∀ i (h : i < c.over.length), i < k → rRefO c own c.over[i] = 0) (fun k => c.over.length - k) (fun k => [(1, .slice (own.map eAtm) t), (2, .raw (.pointer (some ⟨b, 0, none⟩))), (11, .raw (.int .i64 k))]) (fun _ => .box b 119 (eChg c) :: LF) 0 ⟨by simp, by simp⟩ ⟨rfl, rfl, rfl⟩ (.refl _) ?_
  rintro k ⟨hk, he⟩
  refine walk ?_
  refine pwp_condD (fun hc => ?_) (fun hc => ?_)
  · have hlt : k < c.over.length := by omega
    refine walk ?_
    refine pwp_condN (fun h' => ?_) (fun h' => ?_)
    · refine walk ?_
      refine end1 (.of_eq ?_)
      have e3 : firstErr (rRefO c own) c.over = rRefO c own c.over[k] := firstErr_at hlt he h'
      rw [rRefs, if_neg (by simp [hF]), if_neg (by simp [hP]), if_neg (by simp [hE]), if_pos (by rw [e3]; exact h'), e3]; rfl
    · refine walk ?_
      exact ⟨k + 1, ⟨by omega, upto_succ0 he hlt h'⟩, by dsimp only; omega, ⟨rfl, rfl, rfl⟩, .refl _⟩
  have hO : firstErr (rRefO c own) c.over = 0 := firstErr_zero fun i h => he i h (by omega)
  refine walk ?_
  refine pops_cutE [(140, .raw (.bool (decide (c.kind = 2 ∧ c.parent = c.file)))), (2, .raw (.pointer (some ⟨b, 0, none⟩)))] (.box b 119 (eChg c) :: LF) ?_ ?_
  · repeat' (first | (refine pwp_condD (fun h => ?_) (fun h => ?_) <;> refine walk ?_) | (refine pwp_condN (fun h => ?_) (fun h => ?_) <;> refine walk ?_) | (refine pwp_condB (fun h => ?_) (fun h => ?_) <;> refine walk ?_) | (refine pops_if (fun h => ?_) (fun h => ?_) <;> (have h2 := h; (try simp only [decide_eq_true_eq, decide_eq_false_iff_not, Bool.not_eq_true', Bool.not_eq_false'] at h2); refine walkp ?_)))
    all_goals (refine ⟨⟨holdsB (by rfl) ?_, rfl⟩, .refl _⟩; first | (simp_all; done) | (simp_all; omega) | grind)
  refine walk ?_
  refine pwp_condD (fun h1 => ?_) (fun h1 => ?_)
  · refine walk ?_
    refine end1 (.of_eq ?_)
    rw [rRefs, if_neg (by simp [hF]), if_neg (by simp [hP]), if_neg (by simp [hE]), if_neg (by simp [hO]), if_pos h1]
  refine walk ?_
  refine pops_cutE [(162, .raw (.bool (decide ((rText c.kind = true ∧ c.after = c.before) ∧ (c.kind = 6 ∨ c.after ≠ c.file))))), (2, .raw (.pointer (some ⟨b, 0, none⟩)))] (.box b 119 (eChg c) :: LF) ?_ ?_
  · repeat' (first | (refine pwp_condD (fun h => ?_) (fun h => ?_) <;> refine walk ?_) | (refine pwp_condN (fun h => ?_) (fun h => ?_) <;> refine walk ?_) | (refine pwp_condB (fun h => ?_) (fun h => ?_) <;> refine walk ?_) | (refine pops_if (fun h => ?_) (fun h => ?_) <;> (have h2 := h; (try simp only [decide_eq_true_eq, decide_eq_false_iff_not, Bool.not_eq_true', Bool.not_eq_false'] at h2); refine walkp ?_)))
    all_goals (refine ⟨⟨holdsB (by rfl) ?_, rfl⟩, .refl _⟩; first | (simp_all; done) | (simp_all; omega) | grind)
  refine walk ?_
  refine pwp_condD (fun h2 => ?_) (fun h2 => ?_)
  · refine walk ?_
    refine end1 (.of_eq ?_)
    rw [rRefs, if_neg (by simp [hF]), if_neg (by simp [hP]), if_neg (by simp [hE]), if_neg (by simp [hO]), if_neg h1, if_pos h2]
  · refine walk ?_
    refine end1 (.of_eq ?_)
    rw [rRefs, if_neg (by simp [hF]), if_neg (by simp [hP]), if_neg (by simp [hE]), if_neg (by simp [hO]), if_neg h1, if_neg h2]⟩
end Go.Proofs
/- Contracts: explicit dependencies; the atoms of a change (the reference's layer 16). -/
namespace Go.Proofs
open Go Go.Q
attribute [local irreducible] pwp pops PCalls OpN

def rDepE (l : List Dig) (i : Nat) : Int := if l.getD i Dig.zero = Dig.zero then 1 else if 0 < (i : Int) ∧ 0 ≤ cmpD (l.getD (i - 1) Dig.zero) (l.getD i Dig.zero) then 9 else 0
def rDeps (l : List Dig) : Int := if 100 < (l.length : Int) then 4 else firstErr (rDepE l) (List.range l.length)
instance deps_ct (l : List Dig) (t : Tag) : FnC Tryz.prog 188 [.slice (l.map eDig) t] (.raw (.int .i64 (rDeps l))) := ⟨by
  refine fn_of Tryz.func188 Tryz.ntmps188 rfl (rs := [.tmp 2]) rfl rfl fun hb LF => ?_
  have hlen : l.length ≤ 140737488355328 := (hb (.slice (l.map eDig) t) (by simp)).slice_map
  refine walk ?_
  refine pwp_condD (fun h1 => ?_) (fun h1 => ?_)
  · refine walk ?_
    refine end1 (.of_eq ?_)
    rw [rDeps, if_pos h1]
  refine walk ?_
  refine pwp_loopS (σ := Nat) (fun k => k ≤ l.length ∧ ∀ i (h : i < (List.range l.length).length), i < k → rDepE l (List.range l.length)[i] = 0) (fun k => l.length - k) (fun k => [(0, .slice (l.map eDig) t), (3, .raw (.int .i64 k))]) (fun _ => LF) 0 ⟨by simp, by simp⟩ ⟨rfl, rfl⟩ (.refl _) ?_
  rintro k ⟨hk, he⟩
  refine walk ?_
  refine pwp_condD (fun hc => ?_) (fun hc => ?_)
  · have hlt : k < l.length := by omega
    have hltr : k < (List.range l.length).length := by simpa using hlt
    have ek : (List.range l.length)[k] = k := by simp
    have e0 : l.getD k Dig.zero = l[k] := by simp [List.getD, hlt]
    refine walk ?_
    refine pwp_condD (fun h2 => ?_) (fun h2 => ?_)
    · refine walk ?_
      refine end1 (.of_eq ?_)
      have e : rDepE l (List.range l.length)[k] = 1 := by rw [ek, rDepE, e0, if_pos h2]
      rw [rDeps, if_neg h1, firstErr_at hltr he (by rw [e]; decide), e]
    refine walk ?_
    refine pops_if (fun hp => ?_) (fun hp => ?_)
    · have hp' : 0 < (k : Int) := of_decide_eq_true hp
      refine walkp ?_
      have e1 : l.getD (k - 1) Dig.zero = l[((k : Int) - 1).toNat] := by
        have : ((k : Int) - 1).toNat = k - 1 := by omega
        simp only [this]
        have h' : k - 1 < l.length := by omega
        simp [List.getD, h']
      refine pwp_condD (fun h3 => ?_) (fun h3 => ?_)
      · refine walk ?_
        refine end1 (.of_eq ?_)
        have e : rDepE l (List.range l.length)[k] = 9 := by rw [ek, rDepE, e0, e1, if_neg h2, if_pos ⟨hp', h3⟩]
        rw [rDeps, if_neg h1, firstErr_at hltr he (by rw [e]; decide), e]
      · refine walk ?_
        have e : rDepE l (List.range l.length)[k] = 0 := by rw [ek, rDepE, e0, e1, if_neg h2, if_neg (fun h => h3 h.2)]
        exact ⟨k + 1, ⟨by omega, upto_succ0 he hltr e⟩, by dsimp only; omega, ⟨rfl, rfl⟩, .refl _⟩
    · have hp' : ¬ 0 < (k : Int) := of_decide_eq_false hp
      refine walkp ?_
      have e : rDepE l (List.range l.length)[k] = 0 := by rw [ek, rDepE, e0, if_neg h2, if_neg (fun h => hp' h.1)]
      exact ⟨k + 1, ⟨by omega, upto_succ0 he hltr e⟩, by dsimp only; omega, ⟨rfl, rfl⟩, .refl _⟩
  · refine walk ?_
    refine end1 (.of_eq ?_)
    rw [rDeps, if_neg h1, firstErr_zero fun i h => he i h (by simp at h; omega)]⟩

def rLineA (c : Chg) (first : Int) (i : Nat) : Atm := { Atm.zero with id := ⟨Dig.zero, first + i⟩, kind := 5, file := c.file, text := c.lines.getD i [] }
def rEdgeA (c : Chg) (first : Int) (i : Nat) : Atm := { Atm.zero with id := ⟨Dig.zero, first + c.lines.length + i⟩, kind := 6, file := c.file, src := if 0 < (i : Int) then ⟨Dig.zero, first + i - 1⟩ else c.after, dst := if (i : Int) < c.lines.length then ⟨Dig.zero, first + i⟩ else c.before }
def rMade (c : Chg) (first : Int) : List Atm :=
  if c.kind = 1 then [{ Atm.zero with id := ⟨Dig.zero, first⟩, kind := 1, file := ⟨Dig.zero, first⟩, type := c.type }] else
  if c.kind = 2 then [{ Atm.zero with id := ⟨Dig.zero, first⟩, kind := 2, file := c.file, parent := c.parent, name := c.name, over := c.over }] else
  if c.kind = 3 then [{ Atm.zero with id := ⟨Dig.zero, first⟩, kind := 3, file := c.file, mode := c.mode, over := c.over }] else
  if c.kind = 4 then [{ Atm.zero with id := ⟨Dig.zero, first⟩, kind := 4, file := c.file, data := c.data, over := c.over }] else
  if c.kind = 6 then [{ Atm.zero with id := ⟨Dig.zero, first⟩, kind := 6, file := c.file, src := c.after, dst := c.before, over := c.over }] else
  if c.kind = 7 then [{ Atm.zero with id := ⟨Dig.zero, first⟩, kind := 7, over := c.over }] else
  (List.range c.lines.length).map (rLineA c first) ++ (List.range (c.lines.length + 1)).map (rEdgeA c first)
theorem rMade_len (c : Chg) (first : Int) : (rMade c first).length ≤ 2 * c.lines.length + 1 := by
  unfold rMade
  repeat' split
  all_goals first | (simp only [List.length_cons, List.length_nil]; omega) | (simp only [List.length_append, List.length_map, List.length_range]; omega)

set_option maxHeartbeats 2000000 in
instance Made_ct (c : Chg) (first : Int) [hs : Small (c.lines.length ≤ 2000 ∧ 0 ≤ first ∧ first ≤ 1000000000)] : FnC Tryz.prog 226 [.agg (eChg c), .raw (.int .i64 first)] (.slice ((rMade c first).map eAtm) .ro) := ⟨by
  refine fn_of Tryz.func226 Tryz.ntmps226 rfl (rs := [.tmp 4]) rfl rfl fun hb LF => ?_
  obtain ⟨hl, hf0, hf1⟩ := hs.out
  refine walkb fun b => ?_
  refine walkbp fun b2 => ?_
  refine pwp_condD (fun h1 => ?_) (fun h1 => ?_)
  · refine walk ?_
    refine end1 (.of_eq ?_)
    rw [rMade, if_pos h1]; rfl
  refine walk ?_
  refine pwp_condD (fun h2 => ?_) (fun h2 => ?_)
  · refine walk ?_
    refine end1 (.of_eq ?_)
    rw [rMade, if_neg h1, if_pos h2]; rfl
  refine walk ?_
  refine pwp_condD (fun h3 => ?_) (fun h3 => ?_)
  · refine walk ?_
    refine end1 (.of_eq ?_)
    rw [rMade, if_neg h1, if_neg h2, if_pos h3]; rfl
  refine walk ?_
  refine pwp_condD (fun h4 => ?_) (fun h4 => ?_)
  · refine walk ?_
    refine end1 (.of_eq ?_)
    rw [rMade, if_neg h1, if_neg h2, if_neg h3, if_pos h4]; rfl
  refine walk ?_
  refine pwp_condD (fun h6 => ?_) (fun h6 => ?_)
  · refine walk ?_
    refine end1 (.of_eq ?_)
    rw [rMade, if_neg h1, if_neg h2, if_neg h3, if_neg h4, if_pos h6]; rfl
  refine walk ?_
  refine pwp_condD (fun h7 => ?_) (fun h7 => ?_)
  · refine walk ?_
    refine end1 (.of_eq ?_)
    rw [rMade, if_neg h1, if_neg h2, if_neg h3, if_neg h4, if_neg h6, if_pos h7]; rfl
  refine walk ?_
  refine pwp_tok 172 ?_
  refine pwp_loopS (σ := Nat × Tag) (fun k => k.1 ≤ c.lines.length) (fun k => c.lines.length - k.1) (fun k => [(1, .raw (.int .i64 first)), (2, .raw (.pointer (some ⟨b, 0, none⟩))), (6, .slice (((List.range k.1).map (rLineA c first)).map eAtm) k.2), (7, .raw (.int .i64 c.lines.length)), (8, .raw (.int .i64 k.1))]) (fun k => .tok k.2 ((List.range k.1).map (rLineA c first)).length 172 :: .box b 119 (eChg c) :: LF) (0, .nil) (by simp) ⟨rfl, rfl, rfl, rfl, rfl⟩ (.cons_cons _ (.cons _ (.refl _))) ?_
  rintro ⟨k, v⟩ hk
  dsimp only at hk
  refine walk ?_
  refine pwp_condD (fun hc => ?_) (fun hc => ?_)
  · have hlt : k < c.lines.length := by omega
    have hll : ((List.range k).map (rLineA c first)).length = k := by simp
    generalize hB : (List.range k).map (rLineA c first) = B at hll ⊢
    refine walkn ?_
    refine pwp_drawN 14 ?_ ?_
    · decide +kernel
    refine walkap fun v' => ?_
    have e : (List.range (k + 1)).map (rLineA c first) = (List.range k).map (rLineA c first) ++ [rLineA c first k] := by rw [List.range_succ, List.map_append]; rfl
    rw [hB] at e
    have e2 : rLineA c first k = { Atm.zero with id := ⟨Dig.zero, first + k⟩, kind := 5, file := c.file, text := c.lines[k] } := by simp [rLineA, List.getD, hlt]
    rw [e2] at e
    refine ⟨(k + 1, v'), by dsimp only; omega, by dsimp only; omega, ⟨rfl, rfl, by dsimp only; rw [e]; rfl, rfl, rfl⟩, by dsimp only; rw [e]; exact .refl _⟩
  have hkk : k = c.lines.length := by omega
  subst hkk
  refine walk ?_
  generalize hA : (List.range c.lines.length).map (rLineA c first) = A
  have hAl : A.length = c.lines.length := by rw [← hA]; simp
  refine pwp_loopS (σ := Nat × Tag) (fun k => k.1 ≤ c.lines.length + 1) (fun k => c.lines.length + 1 - k.1) (fun k => [(1, .raw (.int .i64 first)), (2, .raw (.pointer (some ⟨b, 0, none⟩))), (6, .slice ((A ++ (List.range k.1).map (rEdgeA c first)).map eAtm) k.2), (7, .raw (.int .i64 c.lines.length)), (9, .raw (.int .i64 k.1))]) (fun k => .tok k.2 (A ++ (List.range k.1).map (rEdgeA c first)).length 172 :: .box b 119 (eChg c) :: LF) (0, v) (by simp) ⟨rfl, rfl, by simp only [List.range_zero, List.map_nil, List.append_nil]; rfl, rfl, rfl⟩ (by simp only [List.range_zero, List.map_nil, List.append_nil]; exact .refl _) ?_
  rintro ⟨k, v⟩ hk
  dsimp only at hk
  refine walk ?_
  refine pwp_condD (fun hc => ?_) (fun hc => ?_)
  · have hll : (A ++ (List.range k).map (rEdgeA c first)).length = c.lines.length + k := by simp [hAl]
    have e : A ++ (List.range (k + 1)).map (rEdgeA c first) = (A ++ (List.range k).map (rEdgeA c first)) ++ [rEdgeA c first k] := by rw [List.range_succ, List.map_append, List.append_assoc]; rfl
    generalize hB : A ++ (List.range k).map (rEdgeA c first) = B at hll e ⊢
    refine walkb fun b3 => ?_
    refine pwp_condD (fun h8 => ?_) (fun h8 => ?_)
    · refine walk ?_
      refine pwp_condD (fun h9 => ?_) (fun h9 => ?_)
      · refine walka fun v' => ?_
        have e2 : rEdgeA c first k = { Atm.zero with id := ⟨Dig.zero, first + c.lines.length + k⟩, kind := 6, file := c.file, src := ⟨Dig.zero, first + k - 1⟩, dst := ⟨Dig.zero, first + k⟩ } := by rw [rEdgeA, if_pos h8, if_pos h9]
        rw [e2] at e
        refine ⟨(k + 1, v'), by dsimp only; omega, by dsimp only; omega, ⟨rfl, rfl, by dsimp only; rw [e]; rfl, rfl, rfl⟩, by dsimp only; rw [e]; exact .cons _ (.refl _)⟩
      · refine walka fun v' => ?_
        have e2 : rEdgeA c first k = { Atm.zero with id := ⟨Dig.zero, first + c.lines.length + k⟩, kind := 6, file := c.file, src := ⟨Dig.zero, first + k - 1⟩, dst := c.before } := by rw [rEdgeA, if_pos h8, if_neg h9]
        rw [e2] at e
        refine ⟨(k + 1, v'), by dsimp only; omega, by dsimp only; omega, ⟨rfl, rfl, by dsimp only; rw [e]; rfl, rfl, rfl⟩, by dsimp only; rw [e]; exact .cons _ (.refl _)⟩
    · refine walk ?_
      refine pwp_condD (fun h9 => ?_) (fun h9 => ?_)
      · refine walka fun v' => ?_
        have e2 : rEdgeA c first k = { Atm.zero with id := ⟨Dig.zero, first + c.lines.length + k⟩, kind := 6, file := c.file, src := c.after, dst := ⟨Dig.zero, first + k⟩ } := by rw [rEdgeA, if_neg h8, if_pos h9]
        rw [e2] at e
        refine ⟨(k + 1, v'), by dsimp only; omega, by dsimp only; omega, ⟨rfl, rfl, by dsimp only; rw [e]; rfl, rfl, rfl⟩, by dsimp only; rw [e]; exact .cons _ (.refl _)⟩
      · refine walka fun v' => ?_
        have e2 : rEdgeA c first k = { Atm.zero with id := ⟨Dig.zero, first + c.lines.length + k⟩, kind := 6, file := c.file, src := c.after, dst := c.before } := by rw [rEdgeA, if_neg h8, if_neg h9]
        rw [e2] at e
        refine ⟨(k + 1, v'), by dsimp only; omega, by dsimp only; omega, ⟨rfl, rfl, by dsimp only; rw [e]; rfl, rfl, rfl⟩, by dsimp only; rw [e]; exact .cons _ (.refl _)⟩
  · refine walk ?_
    refine end1 (.ros ?_)
    have hkk : k = c.lines.length + 1 := by omega
    subst hkk
    rw [rMade, if_neg h1, if_neg h2, if_neg h3, if_neg h4, if_neg h6, if_neg h7, hA]⟩
end Go.Proofs
/- Contracts: changes; what is checked of a patch but its encoding (the reference's layer 16). -/
namespace Go.Proofs
open Go Go.Q
attribute [local irreducible] pwp pops PCalls OpN

theorem rFields_lines {c : Chg} (h : rFields c = 0) : c.lines.length ≤ 2000 := by
  unfold rFields at h
  split at h
  · omega
  split at h
  · omega
  rename_i h2
  split at h
  · omega
  split at h
  · omega
  split at h
  · omega
  split at h
  · omega
  split at h
  · unfold rLines at h
    split at h
    · omega
    split at h
    · omega
    · omega
  · rename_i h7
    simp only [Bool.not_eq_false, rEmpty, Bool.and_eq_true, decide_eq_true_eq, rRest, h7, if_false] at h2
    omega

def rChanges : List Chg → List Atm → List Atm × Int
  | [], own => (own, 0)
  | c :: l, own => if rFields c ≠ 0 then ([], rFields c) else if rRefs c own ≠ 0 then ([], rRefs c own) else rChanges l (own ++ rMade c own.length)
theorem rChanges_step {l : List Chg} {k : Nat} (hk : k < l.length) (own : List Atm) : rChanges (l.drop k) own = if rFields l[k] ≠ 0 then ([], rFields l[k]) else if rRefs l[k] own ≠ 0 then ([], rRefs l[k] own) else rChanges (l.drop (k + 1)) (own ++ rMade l[k] own.length) := by
  rw [List.drop_eq_getElem_cons hk, rChanges]

set_option maxHeartbeats 1000000 in
instance changes_ct (l : List Chg) (t : Tag) [hs : Small (l.length ≤ 400)] : FnC Tryz.prog 189 [.slice (l.map eChg) t] (.tuple [.slice ((rChanges l []).1.map eAtm) .ro, .raw (.int .i64 (rChanges l []).2)]) := ⟨by
  refine fn_of Tryz.func189 Tryz.ntmps189 rfl (rs := [.tmp 2, .tmp 3]) rfl rfl fun hb LF => ?_
  have hl := hs.out
  refine walk ?_
  refine pwp_tok 172 ?_
  refine pwp_loopS (σ := Nat × Tag × List Atm) (fun k => k.1 ≤ l.length ∧ k.2.2.length ≤ k.1 * 4001 ∧ rChanges l [] = rChanges (l.drop k.1) k.2.2) (fun k => l.length - k.1) (fun k => [(0, .slice (l.map eChg) t), (4, .slice (k.2.2.map eAtm) k.2.1), (5, .raw (.int .i64 k.1))]) (fun k => .tok k.2.1 k.2.2.length 172 :: LF) (0, .nil, []) ⟨by simp, by simp, by simp⟩ ⟨rfl, rfl, rfl⟩ (.refl _) ?_
  rintro ⟨k, v, own⟩ ⟨hk, hlen, he⟩
  dsimp only at hk hlen he
  refine walk ?_
  refine pwp_condD (fun hc => ?_) (fun hc => ?_)
  · have hlt : k < l.length := by omega
    rw [rChanges_step hlt] at he
    refine walk ?_
    refine pwp_condN (fun h1 => ?_) (fun h1 => ?_)
    · refine walk ?_
      rw [if_pos h1] at he
      refine end2 (.tuple2 ?_ (.of_eq ?_))
      · rw [he]; exact .ro _ _
      · rw [he]
    rw [if_neg (by simp [h1])] at he
    refine walk ?_
    refine pwp_condN (fun h2 => ?_) (fun h2 => ?_)
    · refine walk ?_
      rw [if_pos h2] at he
      refine end2 (.tuple2 ?_ (.of_eq ?_))
      · rw [he]; exact .ro _ _
      · rw [he]
    rw [if_neg (by simp [h2])] at he
    have hll : l[k].lines.length ≤ 2000 := rFields_lines h1
    have hmm := rMade_len l[k] own.length
    have : Small (l[k].lines.length ≤ 2000 ∧ (0 : Int) ≤ own.length ∧ (own.length : Int) ≤ 1000000000) := ⟨hll, by omega, by omega⟩
    refine walka fun v' => ?_
    refine ⟨(k + 1, v', own ++ rMade l[k] own.length), ⟨by dsimp only; omega, by dsimp only; rw [List.length_append]; omega, he⟩, by dsimp only; omega, ⟨rfl, rfl, rfl⟩, .refl _⟩
  · refine walk ?_
    have hkk : l.drop k = [] := List.drop_eq_nil_of_le (by omega)
    rw [hkk] at he
    refine end2 (.tuple2 ?_ (.of_eq ?_))
    · rw [he]; exact .ro _ _
    · rw [he]; rfl⟩

def rCheckP (p : Pat) : List Atm × Int :=
  if rName p.author = false then ([], 5) else if 1000 < (p.message.length : Int) then ([], 4) else if p.time < 0 ∨ 1099511627776 < p.time then ([], 2) else
  if rDeps p.deps ≠ 0 then ([], rDeps p.deps) else if (p.changes.length : Int) = 0 then ([], 1) else if 400 < (p.changes.length : Int) then ([], 4) else rChanges p.changes []
instance checkP_ct (p : Pat) : FnC Tryz.prog 155 [.agg (ePat p)] (.tuple [.slice ((rCheckP p).1.map eAtm) .ro, .raw (.int .i64 (rCheckP p).2)]) := ⟨by
  refine fn_of Tryz.func155 Tryz.ntmps155 rfl (rs := [.tmp 2, .tmp 3]) rfl rfl fun hb LF => ?_
  refine walkb fun b => ?_
  refine pwp_condB (fun h1 => ?_) (fun h1 => ?_)
  · refine walk ?_
    rw [rCheckP, if_pos (by simpa using h1)]
    refine end2 ?_; exact .tuple2 (.ro _ _) (.refl _)
  rw [rCheckP, if_neg (by simpa using h1)]
  refine walk ?_
  refine pwp_condD (fun h2 => ?_) (fun h2 => ?_)
  · refine walk ?_
    rw [if_pos h2]
    refine end2 ?_; exact .tuple2 (.ro _ _) (.refl _)
  rw [if_neg h2]
  refine walk ?_
  refine pops_cutE [(20, .raw (.bool (decide (p.time < 0 ∨ 1099511627776 < p.time)))), (1, .raw (.pointer (some ⟨b, 0, none⟩)))] (.box b 57 (ePat p) :: LF) ?_ ?_
  · repeat' (first | (refine pwp_condD (fun h => ?_) (fun h => ?_) <;> refine walk ?_) | (refine pwp_condN (fun h => ?_) (fun h => ?_) <;> refine walk ?_) | (refine pwp_condB (fun h => ?_) (fun h => ?_) <;> refine walk ?_) | (refine pops_if (fun h => ?_) (fun h => ?_) <;> (have h2 := h; (try simp only [decide_eq_true_eq, decide_eq_false_iff_not, Bool.not_eq_true', Bool.not_eq_false'] at h2); refine walkp ?_)))
    all_goals (refine ⟨⟨holdsB (by rfl) ?_, rfl⟩, .refl _⟩; first | (simp_all; done) | (simp_all; omega) | grind)
  refine walk ?_
  refine pwp_condD (fun h3 => ?_) (fun h3 => ?_)
  · refine walk ?_
    rw [if_pos h3]
    refine end2 ?_; exact .tuple2 (.ro _ _) (.refl _)
  rw [if_neg h3]
  refine walk ?_
  refine pwp_condN (fun h4 => ?_) (fun h4 => ?_)
  · refine walk ?_
    rw [if_pos h4]
    refine end2 ?_; exact .tuple2 (.ro _ _) (.refl _)
  rw [if_neg (by simp [h4])]
  refine walk ?_
  refine pwp_condD (fun h5 => ?_) (fun h5 => ?_)
  · refine walk ?_
    rw [if_pos h5]
    refine end2 ?_; exact .tuple2 (.ro _ _) (.refl _)
  rw [if_neg h5]
  refine walk ?_
  refine pwp_condD (fun h6 => ?_) (fun h6 => ?_)
  · refine walk ?_
    rw [if_pos h6]
    refine end2 ?_; exact .tuple2 (.ro _ _) (.refl _)
  rw [if_neg h6]
  have : Small (p.changes.length ≤ 400) := ⟨by omega⟩
  refine walk ?_
  refine end2 ?_; exact .refl _⟩
end Go.Proofs
/- Contracts: numbers, digests and references as trees of strings (the reference's layers 1, 2 and 16). -/
namespace Go.Proofs
open Go Go.Q
attribute [local irreducible] pwp pops PCalls OpN

/-- The decimal form of a number. -/
def rDecF : Nat → Nat → Str
  | 0, n => [UInt8.ofNat (48 + n)]
  | f + 1, n => if n < 10 then [UInt8.ofNat (48 + n)] else rDecF f (n / 10) ++ [UInt8.ofNat (48 + n % 10)]
theorem rDecF_eq : ∀ (f n : Nat), n ≤ f → rDecF f n = rDecF n n
  | 0, n, h => by have : n = 0 := by omega
                  subst this; rfl
  | f + 1, n, h => by
    by_cases hn : n < 10
    · cases n with
      | zero => simp [rDecF]
      | succ m => simp only [rDecF, hn, if_true]
    · obtain ⟨m, rfl⟩ : ∃ m, n = m + 1 := ⟨n - 1, by omega⟩
      simp only [rDecF, hn, if_false]
      rw [rDecF_eq f ((m + 1) / 10) (by omega), rDecF_eq m ((m + 1) / 10) (by omega)]
def rDec (n : Nat) : Str := rDecF n n
theorem rDec_small {n : Nat} (h : n < 10) : rDec n = [UInt8.ofNat (48 + n)] := by
  unfold rDec
  cases n with
  | zero => simp [rDecF]
  | succ m => simp only [rDecF, h, if_true]
theorem rDec_big {n : Nat} (h : ¬ n < 10) : rDec n = rDec (n / 10) ++ [UInt8.ofNat (48 + n % 10)] := by
  obtain ⟨m, rfl⟩ : ∃ m, n = m + 1 := ⟨n - 1, by omega⟩
  unfold rDec
  simp only [rDecF, h, if_false]
  rw [rDecF_eq m ((m + 1) / 10) (by omega)]
theorem rDec_len : ∀ (m n : Nat), n < 10 ^ (m + 1) → (rDec n).length ≤ m + 1
  | 0, n, h => by rw [rDec_small (by omega)]; simp
  | m + 1, n, h => by
    by_cases hn : n < 10
    · rw [rDec_small hn]; simp
    · rw [rDec_big hn, List.length_append]
      have := rDec_len m (n / 10) (by rw [Nat.div_lt_iff_lt_mul (by omega)]; rw [Nat.pow_succ] at h; omega)
      simp only [List.length_cons, List.length_nil]; omega
theorem rDec_len15 {n : Nat} (h : n ≤ 140737488355328) : (rDec n).length ≤ 15 := rDec_len 14 n (by omega)

theorem Decimal_nat : ∀ (n : Nat), n ≤ 140737488355328 → Q.Fn Tryz.prog 263 [.raw (.int .i64 (n : Int))] (.str (rDec n)) := by
  intro n
  induction n using Nat.strongRecOn with
  | _ n ih =>
  intro hn
  have ih' : ∀ m : Nat, [Small (m < n)] → FnC Tryz.prog 263 [.raw (.int .i64 (m : Int))] (.str (rDec m)) := fun m h => ⟨ih m h.out (by have := h.out; omega)⟩
  refine fn_of Tryz.func263 Tryz.ntmps263 rfl (rs := [.tmp 2]) rfl rfl fun hb LF => ?_
  refine walk ?_
  refine pwp_condD (fun h2 => ?_) (fun h2 => ?_)
  · refine walk ?_
    refine end1 (.of_eq ?_)
    rw [rDec_small (by omega)]
  · have : Small (n / 10 < n) := ⟨by omega⟩
    have hl := rDec_len15 (n := n / 10) (by omega)
    refine walk ?_
    refine s_quo (n := 10) (by rfl) (by rfl) (by decide) (by omega) ?_
    refine walkp ?_
    refine s_rem (n := 10) (by rfl) (by rfl) (by decide) ?_
    refine walkp ?_
    refine end1 (.of_eq ?_)
    rw [rDec_big (n := n) (by omega)]
def rDecI (n : Int) : Str := if n < 0 then 45 :: rDec (-n).toNat else rDec n.toNat
theorem rDecI_len {n : Int} (h : -140737488355328 ≤ n ∧ n ≤ 140737488355328) : (rDecI n).length ≤ 16 := by
  unfold rDecI
  split
  · have := rDec_len15 (n := (-n).toNat) (by omega)
    simp only [List.length_cons]; omega
  · have := rDec_len15 (n := n.toNat) (by omega)
    omega
instance Decimal_ct (n : Int) [hs : Small (-140737488355328 ≤ n ∧ n ≤ 140737488355328)] : FnC Tryz.prog 263 [.raw (.int .i64 n)] (.str (rDecI n)) := ⟨by
  obtain ⟨h0, h1⟩ := hs.out
  by_cases hn : n < 0
  · have h3 : FnC Tryz.prog 263 [.raw (.int .i64 (-n))] (.str (rDec (-n).toNat)) := ⟨by
      have := Decimal_nat (-n).toNat (by omega)
      rwa [show (((-n).toNat : Nat) : Int) = -n by omega] at this⟩
    refine fn_of Tryz.func263 Tryz.ntmps263 rfl (rs := [.tmp 2]) rfl rfl fun hb LF => ?_
    refine walk ?_
    refine pwp_condD (fun h1 => ?_) (fun h1 => ?_)
    · refine walk ?_
      refine pwp_condD (fun h2 => ?_) (fun h2 => ?_)
      · omega
      · have hl := rDec_len15 (n := (-n).toNat) (by omega)
        refine walk ?_
        refine end1 (.of_eq ?_)
        rw [rDecI, if_pos hn]; rfl
    · omega
  · have := Decimal_nat n.toNat (by omega)
    rw [show ((n.toNat : Nat) : Int) = n by omega] at this
    rw [rDecI, if_neg hn]; exact this⟩

def sAtom (s : Str) : Sx := .mk false s []
def sList (l : List Sx) : Sx := .mk true [] l
def rInt (n : Int) : Sx × Int := if n < -1099511627776 ∨ 1099511627776 < n then (Sx.zero, 2) else (sAtom (rDecI n), 0)
instance Int_ct (n : Int) : FnC Tryz.prog 232 [.raw (.int .i64 n)] (.tuple [.agg (eSx (rInt n).1), .raw (.int .i64 (rInt n).2)]) := ⟨by
  refine fn_of Tryz.func232 Tryz.ntmps232 rfl (rs := [.cell 2 217, .tmp 3]) rfl rfl fun hb LF => ?_
  refine walkb fun b => ?_
  refine pops_cutE [(9, .raw (.bool (decide (n < -1099511627776 ∨ 1099511627776 < n)))), (0, .raw (.int .i64 n)), (2, .raw (.pointer (some ⟨b, 0, none⟩)))] (.box b 217 (eSx Sx.zero) :: LF) ?_ ?_
  · repeat' (first | (refine pwp_condD (fun h => ?_) (fun h => ?_) <;> refine walk ?_) | (refine pwp_condN (fun h => ?_) (fun h => ?_) <;> refine walk ?_) | (refine pwp_condB (fun h => ?_) (fun h => ?_) <;> refine walk ?_) | (refine pops_if (fun h => ?_) (fun h => ?_) <;> (have h2 := h; (try simp only [decide_eq_true_eq, decide_eq_false_iff_not, Bool.not_eq_true', Bool.not_eq_false'] at h2); refine walkp ?_)))
    all_goals (refine ⟨⟨holdsB (by rfl) ?_, rfl, rfl⟩, .refl _⟩; first | (simp_all; done) | (simp_all; omega) | grind)
  refine walk ?_
  refine pwp_condD (fun h => ?_) (fun h => ?_)
  · refine walk ?_
    refine endC1 rfl (.of_eq ?_)
    rw [rInt, if_pos h]
  · have : Small (-140737488355328 ≤ n ∧ n ≤ 140737488355328) := ⟨by omega⟩
    refine walk ?_
    refine endC1 rfl (.of_eq ?_)
    rw [rInt, if_neg h]; rfl⟩
instance atomS_ct (s : Str) : FnC Tryz.prog 194 [.str s] (.agg (eSx (sAtom s))) := ⟨by
  refine fn_of Tryz.func194 Tryz.ntmps194 rfl (rs := [.cell 2 217]) rfl rfl fun hb LF => ?_
  refine walkb fun b => ?_
  refine endC rfl (.of_eq ?_)
  rfl⟩
instance listS_ct (l : List Sx) (t : Tag) : FnC Tryz.prog 193 [.slice (l.map eSx) t] (.agg (eSx (sList l))) := ⟨by
  refine fn_of Tryz.func193 Tryz.ntmps193 rfl (rs := [.cell 2 217]) rfl rfl fun hb LF => ?_
  refine walkb fun b => ?_
  refine endC rfl (.of_eq ?_)
  rfl⟩
def sNum (n : Int) : Sx := (rInt n).1
instance numberS_ct (n : Int) : FnC Tryz.prog 195 [.raw (.int .i64 n)] (.agg (eSx (sNum n))) := ⟨by
  refine fn_of Tryz.func195 Tryz.ntmps195 rfl (rs := [.cell 2 217]) rfl rfl fun hb LF => ?_
  refine walkb fun b => ?_
  refine walkbp fun b2 => ?_
  refine endC rfl (.of_eq ?_)
  rfl⟩
instance Bytes_ct (d : Dig) : FnC Tryz.prog 227 [.agg (eDig d)] (.str d.bs) := ⟨by
  refine fn_of Tryz.func227 Tryz.ntmps227 rfl (rs := [.tmp 2]) rfl rfl fun hb LF => ?_
  refine walkb fun b => ?_
  refine end1 (.of_eq ?_)
  rfl⟩
def sDig (d : Dig) : Sx := if d = Dig.zero then sAtom [] else sAtom d.bs
instance digestS_ct (d : Dig) : FnC Tryz.prog 190 [.agg (eDig d)] (.agg (eSx (sDig d))) := ⟨by
  refine fn_of Tryz.func190 Tryz.ntmps190 rfl (rs := [.cell 2 217]) rfl rfl fun hb LF => ?_
  refine walkb fun b => ?_
  refine walkbp fun b2 => ?_
  refine pwp_condD (fun h => ?_) (fun h => ?_)
  · refine walk ?_
    refine endC rfl (.of_eq ?_)
    rw [sDig, if_pos h]
  · refine walk ?_
    refine endC rfl (.of_eq ?_)
    rw [sDig, if_neg h]⟩
def sRef (x : Ident) : Sx := sList [sDig x.patch, sNum x.n]
instance referenceS_ct (x : Ident) : FnC Tryz.prog 228 [.agg (eIdent x)] (.agg (eSx (sRef x))) := ⟨by
  refine fn_of Tryz.func228 Tryz.ntmps228 rfl (rs := [.cell 2 217]) rfl rfl fun hb LF => ?_
  refine walkbn fun b => ?_
  refine walkbnp fun b2 => ?_
  refine pwp_drawN 8 ?_ ?_
  · decide +kernel
  refine walkp ?_
  refine endC rfl (.of_eq ?_)
  rfl⟩
def sOver (l : List Ident) : Sx := sList (l.map sRef)
instance overS_ct (l : List Ident) (t : Tag) [hs : Small (l.length ≤ 1000000)] : FnC Tryz.prog 229 [.slice (l.map eIdent) t] (.agg (eSx (sOver l))) := ⟨by
  refine fn_of Tryz.func229 Tryz.ntmps229 rfl (rs := [.cell 2 217]) rfl rfl fun hb LF => ?_
  have hlen := hs.out
  refine walkb fun b => ?_
  refine pwp_tok 3 ?_
  refine pwp_loopS (σ := Nat × Tag × List Sx) (fun k => k.1 ≤ l.length ∧ k.2.2 = (l.take k.1).map sRef) (fun k => l.length - k.1) (fun k => [(0, .slice (l.map eIdent) t), (2, .raw (.pointer (some ⟨b, 0, none⟩))), (3, .slice (k.2.2.map eSx) k.2.1), (4, .raw (.int .i64 k.1))]) (fun k => .tok k.2.1 k.2.2.length 3 :: .box b 217 (eSx Sx.zero) :: LF) (0, .nil, []) ⟨by simp, by simp⟩ ⟨rfl, rfl, rfl, rfl⟩ (.refl _) ?_
  rintro ⟨k, v, out⟩ ⟨hk, he⟩
  dsimp only at hk he
  have hol : out.length = k := by rw [he]; simp; omega
  refine walk ?_
  refine pwp_condD (fun hc => ?_) (fun hc => ?_)
  · have hlt : k < l.length := by omega
    refine walka fun v' => ?_
    refine ⟨(k + 1, v', out ++ [sRef l[k]]), ⟨by dsimp only; omega, ?_⟩, by dsimp only; omega, ⟨rfl, rfl, rfl, rfl⟩, .refl _⟩
    dsimp only
    rw [List.take_succ_eq_append_getElem hlt, List.map_append, he]; rfl
  · refine walk ?_
    refine endC rfl (.of_eq ?_)
    rw [List.take_of_length_le (by omega)] at he
    rw [sOver, ← he]⟩
end Go.Proofs
