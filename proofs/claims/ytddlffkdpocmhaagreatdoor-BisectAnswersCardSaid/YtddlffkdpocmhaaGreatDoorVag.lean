/- The small logic: a walk that goes by itself (printed by a program). Library, no statement of its own. -/
import Derived.Test.YtddlffkdpocmhaaGreatDoorVae
import Derived.Test.YtddlffkdpocmhaaGreatDoorVaf
set_option linter.unusedSimpArgs false
set_option linter.unusedVariables false
namespace Go.Q
open Go
section
variable {P : Program} {N : Nat} {all : Array Oper} {K : Env → List Res → Prop} {fl : List Bool} {os : List Oper} {ρ : Env} {L : List Res} {Q : PPost} {c : Code} {ty : TypeId} {pos : String} {af : Array Edge}
theorem g_guard {j : Nat} {b : Bool} {o : Op} {dst : Option Nat} (k : pops P N all K fl (⟨dst, o, ty, pos, af, some (j, b)⟩ :: os) ρ L) : pops P N all K fl (⟨dst, o, ty, pos, af, some (j, b)⟩ :: os) ρ L := k
theorem g_move {x : Operand} {dst : Option Nat} (k : pops P N all K fl (⟨dst, .move x, ty, pos, af, none⟩ :: os) ρ L) : pops P N all K fl (⟨dst, .move x, ty, pos, af, none⟩ :: os) ρ L := k
theorem g_assign {x : Operand} {dst : Option Nat} (k : pops P N all K fl (⟨dst, .assign x, ty, pos, af, none⟩ :: os) ρ L) : pops P N all K fl (⟨dst, .assign x, ty, pos, af, none⟩ :: os) ρ L := k
theorem g_load {T : TypeId} {x : Operand} {dst : Option Nat} (k : pops P N all K fl (⟨dst, .load T x, ty, pos, af, none⟩ :: os) ρ L) : pops P N all K fl (⟨dst, .load T x, ty, pos, af, none⟩ :: os) ρ L := k
theorem g_fld {S f : Nat} {x : Operand} {dst : Option Nat} (k : pops P N all K fl (⟨dst, .fieldAddr S x f, ty, pos, af, none⟩ :: os) ρ L) : pops P N all K fl (⟨dst, .fieldAddr S x f, ty, pos, af, none⟩ :: os) ρ L := k
theorem g_len {x : Operand} {T : TypeId} {dst : Option Nat} (k : pops P N all K fl (⟨dst, .call { callee := .builtin .len, args := #[x], argTypes := #[T] }, ty, pos, af, none⟩ :: os) ρ L) : pops P N all K fl (⟨dst, .call { callee := .builtin .len, args := #[x], argTypes := #[T] }, ty, pos, af, none⟩ :: os) ρ L := k
theorem g_call {f : Nat} {xs : Array Operand} {ats : Array TypeId} {dst : Option Nat} (k : pops P N all K fl (⟨dst, .call { callee := .value (.func f), args := xs, argTypes := ats }, ty, pos, af, none⟩ :: os) ρ L) : pops P N all K fl (⟨dst, .call { callee := .value (.func f), args := xs, argTypes := ats }, ty, pos, af, none⟩ :: os) ρ L := k
theorem g_bi {f : Builtin} {xs : Array Operand} {ats : Array TypeId} {dst : Option Nat} (k : pops P N all K fl (⟨dst, .call { callee := .builtin f, args := xs, argTypes := ats }, ty, pos, af, none⟩ :: os) ρ L) : pops P N all K fl (⟨dst, .call { callee := .builtin f, args := xs, argTypes := ats }, ty, pos, af, none⟩ :: os) ρ L := k
theorem g_bin {o : BinOp} {T T₂ : TypeId} {x y : Operand} {dst : Option Nat} (k : pops P N all K fl (⟨dst, .binOp o T x y T₂, ty, pos, af, none⟩ :: os) ρ L) : pops P N all K fl (⟨dst, .binOp o T x y T₂, ty, pos, af, none⟩ :: os) ρ L := k
theorem g_ix {T : TypeId} {x y : Operand} {dst : Option Nat} (k : pops P N all K fl (⟨dst, .indexAddr T x y, ty, pos, af, none⟩ :: os) ρ L) : pops P N all K fl (⟨dst, .indexAddr T x y, ty, pos, af, none⟩ :: os) ρ L := k
theorem g_ext {i : Nat} {x : Operand} {dst : Option Nat} (k : pops P N all K fl (⟨dst, .extract x i, ty, pos, af, none⟩ :: os) ρ L) : pops P N all K fl (⟨dst, .extract x i, ty, pos, af, none⟩ :: os) ρ L := k
theorem g_pick {c x y : Operand} {dst : Option Nat} (k : pops P N all K fl (⟨dst, .pick c x y, ty, pos, af, none⟩ :: os) ρ L) : pops P N all K fl (⟨dst, .pick c x y, ty, pos, af, none⟩ :: os) ρ L := k
theorem g_un {o : UnOp} {T : TypeId} {x : Operand} {dst : Option Nat} (k : pops P N all K fl (⟨dst, .unOp o T x, ty, pos, af, none⟩ :: os) ρ L) : pops P N all K fl (⟨dst, .unOp o T x, ty, pos, af, none⟩ :: os) ρ L := k
theorem g_store {T : TypeId} {x y : Operand} {dst : Option Nat} (k : pops P N all K fl (⟨dst, .store T x y, ty, pos, af, none⟩ :: os) ρ L) : pops P N all K fl (⟨dst, .store T x y, ty, pos, af, none⟩ :: os) ρ L := k
theorem g_bs {T n : Nat} {ps : Array (Nat × Operand)} {dst : Option Nat} (k : pops P N all K fl (⟨dst, .buildSlice T n ps, ty, pos, af, none⟩ :: os) ρ L) : pops P N all K fl (⟨dst, .buildSlice T n ps, ty, pos, af, none⟩ :: os) ρ L := k
theorem g_build {T : Nat} {ps : Array (Nat × Operand)} {dst : Option Nat} (k : pops P N all K fl (⟨dst, .build T ps, ty, pos, af, none⟩ :: os) ρ L) : pops P N all K fl (⟨dst, .build T ps, ty, pos, af, none⟩ :: os) ρ L := k
theorem g_slice {T : TypeId} {x : Operand} {lo hi mx : Option Operand} {dst : Option Nat} (k : pops P N all K fl (⟨dst, .slice T x lo hi mx, ty, pos, af, none⟩ :: os) ρ L) : pops P N all K fl (⟨dst, .slice T x lo hi mx, ty, pos, af, none⟩ :: os) ρ L := k
theorem g_conv {S T : TypeId} {x : Operand} {dst : Option Nat} (k : pops P N all K fl (⟨dst, .convert S T x, ty, pos, af, none⟩ :: os) ρ L) : pops P N all K fl (⟨dst, .convert S T x, ty, pos, af, none⟩ :: os) ρ L := k
theorem g_index {T : TypeId} {x y : Operand} {dst : Option Nat} (k : pops P N all K fl (⟨dst, .index T x y, ty, pos, af, none⟩ :: os) ρ L) : pops P N all K fl (⟨dst, .index T x y, ty, pos, af, none⟩ :: os) ρ L := k
theorem g_nck {x : Operand} {dst : Option Nat} (k : pops P N all K fl (⟨dst, .nilCheck x, ty, pos, af, none⟩ :: os) ρ L) : pops P N all K fl (⟨dst, .nilCheck x, ty, pos, af, none⟩ :: os) ρ L := k

structure Wrap (B : Prop) : Prop where
  out : B
structure WrapF {α : Type} (B : α → Prop) : Prop where
  out : ∀ a, B a

/-- Goes on by itself as long as it can. -/
theorem walk {A B : Prop} (k : B) (h : Wrap B → A := by
    intro hB
    repeat (first
      | refine pops_nil ?_
      | (refine g_guard ?_; first | refine pops_yes rfl (by rfl) ?_ | refine pops_yesA rfl (by first | ((conv => lhs; whnf); done) | fail) (by assumption) ?_ | refine pops_noT rfl (by first | ((conv => lhs; whnf); done) | fail) (by assumption) ?_ | refine pops_noF rfl (by first | ((conv => lhs; whnf); done) | fail) (by assumption) ?_ | refine pops_noU rfl (by rfl) ?_ | refine pops_noT rfl (by rfl) rfl ?_ | refine pops_noF rfl (by rfl) rfl ?_)
      | (refine g_move ?_; first | refine s_moveN (by (conv => lhs; whnf); done) ?_)
      | (refine g_assign ?_; first | refine s_assignN (by (conv => lhs; whnf); done) ?_)
      | (refine g_load ?_; first | refine s_loadAL (by rfl) (hl := (by first | infer_instance | fail)) ?_ | refine s_loadS (by rfl) rfl ?_ | refine s_loadBL (by rfl) (by repeat (first | exact List.mem_cons_self | apply List.mem_cons_of_mem)) (hl := (by first | infer_instance | fail)) ?_ | refine s_loadBF (by rfl) (by repeat (first | exact List.mem_cons_self | apply List.mem_cons_of_mem)) (hs := (by first | infer_instance | fail)) ?_ | refine s_loadBG (by rfl) (by repeat (first | exact List.mem_cons_self | apply List.mem_cons_of_mem)) (hs := (by first | infer_instance | fail)) ?_ | refine s_loadD (by rfl) (by repeat (first | exact List.mem_cons_self | apply List.mem_cons_of_mem)) (by omega) ?_ | refine s_loadW (by rfl) (by repeat (first | exact List.mem_cons_self | apply List.mem_cons_of_mem)) (by omega) ?_)
      | (refine g_fld ?_; first | refine s_fldF (by rfl) (hr := (by first | infer_instance | fail)) ?_ | refine s_fldBq (by rfl) (by (conv => lhs; whnf); done) ?_)
      | (refine g_len ?_; first | refine s_lenM (by rfl) ?_ | refine s_lenS (by (conv => lhs; whnf); done) (jx := (by first | infer_instance | fail)) ?_ | refine s_len (by rfl) ?_)
      | (refine g_call ?_; first | refine j_call1 (by (conv => lhs; whnf); done) (hN0 := (by first | infer_instance | fail)) (hc := (by first | infer_instance | fail)) ?_ | refine j_call2 (by (conv => lhs; whnf); done) (by (conv => lhs; whnf); done) (hN0 := (by first | infer_instance | fail)) (hN1 := (by first | infer_instance | fail)) (hc := (by first | infer_instance | fail)) ?_ | refine j_call3 (by (conv => lhs; whnf); done) (by (conv => lhs; whnf); done) (by (conv => lhs; whnf); done) (hN0 := (by first | infer_instance | fail)) (hN1 := (by first | infer_instance | fail)) (hN2 := (by first | infer_instance | fail)) (hc := (by first | infer_instance | fail)) ?_ | refine j_call0 (hc := (by first | infer_instance | fail)) ?_ | refine j_call4 (by (conv => lhs; whnf); done) (by (conv => lhs; whnf); done) (by (conv => lhs; whnf); done) (by (conv => lhs; whnf); done) (hN0 := (by first | infer_instance | fail)) (hN1 := (by first | infer_instance | fail)) (hN2 := (by first | infer_instance | fail)) (hN3 := (by first | infer_instance | fail)) (hc := (by first | infer_instance | fail)) ?_ | refine j_call5 (by (conv => lhs; whnf); done) (by (conv => lhs; whnf); done) (by (conv => lhs; whnf); done) (by (conv => lhs; whnf); done) (by (conv => lhs; whnf); done) (hN0 := (by first | infer_instance | fail)) (hN1 := (by first | infer_instance | fail)) (hN2 := (by first | infer_instance | fail)) (hN3 := (by first | infer_instance | fail)) (hN4 := (by first | infer_instance | fail)) (hc := (by first | infer_instance | fail)) ?_ | refine j_call6 (by (conv => lhs; whnf); done) (by (conv => lhs; whnf); done) (by (conv => lhs; whnf); done) (by (conv => lhs; whnf); done) (by (conv => lhs; whnf); done) (by (conv => lhs; whnf); done) (hN0 := (by first | infer_instance | fail)) (hN1 := (by first | infer_instance | fail)) (hN2 := (by first | infer_instance | fail)) (hN3 := (by first | infer_instance | fail)) (hN4 := (by first | infer_instance | fail)) (hN5 := (by first | infer_instance | fail)) (hc := (by first | infer_instance | fail)) ?_)
      | (refine g_bi ?_; first | refine s_min (by rfl) (by rfl) ?_ | refine s_max (by rfl) (by rfl) ?_)
      | (refine g_bin ?_; first | refine s_lss (by rfl) (by rfl) ?_ | refine s_leq (by rfl) (by rfl) ?_ | refine s_gtr (by rfl) (by rfl) ?_ | refine s_geq (by rfl) (by rfl) ?_ | refine s_eqi (by rfl) (by rfl) ?_ | refine s_nei (by rfl) (by rfl) ?_ | refine s_add (by rfl) (by rfl) (by constructor <;> omega) ?_ | refine s_sub (by rfl) (by rfl) (by constructor <;> omega) ?_ | refine s_eqDig (by rfl) (by rfl) ?_ | refine s_neDig (by rfl) (by rfl) ?_ | refine s_eqId (by rfl) (by rfl) ?_ | refine s_neId (by rfl) (by rfl) ?_ | refine s_eqS (by (conv => lhs; whnf); done) (by (conv => lhs; whnf); done) (jx := (by first | infer_instance | fail)) (jy := (by first | infer_instance | fail)) ?_ | refine s_neS (by (conv => lhs; whnf); done) (by (conv => lhs; whnf); done) (jx := (by first | infer_instance | fail)) (jy := (by first | infer_instance | fail)) ?_ | refine s_eqB (by rfl) (by rfl) ?_ | refine s_neB (by rfl) (by rfl) ?_ | refine s_cat (by (conv => lhs; whnf); done) (by (conv => lhs; whnf); done) (jx := (by first | infer_instance | fail)) (jy := (by first | infer_instance | fail)) (by first | omega | (simp only [List.length_append, List.length_cons, List.length_nil, Nat.zero_add]; omega)) ?_ | refine s_mul (by rfl) (by rfl) (by constructor <;> omega) ?_ | refine s_quo (by rfl) (by rfl) (by omega) (by omega) ?_ | refine s_rem (by rfl) (by rfl) (by omega) ?_ | refine s_addW (by rfl) (by rfl) ?_ | refine s_xorW (by rfl) (by rfl) ?_ | refine s_andW (by rfl) (by rfl) ?_ | refine s_orW (by rfl) (by rfl) ?_ | refine s_shrW (by rfl) (by rfl) ?_ | refine s_shlW (by rfl) (by rfl) ?_ | refine s_shrU (by rfl) (by rfl) ?_ | refine s_subU (by rfl) (by rfl) (by omega) (by omega) ?_ | refine s_mulU (by rfl) (by rfl) (by omega) ?_)
      | (refine g_ix ?_; first | refine s_indexN (by rfl) (by rfl) (by omega) ?_ | refine s_indexB (by rfl) (by rfl) (by omega) ?_ | refine s_indexZ (by rfl) (by rfl) (by omega) (by omega) ?_)
      | (refine g_ext ?_; first | refine s_extract (by rfl) rfl ?_)
      | (refine g_pick ?_; first | refine s_pickTA (by rfl) rfl (by (conv => lhs; whnf); done) ?_ | refine s_pickFA (by rfl) rfl (by (conv => lhs; whnf); done) ?_ | refine s_pickTA (by first | ((conv => lhs; whnf); done) | fail) (by assumption) (by (conv => lhs; whnf); done) ?_ | refine s_pickFA (by first | ((conv => lhs; whnf); done) | fail) (by assumption) (by (conv => lhs; whnf); done) ?_)
      | (refine g_un ?_; first | refine s_not (by rfl) ?_ | refine s_neg (by rfl) (by constructor <;> omega) ?_ | refine s_notW (by rfl) ?_)
      | (refine g_store ?_; first | refine s_storeC (by rfl) (by (conv => lhs; whnf); done) (hC := (by first | infer_instance | fail)) (hB := (by first | infer_instance | fail)) (hp := (by first | infer_instance | fail)) (hu := (by first | infer_instance | fail)) (hf := (by first | infer_instance | fail)) (hlen := (by first | infer_instance | fail)) ?_ | refine s_storeX (by rfl) (by rfl) (hB := (by first | infer_instance | fail)) (hu := (by first | infer_instance | fail)) (hf := (by first | infer_instance | fail)) (hlen := (by first | infer_instance | fail)) (hcs := (by first | infer_instance | fail)) ?_ | refine s_storeW32 (by rfl) (by rfl) (by repeat (first | exact List.mem_cons_self | apply List.mem_cons_of_mem)) (by omega) (hu := (by first | infer_instance | fail)) ?_ | refine s_storeD (by rfl) (by rfl) (by repeat (first | exact List.mem_cons_self | apply List.mem_cons_of_mem)) (by omega) (hu := (by first | infer_instance | fail)) ?_)
      | (refine g_bs ?_; first | refine s_bs0 ?_ | refine s_bs1 (by (conv => lhs; whnf); done) (hC0 := (by first | infer_instance | fail)) (hf := (by first | infer_instance | fail)) (by decide) ?_ | refine s_bs2 (by (conv => lhs; whnf); done) (by (conv => lhs; whnf); done) (hC0 := (by first | infer_instance | fail)) (hC1 := (by first | infer_instance | fail)) (hf := (by first | infer_instance | fail)) (by decide) ?_ | refine s_bs3 (by (conv => lhs; whnf); done) (by (conv => lhs; whnf); done) (by (conv => lhs; whnf); done) (hC0 := (by first | infer_instance | fail)) (hC1 := (by first | infer_instance | fail)) (hC2 := (by first | infer_instance | fail)) (hf := (by first | infer_instance | fail)) (by decide) ?_ | refine s_bs4 (by (conv => lhs; whnf); done) (by (conv => lhs; whnf); done) (by (conv => lhs; whnf); done) (by (conv => lhs; whnf); done) (hC0 := (by first | infer_instance | fail)) (hC1 := (by first | infer_instance | fail)) (hC2 := (by first | infer_instance | fail)) (hC3 := (by first | infer_instance | fail)) (hf := (by first | infer_instance | fail)) (by decide) ?_ | refine s_bs5 (by (conv => lhs; whnf); done) (by (conv => lhs; whnf); done) (by (conv => lhs; whnf); done) (by (conv => lhs; whnf); done) (by (conv => lhs; whnf); done) (hC0 := (by first | infer_instance | fail)) (hC1 := (by first | infer_instance | fail)) (hC2 := (by first | infer_instance | fail)) (hC3 := (by first | infer_instance | fail)) (hC4 := (by first | infer_instance | fail)) (hf := (by first | infer_instance | fail)) (by decide) ?_ | refine s_bs6 (by (conv => lhs; whnf); done) (by (conv => lhs; whnf); done) (by (conv => lhs; whnf); done) (by (conv => lhs; whnf); done) (by (conv => lhs; whnf); done) (by (conv => lhs; whnf); done) (hC0 := (by first | infer_instance | fail)) (hC1 := (by first | infer_instance | fail)) (hC2 := (by first | infer_instance | fail)) (hC3 := (by first | infer_instance | fail)) (hC4 := (by first | infer_instance | fail)) (hC5 := (by first | infer_instance | fail)) (hf := (by first | infer_instance | fail)) (by decide) ?_)
      | (refine g_build ?_; first | refine s_build0 ?_ | refine s_buildA0 ?_ | refine b_build1 (by (conv => lhs; whnf); done) (hC0 := (by first | infer_instance | fail)) (hP0 := (by first | infer_instance | fail)) (hl0 := (by first | infer_instance | fail)) ?_ | refine b_build2 (by (conv => lhs; whnf); done) (by (conv => lhs; whnf); done) (hC0 := (by first | infer_instance | fail)) (hC1 := (by first | infer_instance | fail)) (hP0 := (by first | infer_instance | fail)) (hP1 := (by first | infer_instance | fail)) (hl0 := (by first | infer_instance | fail)) (hl1 := (by first | infer_instance | fail)) ?_ | refine b_build3 (by (conv => lhs; whnf); done) (by (conv => lhs; whnf); done) (by (conv => lhs; whnf); done) (hC0 := (by first | infer_instance | fail)) (hC1 := (by first | infer_instance | fail)) (hC2 := (by first | infer_instance | fail)) (hP0 := (by first | infer_instance | fail)) (hP1 := (by first | infer_instance | fail)) (hP2 := (by first | infer_instance | fail)) (hl0 := (by first | infer_instance | fail)) (hl1 := (by first | infer_instance | fail)) (hl2 := (by first | infer_instance | fail)) ?_ | refine b_build4 (by (conv => lhs; whnf); done) (by (conv => lhs; whnf); done) (by (conv => lhs; whnf); done) (by (conv => lhs; whnf); done) (hC0 := (by first | infer_instance | fail)) (hC1 := (by first | infer_instance | fail)) (hC2 := (by first | infer_instance | fail)) (hC3 := (by first | infer_instance | fail)) (hP0 := (by first | infer_instance | fail)) (hP1 := (by first | infer_instance | fail)) (hP2 := (by first | infer_instance | fail)) (hP3 := (by first | infer_instance | fail)) (hl0 := (by first | infer_instance | fail)) (hl1 := (by first | infer_instance | fail)) (hl2 := (by first | infer_instance | fail)) (hl3 := (by first | infer_instance | fail)) ?_ | refine b_build5 (by (conv => lhs; whnf); done) (by (conv => lhs; whnf); done) (by (conv => lhs; whnf); done) (by (conv => lhs; whnf); done) (by (conv => lhs; whnf); done) (hC0 := (by first | infer_instance | fail)) (hC1 := (by first | infer_instance | fail)) (hC2 := (by first | infer_instance | fail)) (hC3 := (by first | infer_instance | fail)) (hC4 := (by first | infer_instance | fail)) (hP0 := (by first | infer_instance | fail)) (hP1 := (by first | infer_instance | fail)) (hP2 := (by first | infer_instance | fail)) (hP3 := (by first | infer_instance | fail)) (hP4 := (by first | infer_instance | fail)) (hl0 := (by first | infer_instance | fail)) (hl1 := (by first | infer_instance | fail)) (hl2 := (by first | infer_instance | fail)) (hl3 := (by first | infer_instance | fail)) (hl4 := (by first | infer_instance | fail)) ?_ | refine b_build6 (by (conv => lhs; whnf); done) (by (conv => lhs; whnf); done) (by (conv => lhs; whnf); done) (by (conv => lhs; whnf); done) (by (conv => lhs; whnf); done) (by (conv => lhs; whnf); done) (hC0 := (by first | infer_instance | fail)) (hC1 := (by first | infer_instance | fail)) (hC2 := (by first | infer_instance | fail)) (hC3 := (by first | infer_instance | fail)) (hC4 := (by first | infer_instance | fail)) (hC5 := (by first | infer_instance | fail)) (hP0 := (by first | infer_instance | fail)) (hP1 := (by first | infer_instance | fail)) (hP2 := (by first | infer_instance | fail)) (hP3 := (by first | infer_instance | fail)) (hP4 := (by first | infer_instance | fail)) (hP5 := (by first | infer_instance | fail)) (hl0 := (by first | infer_instance | fail)) (hl1 := (by first | infer_instance | fail)) (hl2 := (by first | infer_instance | fail)) (hl3 := (by first | infer_instance | fail)) (hl4 := (by first | infer_instance | fail)) (hl5 := (by first | infer_instance | fail)) ?_ | refine b_build7 (by (conv => lhs; whnf); done) (by (conv => lhs; whnf); done) (by (conv => lhs; whnf); done) (by (conv => lhs; whnf); done) (by (conv => lhs; whnf); done) (by (conv => lhs; whnf); done) (by (conv => lhs; whnf); done) (hC0 := (by first | infer_instance | fail)) (hC1 := (by first | infer_instance | fail)) (hC2 := (by first | infer_instance | fail)) (hC3 := (by first | infer_instance | fail)) (hC4 := (by first | infer_instance | fail)) (hC5 := (by first | infer_instance | fail)) (hC6 := (by first | infer_instance | fail)) (hP0 := (by first | infer_instance | fail)) (hP1 := (by first | infer_instance | fail)) (hP2 := (by first | infer_instance | fail)) (hP3 := (by first | infer_instance | fail)) (hP4 := (by first | infer_instance | fail)) (hP5 := (by first | infer_instance | fail)) (hP6 := (by first | infer_instance | fail)) (hl0 := (by first | infer_instance | fail)) (hl1 := (by first | infer_instance | fail)) (hl2 := (by first | infer_instance | fail)) (hl3 := (by first | infer_instance | fail)) (hl4 := (by first | infer_instance | fail)) (hl5 := (by first | infer_instance | fail)) (hl6 := (by first | infer_instance | fail)) ?_ | refine b_build8 (by (conv => lhs; whnf); done) (by (conv => lhs; whnf); done) (by (conv => lhs; whnf); done) (by (conv => lhs; whnf); done) (by (conv => lhs; whnf); done) (by (conv => lhs; whnf); done) (by (conv => lhs; whnf); done) (by (conv => lhs; whnf); done) (hC0 := (by first | infer_instance | fail)) (hC1 := (by first | infer_instance | fail)) (hC2 := (by first | infer_instance | fail)) (hC3 := (by first | infer_instance | fail)) (hC4 := (by first | infer_instance | fail)) (hC5 := (by first | infer_instance | fail)) (hC6 := (by first | infer_instance | fail)) (hC7 := (by first | infer_instance | fail)) (hP0 := (by first | infer_instance | fail)) (hP1 := (by first | infer_instance | fail)) (hP2 := (by first | infer_instance | fail)) (hP3 := (by first | infer_instance | fail)) (hP4 := (by first | infer_instance | fail)) (hP5 := (by first | infer_instance | fail)) (hP6 := (by first | infer_instance | fail)) (hP7 := (by first | infer_instance | fail)) (hl0 := (by first | infer_instance | fail)) (hl1 := (by first | infer_instance | fail)) (hl2 := (by first | infer_instance | fail)) (hl3 := (by first | infer_instance | fail)) (hl4 := (by first | infer_instance | fail)) (hl5 := (by first | infer_instance | fail)) (hl6 := (by first | infer_instance | fail)) (hl7 := (by first | infer_instance | fail)) ?_)
      | (refine g_slice ?_; first | refine s_cutL (by rfl) (by rfl) (by omega) ?_ | refine s_cutH (by rfl) (by rfl) (by omega) ?_ | refine s_cutS (by (conv => lhs; whnf); done) (by rfl) (by rfl) (jx := (by first | infer_instance | fail)) (by omega) (by omega) (by omega) ?_ | refine s_cutSL (by (conv => lhs; whnf); done) (by rfl) (jx := (by first | infer_instance | fail)) (by omega) (by omega) ?_ | refine s_sliceD (by rfl) ?_)
      | (refine g_conv ?_; first | refine s_convB (by rfl) ?_ | refine s_convW (by rfl) ?_ | refine s_convU (by rfl) (by omega) ?_ | refine s_strB (by rfl) ?_ | refine s_strBox (by rfl) (by repeat (first | exact List.mem_cons_self | apply List.mem_cons_of_mem)) (hs := (by first | infer_instance | fail)) ?_)
      | (refine g_index ?_; first | refine s_indexS (by (conv => lhs; whnf); done) (by rfl) (jx := (by first | infer_instance | fail)) (by omega) ?_)
      | (refine g_nck ?_; first | refine s_nilCheckP (by rfl) ?_)
      | refine pwp_seq ?_
      | refine pwp_region (by kernel_rfl) ?_
      | refine pwp_block ?_
      | refine pwp_skip ?_
      | refine pwp_ret ?_
      | refine pwp_exit ?_
      | refine pwp_drawQ (by decide +kernel) ?_
      | refine pwp_condT (by rfl) ?_
      | refine pwp_condF (by rfl) ?_)
    exact hB.out) : A := h ⟨k⟩
/-- The same, from within a region. -/
theorem walkp {A B : Prop} (k : B) (h : Wrap B → A := by
    intro hB
    refine walk ?_
    exact hB.out) : A := h ⟨k⟩
/-- Up to a new variable, and on. -/
theorem walkb {A : Prop} {B : Nat → Prop} (k : ∀ b, B b) (h : WrapF B → A := by
    intro hB
    refine walk ?_
    first | refine s_box (by rfl) fun b => ?_ | refine s_alloc fun b => ?_
    refine walk ?_
    exact hB.out b) : A := h ⟨k⟩
/-- The same, from within a region. -/
theorem walkbp {A : Prop} {B : Nat → Prop} (k : ∀ b, B b) (h : WrapF B → A := by
    intro hB
    refine walkb fun b => ?_
    exact hB.out b) : A := h ⟨k⟩
/-- Up to an append, and on. -/
theorem walka {A : Prop} {B : Tag → Prop} (k : ∀ t, B t) (h : WrapF B → A := by
    intro hB
    refine walk ?_
    first | refine s_append0 (by rfl) (by rfl) (by simp only [List.length_append, List.length_cons, List.length_nil, List.length_map, List.length_take, List.length_drop, Nat.zero_add]; omega) (by simp only [List.length_append, List.length_cons, List.length_nil, List.length_map, List.length_take, List.length_drop, Nat.zero_add]; omega) fun t => ?_ | refine s_append (by rfl) (by rfl) (by simp only [List.length_append, List.length_cons, List.length_nil, List.length_map, List.length_take, List.length_drop, Nat.zero_add]; omega) (by simp only [List.length_append, List.length_cons, List.length_nil, List.length_map, List.length_take, List.length_drop, Nat.zero_add]; omega) (fun t => by first | exact .here | exact (.there .here) | exact (.there (.there .here)) | exact (.there (.there (.there .here))) | exact (.there (.there (.there (.there .here)))) | exact (.there (.there (.there (.there (.there .here))))) | exact (.there (.there (.there (.there (.there (.there .here)))))) | exact (.there (.there (.there (.there (.there (.there (.there .here))))))) | exact (.there (.there (.there (.there (.there (.there (.there (.there .here))))))))) fun t => ?_
    refine walk ?_
    exact hB.out t) : A := h ⟨k⟩
/-- The same, from within a region. -/
theorem walkap {A : Prop} {B : Tag → Prop} (k : ∀ t, B t) (h : WrapF B → A := by
    intro hB
    refine walka fun t => ?_
    exact hB.out t) : A := h ⟨k⟩
end
end Go.Q
/- Plain laws: the order of digests; ascending lists. No program in sight. -/
namespace Go.Q
open Go

theorem u8_tri {a b : UInt8} (h : a ≠ b) : a < b ∨ b < a := by
  have h2 : a.toNat ≠ b.toNat := fun e => h (UInt8.toNat.inj e)
  rw [UInt8.lt_iff_toNat_lt, UInt8.lt_iff_toNat_lt]; omega
def cmpL : List UInt8 → List UInt8 → Int
  | x :: xs, y :: ys => if x < y then -1 else if y < x then 1 else cmpL xs ys
  | [], [] => 0
  | [], _ :: _ => -1
  | _ :: _, [] => 1
def cmpD (a b : Dig) : Int := cmpL a.bs b.bs

theorem cmpL_cases : ∀ a b : List UInt8, cmpL a b = -1 ∧ a < b ∨ cmpL a b = 0 ∧ a = b ∨ cmpL a b = 1 ∧ b < a
  | [], [] => .inr (.inl ⟨rfl, rfl⟩)
  | [], y :: ys => .inl ⟨rfl, List.nil_lt_cons y ys⟩
  | x :: xs, [] => .inr (.inr ⟨rfl, List.nil_lt_cons x xs⟩)
  | x :: xs, y :: ys => by
    unfold cmpL
    by_cases h1 : x < y
    · simp [h1, List.cons_lt_cons_iff]
    · by_cases h2 : y < x
      · simp [h1, h2, List.cons_lt_cons_iff]
      · have e : x = y := by
          have := u8_tri (a := x) (b := y)
          by_cases he : x = y
          · exact he
          · rcases this he with h | h
            · exact absurd h h1
            · exact absurd h h2
        subst e
        simp only [h1, if_false]
        rcases cmpL_cases xs ys with ⟨h3, h4⟩ | ⟨h3, h4⟩ | ⟨h3, h4⟩
        · exact .inl ⟨h3, by simp [List.cons_lt_cons_iff, h4]⟩
        · exact .inr (.inl ⟨h3, by rw [h4]⟩)
        · exact .inr (.inr ⟨h3, by simp [List.cons_lt_cons_iff, h4]⟩)

theorem cmpL_eq_zero {a b : List UInt8} : cmpL a b = 0 ↔ a = b := by
  rcases cmpL_cases a b with ⟨h1, h2⟩ | ⟨h1, h2⟩ | ⟨h1, h2⟩
  · exact ⟨fun h => by omega, fun h => by subst h; exact absurd h2 (List.lt_irrefl a)⟩
  · exact ⟨fun _ => h2, fun _ => h1⟩
  · exact ⟨fun h => by omega, fun h => by subst h; exact absurd h2 (List.lt_irrefl a)⟩
theorem cmpL_neg {a b : List UInt8} : cmpL a b < 0 ↔ a < b := by
  rcases cmpL_cases a b with ⟨h1, h2⟩ | ⟨h1, h2⟩ | ⟨h1, h2⟩
  · exact ⟨fun _ => h2, fun _ => by omega⟩
  · exact ⟨fun h => by omega, fun h => by subst h2; exact absurd h (List.lt_irrefl a)⟩
  · exact ⟨fun h => by omega, fun h => absurd (List.lt_trans h h2) (List.lt_irrefl a)⟩

/-- Digests ascend. -/
def Dig.lt (a b : Dig) : Prop := cmpD a b < 0
instance (a b : Dig) : Decidable (Dig.lt a b) := by unfold Dig.lt; infer_instance
theorem Dig.lt_irrefl (a : Dig) : ¬ Dig.lt a a := fun h => List.lt_irrefl a.bs (cmpL_neg.1 h)
theorem Dig.lt_trans {a b c : Dig} (h : Dig.lt a b) (k : Dig.lt b c) : Dig.lt a c := cmpL_neg.2 (List.lt_trans (cmpL_neg.1 h) (cmpL_neg.1 k))
theorem Dig.lt_asymm {a b : Dig} (h : Dig.lt a b) : ¬ Dig.lt b a := fun k => Dig.lt_irrefl a (Dig.lt_trans h k)
theorem Dig.ne_of_lt {a b : Dig} (h : Dig.lt a b) : a ≠ b := fun e => by subst e; exact Dig.lt_irrefl _ h
theorem Dig.tri (a b : Dig) : Dig.lt a b ∨ a = b ∨ Dig.lt b a := by
  rcases cmpL_cases a.bs b.bs with ⟨h1, h2⟩ | ⟨h1, h2⟩ | ⟨h1, h2⟩
  · exact .inl (cmpL_neg.2 h2)
  · exact .inr (.inl (Dig.ext h2))
  · exact .inr (.inr (cmpL_neg.2 h2))
theorem cmpD_zero {a b : Dig} : cmpD a b = 0 ↔ a = b := ⟨fun h => Dig.ext (cmpL_eq_zero.1 h), fun h => by subst h; exact cmpL_eq_zero.2 rfl⟩

/-- The first place at which two digests differ. -/
theorem cmpL_at : ∀ {a b : List UInt8} {k : Nat}, a.length = b.length → k < a.length → (∀ i, i < k → a.getD i 0 = b.getD i 0) → a.getD k 0 ≠ b.getD k 0 → cmpL a b = if a.getD k 0 < b.getD k 0 then -1 else 1
  | x :: xs, y :: ys, 0, hl, hk, he, hn => by
    simp only [List.getD_cons_zero] at hn ⊢
    unfold cmpL
    by_cases h1 : x < y
    · simp [h1]
    · have := u8_tri hn
      have h2 : y < x := this.resolve_left h1
      simp [h1, h2]
  | x :: xs, y :: ys, k + 1, hl, hk, he, hn => by
    have h0 := he 0 (by omega)
    simp only [List.getD_cons_zero] at h0
    subst h0
    simp only [List.getD_cons_succ] at hn ⊢
    unfold cmpL
    simp only [UInt8.lt_irrefl, if_false]
    exact cmpL_at (by simpa using hl) (by simpa using hk) (fun i hi => by have := he (i + 1) (by omega); simpa using this) hn
  | [], _, _, _, hk, _, _ => by simp at hk
  | _ :: _, [], _, hl, _, _, _ => by simp at hl
theorem cmpD_at {a b : Dig} {k : Nat} (hk : k < 32) (he : ∀ i, i < k → a.at i = b.at i) (hn : a.at k ≠ b.at k) : cmpD a b = if a.at k < b.at k then -1 else 1 :=
  cmpL_at (by rw [a.len, b.len]) (by rw [a.len]; exact hk) he hn

/-- An ascending list with one more. -/
def withD : List Dig → Dig → List Dig
  | [], d => [d]
  | x :: xs, d => if Dig.lt x d then x :: withD xs d else if x = d then x :: xs else d :: x :: xs

theorem withD_at : ∀ {l : List Dig} {d : Dig} {k : Nat}, k ≤ l.length → (∀ i (h : i < l.length), i < k → Dig.lt l[i] d) → (∀ h : k < l.length, ¬ Dig.lt l[k] d) →
    withD l d = if ∃ h : k < l.length, l[k] = d then l else l.take k ++ d :: l.drop k
  | [], d, k, hk, _, _ => by simp [withD]
  | x :: xs, d, 0, _, _, hk => by
    have := hk (by simp)
    simp only [List.getElem_cons_zero] at this
    simp [withD, this]
  | x :: xs, d, k + 1, hl, h1, h2 => by
    have h0 := h1 0 (by simp) (by omega)
    simp only [List.getElem_cons_zero] at h0
    have ih := withD_at (l := xs) (d := d) (k := k) (by simpa using hl) (fun i h hi => by have := h1 (i + 1) (by simpa using h) (by omega); simpa using this) (fun h => by have := h2 (by simpa using h); simpa using this)
    simp only [withD, h0, if_true, ih]
    simp only [List.length_cons, Nat.add_lt_add_iff_right, List.getElem_cons_succ, List.take_succ_cons, List.drop_succ_cons]
    split <;> rfl
end Go.Q
/- Contracts: digests and lists of them (the reference's layers 2, 16, 17). -/
namespace Go.Proofs
open Go Go.Q
attribute [local irreducible] pwp pops PCalls OpN

instance Compare_ct (a b : Dig) : FnC Tryz.prog 64 [.agg (eDig a), .agg (eDig b)] (.raw (.int .i64 (cmpD a b))) := ⟨by
  refine fn_of Tryz.func64 Tryz.ntmps64 rfl (rs := [.tmp 4]) rfl rfl fun hb LF => ?_
  refine walkb fun p => ?_
  refine walkbp fun q => ?_
  refine pwp_loopS (σ := Nat) (fun k => k ≤ 32 ∧ ∀ i, i < k → a.at i = b.at i) (fun k => 32 - k) (fun k => [(2, .raw (.pointer (some ⟨p, 0, none⟩))), (3, .raw (.pointer (some ⟨q, 0, none⟩))), (5, .raw (.int .i64 k))]) (fun _ => .box q 37 (eDig b) :: .box p 37 (eDig a) :: LF) 0 ⟨by simp, by simp⟩ ⟨rfl, rfl, rfl⟩ (.refl _) ?_
  rintro k ⟨hk, he⟩
  refine walk ?_
  refine pwp_condD (fun hc => ?_) (fun hc => ?_)
  · refine walk ?_
    refine pwp_condD (fun h1 => ?_) (fun h1 => ?_)
    · refine walk ?_
      refine end1 (.of_eq ?_)
      have h2 : a.at k < b.at k := by rw [UInt8.lt_iff_toNat_lt]; omega
      rw [cmpD_at (by omega) he (fun e => by rw [e] at h2; exact UInt8.lt_irrefl _ h2), if_pos h2]
    · refine walk ?_
      refine pwp_condD (fun h2 => ?_) (fun h2 => ?_)
      · refine walk ?_
        refine end1 (.of_eq ?_)
        have h3 : ¬ a.at k < b.at k := by rw [UInt8.lt_iff_toNat_lt]; omega
        rw [cmpD_at (by omega) he (fun e => by rw [e] at h2; omega), if_neg h3]
      · refine walk ?_
        refine ⟨k + 1, ⟨by omega, fun i hi => ?_⟩, by dsimp only; omega, ⟨rfl, rfl, rfl⟩, .refl _⟩
        rcases Nat.lt_or_ge i k with h' | h'
        · exact he i h'
        · have : i = k := by omega
          subst this
          exact UInt8.toNat.inj (by omega)
  · refine walk ?_
    refine end1 (.of_eq ?_)
    rw [cmpD_zero.2 (Dig.ext_at fun i hi => he i (by omega))]⟩

instance zero_ct (a : Dig) : FnC Tryz.prog 123 [.agg (eDig a)] (.raw (.bool (decide (a = Dig.zero)))) := ⟨by
  refine fn_of Tryz.func123 Tryz.ntmps123 rfl (rs := [.tmp 2]) rfl rfl fun hb LF => ?_
  refine walkb fun p => ?_
  exact ⟨trivial, _, [], .cons (.tmp 2) .nil, .cons _ (.refl _), .refl _, rfl⟩⟩

instance SameD_ct (l m : List Dig) (t u : Tag) : FnC Tryz.prog 41 [.slice (l.map eDig) t, .slice (m.map eDig) u] (.raw (.bool (decide (l = m)))) := ⟨by
  refine fn_of Tryz.func41 Tryz.ntmps41 rfl (rs := [.tmp 4]) rfl rfl fun hb LF => ?_
  have hlen : l.length ≤ 140737488355328 := (hb (.slice (l.map eDig) t) (by simp)).slice_map
  refine walk ?_
  refine pwp_condN (fun h1 => ?_) (fun h1 => ?_)
  · refine walk ?_
    refine end1 (.of_eq ?_)
    have : ¬ l = m := fun e => h1 (by rw [e])
    simp [this]
  · refine walk ?_
    have hl : l.length = m.length := by omega
    refine pwp_loopS (σ := Nat) (fun k => k ≤ l.length ∧ l.take k = m.take k) (fun k => l.length - k) (fun k => [(0, .slice (l.map eDig) t), (1, .slice (m.map eDig) u), (5, .raw (.int .i64 k))]) (fun _ => LF) 0 ⟨by simp, by simp⟩ ⟨rfl, rfl, rfl⟩ (.refl _) ?_
    rintro k ⟨hk, he⟩
    refine walk ?_
    refine pwp_condD (fun hc => ?_) (fun hc => ?_)
    · refine walk ?_
      refine pwp_condN (fun h2 => ?_) (fun h2 => ?_)
      · refine walk ?_
        refine end1 (.of_eq ?_)
        have : ¬ l = m := fun e => h2 (by simp [e])
        simp [this]
      · refine walk ?_
        refine ⟨k + 1, ⟨by omega, ?_⟩, by dsimp only; omega, ⟨rfl, rfl, rfl⟩, .refl _⟩
        rw [List.take_succ_eq_append_getElem (by omega), List.take_succ_eq_append_getElem (by omega), he, h2]
    · refine walk ?_
      refine end1 (.of_eq ?_)
      have : l = m := by
        rw [List.take_of_length_le (by omega), List.take_of_length_le (by omega)] at he
        exact he
      simp [this]⟩
end Go.Proofs
/- Contracts: lists of digests and sets of patches (the reference's layers 16 and 17). -/
namespace Go.Proofs
open Go Go.Q
attribute [local irreducible] pwp pops PCalls OpN

instance Has_ct (l : List Dig) (d : Dig) (t : Tag) : FnC Tryz.prog 102 [.slice (l.map eDig) t, .agg (eDig d)] (.raw (.bool (decide (d ∈ l)))) := ⟨by
  refine fn_of Tryz.func102 Tryz.ntmps102 rfl (rs := [.tmp 4]) rfl rfl fun hb LF => ?_
  have hlen : l.length ≤ 140737488355328 := (hb (.slice (l.map eDig) t) (by simp)).slice_map
  refine walkb fun b => ?_
  refine pwp_loopS (σ := Nat) (fun k => k ≤ l.length ∧ ∀ i (h : i < l.length), i < k → d ≠ l[i]) (fun k => l.length - k) (fun k => [(0, .slice (l.map eDig) t), (3, .raw (.pointer (some ⟨b, 0, none⟩))), (5, .raw (.int .i64 k))]) (fun _ => .box b 37 (eDig d) :: LF) 0 ⟨by simp, by simp⟩ ⟨rfl, rfl, rfl⟩ (.refl _) ?_
  rintro k ⟨hk, hne⟩
  refine walk ?_
  refine pwp_condD (fun hc => ?_) (fun hc => ?_)
  · refine walk ?_
    refine pwp_condD (fun he => ?_) (fun he => ?_)
    · refine walk ?_; refine end1 (.of_eq ?_)
      have : d ∈ l := he ▸ List.getElem_mem _
      simp [this]
    · refine walk ?_
      refine ⟨k + 1, ⟨by omega, fun i h hi => ?_⟩, by dsimp only; omega, ⟨rfl, rfl, rfl⟩, .refl _⟩
      rcases Nat.lt_or_ge i k with h' | h'
      · exact hne i h h'
      · have : i = k := by omega
        subst this; exact fun e => he e.symm
  · refine walk ?_; refine end1 (.of_eq ?_)
    have : ¬ d ∈ l := fun h => by
      obtain ⟨i, hi, e⟩ := List.mem_iff_getElem.1 h
      exact hne i hi (by omega) e.symm
    simp [this]⟩

def allIn (l m : List Dig) : Bool := m.all (fun x => decide (x ∈ l))
instance all_ct (l m : List Dig) (t u : Tag) : FnC Tryz.prog 90 [.slice (l.map eDig) t, .slice (m.map eDig) u] (.raw (.bool (allIn l m))) := ⟨by
  refine fn_of Tryz.func90 Tryz.ntmps90 rfl (rs := [.tmp 4]) rfl rfl fun hb LF => ?_
  have hlen : m.length ≤ 140737488355328 := (hb (.slice (m.map eDig) u) (by simp)).slice_map
  refine walk ?_
  refine pwp_loopS (σ := Nat) (fun k => k ≤ m.length ∧ ∀ i (h : i < m.length), i < k → m[i] ∈ l) (fun k => m.length - k) (fun k => [(0, .slice (l.map eDig) t), (1, .slice (m.map eDig) u), (5, .raw (.int .i64 k))]) (fun _ => LF) 0 ⟨by simp, by simp⟩ ⟨rfl, rfl, rfl⟩ (.refl _) ?_
  rintro k ⟨hk, hne⟩
  refine walk ?_
  refine pwp_condD (fun hc => ?_) (fun hc => ?_)
  · refine walk ?_
    refine pwp_condN (fun he => ?_) (fun he => ?_)
    · refine walk ?_; refine end1 (.of_eq ?_)
      have : allIn l m = false := by
        unfold allIn; rw [List.all_eq_false]; exact ⟨_, List.getElem_mem _, by simpa using he⟩
      rw [this]
    · refine walk ?_
      refine ⟨k + 1, ⟨by omega, fun i h hi => ?_⟩, by dsimp only; omega, ⟨rfl, rfl, rfl⟩, .refl _⟩
      rcases Nat.lt_or_ge i k with h' | h'
      · exact hne i h h'
      · have : i = k := by omega
        subst this; exact he
  · refine walk ?_; refine end1 (.of_eq ?_)
    have : allIn l m = true := by
      unfold allIn; rw [List.all_eq_true]; intro x hx
      obtain ⟨i, hi, rfl⟩ := List.mem_iff_getElem.1 hx
      simpa using hne i hi (by omega)
    rw [this]⟩

def ids (s : List Sto) : List Dig := s.map (·.id)
instance Ids_ct (s : List Sto) (t : Tag) : FnC Tryz.prog 34 [.slice (s.map eSto) t] (.slice ((ids s).map eDig) .ro) := ⟨by
  refine fn_of Tryz.func34 Tryz.ntmps34 rfl (rs := [.tmp 2]) rfl rfl fun hb LF => ?_
  have hlen : s.length * 37 ≤ 140737488355328 := (hb (.slice (s.map eSto) t) (by simp)).slice_cells
  refine walk ?_
  refine pwp_tok 32 ?_
  refine pwp_loopS (σ := Nat × Tag) (fun k => k.1 ≤ s.length) (fun k => s.length - k.1) (fun k => [(0, .slice (s.map eSto) t), (3, .slice ((ids (s.take k.1)).map eDig) k.2), (4, .raw (.int .i64 k.1))]) (fun k => .tok k.2 (ids (s.take k.1)).length 32 :: LF) (0, .nil) (by simp) ⟨rfl, rfl, rfl⟩ (.refl _) ?_
  rintro ⟨k, u⟩ hk
  dsimp only at hk
  refine walk ?_
  refine pwp_condD (fun hc => ?_) (fun hc => ?_)
  · have hl : (ids (s.take k)).length = k := by simp [ids]; omega
    refine walka fun v => ?_
    have e : ids (s.take (k + 1)) = ids (s.take k) ++ [s[k].id] := by
      rw [List.take_succ_eq_append_getElem (by omega)]; simp only [ids, List.map_append, List.map_cons, List.map_nil]
    refine ⟨(k + 1, v), by dsimp only; omega, by dsimp only; omega, ⟨rfl, by dsimp only; rw [e]; rfl, rfl⟩, by dsimp only; rw [e]; exact .refl _⟩
  · refine walk ?_
    refine end1 (.ros ?_)
    rw [List.take_of_length_le (by omega)]⟩

def getS : List Sto → Dig → Option Pat
  | [], _ => none
  | x :: s, d => if x.id = d then some x.patch else getS s d
theorem getS_none {s : List Sto} {d : Dig} (h : ∀ i (h : i < s.length), s[i].id ≠ d) : getS s d = none := by
  induction s with
  | nil => rfl
  | cons x s ih =>
    have h0 := h 0 (by simp)
    simp only [List.getElem_cons_zero] at h0
    simp only [getS, h0, if_false]
    exact ih fun i hi => by have := h (i + 1) (by simpa using hi); simpa using this
theorem getS_some {s : List Sto} {d : Dig} {k : Nat} (hk : k < s.length) (h : ∀ i (h : i < s.length), i < k → s[i].id ≠ d) (he : s[k].id = d) : getS s d = some s[k].patch := by
  induction s generalizing k with
  | nil => simp at hk
  | cons x s ih =>
    cases k with
    | zero => simp only [List.getElem_cons_zero] at he ⊢; simp [getS, he]
    | succ k =>
      have h0 := h 0 (by simp) (by omega)
      simp only [List.getElem_cons_zero] at h0
      simp only [getS, h0, if_false, List.getElem_cons_succ]
      exact ih (by simpa using hk) (fun i hi hik => by have := h (i + 1) (by simpa using hi) (by omega); simpa using this) (by simpa using he)
def optP (o : Option Pat) : PV := .tuple [.agg (ePat (o.getD Pat.zero)), .raw (.bool o.isSome)]
instance Get_ct (s : List Sto) (d : Dig) (t : Tag) : FnC Tryz.prog 45 [.slice (s.map eSto) t, .agg (eDig d)] (optP (getS s d)) := ⟨by
  refine fn_of Tryz.func45 Tryz.ntmps45 rfl (rs := [.cell 4 57, .tmp 5]) rfl rfl fun hb LF => ?_
  have hlen : s.length ≤ 140737488355328 := (hb (.slice (s.map eSto) t) (by simp)).slice_map
  refine walkb fun b => ?_
  refine walkbp fun r => ?_
  refine pwp_loopS (σ := Nat) (fun k => k ≤ s.length ∧ ∀ i (h : i < s.length), i < k → s[i].id ≠ d) (fun k => s.length - k) (fun k => [(0, .slice (s.map eSto) t), (3, .raw (.pointer (some ⟨b, 0, none⟩))), (4, .raw (.pointer (some ⟨r, 0, none⟩))), (6, .raw (.int .i64 k))]) (fun _ => .box r 57 (ePat Pat.zero) :: .box b 37 (eDig d) :: LF) 0 ⟨by simp, by simp⟩ ⟨rfl, rfl, rfl, rfl⟩ (.refl _) ?_
  rintro k ⟨hk, hne⟩
  refine walk ?_
  refine pwp_condD (fun hc => ?_) (fun hc => ?_)
  · refine walk ?_
    refine pwp_condD (fun he => ?_) (fun he => ?_)
    · refine walk ?_
      refine endC1 rfl (.of_eq ?_)
      rw [getS_some (by omega) hne he]; rfl
    · refine walk ?_
      refine ⟨k + 1, ⟨by omega, fun i h hi => ?_⟩, by dsimp only; omega, ⟨rfl, rfl, rfl, rfl⟩, .refl _⟩
      rcases Nat.lt_or_ge i k with h' | h'
      · exact hne i h h'
      · have : i = k := by omega
        subst this; exact he
  · refine walk ?_
    refine endC1 rfl (.of_eq ?_)
    rw [getS_none fun i h => hne i h (by omega)]; rfl⟩

set_option maxHeartbeats 1000000 in
instance With_ct (l : List Dig) (d : Dig) (t : Tag) [hs : Small (l.length ≤ 1000000)] : FnC Tryz.prog 100 [.slice (l.map eDig) t, .agg (eDig d)] (.slice ((withD l d).map eDig) .ro) := ⟨by
  refine fn_of Tryz.func100 Tryz.ntmps100 rfl (rs := [.tmp 4]) rfl rfl fun hb LF => ?_
  have hlen : l.length ≤ 1000000 := hs.out
  refine walkb fun b => ?_
  refine pwp_loopS (σ := Nat) (fun k => k ≤ l.length ∧ ∀ i (h : i < l.length), i < k → Dig.lt l[i] d) (fun k => l.length - k) (fun k => [(0, .slice (l.map eDig) t), (3, .raw (.pointer (some ⟨b, 0, none⟩))), (5, .raw (.int .i64 k))]) (fun _ => .box b 37 (eDig d) :: LF) 0 ⟨by simp, by simp⟩ ⟨rfl, rfl, rfl⟩ (.refl _) ?_
  rintro k ⟨hk, hne⟩
  refine walk ?_
  refine pops_if (fun hp => ?_) (fun hp => ?_)
  · have hc : (k : Int) < l.length := of_decide_eq_true hp
    refine walkp ?_
    refine pwp_condD (fun h1 => ?_) (fun h1 => ?_)
    · refine walk ?_
      refine ⟨k + 1, ⟨by omega, fun i h hi => ?_⟩, by dsimp only; omega, ⟨rfl, rfl, rfl⟩, .refl _⟩
      rcases Nat.lt_or_ge i k with h' | h'
      · exact hne i h h'
      · have : i = k := by omega
        subst this; exact h1
    · refine walk ?_
      refine pwp_condD (fun h2 => ?_) (fun h2 => ?_)
      · refine walk ?_
        refine end1 (.ros ?_)
        rw [withD_at hk hne (fun _ => h1), if_pos ⟨by omega, h2⟩]
      · refine walka fun t1 => ?_
        refine walkap fun t2 => ?_
        refine walkap fun t3 => ?_
        refine end1 (.ros ?_)
        rw [withD_at hk hne (fun _ => h1), if_neg (fun ⟨_, e⟩ => h2 e)]
        simp
  · have hc : ¬ (k : Int) < l.length := of_decide_eq_false hp
    refine walkp ?_
    refine walkap fun t1 => ?_
    refine walkap fun t2 => ?_
    refine walkap fun t3 => ?_
    refine end1 (.ros ?_)
    rw [withD_at hk hne (fun h => absurd (show (k : Int) < l.length by omega) hc), if_neg (fun ⟨h, _⟩ => hc (by omega))]
    simp⟩
end Go.Proofs
/- Contracts: small questions about atoms and identities (the reference's layers 16 and 17). -/
namespace Go.Proofs
open Go Go.Q
attribute [local irreducible] pwp pops PCalls OpN

def rWant (k : Int) : Int := if k = 7 then 0 else k
def rText (k : Int) : Bool := decide (k = 5) || decide (k = 6)
def rOther (x : Ident) : Bool := !decide (x.patch = Dig.zero)
def rDirectory (x : Atm) : Bool := decide (x.kind = 1) && decide (x.type = 4)
def rAllowed (x : Ident) (n : Int) : Bool := if x.patch = Dig.zero then decide (0 ≤ x.n) && decide (x.n < n) else decide (0 ≤ x.n) && decide (x.n < 100000)
def rFitsFile (k : Int) (x : Atm) : Bool := if x.kind ≠ 1 then false else if rText k then decide (x.type = 1) else !decide (k = 4) || decide (x.type = 2) || decide (x.type = 3)
def rFitsEnd (f : Ident) (x : Atm) : Bool := decide (x.kind = 5) && decide (x.file = f)

instance none_ct : FnC Tryz.prog 281 [] (.agg (eIdent Ident.zero)) := ⟨by
  refine fn_of Tryz.func281 Tryz.ntmps281 rfl (rs := [.cell 0 115]) rfl rfl fun hb LF => ?_
  refine walkb fun b => ?_
  exact endC rfl (.refl _)⟩
instance Root_ct : FnC Tryz.prog 139 [] (.agg (eIdent ⟨Dig.zero, -1⟩)) := ⟨by
  refine fn_of Tryz.func139 Tryz.ntmps139 rfl (rs := [.cell 0 115]) rfl rfl fun hb LF => ?_
  refine walkb fun b => ?_
  exact endC rfl (.refl _)⟩
instance want_ct (k : Int) : FnC Tryz.prog 203 [.raw (.int .i64 k)] (.raw (.int .i64 (rWant k))) := ⟨by
  refine fn_of Tryz.func203 Tryz.ntmps203 rfl (rs := [.tmp 2]) rfl rfl fun hb LF => ?_
  refine walk ?_
  refine pwp_condD (fun h => ?_) (fun h => ?_)
  · refine walk ?_
    refine end1 (.of_eq ?_)
    simp [rWant, h]
  · refine walk ?_
    refine end1 (.of_eq ?_)
    simp [rWant, h]⟩
instance text_ct (k : Int) : FnC Tryz.prog 201 [.raw (.int .i64 k)] (.raw (.bool (rText k))) := ⟨by
  refine fn_of Tryz.func201 Tryz.ntmps201 rfl (rs := [.tmp 2]) rfl rfl fun hb LF => ?_
  refine walk ?_
  refine pops_if (fun hp => ?_) (fun hp => ?_)
  · refine walkp ?_
    refine end1 (.of_eq ?_)
    simp_all [rText]
  · refine walkp ?_
    refine end1 (.of_eq ?_)
    simp_all [rText]⟩
instance other_ct (x : Ident) : FnC Tryz.prog 159 [.agg (eIdent x)] (.raw (.bool (rOther x))) := ⟨by
  refine fn_of Tryz.func159 Tryz.ntmps159 rfl (rs := [.tmp 2]) rfl rfl fun hb LF => ?_
  refine walkb fun b => ?_
  refine end1 (.of_eq ?_)
  rfl⟩
instance directory_ct (x : Atm) : FnC Tryz.prog 162 [.agg (eAtm x)] (.raw (.bool (rDirectory x))) := ⟨by
  refine fn_of Tryz.func162 Tryz.ntmps162 rfl (rs := [.tmp 2]) rfl rfl fun hb LF => ?_
  refine walkb fun b => ?_
  refine pops_if (fun hp => ?_) (fun hp => ?_)
  · refine walkp ?_
    refine end1 (.of_eq ?_)
    simp_all [rDirectory]
  · refine walkp ?_
    refine end1 (.of_eq ?_)
    simp_all [rDirectory]⟩
instance allowed_ct (x : Ident) (n : Int) : FnC Tryz.prog 283 [.agg (eIdent x), .raw (.int .i64 n)] (.raw (.bool (rAllowed x n))) := ⟨by
  refine fn_of Tryz.func283 Tryz.ntmps283 rfl (rs := [.tmp 4]) rfl rfl fun hb LF => ?_
  refine walkb fun b => ?_
  refine pwp_condD (fun h => ?_) (fun h => ?_)
  · refine walk ?_
    refine pops_if (fun hp => ?_) (fun hp => ?_)
    · refine walkp ?_
      refine end1 (.of_eq ?_)
      simp_all [rAllowed] <;> omega
    · refine walkp ?_
      refine end1 (.of_eq ?_)
      simp_all [rAllowed] <;> omega
  · refine walk ?_
    refine pops_if (fun hp => ?_) (fun hp => ?_)
    · refine walkp ?_
      refine end1 (.of_eq ?_)
      simp_all [rAllowed] <;> omega
    · refine walkp ?_
      refine end1 (.of_eq ?_)
      simp_all [rAllowed] <;> omega⟩
instance FitsFile_ct (k : Int) (x : Atm) : FnC Tryz.prog 161 [.raw (.int .i64 k), .agg (eAtm x)] (.raw (.bool (rFitsFile k x))) := ⟨by
  refine fn_of Tryz.func161 Tryz.ntmps161 rfl (rs := [.tmp 4]) rfl rfl fun hb LF => ?_
  refine walkb fun b => ?_
  refine pwp_condN (fun h => ?_) (fun h => ?_)
  · refine walk ?_
    refine end1 (.of_eq ?_)
    simp [rFitsFile, h]
  · refine walk ?_
    refine pwp_condB (fun h2 => ?_) (fun h2 => ?_)
    · refine walk ?_
      refine end1 (.of_eq ?_)
      simp [rFitsFile, h, h2]
    · refine walk ?_
      refine pops_if (fun hp => ?_) (fun hp => ?_)
      · refine walkp ?_
        refine end1 (.of_eq ?_)
        simp_all [rFitsFile]
      · refine walkp ?_
        refine pops_if (fun hq => ?_) (fun hq => ?_)
        · refine walkp ?_
          refine end1 (.of_eq ?_)
          simp_all [rFitsFile]
        · refine walkp ?_
          refine end1 (.of_eq ?_)
          simp_all [rFitsFile]⟩
instance FitsEnd_ct (f : Ident) (x : Atm) : FnC Tryz.prog 202 [.agg (eIdent f), .agg (eAtm x)] (.raw (.bool (rFitsEnd f x))) := ⟨by
  refine fn_of Tryz.func202 Tryz.ntmps202 rfl (rs := [.tmp 4]) rfl rfl fun hb LF => ?_
  refine walkb fun b => ?_
  refine walkbp fun b2 => ?_
  refine pops_if (fun hp => ?_) (fun hp => ?_)
  · refine walkp ?_
    refine end1 (.of_eq ?_)
    simp_all [rFitsEnd]
  · refine walkp ?_
    refine end1 (.of_eq ?_)
    simp_all [rFitsEnd]⟩
end Go.Proofs
/- Contracts: references within a patch (the reference's layer 16). -/
namespace Go.Proofs
open Go Go.Q
attribute [local irreducible] pwp pops PCalls OpN

def rFitsOver (k : Int) (f : Ident) (x : Atm) : Bool := decide (rWant k = 0) || decide (x.kind = rWant k) && decide (x.file = f)
def rOne (x : Ident) (own : List Atm) (fits : Bool) : Int := if rAllowed x own.length = false then 7 else if x.patch = Dig.zero ∧ fits = false then 8 else 0
def rGet (own : List Atm) (x : Ident) : Atm := if x.patch = Dig.zero ∧ 0 ≤ x.n then own.getD x.n.toNat Atm.zero else Atm.zero
def rComplete (x : Ident) (d : Dig) : Ident := if 0 ≤ x.n ∧ x.patch = Dig.zero then { x with patch := d } else x
def rWhole (x : Ident) (d : Dig) : Ident := if x.patch = Dig.zero ∧ 0 ≤ x.n then { x with patch := d } else x

instance FitsOver_ct (k : Int) (f : Ident) (x : Atm) : FnC Tryz.prog 164 [.raw (.int .i64 k), .agg (eIdent f), .agg (eAtm x)] (.raw (.bool (rFitsOver k f x))) := ⟨by
  refine fn_of Tryz.func164 Tryz.ntmps164 rfl (rs := [.tmp 6]) rfl rfl fun hb LF => ?_
  refine walkb fun b => ?_
  refine walkbp fun b2 => ?_
  refine pops_if (fun hp => ?_) (fun hp => ?_)
  · refine walkp ?_
    refine end1 (.of_eq ?_)
    simp_all [rFitsOver]
  · refine walkp ?_
    refine pops_if (fun hq => ?_) (fun hq => ?_)
    · refine walkp ?_
      refine end1 (.of_eq ?_)
      simp_all [rFitsOver]
    · refine walkp ?_
      refine end1 (.of_eq ?_)
      simp_all [rFitsOver]⟩
instance one_ct (x : Ident) (own : List Atm) (t : Tag) (fits : Bool) : FnC Tryz.prog 259 [.agg (eIdent x), .slice (own.map eAtm) t, .raw (.bool fits)] (.raw (.int .i64 (rOne x own fits))) := ⟨by
  refine fn_of Tryz.func259 Tryz.ntmps259 rfl (rs := [.tmp 6]) rfl rfl fun hb LF => ?_
  refine walkb fun b => ?_
  refine pwp_condB (fun h => ?_) (fun h => ?_)
  · refine walk ?_
    refine end1 (.of_eq ?_)
    simp_all [rOne]
  · refine walk ?_
    refine pops_if (fun hp => ?_) (fun hp => ?_)
    · refine walkp ?_
      refine pwp_condB (fun h2 => ?_) (fun h2 => ?_)
      · refine walk ?_
        refine end1 (.of_eq ?_)
        simp_all [rOne]
      · refine walk ?_
        refine end1 (.of_eq ?_)
        simp_all [rOne]
    · refine walkp ?_
      refine end1 (.of_eq ?_)
      simp_all [rOne]⟩
instance get_ct (own : List Atm) (t : Tag) (x : Ident) : FnC Tryz.prog 260 [.slice (own.map eAtm) t, .agg (eIdent x)] (.agg (eAtm (rGet own x))) := ⟨by
  refine fn_of Tryz.func260 Tryz.ntmps260 rfl (rs := [.cell 4 157]) rfl rfl fun hb LF => ?_
  refine walkb fun b => ?_
  refine walkbp fun b2 => ?_
  refine pops_if (fun hp => ?_) (fun hp => ?_)
  · refine walkp ?_
    refine pops_if (fun hq => ?_) (fun hq => ?_)
    · refine walkp ?_
      refine pwp_condD (fun h => ?_) (fun h => ?_)
      · have h0 : 0 ≤ x.n := of_decide_eq_true hq
        refine walk ?_
        refine endC rfl (.of_eq ?_)
        have : x.n.toNat < own.length := by omega
        simp_all [rGet]
      · refine walk ?_
        refine endC rfl (.of_eq ?_)
        have h0 : 0 ≤ x.n := of_decide_eq_true hq
        have : ¬ x.n.toNat < own.length := by omega
        simp_all [rGet]
    · refine walkp ?_
      refine endC rfl (.of_eq ?_)
      have h0 : ¬ 0 ≤ x.n := of_decide_eq_false hq
      simp [rGet, h0]
  · refine walkp ?_
    refine endC rfl (.of_eq ?_)
    simp_all [rGet]⟩
instance complete_ct (x : Ident) (d : Dig) : FnC Tryz.prog 165 [.agg (eIdent x), .agg (eDig d)] (.agg (eIdent (rComplete x d))) := ⟨by
  refine fn_of Tryz.func165 Tryz.ntmps165 rfl (rs := [.cell 4 115]) rfl rfl fun hb LF => ?_
  refine walkb fun b => ?_
  refine walkbp fun b2 => ?_
  refine walkbp fun b3 => ?_
  refine pops_if (fun hp => ?_) (fun hp => ?_)
  · refine walkp ?_
    refine pwp_condD (fun h => ?_) (fun h => ?_)
    · refine walk ?_
      refine endC rfl (.of_eq ?_)
      simp_all [rComplete]
    · refine walk ?_
      refine endC rfl (.of_eq ?_)
      simp_all [rComplete]
  · refine walkp ?_
    refine endC rfl (.of_eq ?_)
    have h0 : ¬ 0 ≤ x.n := of_decide_eq_false hp
    simp [rComplete, h0]⟩
instance whole_ct (x : Ident) (d : Dig) : FnC Tryz.prog 233 [.agg (eIdent x), .agg (eDig d)] (.agg (eIdent (rWhole x d))) := ⟨by
  refine fn_of Tryz.func233 Tryz.ntmps233 rfl (rs := [.cell 4 115]) rfl rfl fun hb LF => ?_
  refine walkb fun b => ?_
  refine walkbp fun b2 => ?_
  refine walkbp fun b3 => ?_
  refine pops_if (fun hp => ?_) (fun hp => ?_)
  · refine walkp ?_
    refine pwp_condD (fun h => ?_) (fun h => ?_)
    · refine walk ?_
      refine endC rfl (.of_eq ?_)
      simp_all [rWhole]
    · refine walk ?_
      refine endC rfl (.of_eq ?_)
      simp [rWhole, h]
  · refine walkp ?_
    refine endC rfl (.of_eq ?_)
    simp_all [rWhole]⟩
end Go.Proofs
/- Contracts: the order of identities; equality of lists, changes, patches and sets (the reference's layers 4, 16, 17). -/
namespace Go.Proofs
open Go Go.Q
attribute [local irreducible] pwp pops PCalls OpN

def cmpI (a b : Ident) : Int := if cmpD a.patch b.patch ≠ 0 then cmpD a.patch b.patch else if a.n < b.n then -1 else if b.n < a.n then 1 else 0
instance CompareI_ct (a b : Ident) : FnC Tryz.prog 264 [.agg (eIdent a), .agg (eIdent b)] (.raw (.int .i64 (cmpI a b))) := ⟨by
  refine fn_of Tryz.func264 Tryz.ntmps264 rfl (rs := [.tmp 4]) rfl rfl fun hb LF => ?_
  refine walkb fun p => ?_
  refine walkbp fun q => ?_
  refine pwp_condN (fun h => ?_) (fun h => ?_)
  · refine walk ?_
    refine end1 (.of_eq ?_)
    simp [cmpI, h]
  · refine walk ?_
    refine pwp_condD (fun h1 => ?_) (fun h1 => ?_)
    · refine walk ?_
      refine end1 (.of_eq ?_)
      simp [cmpI, h, h1]
    · refine walk ?_
      refine pwp_condD (fun h2 => ?_) (fun h2 => ?_)
      · refine walk ?_
        refine end1 (.of_eq ?_)
        simp [cmpI, h, h1, h2]
      · refine walk ?_
        refine end1 (.of_eq ?_)
        simp [cmpI, h, h1, h2]⟩

/-- Each one less than the next. -/
def rAsc (l : List Ident) : Bool := (List.range (l.length - 1)).all fun i => decide (cmpI (l.getD i Ident.zero) (l.getD (i + 1) Ident.zero) < 0)
instance Ascending_ct (l : List Ident) (t : Tag) : FnC Tryz.prog 258 [.slice (l.map eIdent) t] (.raw (.bool (rAsc l))) := ⟨by
  refine fn_of Tryz.func258 Tryz.ntmps258 rfl (rs := [.tmp 2]) rfl rfl fun hb LF => ?_
  have hlen : l.length ≤ 140737488355328 := (hb (.slice (l.map eIdent) t) (by simp)).slice_map
  refine walk ?_
  refine pwp_loopS (σ := Nat) (fun k => 1 ≤ k ∧ ∀ i, i + 1 < k → i + 1 < l.length → cmpI (l.getD i Ident.zero) (l.getD (i + 1) Ident.zero) < 0) (fun k => l.length - k) (fun k => [(0, .slice (l.map eIdent) t), (3, .raw (.int .i64 k))]) (fun _ => LF) 1 ⟨by simp, fun i h => by omega⟩ ⟨rfl, rfl⟩ (.refl _) ?_
  rintro k ⟨hk, he⟩
  refine walk ?_
  refine pwp_condD (fun hc => ?_) (fun hc => ?_)
  · obtain ⟨j, rfl⟩ : ∃ j, k = j + 1 := ⟨k - 1, by omega⟩
    refine walk ?_
    have e : ((↑(j + 1) : Int) - 1).toNat = j := by omega
    have hj : j + 1 < l.length := by omega
    refine pwp_condD (fun h1 => ?_) (fun h1 => ?_)
    · refine walk ?_
      refine end1 (.of_eq ?_)
      simp only [e] at h1
      have : rAsc l = false := by
        unfold rAsc
        rw [List.all_eq_false]
        refine ⟨j, List.mem_range.2 (by omega), ?_⟩
        simp only [decide_eq_true_eq, List.getD_eq_getElem?_getD, List.getElem?_eq_getElem hj, List.getElem?_eq_getElem (show j < l.length by omega), Option.getD_some]
        omega
      rw [this]
    · refine walk ?_
      simp only [e] at h1
      refine ⟨j + 1 + 1, ⟨by omega, fun i h2 h3 => ?_⟩, by dsimp only; omega, ⟨rfl, rfl⟩, .refl _⟩
      rcases Nat.lt_or_ge (i + 1) (j + 1) with h' | h'
      · exact he i h' h3
      · have : i = j := by omega
        subst this
        simp only [List.getD_eq_getElem?_getD, List.getElem?_eq_getElem hj, List.getElem?_eq_getElem (show i < l.length by omega), Option.getD_some]
        omega
  · refine walk ?_
    refine end1 (.of_eq ?_)
    have : rAsc l = true := by
      unfold rAsc
      rw [List.all_eq_true]
      intro i hi
      rw [List.mem_range] at hi
      exact decide_eq_true (he i (by omega) (by omega))
    rw [this]⟩
end Go.Proofs
/- Contracts: equality of lists, changes, patches and sets (the reference's layers 4, 16, 17). Printed by a program. -/
namespace Go.Proofs
open Go Go.Q
attribute [local irreducible] pwp pops PCalls OpN

instance SameIds_ct (l m : List Ident) (t u : Tag) : FnC Tryz.prog 126 [.slice (l.map eIdent) t, .slice (m.map eIdent) u] (.raw (.bool (decide (l = m)))) := ⟨by
  refine fn_of Tryz.func126 Tryz.ntmps126 rfl (rs := [.tmp 4]) rfl rfl fun hb LF => ?_
  have hlen : l.length ≤ 140737488355328 := (hb (.slice (l.map eIdent) t) (by simp)).slice_map
  refine walk ?_
  refine pwp_condN (fun h1 => ?_) (fun h1 => ?_)
  · refine walk ?_
    refine end1 (.of_eq ?_)
    have : ¬ l = m := fun e => h1 (by rw [e])
    simp [this]
  · refine walk ?_
    have hl : l.length = m.length := by omega
    refine pwp_loopS (σ := Nat) (fun k => k ≤ l.length ∧ l.take k = m.take k) (fun k => l.length - k) (fun k => [(0, .slice (l.map eIdent) t), (1, .slice (m.map eIdent) u), (5, .raw (.int .i64 k))]) (fun _ => LF) 0 ⟨by simp, by simp⟩ ⟨rfl, rfl, rfl⟩ (.refl _) ?_
    rintro k ⟨hk, he⟩
    refine walk ?_
    refine pwp_condD (fun hc => ?_) (fun hc => ?_)
    · refine walk ?_
      refine pwp_condN (fun h2 => ?_) (fun h2 => ?_)
      · refine walk ?_
        refine end1 (.of_eq ?_)
        have : ¬ l = m := fun e => h2 (by simp [e])
        simp [this]
      · refine walk ?_
        refine ⟨k + 1, ⟨by omega, ?_⟩, by dsimp only; omega, ⟨rfl, rfl, rfl⟩, .refl _⟩
        rw [List.take_succ_eq_append_getElem (by omega), List.take_succ_eq_append_getElem (by omega), he, h2]
    · refine walk ?_
      refine end1 (.of_eq ?_)
      have : l = m := by
        rw [List.take_of_length_le (by omega), List.take_of_length_le (by omega)] at he
        exact he
      simp [this]⟩
instance SameS_ct (l m : List Str) (t u : Tag) : FnC Tryz.prog 125 [.slice (l.map eS) t, .slice (m.map eS) u] (.raw (.bool (decide (l = m)))) := ⟨by
  refine fn_of Tryz.func125 Tryz.ntmps125 rfl (rs := [.tmp 4]) rfl rfl fun hb LF => ?_
  have hlen : l.length ≤ 140737488355328 := (hb (.slice (l.map eS) t) (by simp)).slice_map
  refine walk ?_
  refine pwp_condN (fun h1 => ?_) (fun h1 => ?_)
  · refine walk ?_
    refine end1 (.of_eq ?_)
    have : ¬ l = m := fun e => h1 (by rw [e])
    simp [this]
  · refine walk ?_
    have hl : l.length = m.length := by omega
    refine pwp_loopS (σ := Nat) (fun k => k ≤ l.length ∧ l.take k = m.take k) (fun k => l.length - k) (fun k => [(0, .slice (l.map eS) t), (1, .slice (m.map eS) u), (5, .raw (.int .i64 k))]) (fun _ => LF) 0 ⟨by simp, by simp⟩ ⟨rfl, rfl, rfl⟩ (.refl _) ?_
    rintro k ⟨hk, he⟩
    refine walk ?_
    refine pwp_condD (fun hc => ?_) (fun hc => ?_)
    · refine walk ?_
      refine pwp_condN (fun h2 => ?_) (fun h2 => ?_)
      · refine walk ?_
        refine end1 (.of_eq ?_)
        have : ¬ l = m := fun e => h2 (by simp [e])
        simp [this]
      · refine walk ?_
        refine ⟨k + 1, ⟨by omega, ?_⟩, by dsimp only; omega, ⟨rfl, rfl, rfl⟩, .refl _⟩
        rw [List.take_succ_eq_append_getElem (by omega), List.take_succ_eq_append_getElem (by omega), he, h2]
    · refine walk ?_
      refine end1 (.of_eq ?_)
      have : l = m := by
        rw [List.take_of_length_le (by omega), List.take_of_length_le (by omega)] at he
        exact he
      simp [this]⟩

theorem chg_eq (a b : Chg) : decide (a = b) = (decide (a.kind = b.kind) && decide (a.file = b.file) && decide (a.type = b.type) && decide (a.parent = b.parent) && decide (a.name = b.name) && decide (a.mode = b.mode) && decide (a.data = b.data) && decide (a.after = b.after) && decide (a.before = b.before) && decide (a.lines = b.lines) && decide (a.over = b.over)) := by
  cases a; cases b; rw [Bool.eq_iff_iff]; simp [and_assoc]
instance SameChange_ct (a b : Chg) : FnC Tryz.prog 93 [.agg (eChg a), .agg (eChg b)] (.raw (.bool (decide (a = b)))) := ⟨by
  refine fn_of Tryz.func93 Tryz.ntmps93 rfl (rs := [.tmp 4]) rfl rfl fun hb LF => ?_
  rw [chg_eq]
  refine walkb fun p => ?_
  refine walkbp fun q => ?_
  iterate 10
    refine pops_if (fun hp => ?_) (fun hp => by
      refine walkp ?_
      refine end1 (.of_eq ?_)
      simp_all)
    refine walkp ?_
  refine end1 (.of_eq ?_)
  simp_all⟩
end Go.Proofs
/- Contracts: equality of patches and sets; sets that are kept and put into (the reference's layers 16 and 17). -/
namespace Go.Proofs
open Go Go.Q
attribute [local irreducible] pwp pops PCalls OpN

theorem pat_ext {a b : Pat} (h1 : a.author = b.author) (h2 : a.message = b.message) (h3 : a.time = b.time) (h4 : a.deps = b.deps) (h5 : a.changes = b.changes) : a = b := by
  cases a; cases b; simp_all
instance SameP_ct (a b : Pat) : FnC Tryz.prog 47 [.agg (ePat a), .agg (ePat b)] (.raw (.bool (decide (a = b)))) := ⟨by
  refine fn_of Tryz.func47 Tryz.ntmps47 rfl (rs := [.tmp 4]) rfl rfl fun hb LF => ?_
  have hlen : a.changes.length ≤ 140737488355328 := ((hb (.agg (ePat a)) (by simp)).agg_at (c := .slice (a.changes.map eChg) .ro) (by simp [ePat])).slice_map
  have no : ∀ {q : Prop}, (a = b → ¬ q) → q → Le (.raw (.bool false)) (.raw (.bool (decide (a = b)))) := fun h hq => .of_eq (by rw [decide_eq_false (fun e => h e hq)])
  refine walkb fun p => ?_
  refine walkbp fun q => ?_
  iterate 4
    refine pops_if (fun hp => by
      refine walkp ?_
      refine end1 (no (fun e => ?_) hp)
      simp [e]) (fun hp => ?_)
    refine walkp ?_
  refine pwp_condN (fun h => ?_) (fun h => ?_)
  · refine walk ?_
    refine end1 (no (fun e => ?_) h)
    simp [e]
  · refine walk ?_
    have hl : a.changes.length = b.changes.length := by omega
    refine pwp_loopS (σ := Nat) (fun k => k ≤ a.changes.length ∧ a.changes.take k = b.changes.take k) (fun k => a.changes.length - k) (fun k => [(2, .raw (.pointer (some ⟨p, 0, none⟩))), (3, .raw (.pointer (some ⟨q, 0, none⟩))), (5, .raw (.int .i64 k))]) (fun _ => .box q 57 (ePat b) :: .box p 57 (ePat a) :: LF) 0 ⟨by simp, by simp⟩ ⟨rfl, rfl, rfl⟩ (.refl _) ?_
    rintro k ⟨hk, he⟩
    refine walk ?_
    refine pwp_condD (fun hc => ?_) (fun hc => ?_)
    · refine walk ?_
      refine pwp_condN (fun h2 => ?_) (fun h2 => ?_)
      · refine walk ?_
        refine end1 (no (fun e => ?_) h2)
        simp [e]
      · refine walk ?_
        refine ⟨k + 1, ⟨by omega, ?_⟩, by dsimp only; omega, ⟨rfl, rfl, rfl⟩, .refl _⟩
        rw [List.take_succ_eq_append_getElem (by omega), List.take_succ_eq_append_getElem (by omega), he, h2]
    · refine walk ?_
      refine end1 (.of_eq ?_)
      have h5 : a.changes = b.changes := by
        rw [List.take_of_length_le (by omega), List.take_of_length_le (by omega)] at he
        exact he
      have : a = b := by
        apply pat_ext <;> simp_all
      simp [this]⟩

def keepS (s : List Sto) (l : List Dig) : List Sto := s.filter fun x => decide (x.id ∈ l)
end Go.Proofs
/- Contracts: lines, names, the fields of a change (the reference's layers 4, 12, 16). -/
namespace Go.Proofs
open Go Go.Q
attribute [local irreducible] pwp pops PCalls OpN

theorem all_true_of {α : Type} {l : List α} {q : α → Bool} (h : ∀ i (h : i < l.length), q l[i] = true) : l.all q = true := by
  rw [List.all_eq_true]; intro x hx
  obtain ⟨i, hi, rfl⟩ := List.mem_iff_getElem.1 hx
  exact h i hi
theorem all_false_of {α : Type} {l : List α} {q : α → Bool} {k : Nat} (hk : k < l.length) (h : q l[k] = false) : l.all q = false := by
  rw [List.all_eq_false]; exact ⟨_, List.getElem_mem hk, by simp [h]⟩
theorem upto_succ {α : Type} {l : List α} {q : α → Bool} {k : Nat} (he : ∀ i (h : i < l.length), i < k → q l[i] = true) (hk : k < l.length) (h : q l[k] = true) : ∀ i (h : i < l.length), i < k + 1 → q l[i] = true := fun i hi hik => by
  rcases Nat.lt_or_ge i k with h' | h'
  · exact he i hi h'
  · have : i = k := by omega
    subst this; exact h

def rCleanC (m n : Int) (c : UInt8) : Bool := !decide ((c.toNat : Int) = m) && !decide ((c.toNat : Int) = n)
def rClean (s : Str) (m n : Int) : Bool := s.all (rCleanC m n)
instance clean_ct (s : Str) (m n : Int) : FnC Tryz.prog 290 [.str s, .raw (.int .u8 m), .raw (.int .u8 n)] (.raw (.bool (rClean s m n))) := ⟨by
  refine fn_of Tryz.func290 Tryz.ntmps290 rfl (rs := [.tmp 6]) rfl rfl fun hb LF => ?_
  have hlen : s.length ≤ 140737488355328 := (hb (.str s) (by simp)).str_len
  refine walk ?_
  refine pwp_loopS (σ := Nat) (fun k => k ≤ s.length ∧ ∀ i (h : i < s.length), i < k → rCleanC m n s[i] = true) (fun k => s.length - k) (fun k => [(0, .str s), (1, .raw (.int .u8 m)), (2, .raw (.int .u8 n)), (7, .raw (.int .i64 k))]) (fun _ => LF) 0 ⟨by simp, by simp⟩ ⟨rfl, rfl, rfl, rfl⟩ (.refl _) ?_
  rintro k ⟨hk, he⟩
  refine walk ?_
  refine pwp_condD (fun hc => ?_) (fun hc => ?_)
  · have hlt : k < s.length := by omega
    refine walk ?_
    repeat' (first | (refine pwp_condD (fun h => ?_) (fun h => ?_) <;> refine walk ?_) | (refine pwp_condN (fun h => ?_) (fun h => ?_) <;> refine walk ?_) | (refine pwp_condB (fun h => ?_) (fun h => ?_) <;> refine walk ?_) | (refine pops_if (fun h => ?_) (fun h => ?_) <;> (have h2 := h; (try simp only [decide_eq_true_eq, decide_eq_false_iff_not, Bool.not_eq_true', Bool.not_eq_false'] at h2); refine walkp ?_)))
    all_goals first
      | (refine ⟨k + 1, ⟨by omega, upto_succ he hlt ?_⟩, by dsimp only; omega, ⟨rfl, rfl, rfl, rfl⟩, .refl _⟩; simp_all [rCleanC]; done)
      | (refine end1 (.of_eq ?_); have : rCleanC m n s[k] = false := by simp_all [rCleanC]
         rw [rClean, all_false_of hlt this])
  · refine walk ?_
    refine end1 (.of_eq ?_)
    rw [rClean, all_true_of fun i h => he i h (by omega)]⟩
def rValid (s : Str) : Bool := decide ((s.length : Int) ≤ 1000) && rClean s 10 0
instance Valid_ct (s : Str) : FnC Tryz.prog 282 [.str s] (.raw (.bool (rValid s))) := ⟨by
  refine fn_of Tryz.func282 Tryz.ntmps282 rfl (rs := [.tmp 2]) rfl rfl fun hb LF => ?_
  refine walk ?_
  repeat' (first | (refine pwp_condD (fun h => ?_) (fun h => ?_) <;> refine walk ?_) | (refine pwp_condN (fun h => ?_) (fun h => ?_) <;> refine walk ?_) | (refine pwp_condB (fun h => ?_) (fun h => ?_) <;> refine walk ?_) | (refine pops_if (fun h => ?_) (fun h => ?_) <;> (have h2 := h; (try simp only [decide_eq_true_eq, decide_eq_false_iff_not, Bool.not_eq_true', Bool.not_eq_false'] at h2); refine walkp ?_)))
  all_goals (refine end1 (.of_eq ?_); first | (simp_all [rValid]; done) | grind [rValid])⟩

def rNameC (c : UInt8) : Bool := (decide (97 ≤ (c.toNat : Int)) && decide ((c.toNat : Int) ≤ 122)) || (decide (65 ≤ (c.toNat : Int)) && decide ((c.toNat : Int) ≤ 90)) || (decide (48 ≤ (c.toNat : Int)) && decide ((c.toNat : Int) ≤ 57)) || decide ((c.toNat : Int) = 46) || decide ((c.toNat : Int) = 95) || decide ((c.toNat : Int) = 45)
def rName (s : Str) : Bool := s.all rNameC && decide (1 ≤ (s.length : Int)) && decide ((s.length : Int) ≤ 40) && !decide (s = [46]) && !decide (s = [46, 46])
set_option maxHeartbeats 1000000 in
instance Name_ct (s : Str) : FnC Tryz.prog 187 [.str s] (.raw (.bool (rName s))) := ⟨by
  refine fn_of Tryz.func187 Tryz.ntmps187 rfl (rs := [.tmp 2]) rfl rfl fun hb LF => ?_
  have hlen : s.length ≤ 140737488355328 := (hb (.str s) (by simp)).str_len
  refine walk ?_
  refine pwp_loopS (σ := Nat) (fun k => k ≤ s.length ∧ ∀ i (h : i < s.length), i < k → rNameC s[i] = true) (fun k => s.length - k) (fun k => [(0, .str s), (3, .raw (.int .i64 k))]) (fun _ => LF) 0 ⟨by simp, by simp⟩ ⟨rfl, rfl⟩ (.refl _) ?_
  rintro k ⟨hk, he⟩
  refine walk ?_
  refine pwp_condD (fun hc => ?_) (fun hc => ?_)
  · have hlt : k < s.length := by omega
    refine walk ?_
    repeat' (first | (refine pwp_condD (fun h => ?_) (fun h => ?_) <;> refine walk ?_) | (refine pwp_condN (fun h => ?_) (fun h => ?_) <;> refine walk ?_) | (refine pwp_condB (fun h => ?_) (fun h => ?_) <;> refine walk ?_) | (refine pops_if (fun h => ?_) (fun h => ?_) <;> (have h2 := h; (try simp only [decide_eq_true_eq, decide_eq_false_iff_not, Bool.not_eq_true', Bool.not_eq_false'] at h2); refine walkp ?_)))
    all_goals first
      | (refine ⟨k + 1, ⟨by omega, upto_succ he hlt ?_⟩, by dsimp only; omega, ⟨rfl, rfl⟩, .refl _⟩; clear he hc; grind [rNameC])
      | (refine end1 (.of_eq ?_); have : rNameC s[k] = false := by clear he hc; grind [rNameC]
         rw [rName, all_false_of hlt this]; rfl)
  · have hall : s.all rNameC = true := all_true_of fun i h => he i h (by omega)
    refine walk ?_
    repeat' (first | (refine pwp_condD (fun h => ?_) (fun h => ?_) <;> refine walk ?_) | (refine pwp_condN (fun h => ?_) (fun h => ?_) <;> refine walk ?_) | (refine pwp_condB (fun h => ?_) (fun h => ?_) <;> refine walk ?_) | (refine pops_if (fun h => ?_) (fun h => ?_) <;> (have h2 := h; (try simp only [decide_eq_true_eq, decide_eq_false_iff_not, Bool.not_eq_true', Bool.not_eq_false'] at h2); refine walkp ?_)))
    all_goals (refine end1 (.of_eq ?_); first | (simp_all [rName]; done) | grind [rName])⟩

def rLines (l : List Str) : Int := if (l.length : Int) = 0 then 1 else if 2000 < (l.length : Int) then 4 else if l.all rValid then 0 else 3
instance lines_ct (l : List Str) (t : Tag) : FnC Tryz.prog 257 [.slice (l.map eS) t] (.raw (.int .i64 (rLines l))) := ⟨by
  refine fn_of Tryz.func257 Tryz.ntmps257 rfl (rs := [.tmp 2]) rfl rfl fun hb LF => ?_
  have hlen : l.length ≤ 140737488355328 := (hb (.slice (l.map eS) t) (by simp)).slice_map
  refine walk ?_
  refine pwp_condD (fun h1 => ?_) (fun h1 => ?_)
  · refine walk ?_
    refine end1 (.of_eq ?_)
    simp [rLines, h1]
  refine walk ?_
  refine pwp_condD (fun h2 => ?_) (fun h2 => ?_)
  · refine walk ?_
    refine end1 (.of_eq ?_)
    simp only [rLines, h1, h2, if_true, if_false]
  refine walk ?_
  refine pwp_loopS (σ := Nat) (fun k => k ≤ l.length ∧ ∀ i (h : i < l.length), i < k → rValid l[i] = true) (fun k => l.length - k) (fun k => [(0, .slice (l.map eS) t), (3, .raw (.int .i64 k))]) (fun _ => LF) 0 ⟨by simp, by simp⟩ ⟨rfl, rfl⟩ (.refl _) ?_
  rintro k ⟨hk, he⟩
  refine walk ?_
  refine pwp_condD (fun hc => ?_) (fun hc => ?_)
  · have hlt : k < l.length := by omega
    refine walk ?_
    refine pwp_condB (fun h => ?_) (fun h => ?_)
    · refine walk ?_
      refine end1 (.of_eq ?_)
      simp only [rLines, h1, h2, if_false]
      rw [all_false_of hlt (by simpa using h)]; rfl
    · refine walk ?_
      exact ⟨k + 1, ⟨by omega, upto_succ he hlt (by simpa using h)⟩, by dsimp only; omega, ⟨rfl, rfl⟩, .refl _⟩
  · refine walk ?_
    refine end1 (.of_eq ?_)
    simp only [rLines, h1, h2, if_false]
    rw [all_true_of fun i h => he i h (by omega)]; rfl⟩
end Go.Proofs
/- Contracts: the fields of a change (the reference's layer 16). -/
namespace Go.Proofs
open Go Go.Q
attribute [local irreducible] pwp pops PCalls OpN

def rRest (c : Chg) : Chg :=
  { kind := c.kind, file := if 2 ≤ c.kind ∧ c.kind ≤ 6 then Ident.zero else c.file, type := if c.kind = 1 then 0 else c.type, parent := if c.kind = 2 then Ident.zero else c.parent, name := if c.kind = 2 then [] else c.name,
    mode := if c.kind = 3 then 0 else c.mode, data := if c.kind = 4 then [] else c.data, after := if c.kind = 5 ∨ c.kind = 6 then Ident.zero else c.after, before := if c.kind = 5 ∨ c.kind = 6 then Ident.zero else c.before,
    lines := if c.kind = 5 then [] else c.lines, over := if c.kind ≠ 1 ∧ c.kind ≠ 5 then [] else c.over }
set_option maxHeartbeats 1000000 in
instance rest_ct (c : Chg) : FnC Tryz.prog 256 [.agg (eChg c)] (.agg (eChg (rRest c))) := ⟨by
  refine fn_of Tryz.func256 Tryz.ntmps256 rfl (rs := [.cell 2 119]) rfl rfl fun hb LF => ?_
  refine walkb fun b => ?_
  refine walkbp fun b2 => ?_
  repeat' (first | (refine pwp_condD (fun h => ?_) (fun h => ?_) <;> ((try dsimp only at h); first | (exfalso; omega; done) | refine walk ?_)) | (refine pwp_condN (fun h => ?_) (fun h => ?_) <;> ((try dsimp only at h); first | (exfalso; omega; done) | refine walk ?_)) | (refine pwp_condB (fun h => ?_) (fun h => ?_) <;> ((try dsimp only at h); first | (exfalso; omega; done) | refine walk ?_)) | (refine pops_if (fun h => ?_) (fun h => ?_) <;> (have h2 := h; (try simp only [decide_eq_true_eq, decide_eq_false_iff_not, Bool.not_eq_true', Bool.not_eq_false'] at h2); first | (exfalso; omega; done) | refine walkp ?_)))
  all_goals (refine endC rfl (.of_eq (congrArg (fun c => PV.agg (eChg c)) ?_)); simp only [rRest, Chg.mk.injEq]; and_intros <;> first | trivial | rfl | (split <;> first | rfl | (exfalso; omega)))⟩

def rEmpty (c : Chg) : Bool := decide (c.file = Ident.zero) && decide (c.type = 0) && decide (c.parent = Ident.zero) && decide (c.name = []) && decide (c.mode = 0) && decide (c.data = []) && decide (c.after = Ident.zero) && decide (c.before = Ident.zero) && decide ((c.lines.length : Int) = 0) && decide ((c.over.length : Int) = 0)
set_option maxHeartbeats 1000000 in
instance empty_ct (c : Chg) : FnC Tryz.prog 255 [.agg (eChg c)] (.raw (.bool (rEmpty c))) := ⟨by
  refine fn_of Tryz.func255 Tryz.ntmps255 rfl (rs := [.tmp 2]) rfl rfl fun hb LF => ?_
  refine walkb fun b => ?_
  iterate 9
    refine pops_if (fun hp => ?_) (fun hp => by
      refine walkp ?_
      refine end1 (.of_eq ?_)
      simp_all [rEmpty])
    refine walkp ?_
  refine end1 (.of_eq ?_)
  simp_all [rEmpty]⟩
end Go.Proofs
