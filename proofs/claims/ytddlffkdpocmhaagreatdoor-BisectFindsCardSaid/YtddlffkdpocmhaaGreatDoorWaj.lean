/- The small logic: maps by their forms, closures by their contracts; walks that know of them (printed by a program). Library, no statement of its own. -/
import Derived.Test.YtddlffkdpocmhaaGreatDoorWai
import Derived.Lib.UnsafeStr
import Derived.Lib.Builder
set_option linter.unusedSimpArgs false
set_option linter.unusedVariables false
namespace Go.Q
open Go
class MapAt (b : Nat) (L : List Res) (kvs : outParam (List (PV × PV))) (L' : outParam (List Res)) : Prop where
  out : L.Perm (.map b kvs :: L')
instance {b : Nat} {kvs : List (PV × PV)} {L : List Res} : MapAt b (.map b kvs :: L) kvs L := ⟨.refl _⟩
instance (priority := low) {b : Nat} {kvs : List (PV × PV)} {r : Res} {L L' : List Res} [h : MapAt b L kvs L'] : MapAt b (r :: L) kvs (r :: L') := ⟨(List.Perm.cons r h.out).trans (.swap _ _ _)⟩
class BoxAtT (b : Nat) (L : List Res) (T : outParam Nat) (cs : outParam (List PV)) (L' : outParam (List Res)) : Prop where
  out : L.Perm (.box b T cs :: L')
instance {b T : Nat} {cs : List PV} {L : List Res} : BoxAtT b (.box b T cs :: L) T cs L := ⟨.refl _⟩
instance (priority := low) {b T : Nat} {cs : List PV} {r : Res} {L L' : List Res} [h : BoxAtT b L T cs L'] : BoxAtT b (r :: L) T cs (r :: L') := ⟨(List.Perm.cons r h.out).trans (.swap _ _ _)⟩
instance {x : PV} : At [x] 0 x := ⟨rfl⟩
/-- The forms of the keys and values of a map's type. -/
class MapForm (P : Program) (T : Nat) {κ α : outParam Type} (ek : outParam (κ → PV)) (ev : outParam (α → PV)) : Prop where
  out : True
class IsVal {α : Type} (x : PV) (ev : α → PV) (a : outParam α) : Prop where
  out : Le x (ev a)
instance (b : Bool) : IsVal (.raw (.bool b)) vBool b := ⟨.refl _⟩
instance (n : Int) : IsVal (.raw (.int .i64 n)) vInt n := ⟨.refl _⟩
instance {α : Type} (f : α → List PV) (l : List α) (t : Tag) : IsVal (.slice (l.map f) t) (vSl f) l := ⟨.ro _ _⟩
instance {κ α : Type} (ek : κ → PV) (ev : α → PV) (l : List (κ × α)) : IsVal (.fmap (eMap ek ev l)) (vMap ek ev) l := ⟨.refl _⟩
instance (priority := low) (x : PV) : IsVal x vId x := ⟨.refl _⟩
section
variable {P : Program} {N : Nat} {all : Array Oper} {K : Env → List Res → Prop} {fl : List Bool} {os : List Oper} {ρ : Env} {L : List Res} {Q : PPost} {c : Code} {d : Nat} {ty : TypeId} {pos : String} {af : Array Edge}
variable {κ α : Type} [DecidableEq κ] {ek : κ → PV} {ev : α → PV} {T KT ET : Nat}
omit [DecidableEq κ] in
theorem j_makeMap [hF : MapForm P T ek ev] (k : ∀ b, pops P N all K fl.tail os (upd ρ d (.raw (.map (some b)))) (.map b (eMap ek ev []) :: L)) (hd : Nat.blt d N = true := by rfl) (hf : fl.headD true = true := by rfl) :
    pops P N all K fl (⟨some d, .makeMap T none, ty, pos, af, none⟩ :: os) ρ L := s_makeMap k hd hf
theorem j_mapUpd [hF : MapForm P T ek ev] [hT : TMap P T KT ET] [hK : TKey P KT ek] {x y z : Operand} {b : Nat} {l : List (κ × α)} {ay az : PV} {k0 : κ} {x0 : α} {L' : List Res} (hx : ρ.ev x = .raw (.map (some b))) [hp : MapAt b L (eMap ek ev l) L'] (hy : ρ.ev y = ay) [hk : IsKey' ay ek k0] (hz : ρ.ev z = az) [hv : IsVal az ev x0]
    (k : pops P N all K fl.tail os ρ (.map b (eMap ek ev (mSet k0 x0 l)) :: L')) (hfl : fl.headD true = true := by rfl) : pops P N all K fl (⟨none, .mapUpdate T x y z, ty, pos, af, none⟩ :: os) ρ L :=
  s_mapUpd hx hp.out (hy ▸ hk.out) (hz ▸ hv.out) k hfl
theorem j_mapIns [hF : MapForm P T ek ev] [hT : TMap P T KT ET] [hK : TKey P KT ek] {x y z : Operand} {b : Nat} {l : List (κ × α)} {ay az : PV} {k0 : κ} {x0 : α} {L' : List Res} (hx : ρ.ev x = .raw (.map (some b))) [hp : MapAt b L (eMap ek ev l) L'] (hy : ρ.ev y = ay) [hk : IsKey' ay ek k0] (hz : ρ.ev z = az) [hv : IsVal az ev x0]
    (k : pops P N all K fl.tail os ρ (.map b (eMap ek ev (mSet k0 x0 l)) :: L')) (hfl : fl.headD true = true := by rfl) : pops P N all K fl (⟨none, .insert T x y z, ty, pos, af, none⟩ :: os) ρ L :=
  s_mapIns hx hp.out (hy ▸ hk.out) (hz ▸ hv.out) k hfl
end
section
variable {P : Program} {N : Nat} {all : Array Oper} {K : Env → List Res → Prop} {fl : List Bool} {os : List Oper} {ρ : Env} {L : List Res} {Q : PPost} {c : Code} {d : Nat} {ty : TypeId} {pos : String} {af : Array Edge}
theorem s_clo0 {f : Nat} (k : pops P N all K fl.tail os (upd ρ d (.clo f [])) L) (hd : Nat.blt d N = true := by rfl) : pops P N all K fl (⟨some d, .makeFunc (.func f) #[] #[], ty, pos, af, none⟩ :: os) ρ L :=
  step_q hd (q_makeFunc (xs := []) rfl) k
theorem s_clo4 {f : Nat} {x0 x1 x2 x3 : Operand} {a0 a1 a2 a3 : PV} (q0 : ρ.ev x0 = a0) (q1 : ρ.ev x1 = a1) (q2 : ρ.ev x2 = a2) (q3 : ρ.ev x3 = a3) (k : pops P N all K fl.tail os (upd ρ d (.clo f [a0, a1, a2, a3])) L) (hd : Nat.blt d N = true := by rfl) : pops P N all K fl (⟨some d, .makeFunc (.func f) #[] #[x0, x1, x2, x3], ty, pos, af, none⟩ :: os) ρ L :=
  step_q hd (q_makeFunc (xs := [x0, x1, x2, x3]) (by simp [q0, q1, q2, q3])) k
/-- A value that is a closure. -/
class IsClo (x : PV) (f : outParam Nat) (cs : outParam (List PV)) : Prop where
  out : Le x (.clo f cs)
instance (f : Nat) (cs : List PV) : IsClo (.clo f cs) f cs := ⟨.refl _⟩
instance (f : Nat) : IsClo (.raw (.func (.func f) #[] #[])) f [] := ⟨Norm.out⟩
theorem j_callv1 {f : Nat} {cs : List PV} {X ax : PV} {x x0 : Operand} {ats : Array TypeId} {a0 b0 : PV} (qx : ρ.ev x = ax) [hx : IsClo ax f cs] [hf : TFun P f] (q0 : ρ.ev x0 = a0) [hN0 : Norm a0 b0] [hc : FnC P f (b0 :: cs) X] (k : pops P N all K fl.tail os (upd ρ d X) L) (hd : Nat.blt d N = true := by rfl) :
    pops P N all K fl (⟨some d, .call { callee := .value x, args := #[x0], argTypes := ats }, ty, pos, af, none⟩ :: os) ρ L :=
  s_callV (xs := [x0]) (qx ▸ hx.out) rfl rfl (PCalls.args (by simp) (fun i h1 h2 => by
    match i, h1, h2 with
    | 0, _, _ => simp only [List.map_cons, List.map_nil, List.cons_append, List.nil_append, List.getElem_cons_zero, q0]; exact hN0.out
    | m + 1, h1, h2 => exact .of_eq (by simp)) hc.out) k hd
theorem j_callv2 {f : Nat} {cs : List PV} {X ax : PV} {x x0 x1 : Operand} {ats : Array TypeId} {a0 b0 a1 b1 : PV} (qx : ρ.ev x = ax) [hx : IsClo ax f cs] [hf : TFun P f] (q0 : ρ.ev x0 = a0) (q1 : ρ.ev x1 = a1) [hN0 : Norm a0 b0] [hN1 : Norm a1 b1] [hc : FnC P f (b0 :: b1 :: cs) X] (k : pops P N all K fl.tail os (upd ρ d X) L) (hd : Nat.blt d N = true := by rfl) :
    pops P N all K fl (⟨some d, .call { callee := .value x, args := #[x0, x1], argTypes := ats }, ty, pos, af, none⟩ :: os) ρ L :=
  s_callV (xs := [x0, x1]) (qx ▸ hx.out) rfl rfl (PCalls.args (by simp) (fun i h1 h2 => by
    match i, h1, h2 with
    | 0, _, _ => simp only [List.map_cons, List.map_nil, List.cons_append, List.nil_append, List.getElem_cons_zero, q0]; exact hN0.out
    | 1, _, _ => simp only [List.map_cons, List.map_nil, List.cons_append, List.nil_append, List.getElem_cons_succ, List.getElem_cons_zero, q1]; exact hN1.out
    | m + 2, h1, h2 => exact .of_eq (by simp)) hc.out) k hd
/-- The form of what is stored is kept. -/
theorem s_storeT {T : TypeId} {x y : Operand} {b by_ : Nat} {c0 ay : PV} {L' : List Res} [hT : TSz P T 1 by_]
    (hx : ρ.ev x = .raw (.pointer (some ⟨b, 0, none⟩))) (hy : ρ.ev y = ay) [hB : BoxAt b L [c0]] [hu : UpdC b [c0] [ay] L L'] [hf : Flat [ay]]
    (k : pops P N all K fl.tail os ρ L') (hfl : fl.headD true = true := by rfl) : pops P N all K fl (⟨none, .store T x y, ty, pos, af, none⟩ :: os) ρ L :=
  pops_n rfl (fun _ e => by cases e) hfl (opN_store (new := [ay]) (cs := [c0]) (cs' := [ay]) hx (fun g v hv => by
    rw [hy] at hv
    obtain ⟨h1, h2, h3, h4⟩ := hf.out ay (by simp)
    have h1 := hv.one h1 h2 h3 h4
    refine ⟨[v], ?_, .cons hv (.nil g)⟩
    cases v <;> first | rfl | cases h1) rfl hf.out rfl (by simp) hu.out k)
theorem g_makef {f : Nat} {xs : Array Operand} {dst : Option Nat} (k : pops P N all K fl (⟨dst, .makeFunc (.func f) #[] xs, ty, pos, af, none⟩ :: os) ρ L) : pops P N all K fl (⟨dst, .makeFunc (.func f) #[] xs, ty, pos, af, none⟩ :: os) ρ L := k
theorem g_callv {t : Nat} {xs : Array Operand} {ats : Array TypeId} {dst : Option Nat} (k : pops P N all K fl (⟨dst, .call { callee := .value (.tmp t), args := xs, argTypes := ats }, ty, pos, af, none⟩ :: os) ρ L) : pops P N all K fl (⟨dst, .call { callee := .value (.tmp t), args := xs, argTypes := ats }, ty, pos, af, none⟩ :: os) ρ L := k
theorem g_look {T : TypeId} {x y : Operand} {b : Bool} {dst : Option Nat} (k : pops P N all K fl (⟨dst, .lookup T x y b, ty, pos, af, none⟩ :: os) ρ L) : pops P N all K fl (⟨dst, .lookup T x y b, ty, pos, af, none⟩ :: os) ρ L := k
theorem g_mupd {T : TypeId} {x y z : Operand} {dst : Option Nat} (k : pops P N all K fl (⟨dst, .mapUpdate T x y z, ty, pos, af, none⟩ :: os) ρ L) : pops P N all K fl (⟨dst, .mapUpdate T x y z, ty, pos, af, none⟩ :: os) ρ L := k
theorem g_mins {T : TypeId} {x y z : Operand} {dst : Option Nat} (k : pops P N all K fl (⟨dst, .insert T x y z, ty, pos, af, none⟩ :: os) ρ L) : pops P N all K fl (⟨dst, .insert T x y z, ty, pos, af, none⟩ :: os) ρ L := k
theorem g_box {T : TypeId} {x : Operand} {dst : Option Nat} (k : pops P N all K fl (⟨dst, .box T x, ty, pos, af, none⟩ :: os) ρ L) : pops P N all K fl (⟨dst, .box T x, ty, pos, af, none⟩ :: os) ρ L := k
/-- One operation. -/
theorem w1 {A B : Prop} (k : B) (h : Wrap B → A := by
    intro hB
    first
      | (refine g_guard ?_; first | refine pops_yes rfl (by rfl) ?_ | refine pops_yesA rfl (by first | ((conv => lhs; whnf); done) | fail) (by assumption) ?_ | refine pops_noT rfl (by first | ((conv => lhs; whnf); done) | fail) (by assumption) ?_ | refine pops_noF rfl (by first | ((conv => lhs; whnf); done) | fail) (by assumption) ?_ | refine pops_noU rfl (by rfl) ?_ | refine pops_noT rfl (by rfl) rfl ?_ | refine pops_noF rfl (by rfl) rfl ?_)
      | (refine g_move ?_; first | refine s_moveN (by (conv => lhs; whnf); done) ?_)
      | (refine g_assign ?_; first | refine s_assignN (by (conv => lhs; whnf); done) ?_)
      | (refine g_load ?_; first | refine s_loadAL (by rfl) (hl := (by first | infer_instance | fail)) ?_ | refine s_loadS (by rfl) rfl ?_ | refine s_loadBL (by rfl) (by repeat (first | exact List.mem_cons_self | apply List.mem_cons_of_mem)) (hl := (by first | infer_instance | fail)) ?_ | refine s_loadBF (by rfl) (by repeat (first | exact List.mem_cons_self | apply List.mem_cons_of_mem)) (hs := (by first | infer_instance | fail)) ?_ | refine s_loadBG (by rfl) (by repeat (first | exact List.mem_cons_self | apply List.mem_cons_of_mem)) (hs := (by first | infer_instance | fail)) ?_ | refine s_loadD (by rfl) (by repeat (first | exact List.mem_cons_self | apply List.mem_cons_of_mem)) (by omega) ?_ | refine s_loadW (by rfl) (by repeat (first | exact List.mem_cons_self | apply List.mem_cons_of_mem)) (by omega) ?_)
      | (refine g_fld ?_; first | refine s_fldF (by rfl) (hr := (by first | infer_instance | fail)) ?_ | refine s_fldBq (by rfl) (by (conv => lhs; whnf); done) ?_)
      | (refine g_len ?_; first | refine s_lenM (by rfl) ?_ | refine s_lenS (by (conv => lhs; whnf); done) (jx := (by first | infer_instance | fail)) ?_ | refine s_len (by rfl) ?_)
      | (refine g_call ?_; first | refine j_call1 (by (conv => lhs; whnf); done) (hN0 := (by first | infer_instance | fail)) (hc := (by first | infer_instance | fail)) ?_ | refine j_call2 (by (conv => lhs; whnf); done) (by (conv => lhs; whnf); done) (hN0 := (by first | infer_instance | fail)) (hN1 := (by first | infer_instance | fail)) (hc := (by first | infer_instance | fail)) ?_ | refine j_call3 (by (conv => lhs; whnf); done) (by (conv => lhs; whnf); done) (by (conv => lhs; whnf); done) (hN0 := (by first | infer_instance | fail)) (hN1 := (by first | infer_instance | fail)) (hN2 := (by first | infer_instance | fail)) (hc := (by first | infer_instance | fail)) ?_ | refine j_call0 (hc := (by first | infer_instance | fail)) ?_ | refine j_call4 (by (conv => lhs; whnf); done) (by (conv => lhs; whnf); done) (by (conv => lhs; whnf); done) (by (conv => lhs; whnf); done) (hN0 := (by first | infer_instance | fail)) (hN1 := (by first | infer_instance | fail)) (hN2 := (by first | infer_instance | fail)) (hN3 := (by first | infer_instance | fail)) (hc := (by first | infer_instance | fail)) ?_ | refine j_call5 (by (conv => lhs; whnf); done) (by (conv => lhs; whnf); done) (by (conv => lhs; whnf); done) (by (conv => lhs; whnf); done) (by (conv => lhs; whnf); done) (hN0 := (by first | infer_instance | fail)) (hN1 := (by first | infer_instance | fail)) (hN2 := (by first | infer_instance | fail)) (hN3 := (by first | infer_instance | fail)) (hN4 := (by first | infer_instance | fail)) (hc := (by first | infer_instance | fail)) ?_ | refine j_call6 (by (conv => lhs; whnf); done) (by (conv => lhs; whnf); done) (by (conv => lhs; whnf); done) (by (conv => lhs; whnf); done) (by (conv => lhs; whnf); done) (by (conv => lhs; whnf); done) (hN0 := (by first | infer_instance | fail)) (hN1 := (by first | infer_instance | fail)) (hN2 := (by first | infer_instance | fail)) (hN3 := (by first | infer_instance | fail)) (hN4 := (by first | infer_instance | fail)) (hN5 := (by first | infer_instance | fail)) (hc := (by first | infer_instance | fail)) ?_ | refine j_ext2 (by (conv => lhs; whnf); done) (by (conv => lhs; whnf); done) (hN0 := (by first | infer_instance | fail)) (hN1 := (by first | infer_instance | fail)) (hc := (by first | infer_instance | fail)) ?_)
      | (refine g_bi ?_; first | refine s_min (by rfl) (by rfl) ?_ | refine s_max (by rfl) (by rfl) ?_)
      | (refine g_bin ?_; first | refine s_lss (by rfl) (by rfl) ?_ | refine s_leq (by rfl) (by rfl) ?_ | refine s_gtr (by rfl) (by rfl) ?_ | refine s_geq (by rfl) (by rfl) ?_ | refine s_eqi (by rfl) (by rfl) ?_ | refine s_nei (by rfl) (by rfl) ?_ | refine s_add (by rfl) (by rfl) (by constructor <;> omega) ?_ | refine s_sub (by rfl) (by rfl) (by constructor <;> omega) ?_ | refine s_eqDig (by rfl) (by rfl) ?_ | refine s_neDig (by rfl) (by rfl) ?_ | refine s_eqId (by rfl) (by rfl) ?_ | refine s_neId (by rfl) (by rfl) ?_ | refine s_eqS (by (conv => lhs; whnf); done) (by (conv => lhs; whnf); done) (jx := (by first | infer_instance | fail)) (jy := (by first | infer_instance | fail)) ?_ | refine s_neS (by (conv => lhs; whnf); done) (by (conv => lhs; whnf); done) (jx := (by first | infer_instance | fail)) (jy := (by first | infer_instance | fail)) ?_ | refine s_eqB (by rfl) (by rfl) ?_ | refine s_neB (by rfl) (by rfl) ?_ | refine s_cat (by (conv => lhs; whnf); done) (by (conv => lhs; whnf); done) (jx := (by first | infer_instance | fail)) (jy := (by first | infer_instance | fail)) (by first | omega | (simp only [List.length_append, List.length_cons, List.length_nil, Nat.zero_add]; omega)) ?_ | refine s_mul (by rfl) (by rfl) (by constructor <;> omega) ?_ | refine s_quo (by rfl) (by rfl) (by omega) (by omega) ?_ | refine s_rem (by rfl) (by rfl) (by omega) ?_ | refine s_addW (by rfl) (by rfl) ?_ | refine s_xorW (by rfl) (by rfl) ?_ | refine s_andW (by rfl) (by rfl) ?_ | refine s_orW (by rfl) (by rfl) ?_ | refine s_shrW (by rfl) (by rfl) ?_ | refine s_shlW (by rfl) (by rfl) ?_ | refine s_shrU (by rfl) (by rfl) ?_ | refine s_subU (by rfl) (by rfl) (by omega) (by omega) ?_ | refine s_mulU (by rfl) (by rfl) (by omega) ?_)
      | (refine g_ix ?_; first | refine s_indexN (by rfl) (by rfl) (by omega) ?_ | refine s_indexB (by rfl) (by rfl) (by omega) ?_ | refine s_indexZ (by rfl) (by rfl) (by omega) (by omega) ?_)
      | (refine g_ext ?_; first | refine s_extract (by rfl) rfl ?_)
      | (refine g_pick ?_; first | refine s_pickTA (by rfl) rfl (by (conv => lhs; whnf); done) ?_ | refine s_pickFA (by rfl) rfl (by (conv => lhs; whnf); done) ?_ | refine s_pickTA (by first | ((conv => lhs; whnf); done) | fail) (by assumption) (by (conv => lhs; whnf); done) ?_ | refine s_pickFA (by first | ((conv => lhs; whnf); done) | fail) (by assumption) (by (conv => lhs; whnf); done) ?_)
      | (refine g_un ?_; first | refine s_not (by rfl) ?_ | refine s_neg (by rfl) (by constructor <;> omega) ?_ | refine s_notW (by rfl) ?_)
      | (refine g_store ?_; first | refine s_storeT (by rfl) (by (conv => lhs; whnf); done) (hB := (by first | infer_instance | fail)) (hu := (by first | infer_instance | fail)) (hf := (by first | infer_instance | fail)) ?_ | refine s_storeC (by rfl) (by (conv => lhs; whnf); done) (hC := (by first | infer_instance | fail)) (hB := (by first | infer_instance | fail)) (hp := (by first | infer_instance | fail)) (hu := (by first | infer_instance | fail)) (hf := (by first | infer_instance | fail)) (hlen := (by first | infer_instance | fail)) ?_ | refine s_storeX (by rfl) (by rfl) (hB := (by first | infer_instance | fail)) (hu := (by first | infer_instance | fail)) (hf := (by first | infer_instance | fail)) (hlen := (by first | infer_instance | fail)) (hcs := (by first | infer_instance | fail)) ?_ | refine s_storeW32 (by rfl) (by rfl) (by repeat (first | exact List.mem_cons_self | apply List.mem_cons_of_mem)) (by omega) (hu := (by first | infer_instance | fail)) ?_ | refine s_storeD (by rfl) (by rfl) (by repeat (first | exact List.mem_cons_self | apply List.mem_cons_of_mem)) (by omega) (hu := (by first | infer_instance | fail)) ?_)
      | (refine g_bs ?_; first | refine s_bs0 ?_ | refine s_bs1 (by (conv => lhs; whnf); done) (hC0 := (by first | infer_instance | fail)) (hf := (by first | infer_instance | fail)) (by decide) ?_ | refine s_bs2 (by (conv => lhs; whnf); done) (by (conv => lhs; whnf); done) (hC0 := (by first | infer_instance | fail)) (hC1 := (by first | infer_instance | fail)) (hf := (by first | infer_instance | fail)) (by decide) ?_ | refine s_bs3 (by (conv => lhs; whnf); done) (by (conv => lhs; whnf); done) (by (conv => lhs; whnf); done) (hC0 := (by first | infer_instance | fail)) (hC1 := (by first | infer_instance | fail)) (hC2 := (by first | infer_instance | fail)) (hf := (by first | infer_instance | fail)) (by decide) ?_ | refine s_bs4 (by (conv => lhs; whnf); done) (by (conv => lhs; whnf); done) (by (conv => lhs; whnf); done) (by (conv => lhs; whnf); done) (hC0 := (by first | infer_instance | fail)) (hC1 := (by first | infer_instance | fail)) (hC2 := (by first | infer_instance | fail)) (hC3 := (by first | infer_instance | fail)) (hf := (by first | infer_instance | fail)) (by decide) ?_ | refine s_bs5 (by (conv => lhs; whnf); done) (by (conv => lhs; whnf); done) (by (conv => lhs; whnf); done) (by (conv => lhs; whnf); done) (by (conv => lhs; whnf); done) (hC0 := (by first | infer_instance | fail)) (hC1 := (by first | infer_instance | fail)) (hC2 := (by first | infer_instance | fail)) (hC3 := (by first | infer_instance | fail)) (hC4 := (by first | infer_instance | fail)) (hf := (by first | infer_instance | fail)) (by decide) ?_ | refine s_bs6 (by (conv => lhs; whnf); done) (by (conv => lhs; whnf); done) (by (conv => lhs; whnf); done) (by (conv => lhs; whnf); done) (by (conv => lhs; whnf); done) (by (conv => lhs; whnf); done) (hC0 := (by first | infer_instance | fail)) (hC1 := (by first | infer_instance | fail)) (hC2 := (by first | infer_instance | fail)) (hC3 := (by first | infer_instance | fail)) (hC4 := (by first | infer_instance | fail)) (hC5 := (by first | infer_instance | fail)) (hf := (by first | infer_instance | fail)) (by decide) ?_)
      | (refine g_build ?_; first | refine s_build0 ?_ | refine s_buildA0 ?_ | refine b_build1 (by (conv => lhs; whnf); done) (hC0 := (by first | infer_instance | fail)) (hP0 := (by first | infer_instance | fail)) (hl0 := (by first | infer_instance | fail)) ?_ | refine b_build2 (by (conv => lhs; whnf); done) (by (conv => lhs; whnf); done) (hC0 := (by first | infer_instance | fail)) (hC1 := (by first | infer_instance | fail)) (hP0 := (by first | infer_instance | fail)) (hP1 := (by first | infer_instance | fail)) (hl0 := (by first | infer_instance | fail)) (hl1 := (by first | infer_instance | fail)) ?_ | refine b_build3 (by (conv => lhs; whnf); done) (by (conv => lhs; whnf); done) (by (conv => lhs; whnf); done) (hC0 := (by first | infer_instance | fail)) (hC1 := (by first | infer_instance | fail)) (hC2 := (by first | infer_instance | fail)) (hP0 := (by first | infer_instance | fail)) (hP1 := (by first | infer_instance | fail)) (hP2 := (by first | infer_instance | fail)) (hl0 := (by first | infer_instance | fail)) (hl1 := (by first | infer_instance | fail)) (hl2 := (by first | infer_instance | fail)) ?_ | refine b_build4 (by (conv => lhs; whnf); done) (by (conv => lhs; whnf); done) (by (conv => lhs; whnf); done) (by (conv => lhs; whnf); done) (hC0 := (by first | infer_instance | fail)) (hC1 := (by first | infer_instance | fail)) (hC2 := (by first | infer_instance | fail)) (hC3 := (by first | infer_instance | fail)) (hP0 := (by first | infer_instance | fail)) (hP1 := (by first | infer_instance | fail)) (hP2 := (by first | infer_instance | fail)) (hP3 := (by first | infer_instance | fail)) (hl0 := (by first | infer_instance | fail)) (hl1 := (by first | infer_instance | fail)) (hl2 := (by first | infer_instance | fail)) (hl3 := (by first | infer_instance | fail)) ?_ | refine b_build5 (by (conv => lhs; whnf); done) (by (conv => lhs; whnf); done) (by (conv => lhs; whnf); done) (by (conv => lhs; whnf); done) (by (conv => lhs; whnf); done) (hC0 := (by first | infer_instance | fail)) (hC1 := (by first | infer_instance | fail)) (hC2 := (by first | infer_instance | fail)) (hC3 := (by first | infer_instance | fail)) (hC4 := (by first | infer_instance | fail)) (hP0 := (by first | infer_instance | fail)) (hP1 := (by first | infer_instance | fail)) (hP2 := (by first | infer_instance | fail)) (hP3 := (by first | infer_instance | fail)) (hP4 := (by first | infer_instance | fail)) (hl0 := (by first | infer_instance | fail)) (hl1 := (by first | infer_instance | fail)) (hl2 := (by first | infer_instance | fail)) (hl3 := (by first | infer_instance | fail)) (hl4 := (by first | infer_instance | fail)) ?_ | refine b_build6 (by (conv => lhs; whnf); done) (by (conv => lhs; whnf); done) (by (conv => lhs; whnf); done) (by (conv => lhs; whnf); done) (by (conv => lhs; whnf); done) (by (conv => lhs; whnf); done) (hC0 := (by first | infer_instance | fail)) (hC1 := (by first | infer_instance | fail)) (hC2 := (by first | infer_instance | fail)) (hC3 := (by first | infer_instance | fail)) (hC4 := (by first | infer_instance | fail)) (hC5 := (by first | infer_instance | fail)) (hP0 := (by first | infer_instance | fail)) (hP1 := (by first | infer_instance | fail)) (hP2 := (by first | infer_instance | fail)) (hP3 := (by first | infer_instance | fail)) (hP4 := (by first | infer_instance | fail)) (hP5 := (by first | infer_instance | fail)) (hl0 := (by first | infer_instance | fail)) (hl1 := (by first | infer_instance | fail)) (hl2 := (by first | infer_instance | fail)) (hl3 := (by first | infer_instance | fail)) (hl4 := (by first | infer_instance | fail)) (hl5 := (by first | infer_instance | fail)) ?_ | refine b_build7 (by (conv => lhs; whnf); done) (by (conv => lhs; whnf); done) (by (conv => lhs; whnf); done) (by (conv => lhs; whnf); done) (by (conv => lhs; whnf); done) (by (conv => lhs; whnf); done) (by (conv => lhs; whnf); done) (hC0 := (by first | infer_instance | fail)) (hC1 := (by first | infer_instance | fail)) (hC2 := (by first | infer_instance | fail)) (hC3 := (by first | infer_instance | fail)) (hC4 := (by first | infer_instance | fail)) (hC5 := (by first | infer_instance | fail)) (hC6 := (by first | infer_instance | fail)) (hP0 := (by first | infer_instance | fail)) (hP1 := (by first | infer_instance | fail)) (hP2 := (by first | infer_instance | fail)) (hP3 := (by first | infer_instance | fail)) (hP4 := (by first | infer_instance | fail)) (hP5 := (by first | infer_instance | fail)) (hP6 := (by first | infer_instance | fail)) (hl0 := (by first | infer_instance | fail)) (hl1 := (by first | infer_instance | fail)) (hl2 := (by first | infer_instance | fail)) (hl3 := (by first | infer_instance | fail)) (hl4 := (by first | infer_instance | fail)) (hl5 := (by first | infer_instance | fail)) (hl6 := (by first | infer_instance | fail)) ?_ | refine b_build8 (by (conv => lhs; whnf); done) (by (conv => lhs; whnf); done) (by (conv => lhs; whnf); done) (by (conv => lhs; whnf); done) (by (conv => lhs; whnf); done) (by (conv => lhs; whnf); done) (by (conv => lhs; whnf); done) (by (conv => lhs; whnf); done) (hC0 := (by first | infer_instance | fail)) (hC1 := (by first | infer_instance | fail)) (hC2 := (by first | infer_instance | fail)) (hC3 := (by first | infer_instance | fail)) (hC4 := (by first | infer_instance | fail)) (hC5 := (by first | infer_instance | fail)) (hC6 := (by first | infer_instance | fail)) (hC7 := (by first | infer_instance | fail)) (hP0 := (by first | infer_instance | fail)) (hP1 := (by first | infer_instance | fail)) (hP2 := (by first | infer_instance | fail)) (hP3 := (by first | infer_instance | fail)) (hP4 := (by first | infer_instance | fail)) (hP5 := (by first | infer_instance | fail)) (hP6 := (by first | infer_instance | fail)) (hP7 := (by first | infer_instance | fail)) (hl0 := (by first | infer_instance | fail)) (hl1 := (by first | infer_instance | fail)) (hl2 := (by first | infer_instance | fail)) (hl3 := (by first | infer_instance | fail)) (hl4 := (by first | infer_instance | fail)) (hl5 := (by first | infer_instance | fail)) (hl6 := (by first | infer_instance | fail)) (hl7 := (by first | infer_instance | fail)) ?_)
      | (refine g_slice ?_; first | refine s_cutL (by rfl) (by rfl) (by omega) ?_ | refine s_cutH (by rfl) (by rfl) (by omega) ?_ | refine s_cutS (by (conv => lhs; whnf); done) (by rfl) (by rfl) (jx := (by first | infer_instance | fail)) (by omega) (by omega) (by omega) ?_ | refine s_cutSL (by (conv => lhs; whnf); done) (by rfl) (jx := (by first | infer_instance | fail)) (by omega) (by omega) ?_ | refine s_sliceD (by rfl) ?_ | refine s_sliceF (by rfl) ?_)
      | (refine g_conv ?_; first | refine s_convB (by rfl) ?_ | refine s_convW (by rfl) ?_ | refine s_convU (by rfl) (by omega) ?_ | refine s_strB (by rfl) ?_ | refine s_strBox (by rfl) (by repeat (first | exact List.mem_cons_self | apply List.mem_cons_of_mem)) (hs := (by first | infer_instance | fail)) ?_)
      | (refine g_index ?_; first | refine s_indexS (by (conv => lhs; whnf); done) (by rfl) (jx := (by first | infer_instance | fail)) (by omega) ?_)
      | (refine g_nck ?_; first | refine s_nilCheckP (by rfl) ?_)
      | (refine g_makef ?_; first | refine s_clo1 (by (conv => lhs; whnf); done) ?_ | refine s_clo2 (by (conv => lhs; whnf); done) (by (conv => lhs; whnf); done) ?_ | refine s_clo3 (by (conv => lhs; whnf); done) (by (conv => lhs; whnf); done) (by (conv => lhs; whnf); done) ?_ | refine s_clo0 ?_ | refine s_clo4 (by (conv => lhs; whnf); done) (by (conv => lhs; whnf); done) (by (conv => lhs; whnf); done) (by (conv => lhs; whnf); done) ?_)
      | (refine g_callv ?_; first | refine j_callv1 (by (conv => lhs; whnf); done) (by (conv => lhs; whnf); done) (hx := (by first | infer_instance | fail)) (hN0 := (by first | infer_instance | fail)) (hc := (by first | infer_instance | fail)) ?_ | refine j_callv2 (by (conv => lhs; whnf); done) (by (conv => lhs; whnf); done) (by (conv => lhs; whnf); done) (hx := (by first | infer_instance | fail)) (hN0 := (by first | infer_instance | fail)) (hN1 := (by first | infer_instance | fail)) (hc := (by first | infer_instance | fail)) ?_)
      | (refine g_look ?_; first | refine s_lookF (κ := Dig) (by (conv => lhs; whnf); done) (by (conv => lhs; whnf); done) (hT := (by first | infer_instance | fail)) (hK := (by first | infer_instance | fail)) (hz := (by first | infer_instance | fail)) (hk := (by first | infer_instance | fail)) ?_ | refine s_lookF (κ := Int) (by (conv => lhs; whnf); done) (by (conv => lhs; whnf); done) (hT := (by first | infer_instance | fail)) (hK := (by first | infer_instance | fail)) (hz := (by first | infer_instance | fail)) (hk := (by first | infer_instance | fail)) ?_ | refine s_lookFok (κ := Dig) (by (conv => lhs; whnf); done) (by (conv => lhs; whnf); done) (hT := (by first | infer_instance | fail)) (hK := (by first | infer_instance | fail)) (hz := (by first | infer_instance | fail)) (hk := (by first | infer_instance | fail)) ?_ | refine s_lookFok (κ := Int) (by (conv => lhs; whnf); done) (by (conv => lhs; whnf); done) (hT := (by first | infer_instance | fail)) (hK := (by first | infer_instance | fail)) (hz := (by first | infer_instance | fail)) (hk := (by first | infer_instance | fail)) ?_ | refine s_lookM (κ := Dig) (by rfl) (by repeat (first | exact List.mem_cons_self | apply List.mem_cons_of_mem)) (by (conv => lhs; whnf); done) (hT := (by first | infer_instance | fail)) (hK := (by first | infer_instance | fail)) (hz := (by first | infer_instance | fail)) (hk := (by first | infer_instance | fail)) ?_ | refine s_lookM (κ := Int) (by rfl) (by repeat (first | exact List.mem_cons_self | apply List.mem_cons_of_mem)) (by (conv => lhs; whnf); done) (hT := (by first | infer_instance | fail)) (hK := (by first | infer_instance | fail)) (hz := (by first | infer_instance | fail)) (hk := (by first | infer_instance | fail)) ?_ | refine s_lookMok (κ := Dig) (by rfl) (by repeat (first | exact List.mem_cons_self | apply List.mem_cons_of_mem)) (by (conv => lhs; whnf); done) (hT := (by first | infer_instance | fail)) (hK := (by first | infer_instance | fail)) (hz := (by first | infer_instance | fail)) (hk := (by first | infer_instance | fail)) ?_ | refine s_lookMok (κ := Int) (by rfl) (by repeat (first | exact List.mem_cons_self | apply List.mem_cons_of_mem)) (by (conv => lhs; whnf); done) (hT := (by first | infer_instance | fail)) (hK := (by first | infer_instance | fail)) (hz := (by first | infer_instance | fail)) (hk := (by first | infer_instance | fail)) ?_)
      | (refine g_mupd ?_; first | refine j_mapUpd (κ := Dig) (by rfl) (by (conv => lhs; whnf); done) (by (conv => lhs; whnf); done) (hF := (by first | infer_instance | fail)) (hT := (by first | infer_instance | fail)) (hK := (by first | infer_instance | fail)) (hp := (by first | infer_instance | fail)) (hk := (by first | infer_instance | fail)) (hv := (by first | infer_instance | fail)) ?_ | refine j_mapUpd (κ := Int) (by rfl) (by (conv => lhs; whnf); done) (by (conv => lhs; whnf); done) (hF := (by first | infer_instance | fail)) (hT := (by first | infer_instance | fail)) (hK := (by first | infer_instance | fail)) (hp := (by first | infer_instance | fail)) (hk := (by first | infer_instance | fail)) (hv := (by first | infer_instance | fail)) ?_)
      | (refine g_mins ?_; first | refine j_mapIns (κ := Dig) (by rfl) (by (conv => lhs; whnf); done) (by (conv => lhs; whnf); done) (hF := (by first | infer_instance | fail)) (hT := (by first | infer_instance | fail)) (hK := (by first | infer_instance | fail)) (hp := (by first | infer_instance | fail)) (hk := (by first | infer_instance | fail)) (hv := (by first | infer_instance | fail)) ?_ | refine j_mapIns (κ := Int) (by rfl) (by (conv => lhs; whnf); done) (by (conv => lhs; whnf); done) (hF := (by first | infer_instance | fail)) (hT := (by first | infer_instance | fail)) (hK := (by first | infer_instance | fail)) (hp := (by first | infer_instance | fail)) (hk := (by first | infer_instance | fail)) (hv := (by first | infer_instance | fail)) ?_)
      | (refine g_box ?_; first | refine s_boxF (by (conv => lhs; whnf); done) (hC := (by first | infer_instance | fail)) ?_)
    exact hB.out) : A := h ⟨k⟩
/-- Goes on by itself as long as it can, up to a parameter that turns. -/
theorem wk {A B : Prop} (k : B) (h : Wrap B → A := by
    intro hB
    repeat (first
      | (fail_if_success (refine g_box ?_)); refine w1 ?_
      | refine pops_nil ?_
      | refine pwp_seq ?_
      | refine pwp_region (by kernel_rfl) ?_
      | refine pwp_block ?_
      | refine pwp_skip ?_
      | refine pwp_ret ?_
      | refine pwp_exit ?_
      | refine pwp_drawQ (by decide +kernel) ?_
      | refine pwp_condT (by rfl) ?_
      | refine pwp_condF (by rfl) ?_)
    exact hB.out) : A := h ⟨k⟩
/-- The same; parameters turn no more. -/
theorem wf {A B : Prop} (k : B) (h : Wrap B → A := by
    intro hB
    repeat (first
      | refine w1 ?_
      | refine pops_nil ?_
      | refine pwp_seq ?_
      | refine pwp_region (by kernel_rfl) ?_
      | refine pwp_block ?_
      | refine pwp_skip ?_
      | refine pwp_ret ?_
      | refine pwp_exit ?_
      | refine pwp_drawQ (by decide +kernel) ?_
      | refine pwp_condT (by rfl) ?_
      | refine pwp_condF (by rfl) ?_)
    exact hB.out) : A := h ⟨k⟩
/-- The same; not into a region whose order is drawn. -/
theorem wn {A B : Prop} (k : B) (h : Wrap B → A := by
    intro hB
    repeat (first
      | refine w1 ?_
      | refine pops_nil ?_
      | refine pwp_seq ?_
      | refine pwp_region (by kernel_rfl) ?_
      | refine pwp_block ?_
      | refine pwp_skip ?_
      | refine pwp_ret ?_
      | refine pwp_exit ?_
      | refine pwp_condT (by rfl) ?_
      | refine pwp_condF (by rfl) ?_)
    exact hB.out) : A := h ⟨k⟩
/-- Operations alone. -/
theorem wo {A B : Prop} (k : B) (h : Wrap B → A := by
    intro hB
    repeat (first
      | refine w1 ?_)
    exact hB.out) : A := h ⟨k⟩
/-- Goes on up to a block, a loop, an if. -/
theorem ws {A B : Prop} (k : B) (h : Wrap B → A := by
    intro hB
    repeat (first
      | refine w1 ?_
      | refine pops_nil ?_
      | refine pwp_seq ?_
      | refine pwp_region (by kernel_rfl) ?_
      | refine pwp_skip ?_
      | refine pwp_ret ?_
      | refine pwp_exit ?_
      | refine pwp_drawQ (by decide +kernel) ?_)
    exact hB.out) : A := h ⟨k⟩
/-- Up to a new variable, and on. -/
theorem wkb {A : Prop} {B : Nat → Prop} (k : ∀ b, B b) (h : WrapF B → A := by
    intro hB
    refine wk ?_
    first | refine s_box (by rfl) fun b => ?_ | refine s_alloc fun b => ?_ | refine s_boxC (by (conv => lhs; whnf); done) (hC := (by first | infer_instance | fail)) fun b => ?_
    refine wk ?_
    exact hB.out b) : A := h ⟨k⟩
/-- Up to a new variable, and on; parameters turn no more. -/
theorem wfb {A : Prop} {B : Nat → Prop} (k : ∀ b, B b) (h : WrapF B → A := by
    intro hB
    refine wf ?_
    refine s_alloc fun b => ?_
    refine wf ?_
    exact hB.out b) : A := h ⟨k⟩
/-- Up to a new map, and on. -/
theorem wfm {A : Prop} {B : Nat → Prop} (k : ∀ b, B b) (h : WrapF B → A := by
    intro hB
    refine wf ?_
    refine j_makeMap fun b => ?_
    refine wf ?_
    exact hB.out b) : A := h ⟨k⟩
/-- Up to an append, and on. -/
theorem wfa {A : Prop} {B : Tag → Prop} (k : ∀ t, B t) (h : WrapF B → A := by
    intro hB
    refine wf ?_
    first
      | refine s_append0 (by rfl) (by rfl) (by simp only [List.length_append, List.length_cons, List.length_nil, List.length_map, List.length_take, List.length_drop, Nat.zero_add]; omega) (by simp only [List.length_append, List.length_cons, List.length_nil, List.length_map, List.length_take, List.length_drop, Nat.zero_add]; omega) fun t => ?_
      | refine s_append (by rfl) (by rfl) (by simp only [List.length_append, List.length_cons, List.length_nil, List.length_map, List.length_take, List.length_drop, Nat.zero_add]; omega) (by simp only [List.length_append, List.length_cons, List.length_nil, List.length_map, List.length_take, List.length_drop, Nat.zero_add]; omega) (fun t => by first | exact .here | exact (.there .here) | exact (.there (.there .here)) | exact (.there (.there (.there .here))) | exact (.there (.there (.there (.there .here)))) | exact (.there (.there (.there (.there (.there .here))))) | exact (.there (.there (.there (.there (.there (.there .here)))))) | exact (.there (.there (.there (.there (.there (.there (.there .here))))))) | exact (.there (.there (.there (.there (.there (.there (.there (.there .here))))))))) fun t => ?_
    refine wf ?_
    exact hB.out t) : A := h ⟨k⟩
/-- Up to a new variable and the end of its region. -/
theorem wz {A : Prop} {B : Nat → Prop} (k : ∀ b, B b) (h : WrapF B → A := by
    intro hB
    refine wf ?_
    refine s_alloc fun b => ?_
    refine wo ?_
    refine pops_nil ?_
    exact hB.out b) : A := h ⟨k⟩
end
end Go.Q
/- The small logic: cuts in the middle of a region. Library, no statement of its own. -/
namespace Go.Q
open Go
section
variable {P : Program} {N : Nat} {all : Array Oper} {K : Env → List Res → Prop} {os : List Oper} {ρ : Env} {L : List Res} {Q : PPost} {c : Code}
def Weaker (ρ' ρ : Env) : Prop := ∀ i, ρ' i = ρ i ∨ ρ' i = .junk
theorem Weaker.ev {ρ' ρ : Env} (h : Weaker ρ' ρ) (x : Operand) : ρ'.ev x = ρ.ev x ∨ ρ'.ev x = .junk := by
  cases x with
  | tmp t => exact h t
  | _ => exact .inl rfl
theorem Weaker.updo {ρ' ρ : Env} (h : Weaker ρ' ρ) (dst : Option Nat) (x : PV) : Weaker (updo ρ' dst x) (updo ρ dst x) := by
  cases dst with
  | none => exact h
  | some d => intro i; by_cases e : i = d
              · left; subst e; show upd _ _ _ _ = upd _ _ _ _; rw [upd_self, upd_self]
              · show upd _ _ _ _ = upd _ _ _ _ ∨ upd _ _ _ _ = _
                rw [upd_ne _ _ e, upd_ne _ _ e]; exact h i
theorem OpN.weak {o : Oper} {ρ' : Env} {L' : List Res} {Ψ : PV → List Res → Prop} (hw : Weaker ρ' ρ) (hL : L'.Sublist L) (h : OpN P o ρ' L' Ψ) : OpN P o ρ L Ψ := fun a w g ha hi => by
  have hb : ∀ b, b ∈ blocks L' → b ∈ blocks L := fun b hb => (blocks_sublist hL).subset hb
  refine (h a w g (fun x hx => ?_) (hi.sub hL)).mono fun a' w' ⟨v, x, g'', L'', k1, k2, k3, k4, k5, k6⟩ => ⟨v, x, g'', L'', k1, k2, k3, k4.grow hb, fun b hm hl => hb b (k5 b hm hl), k6⟩
  rcases hw.ev x with e | e
  · rw [e]; exact ha x hx
  · rw [e]; exact .junk _
/-- Less may be known ahead of what is left of a region. -/
theorem pops_weak (hK : ∀ ρ ρ' L L', Weaker ρ' ρ → L'.Sublist L → K ρ' L' → K ρ L) : ∀ {os : List Oper} {ρ ρ' : Env} {L L' : List Res}, Weaker ρ' ρ → L'.Sublist L → pops P N all K [] os ρ' L' → pops P N all K [] os ρ L
  | [], _, _, _, _, hw, hL, h => hK _ _ _ _ hw hL h
  | o :: os, ρ, ρ', L, L', hw, hL, h => by
    obtain ⟨hd, h⟩ := h
    refine ⟨hd, ?_⟩
    rcases h with ⟨hno, h⟩ | ⟨hyes, h⟩
    · refine .inl ⟨?_, pops_weak hK (hw.updo _ _) hL h⟩
      unfold GNo at *
      cases hg : o.guard with
      | none => simp only [hg] at hno
      | some p =>
        simp only [hg] at hno ⊢
        obtain ⟨s, v, h1, h2, h3⟩ := hno
        have h4 : ρ s = .raw v := by
          rcases hw s with e | e
          · rw [e] at h2; exact h2
          · rw [e] at h2; cases h2
        exact ⟨s, v, h1, h4, h3⟩
    · refine .inr ⟨?_, .inr ⟨rfl, ?_⟩⟩
      · unfold GYes at *
        cases hg : o.guard with
        | none => trivial
        | some p =>
          simp only [hg] at hyes ⊢
          obtain ⟨s, h1, h2⟩ := hyes
          exact ⟨s, h1, by
            rcases hw s with e | e
            · rw [e] at h2; exact h2
            · rw [e] at h2; cases h2⟩
      · rcases h with ⟨x, hq, h⟩ | ⟨_, h⟩
        · exact (OpN.mono hq fun x' L'' ⟨e1, e2⟩ => by subst e1; subst e2; exact pops_weak hK (hw.updo _ _) (.refl _) h).weak hw hL
        · exact (h.mono fun x L'' h => pops_weak hK (hw.updo _ _) (.refl _) h).weak hw hL
theorem pops_app {K : Env → List Res → Prop} {os2 : List Oper} : ∀ {os1 : List Oper} {ρ : Env} {L : List Res}, pops P N all (fun ρ L => pops P N all K [] os2 ρ L) [] os1 ρ L → pops P N all K [] (os1 ++ os2) ρ L
  | [], _, _, h => h
  | o :: os1, ρ, L, h => by
    obtain ⟨hd, h⟩ := h
    refine ⟨hd, ?_⟩
    rcases h with ⟨hno, h⟩ | ⟨hyes, h⟩
    · exact .inl ⟨hno, pops_app h⟩
    · refine .inr ⟨hyes, ?_⟩
      rcases h with ⟨x, hq, h⟩ | ⟨hf, h⟩
      · exact .inl ⟨x, hq, pops_app h⟩
      · exact .inr ⟨hf, h.mono fun x L' h => pops_app h⟩
/-- What is known behind the first n operations, said at once. -/
theorem pops_cutM {y : Code} (n : Nat) (E : List (Nat × PV)) (LL : List Res) (h : pops P N all (fun ρ L => Holds ρ E ∧ LL.Sublist L) [] (os.take n) ρ L) (k : pops P N all (fun ρ L => pwp P N y Q ρ L) [] (os.drop n) (env E) LL)
    (hK : ∀ ρ L, pwp P N y Q ρ L → K ρ L := by intro _ _ h; exact h) : pops P N all K [] os ρ L := by
  have := pops_app (P := P) (N := N) (all := all) (K := K) (os1 := os.take n) (os2 := os.drop n) (ρ := ρ) (L := L) (pops_mono (fun ρ' L' ⟨h1, h2⟩ => pops_mono hK (pops_weak (fun _ _ _ _ hw hL h => pwp_weaken hw hL h) (env_le h1) h2 k)) h)
  rwa [List.take_append_drop] at this
end
end Go.Q
/- The small logic: what the kit's shelf proves; rows of bytes known to the letter. Library, no statement of its own. -/
namespace Go.Q
open Go

section
variable {P : Program} {w w' : World} {g : Gh} {L : List Res}
/-- Nothing turns, blocks come. -/
theorem Inv.later (hi : Inv w g L) (hk : ∀ k, k < w.heap.size → w'.heap[k]? = w.heap[k]?) : Inv w' g L := by
  refine ⟨fun b i v h => ?_, fun b z h => (hi.satM b z h).congr (hk b (hi.satM b z h).lt), fun r hr => ?_, hi.nodup, hi.glob⟩
  · have h0 := hi.sat b i v h
    have hb : b < w.heap.size := by
      rcases Nat.lt_or_ge b w.heap.size with h' | h'
      · exact h'
      · simp [World.cell?, Array.getElem?_eq_none h'] at h0
    simp only [World.cell?] at h0 ⊢
    rw [hk b hb]; exact h0
  · exact Res.holds_kept (.refl g) (hi.res r hr) fun b hb => ⟨hk b (hi.lt (List.mem_filterMap.2 ⟨r, hr, hb⟩)), fun _ => rfl, rfl⟩
/-- One block turns that nothing is known of. -/
theorem Inv.other {l : Nat} (hi : Inv w g L) (hH : ∀ o, g.H l o = none) (hM : g.M l = none) (hl : l ∉ blocks L) (hk : ∀ k, k ≠ l → w'.heap[k]? = w.heap[k]?) : Inv w' g L := by
  refine ⟨fun b i v h => ?_, fun b z h => ?_, fun r hr => ?_, hi.nodup, hi.glob⟩
  · have : b ≠ l := fun e => by subst e; rw [hH] at h; cases h
    have h0 := hi.sat b i v h
    simp only [World.cell?] at h0 ⊢
    rw [hk b this]; exact h0
  · have : b ≠ l := fun e => by subst e; rw [hM] at h; cases h
    exact (hi.satM b z h).congr (hk b this)
  · exact Res.holds_kept (.refl g) (hi.res r hr) fun b hb => ⟨hk b (fun e => hl (List.mem_filterMap.2 ⟨r, hr, by rw [hb, e]⟩)), fun _ => rfl, rfl⟩
theorem Inv.rawHead {l : Nat} {o : Obj} (hi : Inv w g (.raw l o :: L)) : w.heap[l]? = some o ∧ (∀ o, g.H l o = none) ∧ g.M l = none ∧ l ∉ blocks L ∧ Inv w g L := by
  obtain ⟨h1, h2, h3⟩ := hi.res _ (List.mem_cons_self)
  have hnd := hi.nodup
  simp only [blocks, List.filterMap_cons, Res.block] at hnd
  exact ⟨h1, h2, h3, (List.nodup_cons.1 hnd).1, hi.sub (List.sublist_cons_self _ _)⟩
theorem Inv.turnRaw {l : Nat} {o o' : Obj} (hi : Inv w g (.raw l o :: L)) (h : w'.heap[l]? = some o') (hk : ∀ k, k ≠ l → w'.heap[k]? = w.heap[k]?) : Inv w' g (.raw l o' :: L) := by
  obtain ⟨_, h2, h3, hn, hi'⟩ := hi.rawHead
  exact (hi'.other h2 h3 hn hk).addRaw h h2 h3 hn
theorem Inv.turnBox {l T : Nat} {cs cs' : List PV} {vs' : List Value} (hi : Inv w g (.box l T cs :: L)) (h : w'.heap[l]? = some (.cells vs'.toArray T (0, 0))) (hv : VRl g vs' cs') (hk : ∀ k, k ≠ l → w'.heap[k]? = w.heap[k]?) : Inv w' g (.box l T cs' :: L) := by
  obtain ⟨vs, h1, _, h2, h3⟩ := hi.res _ (List.mem_cons_self)
  have hnd := hi.nodup
  simp only [blocks, List.filterMap_cons, Res.block] at hnd
  have hn := (List.nodup_cons.1 hnd).1
  have k := (hi.sub (List.sublist_cons_self _ _)).other h2 h3 hn hk
  refine ⟨k.sat, k.satM, fun r hr => ?_, hi.nodup, k.glob⟩
  rcases List.mem_cons.1 hr with rfl | hr
  · exact ⟨vs', h, hv, h2, h3⟩
  · exact k.res r hr
/-- What an outer contract says. -/
theorem fn_ext {f : FuncId} {args : List PV} {X : PV} (h : ∀ vs w g LF, VRl g vs args → Inv w g LF → Calls P f vs.toArray w (fun e w' => ∃ v, e = .returned v ∧ (∀ g, VR g v X) ∧ w'.os = w.os ∧ w'.tape = w.tape ∧ w'.output = w.output ∧ w.drawn ≤ w'.drawn ∧ w.heap.size ≤ w'.heap.size ∧ ∀ k, k < w.heap.size → w'.heap[k]? = w.heap[k]?)) : Fn P f args X := fun vs w g LF hv hi => by
  rw [List.nil_append] at hi
  refine (h vs w g LF hv hi).mono ?_
  rintro e w' ⟨v, rfl, h1, h2, h3, h4, h5, h6, h7⟩
  exact ⟨v, X, g, [], rfl, h1 g, hi.later h7, ⟨h2, h3, ⟨h4, h5⟩, h6, fun k hk _ => h7 k hk, .refl g, fun _ _ _ => ⟨fun _ => rfl, rfl⟩⟩, .refl _ _, rfl, rfl⟩
end

/-! ### Rows of bytes known to the letter -/
def bcs (l : List UInt8) : List Value := l.map fun b => Value.int .u8 b.toNat
@[simp] theorem len_bcs (l : List UInt8) : (bcs l).length = l.length := by simp [bcs]
theorem bcs_append (l m : List UInt8) : bcs (l ++ m) = bcs l ++ bcs m := by simp [bcs]
class TRow (P : Program) (T : Nat) (E : outParam Nat) : Prop where
  out : ∃ i, P.underlying T = some (.slice E) ∧ P.info? E = some i ∧ i.size = 1 ∧ i.bytes = 1 ∧ i.zero = some (.int .u8 0) ∧ P.cellsOf E = 1
inductive RowOf (E : Nat) : Value → List UInt8 → List Res → Prop
  | nil : RowOf E (.slice none 0 0) [] []
  | row {r cap : Nat} {cur : Array Value} {l : List UInt8} (hl : l.length ≤ cap) (hs : cur.size = cap) (hc : cur.toList.take l.length = bcs l) : RowOf E (.slice (some ⟨r, 0, none⟩) l.length cap) l [.raw r (.cells cur E (0, 0))]

theorem grown_row {w : World} {g : Gh} {R LF : List Res} (hi : Inv w g (R ++ LF)) (o : Obj) : Inv (w.drew.alloc o) g (.raw w.heap.size o :: LF) ∧ Step (blocks (R ++ LF)) w g (w.drew.alloc o) g ∧ Within w (R ++ LF) (.raw w.heap.size o :: LF) := by
  have hk : ∀ k, k < w.heap.size → (w.drew.alloc o).heap[k]? = w.heap[k]? := fun k hk => by
    show (w.heap.push o)[k]? = _
    rw [Array.getElem?_push, if_neg (by omega)]
  have h1 : (w.drew.alloc o).heap[w.heap.size]? = some o := by show (w.heap.push o)[w.heap.size]? = _; simp
  have hiL : Inv w g LF := hi.sub (List.sublist_append_right _ _)
  obtain ⟨h2, h3⟩ := hi.fresh (Nat.le_refl w.heap.size)
  refine ⟨(hiL.later hk).addRaw h1 h2 h3 (fun h => Nat.lt_irrefl _ (hiL.lt h)), ⟨rfl, rfl, ⟨rfl, Nat.le_succ _⟩, by simp, fun k h _ => hk k h, .refl g, fun _ _ _ => ⟨fun _ => rfl, rfl⟩⟩, fun b hb hlt => ?_⟩
  simp only [blocks, List.filterMap_cons, Res.block] at hb
  rcases List.mem_cons.1 hb with rfl | hb
  · exact absurd hlt (Nat.lt_irrefl _)
  · simp only [blocks, List.filterMap_append]; exact List.mem_append_right _ hb

theorem app_core {P : Program} {T T₂ E ty : Nat} [hT : TRow P T E] (hu : P.underlying T₂ = some .string ∨ ∃ e, P.underlying T₂ = some (.slice e)) {w : World} {g : Gh} {LF R : List Res} {v : Value} {l : List UInt8} (u : Value) (s : List UInt8)
    (hi : Inv w g (R ++ LF)) (hv : RowOf E v l R) (hl : ∀ w', (Builtin.lenOf u).run P w' = .ok s.length w')
    (hf : ∀ w', (∀ b o x, g.H b o = some x → w'.cell? ⟨b, o, none⟩ = some x) → (Builtin.firstCells 1 s.length u).run P w' = .ok (bcs s).toArray w') (hb : l.length + s.length ≤ 140737488355328) :
    ∃ v' w' R', (Builtin.append_ #[T, T₂] ty #[v, u]).run P w = .ok v' w' ∧ RowOf E v' (l ++ s) R' ∧ Inv w' g (R' ++ LF) ∧ Step (blocks (R ++ LF)) w g w' g ∧ Within w (R ++ LF) (R' ++ LF) := by
  obtain ⟨i, t1, t2, t3, t4, t5, _⟩ := hT.out
  have hone : ∀ x ∈ bcs s, x.oneCell' = true := fun x hx => by
    obtain ⟨b, _, rfl⟩ := List.mem_map.1 hx; rfl
  have grown : ∀ cap nc (base : Option Addr), ¬ (l.length + s.length ≤ cap) → v = .slice base l.length cap → (∀ w', w'.heap = w.heap → (Builtin.firstCells 1 l.length (.slice base l.length cap)).run P w' = .ok (bcs l).toArray w') → nc = grownCap w (l.length + s.length) cap E →
      (Builtin.append_ #[T, T₂] ty #[v, u]).run P w = .ok (.slice (some ⟨w.heap.size, 0, none⟩) (l.length + s.length) nc) (w.drew.alloc (.cells ((bcs l ++ bcs s).toArray ++ Builtin.zeroCells (Value.int .u8 0).cells (nc - (l.length + s.length))) E (0, 0))) := by
    rintro cap nc base hn rfl hfl rfl
    have hcapb : Builtin.nextslicecap (l.length + s.length) cap ≤ 2 ^ 48 := by
      have := nextslicecap_le (show cap < l.length + s.length by omega)
      have : (2 : Nat) ^ 48 = 2 * 140737488355328 := by decide
      omega
    have h63' : ¬ (9223372036854775807 < ((l.length : Int) + (s.length : Int))) := by omega
    have h48' : ¬ (281474976710656 < Builtin.nextslicecap (l.length + s.length) cap * i.bytes) := by
      rw [t4]; have : (2 : Nat) ^ 48 = 281474976710656 := by decide
      omega
    have f1 := hfl w.drew rfl
    have f2 := hf w.drew hi.sat
    rcases hu with hu | ⟨e, hu⟩ <;>
    · simp [Builtin.append_, run_underlying t1, run_underlying hu, sizeOf, typeInfo, zeroValue, t2, t3, t5, hl, hn, h63', h48', Question.forced, f1, f2, newRow, grownCap]
      congr 2
      apply Array.ext'
      simp [List.append_assoc]
  have res : ∀ nc, l.length + s.length ≤ nc → ∃ R', RowOf E (.slice (some ⟨w.heap.size, 0, none⟩) (l.length + s.length) nc) (l ++ s) R' ∧ Inv (w.drew.alloc (.cells ((bcs l ++ bcs s).toArray ++ Builtin.zeroCells (Value.int .u8 0).cells (nc - (l.length + s.length))) E (0, 0))) g (R' ++ LF) ∧
      Step (blocks (R ++ LF)) w g (w.drew.alloc (.cells ((bcs l ++ bcs s).toArray ++ Builtin.zeroCells (Value.int .u8 0).cells (nc - (l.length + s.length))) E (0, 0))) g ∧ Within w (R ++ LF) (R' ++ LF) := fun nc hnc => by
    obtain ⟨k1, k2, k3⟩ := grown_row hi (.cells ((bcs l ++ bcs s).toArray ++ Builtin.zeroCells (Value.int .u8 0).cells (nc - (l.length + s.length))) E (0, 0))
    refine ⟨[.raw w.heap.size (.cells ((bcs l ++ bcs s).toArray ++ Builtin.zeroCells (Value.int .u8 0).cells (nc - (l.length + s.length))) E (0, 0))], ?_, k1, k2, k3⟩
    have := RowOf.row (E := E) (r := w.heap.size) (cap := nc) (cur := (bcs l ++ bcs s).toArray ++ Builtin.zeroCells (Value.int .u8 0).cells (nc - (l.length + s.length))) (l := l ++ s) (by simpa using hnc) (by
      have hz1 : (Value.int IntKind.u8 0).cells.size = 1 := rfl
      simp [size_zeroCells, hz1]; omega) (by
      simp only [Array.toList_append, bcs_append]
      rw [← bcs_append, List.take_left' (by simp)])
    simpa using this
  cases hv with
  | nil =>
    by_cases hs : s = []
    · subst hs
      refine ⟨.slice none 0 0, w, [], ?_, .nil, hi, .refl _ _ _, .refl _ _⟩
      have f2 := hf w hi.sat
      simp only [List.length_nil] at f2 hl
      rcases hu with hu | ⟨e, hu⟩ <;> simp [Builtin.append_, run_underlying t1, run_underlying hu, sizeOf, typeInfo, t2, t3, hl, f2, bcs]
    · have hpos : 0 < s.length := List.length_pos_iff.2 hs
      have hr := grown 0 _ none (by simp; omega) rfl (fun w' _ => rfl) rfl
      obtain ⟨R', k1, k2, k3, k4⟩ := res _ (grownCap_ge w (([] : List UInt8).length + s.length) 0 E)
      exact ⟨_, _, R', hr, k1, k2, k3, k4⟩
  | row hlc hs hc =>
    rename_i r cap cur
    obtain ⟨h1, h2, h3, hn, hiL⟩ := hi.rawHead
    by_cases hroom : l.length + s.length ≤ cap
    · have hbk' : w.heap[r]? = some (.cells cur.toList.toArray E (0, 0)) := by simpa using h1
      obtain ⟨w', hrun, hb', hos, htp, hout, hsz', hkk⟩ := storeCells_run (P := P) (bcs s) w cur.toList l.length 0 hbk' (by simp [hs]; omega) hone
      refine ⟨.slice (some ⟨r, 0, none⟩) (l.length + s.length) cap, w', [.raw r (.cells (cur.toList.take (l.length + 0) ++ bcs s ++ cur.toList.drop (l.length + 0 + (bcs s).length)).toArray E (0, 0))], ?_, ?_, hi.turnRaw hb' hkk, ⟨hos, htp, hout, Nat.le_of_eq hsz'.symm, fun k _ hk => hkk k (fun e => hk (by simp [blocks, Res.block, e])), .refl g, fun _ _ _ => ⟨fun _ => rfl, rfl⟩⟩, fun b hb _ => by simpa [blocks, Res.block] using hb⟩
      · have f2 := hf w hi.sat
        rcases hu with hu | ⟨e, hu⟩ <;> simp [Builtin.append_, run_underlying t1, run_underlying hu, sizeOf, typeInfo, t2, t3, hl, hroom, f2, add_plain, hrun]
      · have := RowOf.row (E := E) (r := r) (cap := cap) (cur := (cur.toList.take (l.length + 0) ++ bcs s ++ cur.toList.drop (l.length + 0 + (bcs s).length)).toArray) (l := l ++ s) (by simpa using hroom) (by
          simp only [List.size_toArray, List.length_append, List.length_take, List.length_drop, Array.length_toList, hs, len_bcs, Nat.add_zero]; omega) (by
          rw [Nat.add_zero, hc, ← bcs_append, List.take_left' (by simp)])
        simpa using this
    · have hr := grown cap _ (some ⟨r, 0, none⟩) hroom rfl (fun w' hw' => by
        show (loadCells _ (l.length * 1)).run P w' = _
        rw [Nat.mul_one, ← len_bcs l]
        refine loadCells_run fun j hj => ?_
        have hj2 : j < cur.toList.length := by rw [Array.length_toList, hs]; rw [len_bcs] at hj; omega
        simp only [World.cell?, hw', h1, Option.isSome_none, Bool.false_eq_true, if_false, Nat.zero_add]
        have : (bcs l)[j] = cur.toList[j] := by
          have := List.getElem_of_eq hc.symm hj
          rw [this, List.getElem_take]
        rw [this]
        simp [Array.getElem?_eq_getElem (show j < cur.size by simpa using hj2)]) rfl
      obtain ⟨R', k1, k2, k3, k4⟩ := res _ (grownCap_ge w (l.length + s.length) cap E)
      exact ⟨_, _, R', hr, k1, k2, k3, k4⟩

section
variable {P : Program} {N : Nat} {all : Array Oper} {K : Env → List Res → Prop} {fl : List Bool} {os : List Oper} {ρ : Env} {L : List Res} {d : Nat} {ty : TypeId} {pos : String} {af : Array Edge}
theorem firstStr (s : List UInt8) (w : World) : (Builtin.firstCells 1 s.length (.string ⟨s.toArray⟩)).run P w = .ok (bcs s).toArray w := by
  have h := Lib.run_firstCells_string (P := P) w 1 ⟨s.toArray⟩
  have e : (⟨s.toArray⟩ : ByteArray).size = s.length := by simp [ByteArray.size]
  rw [e] at h
  rw [h]; congr 1
theorem s_appStr {T T₂ E : Nat} [hT : TRow P T E] [h2 : TStr P T₂] {x y : Operand} {v : Value} {l s : List UInt8} {R LF : List Res} (F : List Res → List Res) {ay : PV} (hx : ρ.ev x = .raw v) (hy : ρ.ev y = ay) [jy : IsStr ay s] (hv : RowOf E v l R) (hp : L.Perm (R ++ LF)) (hq : ∀ R', (R' ++ LF).Perm (F R')) (hb : l.length + s.length ≤ 140737488355328)
    (k : ∀ v' R', RowOf E v' (l ++ s) R' → pops P N all K fl.tail os (upd ρ d (.raw v')) (F R')) (hd : Nat.blt d N = true := by rfl) (hfl : fl.headD true = true := by rfl) :
    pops P N all K fl (⟨some d, .call { callee := .builtin .append, args := #[x, y], argTypes := #[T, T₂] }, ty, pos, af, none⟩ :: os) ρ L :=
  pops_n rfl (dlt hd) hfl (OpN.perm hp fun a w g ha hi => by
    have h1 := evRaw ha (x := x) (by simp [Op.operands, Call.operands]) hx
    have h3 := ha y (by simp [Op.operands, Call.operands])
    rw [hy] at h3
    have e : a.eval y = .string ⟨s.toArray⟩ := jy.out g _ h3
    obtain ⟨v', w', R', q1, q2, q3, q4, q5⟩ := app_core (P := P) (T := T) (T₂ := T₂) (ty := ty) (.inl h2.out) (.string ⟨s.toArray⟩) s hi hv (fun _ => by simp [Builtin.lenOf, ByteArray.size]) (fun w' _ => firstStr s w') hb
    have he : execOp a.eval ⟨some d, .call { callee := .builtin .append, args := #[x, y], argTypes := #[T, T₂] }, ty, pos, af, none⟩ = (do pure (.value (← Builtin.append_ #[T, T₂] ty (#[x, y].map a.eval)))) := rfl
    have hr : (execOp a.eval ⟨some d, .call { callee := .builtin .append, args := #[x, y], argTypes := #[T, T₂] }, ty, pos, af, none⟩).run P w = .ok (.value v') w' := by
      rw [he]; simp [h1, e, q1]
    refine Oper.wq_of_run hr ?_
    exact ⟨v', .raw v', g, F R', rfl, .raw _, q3.perm (hq R'), q4, fun b hb hlt => q5 b ((blocks_perm (hq R')).symm.subset hb) hlt, k v' R' q2⟩)
/-- A slice of one byte is appended. -/
theorem s_appByte {T T₂ E E₂ : Nat} [hT : TRow P T E] [h2 : TSl P T₂ E₂] {x y : Operand} {v : Value} {l : List UInt8} {c : UInt8} {t : Tag} {R LF : List Res} (F : List Res → List Res) (hx : ρ.ev x = .raw v) (hy : ρ.ev y = .slice [[.raw (.int .u8 c.toNat)]] t) (hv : RowOf E v l R) (hp : L.Perm (R ++ LF)) (hq : ∀ R', (R' ++ LF).Perm (F R')) (hb : l.length + 1 ≤ 140737488355328)
    (k : ∀ v' R', RowOf E v' (l ++ [c]) R' → pops P N all K fl.tail os (upd ρ d (.raw v')) (F R')) (hd : Nat.blt d N = true := by rfl) (hfl : fl.headD true = true := by rfl) :
    pops P N all K fl (⟨some d, .call { callee := .builtin .append, args := #[x, y], argTypes := #[T, T₂] }, ty, pos, af, none⟩ :: os) ρ L :=
  pops_n rfl (dlt hd) hfl (OpN.perm hp fun a w g ha hi => by
    have h1 := evRaw ha (x := x) (by simp [Op.operands, Call.operands]) hx
    have h3 := ha y (by simp [Op.operands, Call.operands])
    rw [hy] at h3
    obtain ⟨base, cap, e, _, _, hnone, _, _, us, hus, hcell⟩ := h3.slice_cells (sz := 1) (by simp)
    simp only [List.flatten_cons, List.flatten_nil, List.append_nil] at hus
    obtain ⟨v1, rfl⟩ : ∃ v1, us = [v1] := by
      have := hus.len
      match us, this with
      | [v1], _ => exact ⟨v1, rfl⟩
    rw [hus.uncons.1.raw_inv] at hcell
    simp only [List.length_cons, List.length_nil, Nat.zero_add] at e
    obtain ⟨v', w', R', q1, q2, q3, q4, q5⟩ := app_core (P := P) (T := T) (T₂ := T₂) (ty := ty) (.inr ⟨_, h2.out⟩) (.slice base 1 cap) [c] hi hv (fun _ => rfl) (fun w' hs' => by
      cases base with
      | none => exact absurd (hnone rfl).1 (by simp)
      | some ad =>
        obtain ⟨b, o, sp⟩ := ad
        obtain ⟨hs, hH⟩ := hcell _ rfl
        rcases hs with ⟨e3, _⟩ | hs
        · cases e3
        simp only at hs
        subst hs
        exact loadCells_run (vs := [.int .u8 c.toNat]) fun j hj => hs' _ _ _ (hH j hj)) (by simpa using hb)
    have he : execOp a.eval ⟨some d, .call { callee := .builtin .append, args := #[x, y], argTypes := #[T, T₂] }, ty, pos, af, none⟩ = (do pure (.value (← Builtin.append_ #[T, T₂] ty (#[x, y].map a.eval)))) := rfl
    have hr : (execOp a.eval ⟨some d, .call { callee := .builtin .append, args := #[x, y], argTypes := #[T, T₂] }, ty, pos, af, none⟩).run P w = .ok (.value v') w' := by
      rw [he]; simp [h1, e, q1]
    refine Oper.wq_of_run hr ?_
    exact ⟨v', .raw v', g, F R', rfl, .raw _, q3.perm (hq R'), q4, fun b hb hlt => q5 b ((blocks_perm (hq R')).symm.subset hb) hlt, k v' R' q2⟩)
theorem s_lenR {T : TypeId} {E : Nat} [hT : TSl P T E] {x : Operand} {a : Option Addr} {n c : Nat} (hx : ρ.ev x = .raw (.slice a n c)) (k : pops P N all K fl.tail os (upd ρ d (.raw (.int .i64 n))) L) (hd : Nat.blt d N = true := by rfl) :
    pops P N all K fl (⟨some d, .call { callee := .builtin .len, args := #[x], argTypes := #[T] }, ty, pos, af, none⟩ :: os) ρ L :=
  step_q hd (qop_of_run fun a' w g ha hi => ⟨.int .i64 n, by
    have h1 := evRaw ha (x := x) (by simp [Op.operands, Call.operands]) hx
    have he : execOp a'.eval ⟨some d, .call { callee := .builtin .len, args := #[x], argTypes := #[T] }, ty, pos, af, none⟩ = (do pure (.value (← Builtin.len_ #[T] ty (#[x].map a'.eval)))) := rfl
    rw [he]
    simp [Builtin.len_, h1, run_und hT.out, goInt], .raw _⟩) k
theorem s_sliceData {T : TypeId} {x : Operand} {a : Addr} {n c : Nat} (hx : ρ.ev x = .raw (.slice (some a) n c)) (hc : c ≠ 0) (k : pops P N all K fl.tail os (upd ρ d (.raw (.pointer (some a)))) L) (hd : Nat.blt d N = true := by rfl) :
    pops P N all K fl (⟨some d, .call { callee := .builtin .unsafeSliceData, args := #[x], argTypes := #[T] }, ty, pos, af, none⟩ :: os) ρ L :=
  step_q hd (qop_of_run fun a' w g ha hi => ⟨.pointer (some a), by
    have h1 := evRaw ha (x := x) (by simp [Op.operands, Call.operands]) hx
    have he : execOp a'.eval ⟨some d, .call { callee := .builtin .unsafeSliceData, args := #[x], argTypes := #[T] }, ty, pos, af, none⟩ = (do pure (.value (← Builtin.unsafeSliceData_ #[T] ty (#[x].map a'.eval)))) := rfl
    rw [he]
    have := Lib.run_unsafeSliceData_row (P := P) w #[T] ty a n c hc
    simp [h1, this], .raw _⟩) k
theorem s_unsafeString {T T₂ E r : Nat} (hT : P.underlying T = some (.pointer E)) (hE : P.cellsOf E = 1) {x y : Operand} {cur : Array Value} {l : List UInt8} {L' : List Res} (hx : ρ.ev x = .raw (.pointer (some ⟨r, 0, none⟩))) (hy : ρ.ev y = .raw (.int .i64 l.length)) (hp : L.Perm (.raw r (.cells cur E (0, 0)) :: L'))
    (h0 : l ≠ []) (hl : l.length ≤ cur.size) (hc : cur.toList.take l.length = bcs l) (hb : l.length ≤ 140737488355328) (k : pops P N all K fl.tail os (upd ρ d (.str l)) L') (hd : Nat.blt d N = true := by rfl) (hfl : fl.headD true = true := by rfl) :
    pops P N all K fl (⟨some d, .call { callee := .builtin .unsafeString, args := #[x, y], argTypes := #[T, T₂] }, ty, pos, af, none⟩ :: os) ρ L :=
  pops_n rfl (dlt hd) hfl (OpN.perm hp fun a w g ha hi => by
    have h1 := evRaw ha (x := x) (by simp [Op.operands, Call.operands]) hx
    have h2 := evRaw ha (x := y) (by simp [Op.operands, Call.operands]) hy
    obtain ⟨k1, k2, k3, k4, k5⟩ := hi.rawHead
    have he : execOp a.eval ⟨some d, .call { callee := .builtin .unsafeString, args := #[x, y], argTypes := #[T, T₂] }, ty, pos, af, none⟩ = (do pure (.value (← Builtin.unsafeString_ #[T, T₂] ty (#[x, y].map a.eval)))) := rfl
    have hrun := Lib.run_unsafeString_row (P := P) w T T₂ ty E hT hE r cur.size (by simp [World.shape?, k1]) l h0 hl (by omega) (fun j x hj => by
      have hjl := (List.getElem?_eq_some_iff.1 hj).1
      have e1 : (bcs l)[j]? = some (.int .u8 x.toNat) := by simp [bcs, hj]
      rw [← hc, List.getElem?_take, if_pos hjl] at e1
      rw [add_plain]
      simp only [World.cell?, k1, Option.isSome_none, Bool.false_eq_true, if_false, Nat.zero_add]
      simpa using e1)
    have hr : (execOp a.eval ⟨some d, .call { callee := .builtin .unsafeString, args := #[x, y], argTypes := #[T, T₂] }, ty, pos, af, none⟩).run P w = .ok (.value (.string ⟨l.toArray⟩)) (w.freeze ⟨r, 0, none⟩ l.length) := by
      rw [he]; simp [h1, h2, hrun]
    have hk : ∀ b, b ≠ r → (w.freeze ⟨r, 0, none⟩ l.length).heap[b]? = w.heap[b]? := fun b hb => by
      unfold World.freeze
      split
      · rfl
      · simp [Array.getElem?_modify, Ne.symm hb]
    have hsz : (w.freeze ⟨r, 0, none⟩ l.length).heap.size = w.heap.size := by
      unfold World.freeze
      split <;> simp
    have hws : (w.freeze ⟨r, 0, none⟩ l.length).os = w.os ∧ (w.freeze ⟨r, 0, none⟩ l.length).tape = w.tape ∧ (w.freeze ⟨r, 0, none⟩ l.length).output = w.output ∧ (w.freeze ⟨r, 0, none⟩ l.length).drawn = w.drawn := by
      unfold World.freeze
      split <;> exact ⟨rfl, rfl, rfl, rfl⟩
    refine Oper.wq_of_run hr ?_
    exact ⟨_, .str l, g, L', rfl, .str (by show l.length ≤ maxN; exact hb), k5.other k2 k3 k4 hk, ⟨hws.1, hws.2.1, ⟨hws.2.2.1, Nat.le_of_eq hws.2.2.2.symm⟩, Nat.le_of_eq hsz.symm, fun b _ hb => hk b (fun e => hb (by simp [blocks, Res.block, e])), .refl g, fun _ _ _ => ⟨fun _ => rfl, rfl⟩⟩,
      fun b hb _ => by simp only [blocks, List.filterMap_cons, Res.block]; exact List.mem_cons_of_mem _ hb, k⟩)
instance {x y : PV} : At [x, y] 0 x := ⟨rfl⟩
instance {x y : PV} : At [x, y] 1 y := ⟨rfl⟩
theorem RowOf.one {E : Nat} {v : Value} {l : List UInt8} {R : List Res} (h : RowOf E v l R) : v.oneCell' = true := by cases h <;> rfl
/-- One cell of a variable is written over. -/
theorem s_storeV {T : TypeId} {x y : Operand} {b off by_ : Nat} {cs : List PV} {v : Value} {L' : List Res} [hT : TSz P T 1 by_] (cs' : List PV)
    (hx : ρ.ev x = .raw (.pointer (some ⟨b, off, none⟩))) (hy : ρ.ev y = .raw v) (hv : v.oneCell' = true) [hB : BoxAt b L cs] (hp : cs.take off ++ [.raw v] ++ cs.drop (off + 1) = cs') (hle : off + 1 ≤ cs.length) [hu : UpdC b cs cs' L L']
    (k : pops P N all K fl.tail os ρ L') (hfl : fl.headD true = true := by rfl) : pops P N all K fl (⟨none, .store T x y, ty, pos, af, none⟩ :: os) ρ L :=
  pops_n rfl (fun _ e => by cases e) hfl (opN_store (new := [.raw v]) (cs := cs) (cs' := cs') hx (fun g v' hv' => by
    rw [hy] at hv'
    rw [hv'.raw_inv]
    refine ⟨[v], ?_, .cons (.raw v) (.nil g)⟩
    cases v <;> first | rfl | cases hv) rfl (fun x hx => by
      rcases List.mem_cons.1 hx with rfl | h
      · exact ⟨by simp, by simp, fun u e => by cases e; exact hv, by simp⟩
      · cases h) hp hle hu.out k)
theorem le_func (f : Nat) : Le (.raw (.func (.func f) #[] #[])) (.clo f []) := Norm.out
theorem TRow.of {P : Program} {T E : Nat} (h1 : P.underlying T = some (.slice E)) (h2 : (P.info? E).map (fun i => (i.zero, i.size, i.bytes)) = some (some (.int .u8 0), 1, 1)) (h3 : P.cellsOf E = 1) : TRow P T E := ⟨by
  obtain ⟨i, hi, e⟩ := Option.map_eq_some_iff.1 h2
  injection e with e1 e2
  injection e2 with e2 e3
  exact ⟨i, h1, hi, e2, e3, e1, h3⟩⟩
/-! ### Pointers to a variable: compared, turned -/
class TPt (P : Program) (T : Nat) (E sz : outParam Nat) : Prop where
  out : P.underlying T = some (.pointer E) ∧ ∃ j, P.info? E = some j ∧ j.size = sz
theorem TPt.of {P : Program} {T E sz : Nat} (h1 : P.underlying T = some (.pointer E)) (h2 : (P.info? E).map (·.size) = some sz) : TPt P T E sz := ⟨h1, Option.map_eq_some_iff.1 h2⟩
theorem s_eqPN {T T' E sz : Nat} [hT : TPt P T E sz] {x y : Operand} {p : Option Addr} (hx : ρ.ev x = .raw (.pointer p)) (hy : ρ.ev y = .raw (.pointer none)) (k : pops P N all K fl.tail os (upd ρ d (.raw (.bool p.isNone))) L) (hd : Nat.blt d N = true := by rfl) :
    pops P N all K fl (⟨some d, .binOp .eql T x y T', ty, pos, af, none⟩ :: os) ρ L :=
  s_bin hx hy (fun w => by unfold eqGuard; simp) (fun w => by
    have h : ∀ d : Nat, (Op.equalIn (d + 1) T (.pointer p) (.pointer none)).run P w = .ok p.isNone w := fun d => by
      cases p <;> simp [Op.equalIn, run_underlying hT.out.1]
    simp only [binOp]
    simp [Op.equal, Op.maxDepth, h 9999]) k hd
theorem s_nePP {T T' E sz : Nat} [hT : TPt P T E sz] {x y : Operand} {a : Addr} (hx : ρ.ev x = .raw (.pointer (some a))) (hy : ρ.ev y = .raw (.pointer (some a))) (k : pops P N all K fl.tail os (upd ρ d (.raw (.bool false))) L) (hd : Nat.blt d N = true := by rfl) :
    pops P N all K fl (⟨some d, .binOp .neq T x y T', ty, pos, af, none⟩ :: os) ρ L :=
  s_bin hx hy (fun w => by unfold eqGuard; simp) (fun w => by
    obtain ⟨h1, j, h2, _⟩ := hT.out
    exact Lib.run_neq_ptr_same w a h1 h2) k hd
theorem s_toUnsafe {S D E sz T' b : Nat} [hS : TPt P S E sz] (hD : P.underlying D = some .unsafePointer) (hz : sz ≠ 0) {x : Operand} {cs : List PV} (hx : ρ.ev x = .raw (.pointer (some ⟨b, 0, none⟩))) (hm : Res.box b T' cs ∈ L) (hc : cs ≠ []) (k : pops P N all K fl.tail os (upd ρ d (.raw (.pointer (some ⟨b, 0, none⟩)))) L) (hd : Nat.blt d N = true := by rfl) :
    pops P N all K fl (⟨some d, .convert S D x, ty, pos, af, none⟩ :: os) ρ L :=
  step_q hd (qop_of_run fun a w g ha hi => ⟨.pointer (some ⟨b, 0, none⟩), by
    have h1 := evRaw ha (x := x) (by simp [Op.operands]) hx
    obtain ⟨vs, hb, hvs, _⟩ := hi.res _ hm
    obtain ⟨q1, j, q2, q3⟩ := hS.out
    have hl : 0 < vs.length := by rw [hvs.len]; exact List.length_pos_iff.2 hc
    have hrun := Lib.run_to_unsafe (P := P) w ⟨b, 0, none⟩ q1 hD q2 (by rw [q3]; exact hz) (e := T') (cells := vs.length) (by simp [World.shape?, hb]) hl
    have he : execOp a.eval ⟨some d, .convert S D x, ty, pos, af, none⟩ = (do pure (.value (← convert S D (a.eval x)))) := rfl
    rw [he]; simp [h1, hrun], .raw _⟩) k
theorem s_fromUnsafe {S D E sz T' b : Nat} [hD : TPt P D E sz] (hS : P.underlying S = some .unsafePointer) {x : Operand} {cs : List PV} (hx : ρ.ev x = .raw (.pointer (some ⟨b, 0, none⟩))) (hm : Res.box b T' cs ∈ L) (hl : liesAt P P.depth T' (cs.length / P.cellsOf T') 0 E 1 = true) (k : pops P N all K fl.tail os (upd ρ d (.raw (.pointer (some ⟨b, 0, none⟩)))) L) (hd : Nat.blt d N = true := by rfl) :
    pops P N all K fl (⟨some d, .convert S D x, ty, pos, af, none⟩ :: os) ρ L :=
  step_q hd (qop_of_run fun a w g ha hi => ⟨.pointer (some ⟨b, 0, none⟩), by
    have h1 := evRaw ha (x := x) (by simp [Op.operands]) hx
    obtain ⟨vs, hb, hvs, _⟩ := hi.res _ hm
    obtain ⟨q1, j, q2, q3⟩ := hD.out
    have hrun := Lib.run_from_unsafe (P := P) w ⟨b, 0, none⟩ hS q1 q2 (e := T') (cells := vs.length) (by simp [World.shape?, hb]) (by rw [hvs.len]; exact hl)
    have he : execOp a.eval ⟨some d, .convert S D x, ty, pos, af, none⟩ = (do pure (.value (← convert S D (a.eval x)))) := rfl
    rw [he]; simp [h1, hrun], .raw _⟩) k
theorem extC_same {f : Nat} {fn : Func} (hf : P.funcs[f]? = some fn) (hn : (fn.name == "runtime.NumGoroutine") = false) (hb : fn.body.isNone = true) (h1 : Extern.findNext fn = none) (h2 : Extern.find fn = some Extern.AbiNoEscape.same) (v : Value) :
    ExtC P f [.raw v] (.raw v) := ⟨fun vs w g hv hs => by
  match vs, hv with
  | [x], hv =>
    have e := hv.uncons.1.raw_inv
    subst e
    refine ⟨x, ?_, .raw _⟩
    rw [run_callFunc_extern hf hn hb h1 h2]
    rw [show #[x] = [x].toArray from rfl] at *
    rfl
  | [], hv => have := hv.len; simp at this
  | _ :: _ :: _, hv => have := hv.len; simp at this⟩
theorem s_storeP {T : TypeId} {x y : Operand} {b off by_ : Nat} {cs : List PV} {ay : PV} {L' : List Res} [hT : TSz P T 1 by_] (cs' : List PV)
    (hx : ρ.ev x = .raw (.pointer (some ⟨b, off, none⟩))) (hy : ρ.ev y = ay) [hB : BoxAt b L cs] (hf : flat [ay]) (hp : cs.take off ++ [ay] ++ cs.drop (off + 1) = cs') (hle : off + 1 ≤ cs.length) [hu : UpdC b cs cs' L L']
    (k : pops P N all K fl.tail os ρ L') (hfl : fl.headD true = true := by rfl) : pops P N all K fl (⟨none, .store T x y, ty, pos, af, none⟩ :: os) ρ L :=
  pops_n rfl (fun _ e => by cases e) hfl (opN_store (new := [ay]) (cs := cs) (cs' := cs') hx (fun g v hv => by
    rw [hy] at hv
    obtain ⟨h1, h2, h3, h4⟩ := hf ay (by simp)
    have h1 := hv.one h1 h2 h3 h4
    refine ⟨[v], ?_, .cons hv (.nil g)⟩
    cases v <;> first | rfl | cases h1) rfl hf hp hle hu.out k)
end
end Go.Q
/- The small logic: rows of values known to the letter. Library, no statement of its own. -/
namespace Go.Q
open Go

class TRw (P : Program) (T : Nat) (E sz : outParam Nat) (by_ : outParam Nat) : Prop where
  out : ∃ i z, P.underlying T = some (.slice E) ∧ P.info? E = some i ∧ i.size = sz ∧ i.bytes = by_ ∧ i.zero = some z ∧ z.cells.size = sz ∧ sz ≠ 0 ∧ sz ≤ by_
inductive RowG (E sz : Nat) : Value → Nat → List Value → List Res → Prop
  | nil (o : Option Addr) (ho : ∀ a, o = some a → a.spot = none) : RowG E sz (.slice o 0 0) 0 [] []
  | row {r n cap : Nat} {cur : Array Value} {us : List Value} (hl : n ≤ cap) (hs : cur.size = cap * sz) (hu : us.length = n * sz) (hc : cur.toList.take (n * sz) = us) : RowG E sz (.slice (some ⟨r, 0, none⟩) n cap) n us [.raw r (.cells cur E (0, 0))]
theorem RowG.len {E sz n : Nat} {v : Value} {us : List Value} {R : List Res} (h : RowG E sz v n us R) : us.length = n * sz := by
  cases h with
  | nil o ho => simp
  | row hl hs hu hc => exact hu
theorem RowG.one {E sz n : Nat} {v : Value} {us : List Value} {R : List Res} (h : RowG E sz v n us R) : v.oneCell' = true := by cases h <;> rfl
theorem RowG.slice {E sz n : Nat} {v : Value} {us : List Value} {R : List Res} (h : RowG E sz v n us R) : ∃ o c, v = .slice o n c := by cases h <;> exact ⟨_, _, rfl⟩

theorem app_coreG {P : Program} {T T₂ E sz by_ ty : Nat} [hT : TRw P T E sz by_] (hu : P.underlying T₂ = some .string ∨ ∃ e, P.underlying T₂ = some (.slice e)) {w : World} {g : Gh} {LF R : List Res} {v : Value} {n m : Nat} {us : List Value} (u : Value) (vs : List Value)
    (hi : Inv w g (R ++ LF)) (hv : RowG E sz v n us R) (hl : ∀ w', (Builtin.lenOf u).run P w' = .ok m w') (hvl : vs.length = m * sz) (hone : ∀ x ∈ vs, x.oneCell' = true)
    (hf : ∀ w', (∀ b o x, g.H b o = some x → w'.cell? ⟨b, o, none⟩ = some x) → (Builtin.firstCells sz m u).run P w' = .ok vs.toArray w') (hb : (n + m) * by_ ≤ 140737488355328) (hm : n + m ≤ 140737488355328) :
    ∃ v' w' R', (Builtin.append_ #[T, T₂] ty #[v, u]).run P w = .ok v' w' ∧ RowG E sz v' (n + m) (us ++ vs) R' ∧ Inv w' g (R' ++ LF) ∧ Step (blocks (R ++ LF)) w g w' g ∧ Within w (R ++ LF) (R' ++ LF) := by
  obtain ⟨i, z, t1, t2, t3, t4, t5, t6, t7, t8⟩ := hT.out
  have hul := hv.len
  have grown : ∀ cap nc (base : Option Addr), ¬ (n + m ≤ cap) → v = .slice base n cap → (∀ w', w'.heap = w.heap → (Builtin.firstCells sz n (.slice base n cap)).run P w' = .ok us.toArray w') → nc = grownCap w (n + m) cap E →
      (Builtin.append_ #[T, T₂] ty #[v, u]).run P w = .ok (.slice (some ⟨w.heap.size, 0, none⟩) (n + m) nc) (w.drew.alloc (.cells ((us ++ vs).toArray ++ Builtin.zeroCells z.cells (nc - (n + m))) E (0, 0))) := by
    rintro cap nc base hn rfl hfl rfl
    have hgrow : cap < n + m := by omega
    have h63' : ¬ (9223372036854775807 < ((n : Int) + (m : Int))) := by omega
    have h48' : ¬ (281474976710656 < Builtin.nextslicecap (n + m) cap * i.bytes) := by
      rw [t4]
      have : Builtin.nextslicecap (n + m) cap * by_ ≤ 2 * 140737488355328 := by
        calc Builtin.nextslicecap (n + m) cap * by_ ≤ (2 * (n + m)) * by_ := Nat.mul_le_mul_right _ (nextslicecap_le hgrow)
          _ = 2 * ((n + m) * by_) := by rw [Nat.mul_assoc]
          _ ≤ 2 * 140737488355328 := Nat.mul_le_mul_left _ hb
      omega
    have f1 := hfl w.drew rfl
    have f2 := hf w.drew hi.sat
    rcases hu with hu | ⟨e, hu⟩ <;>
    · simp [Builtin.append_, run_underlying t1, run_underlying hu, sizeOf, typeInfo, zeroValue, t2, t3, t5, hl, hn, h63', h48', Question.forced, f1, f2, newRow, grownCap]
      congr 2
      apply Array.ext'
      simp [List.append_assoc]
  have res : ∀ nc, n + m ≤ nc → ∃ R', RowG E sz (.slice (some ⟨w.heap.size, 0, none⟩) (n + m) nc) (n + m) (us ++ vs) R' ∧ Inv (w.drew.alloc (.cells ((us ++ vs).toArray ++ Builtin.zeroCells z.cells (nc - (n + m))) E (0, 0))) g (R' ++ LF) ∧
      Step (blocks (R ++ LF)) w g (w.drew.alloc (.cells ((us ++ vs).toArray ++ Builtin.zeroCells z.cells (nc - (n + m))) E (0, 0))) g ∧ Within w (R ++ LF) (R' ++ LF) := fun nc hnc => by
    obtain ⟨k1, k2, k3⟩ := grown_row hi (.cells ((us ++ vs).toArray ++ Builtin.zeroCells z.cells (nc - (n + m))) E (0, 0))
    have hlen : (us ++ vs).length = (n + m) * sz := by rw [List.length_append, hul, hvl, Nat.add_mul]
    refine ⟨[.raw w.heap.size (.cells ((us ++ vs).toArray ++ Builtin.zeroCells z.cells (nc - (n + m))) E (0, 0))], .row hnc ?_ hlen ?_, k1, k2, k3⟩
    · rw [Array.size_append, size_zeroCells, t6, List.size_toArray, hlen, ← Nat.add_mul]
      congr 1; omega
    · simp only [Array.toList_append]
      exact List.take_left' hlen
  cases hv with
  | nil o ho =>
    by_cases hs : m = 0
    · subst hs
      have hv0 : vs = [] := List.eq_nil_of_length_eq_zero (by simpa using hvl)
      subst hv0
      refine ⟨.slice o 0 0, w, [], ?_, .nil o ho, hi, .refl _ _ _, .refl _ _⟩
      have f2 := hf w hi.sat
      rcases hu with hu | ⟨e, hu⟩ <;> (simp [Builtin.append_, run_underlying t1, run_underlying hu, sizeOf, typeInfo, t2, t3, hl, f2]; cases o <;> simp [storeCells])
    · have hr := grown 0 _ o (by omega) rfl (fun w' _ => by
        cases o with
        | none => rfl
        | some a => show (loadCells a (0 * sz)).run P w' = _; rw [Nat.zero_mul]; rfl) rfl
      obtain ⟨R', k1, k2, k3, k4⟩ := res _ (grownCap_ge w (0 + m) 0 E)
      exact ⟨_, _, R', hr, k1, k2, k3, k4⟩
  | row hlc hs hu' hc =>
    rename_i r cap cur
    obtain ⟨h1, h2, h3, hn, hiL⟩ := hi.rawHead
    by_cases hroom : n + m ≤ cap
    · have hbk' : w.heap[r]? = some (.cells cur.toList.toArray E (0, 0)) := by simpa using h1
      have hfit : n * sz + m * sz ≤ cap * sz := by rw [← Nat.add_mul]; exact Nat.mul_le_mul_right _ hroom
      obtain ⟨w', hrun, hb', hos, htp, hout, hsz', hkk⟩ := storeCells_run (P := P) vs w cur.toList (n * sz) 0 hbk' (by simp only [Array.length_toList, hs, hvl, Nat.add_zero]; exact hfit) hone
      refine ⟨.slice (some ⟨r, 0, none⟩) (n + m) cap, w', [.raw r (.cells (cur.toList.take (n * sz + 0) ++ vs ++ cur.toList.drop (n * sz + 0 + vs.length)).toArray E (0, 0))], ?_, .row hroom ?_ ?_ ?_, hi.turnRaw hb' hkk, ⟨hos, htp, hout, Nat.le_of_eq hsz'.symm, fun k _ hk => hkk k (fun e => hk (by simp [blocks, Res.block, e])), .refl g, fun _ _ _ => ⟨fun _ => rfl, rfl⟩⟩, fun b hb _ => by simpa [blocks, Res.block] using hb⟩
      · have f2 := hf w hi.sat
        rcases hu with hu | ⟨e, hu⟩ <;> simp [Builtin.append_, run_underlying t1, run_underlying hu, sizeOf, typeInfo, t2, t3, hl, hroom, f2, add_plain, hrun]
      · have h9 : n * sz ≤ cap * sz := Nat.mul_le_mul_right _ hlc
        simp only [List.size_toArray, List.length_append, List.length_take, List.length_drop, Array.length_toList, hs, hvl, Nat.add_zero, Nat.min_eq_left h9]; omega
      · rw [List.length_append, hul, hvl, Nat.add_mul]
      · rw [Nat.add_zero, hc]
        exact List.take_left' (by rw [List.length_append, hul, hvl, Nat.add_mul])
    · have hr := grown cap _ (some ⟨r, 0, none⟩) hroom rfl (fun w' hw' => by
        show (loadCells _ (n * sz)).run P w' = _
        rw [← hul]
        refine loadCells_run fun j hj => ?_
        have hj3 : j < n * sz := by omega
        have hj2 : j < cur.toList.length := by
          rw [Array.length_toList, hs]
          exact Nat.lt_of_lt_of_le hj3 (Nat.mul_le_mul_right _ hlc)
        simp only [World.cell?, hw', h1, Option.isSome_none, Bool.false_eq_true, if_false, Nat.zero_add]
        have : us[j] = cur.toList[j] := by
          have := List.getElem_of_eq hc.symm hj
          rw [this, List.getElem_take]
        rw [this]
        simp [Array.getElem?_eq_getElem (show j < cur.size by simpa using hj2)]) rfl
      obtain ⟨R', k1, k2, k3, k4⟩ := res _ (grownCap_ge w (n + m) cap E)
      exact ⟨_, _, R', hr, k1, k2, k3, k4⟩

theorem raws_inv {g : Gh} : ∀ {us vs : List Value}, VRl g us (vs.map PV.raw) → us = vs
  | [], [], _ => rfl
  | [], _ :: _, h => by have := h.len; simp at this
  | _ :: _, [], h => by have := h.len; simp at this
  | u :: us, v :: vs, h => by
    have h' := VRl.uncons (xs := vs.map PV.raw) h
    rw [h'.1.raw_inv, raws_inv h'.2]
/-- Elements whose cells are known to the letter. -/
class RawE {α : Type} (f : α → List PV) (vf : outParam (α → List Value)) : Prop where
  out : ∀ a, f a = (vf a).map PV.raw
  one : ∀ a, ∀ x ∈ vf a, x.oneCell' = true
theorem flat_raws {α : Type} {f : α → List PV} {vf : α → List Value} [h : RawE f vf] (l : List α) : (l.map f).flatten = (l.flatMap vf).map PV.raw := by
  induction l with
  | nil => rfl
  | cons x l ih => rw [List.map_cons, List.flatten_cons, ih, h.out, List.flatMap_cons, List.map_append]
theorem len_raws {α : Type} {f : α → List PV} {vf : α → List Value} {sz : Nat} [h : RawE f vf] [hf : Len f sz] (l : List α) : (l.flatMap vf).length = l.length * sz := by
  have := flatten_len (xs := l.map f) (sz := sz) (fun e he => by obtain ⟨a, _, rfl⟩ := List.mem_map.1 he; exact hf.out a)
  rw [flat_raws l] at this
  simpa using this
/-- A slice with a row of its own that holds these. -/
def RowL {α : Type} (vf : α → List Value) (E sz : Nat) (v : Value) (l : List α) (R : List Res) : Prop := RowG E sz v l.length (l.flatMap vf) R

section
variable {P : Program} {N : Nat} {all : Array Oper} {K : Env → List Res → Prop} {fl : List Bool} {os : List Oper} {ρ : Env} {L : List Res} {d : Nat} {ty : TypeId} {pos : String} {af : Array Edge}
theorem s_appRow {T T₂ E E₂ sz by_ : Nat} {α : Type} {f : α → List PV} {vf : α → List Value} [hT : TRw P T E sz by_] [h2 : TSl P T₂ E₂] [hf : Len f sz] [hr : RawE f vf] {x y : Operand} {v : Value} {l m : List α} {t : Tag} {R LF : List Res} (F : List Res → List Res)
    (hx : ρ.ev x = .raw v) (hy : ρ.ev y = .slice (m.map f) t) (hv : RowL vf E sz v l R) (hp : L.Perm (R ++ LF)) (hq : ∀ R', (R' ++ LF).Perm (F R')) (hb : (l.length + m.length) * by_ ≤ 140737488355328) (hm : l.length + m.length ≤ 140737488355328)
    (k : ∀ v' R', RowL vf E sz v' (l ++ m) R' → pops P N all K fl.tail os (upd ρ d (.raw v')) (F R')) (hd : Nat.blt d N = true := by rfl) (hfl : fl.headD true = true := by rfl) :
    pops P N all K fl (⟨some d, .call { callee := .builtin .append, args := #[x, y], argTypes := #[T, T₂] }, ty, pos, af, none⟩ :: os) ρ L :=
  pops_n rfl (dlt hd) hfl (OpN.perm hp fun a w g ha hi => by
    have h1 := evRaw ha (x := x) (by simp [Op.operands, Call.operands]) hx
    have h3 := ha y (by simp [Op.operands, Call.operands])
    rw [hy] at h3
    obtain ⟨base, cap, e, _, _, hnone, _, _, us, hus, hcell⟩ := h3.slice_cells (sz := sz) (fun e he => by obtain ⟨a, _, rfl⟩ := List.mem_map.1 he; exact hf.out a)
    rw [flat_raws m] at hus
    have hus' := raws_inv hus
    subst hus'
    rw [List.length_map] at e
    have hvl : (m.flatMap vf).length = m.length * sz := len_raws (f := f) m
    obtain ⟨v', w', R', q1, q2, q3, q4, q5⟩ := app_coreG (P := P) (T := T) (T₂ := T₂) (ty := ty) (.inr ⟨_, h2.out⟩) (.slice base m.length cap) (m.flatMap vf) hi hv (fun _ => rfl) hvl (fun x hx => by obtain ⟨a, _, ha⟩ := List.mem_flatMap.1 hx; exact hr.one a x ha) (fun w' hs' => by
      cases base with
      | none =>
        have h0 := (hnone rfl).1
        have : m = [] := by simpa using h0
        subst this; rfl
      | some ad =>
        obtain ⟨b, o, sp⟩ := ad
        obtain ⟨hs, hH⟩ := hcell _ rfl
        show (loadCells _ (m.length * sz)).run P w' = _
        rw [← hvl]
        exact loadCells_of (hs.imp_left fun h => by
          have : m = [] := by simpa using h.1
          subst this; rfl) fun j hj => hs' _ _ _ (hH j hj)) hb hm
    have he : execOp a.eval ⟨some d, .call { callee := .builtin .append, args := #[x, y], argTypes := #[T, T₂] }, ty, pos, af, none⟩ = (do pure (.value (← Builtin.append_ #[T, T₂] ty (#[x, y].map a.eval)))) := rfl
    have hrun : (execOp a.eval ⟨some d, .call { callee := .builtin .append, args := #[x, y], argTypes := #[T, T₂] }, ty, pos, af, none⟩).run P w = .ok (.value v') w' := by
      rw [he]; simp [h1, e, q1]
    refine Oper.wq_of_run hrun ?_
    exact ⟨v', .raw v', g, F R', rfl, .raw _, q3.perm (hq R'), q4, fun b hb hlt => q5 b ((blocks_perm (hq R')).symm.subset hb) hlt, k v' R' (by unfold RowL; rw [List.length_append, List.flatMap_append]; exact q2)⟩)
/-- A list against nil: true only of an empty one. -/
theorem s_eqNil {T T' E : Nat} [hT : TSl P T E] {x : Operand} {xs : List (List PV)} {t : Tag} (hx : ρ.ev x = .slice xs t) (k : ∀ b : Bool, (b = true → xs = []) → pops P N all K fl.tail os (upd ρ d (.raw (.bool b))) L) (hd : Nat.blt d N = true := by rfl) (hfl : fl.headD true = true := by rfl) :
    pops P N all K fl (⟨some d, .binOp .eql T x (.const (.slice none 0 0)) T', ty, pos, af, none⟩ :: os) ρ L :=
  pops_n rfl (dlt hd) hfl (fun a w g ha hi => by
    have h1 := ha x (by simp [Op.operands])
    rw [hx] at h1
    have hs : ∃ o n c, a.eval x = .slice o n c ∧ (o = none → xs = []) := by
      generalize a.eval x = v at h1
      cases h1 with
      | nilN o ho => exact ⟨_, _, _, rfl, fun _ => rfl⟩
      | nilR => exact ⟨_, _, _, rfl, fun _ => rfl⟩
      | slice sz f hl hc hm hs hH hv ht hn => exact ⟨_, _, _, rfl, fun e => by cases e⟩
    obtain ⟨o, n, c, e, ho⟩ := hs
    have hrun : (execOp a.eval ⟨some d, .binOp .eql T x (.const (.slice none 0 0)) T', ty, pos, af, none⟩).run P w = .ok (.value (.bool o.isNone)) w := by
      have h : ∀ d : Nat, (Op.equalIn (d + 1) T (.slice o n c) (.slice none 0 0)).run P w = .ok o.isNone w := fun d => by
        cases o <;> simp [Op.equalIn, run_underlying hT.out]
      have hc : a.eval (.const (.slice none 0 0)) = .slice none 0 0 := rfl
      simp only [execOp, e, hc]
      simp [eqGuard, binOp, Op.equal, Op.maxDepth, h 9999]
    refine Oper.wq_of_run hrun ?_
    exact ⟨_, .raw (.bool o.isNone), g, L, rfl, .raw _, hi, .refl _ _ _, .refl _ _, k _ (fun h => ho (by simpa using h))⟩)
/-- An empty list that is not nil. -/
theorem s_bsRow {α : Type} {vf : α → List Value} {T E sz by_ : Nat} [hE : TRw P T E sz by_] (k : ∀ v, RowL vf E sz v [] [] → pops P N all K fl.tail os (upd ρ d (.raw v)) L) (hd : Nat.blt d N = true := by rfl) (hfl : fl.headD true = true := by rfl) : pops P N all K fl (⟨some d, .buildSlice T 0 #[], ty, pos, af, none⟩ :: os) ρ L :=
  pops_n rfl (dlt hd) hfl (by
    intro a w g ha hi
    obtain ⟨i, z, t1, t2, t3, t4, t5, t6, t7, t8⟩ := hE.out
    obtain ⟨j1, j2, j3⟩ := hi.lay [] E
    have hr : (execOp a.eval ⟨some d, .buildSlice T 0 #[], ty, pos, af, none⟩).run P w = .ok (.value (.slice (some ⟨w.heap.size, 0, none⟩) 0 0)) { w with heap := w.heap.push (.cells [].toArray E (0, 0)) } := by
      show (do pure (Next.value (← Instr.buildSlice T 0 ((#[] : Array (Nat × Operand)).map fun (p : Nat × Operand) => (p.1, a.eval p.2)))) : Sem Next).run P w = _
      have hzv : (zeroValue E).run P w = .ok z w := by simp [zeroValue, typeInfo, t2, t5]
      simp only [Instr.buildSlice, Sem.run_bind, run_underlying t1, Result.andThen_ok, sizeOf, typeInfo, run_program, t2, Sem.run_pure, t3]
      rw [if_neg (by simp)]
      split
      · simp [Instr.fill, newRow]; congr 2; apply Array.eq_empty_of_size_eq_zero; simp
      · simp [hzv, Instr.fill, newRow]; congr 2; apply Array.eq_empty_of_size_eq_zero; simp
    refine Oper.wq_of_run hr ?_
    exact ⟨_, .raw _, _, L, rfl, .raw _, j1, j2, .refl _ _, k _ (.nil _ (fun a e => by cases e; rfl))⟩)
end
end Go.Q
