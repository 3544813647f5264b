/- The small logic: what the kit's shelf proves; rows of bytes known to the letter. Library, no statement of its own. -/
import Derived.Test.YtddlffkdpocmhaaGreatDoorVaj
import Derived.Lib.UnsafeStr
import Derived.Lib.Builder
import Derived.Test.YtddlffkdpocmhaaGreatDoorProg
import Derived.Shelf.LaysM
import Derived.Shelf.Strconv.Itoa3
import Derived.Shelf.SlSortCmp.NoneTotal
import Derived.Shelf.SlGeneric
import Derived.Ground.SlsfProg
import Derived.Test.YtddlffkdpocmhaaGreatDoorVai
import Derived.Test.YtddlffkdpocmhaaGreatDoorVak
set_option linter.unusedSimpArgs false
set_option linter.unusedVariables false
namespace Go.Q
open Go

section
variable {P : Program} {w w' : World} {g : Gh} {L : List Res}
/-- Nothing turns, blocks come. -/
theorem Inv.later (hi : Inv w g L) (hk : ∀ k, k < w.heap.size → w'.heap[k]? = w.heap[k]?) : Inv w' g L := by
  refine ⟨fun b i v h => ?_, fun b z h => (hi.satM b z h).congr (hk b (hi.satM b z h).lt), fun r hr => ?_, hi.nodup, hi.glob⟩
  · have h0 := hi.sat b i v h
    have hb : b < w.heap.size := by
      rcases Nat.lt_or_ge b w.heap.size with h' | h'
      · exact h'
      · simp [World.cell?, Array.getElem?_eq_none h'] at h0
    simp only [World.cell?] at h0 ⊢
    rw [hk b hb]; exact h0
  · exact Res.holds_kept (.refl g) (hi.res r hr) fun b hb => ⟨hk b (hi.lt (List.mem_filterMap.2 ⟨r, hr, hb⟩)), fun _ => rfl, rfl⟩
/-- One block turns that nothing is known of. -/
theorem Inv.other {l : Nat} (hi : Inv w g L) (hH : ∀ o, g.H l o = none) (hM : g.M l = none) (hl : l ∉ blocks L) (hk : ∀ k, k ≠ l → w'.heap[k]? = w.heap[k]?) : Inv w' g L := by
  refine ⟨fun b i v h => ?_, fun b z h => ?_, fun r hr => ?_, hi.nodup, hi.glob⟩
  · have : b ≠ l := fun e => by subst e; rw [hH] at h; cases h
    have h0 := hi.sat b i v h
    simp only [World.cell?] at h0 ⊢
    rw [hk b this]; exact h0
  · have : b ≠ l := fun e => by subst e; rw [hM] at h; cases h
    exact (hi.satM b z h).congr (hk b this)
  · exact Res.holds_kept (.refl g) (hi.res r hr) fun b hb => ⟨hk b (fun e => hl (List.mem_filterMap.2 ⟨r, hr, by rw [hb, e]⟩)), fun _ => rfl, rfl⟩
theorem Inv.rawHead {l : Nat} {o : Obj} (hi : Inv w g (.raw l o :: L)) : w.heap[l]? = some o ∧ (∀ o, g.H l o = none) ∧ g.M l = none ∧ l ∉ blocks L ∧ Inv w g L := by
  obtain ⟨h1, h2, h3⟩ := hi.res _ (List.mem_cons_self)
  have hnd := hi.nodup
  simp only [blocks, List.filterMap_cons, Res.block] at hnd
  exact ⟨h1, h2, h3, (List.nodup_cons.1 hnd).1, hi.sub (List.sublist_cons_self _ _)⟩
theorem Inv.turnRaw {l : Nat} {o o' : Obj} (hi : Inv w g (.raw l o :: L)) (h : w'.heap[l]? = some o') (hk : ∀ k, k ≠ l → w'.heap[k]? = w.heap[k]?) : Inv w' g (.raw l o' :: L) := by
  obtain ⟨_, h2, h3, hn, hi'⟩ := hi.rawHead
  exact (hi'.other h2 h3 hn hk).addRaw h h2 h3 hn
/-- What an outer contract says. -/
theorem fn_ext {f : FuncId} {args : List PV} {X : PV} (h : ∀ vs w g LF, VRl g vs args → Inv w g LF → Calls P f vs.toArray w (fun e w' => ∃ v, e = .returned v ∧ (∀ g, VR g v X) ∧ w'.os = w.os ∧ w'.tape = w.tape ∧ w'.output = w.output ∧ w.drawn ≤ w'.drawn ∧ w.heap.size ≤ w'.heap.size ∧ ∀ k, k < w.heap.size → w'.heap[k]? = w.heap[k]?)) : Fn P f args X := fun vs w g LF hv hi => by
  rw [List.nil_append] at hi
  refine (h vs w g LF hv hi).mono ?_
  rintro e w' ⟨v, rfl, h1, h2, h3, h4, h5, h6, h7⟩
  exact ⟨v, X, g, [], rfl, h1 g, hi.later h7, ⟨h2, h3, ⟨h4, h5⟩, h6, fun k hk _ => h7 k hk, .refl g, fun _ _ _ => ⟨fun _ => rfl, rfl⟩⟩, .refl _ _, rfl, rfl⟩
end

/-! ### Rows of bytes known to the letter -/
def bcs (l : List UInt8) : List Value := l.map fun b => Value.int .u8 b.toNat
@[simp] theorem len_bcs (l : List UInt8) : (bcs l).length = l.length := by simp [bcs]
theorem bcs_append (l m : List UInt8) : bcs (l ++ m) = bcs l ++ bcs m := by simp [bcs]
class TRow (P : Program) (T : Nat) (E : outParam Nat) : Prop where
  out : ∃ i, P.underlying T = some (.slice E) ∧ P.info? E = some i ∧ i.size = 1 ∧ i.bytes = 1 ∧ i.zero = some (.int .u8 0) ∧ P.cellsOf E = 1
inductive RowOf (E : Nat) : Value → List UInt8 → List Res → Prop
  | nil : RowOf E (.slice none 0 0) [] []
  | row {r cap : Nat} {cur : Array Value} {l : List UInt8} (hl : l.length ≤ cap) (hs : cur.size = cap) (hc : cur.toList.take l.length = bcs l) : RowOf E (.slice (some ⟨r, 0, none⟩) l.length cap) l [.raw r (.cells cur E (0, 0))]

theorem grown_row {w : World} {g : Gh} {R LF : List Res} (hi : Inv w g (R ++ LF)) (o : Obj) : Inv (w.drew.alloc o) g (.raw w.heap.size o :: LF) ∧ Step (blocks (R ++ LF)) w g (w.drew.alloc o) g ∧ Within w (R ++ LF) (.raw w.heap.size o :: LF) := by
  have hk : ∀ k, k < w.heap.size → (w.drew.alloc o).heap[k]? = w.heap[k]? := fun k hk => by
    show (w.heap.push o)[k]? = _
    rw [Array.getElem?_push, if_neg (by omega)]
  have h1 : (w.drew.alloc o).heap[w.heap.size]? = some o := by show (w.heap.push o)[w.heap.size]? = _; simp
  have hiL : Inv w g LF := hi.sub (List.sublist_append_right _ _)
  obtain ⟨h2, h3⟩ := hi.fresh (Nat.le_refl w.heap.size)
  refine ⟨(hiL.later hk).addRaw h1 h2 h3 (fun h => Nat.lt_irrefl _ (hiL.lt h)), ⟨rfl, rfl, ⟨rfl, Nat.le_succ _⟩, by simp, fun k h _ => hk k h, .refl g, fun _ _ _ => ⟨fun _ => rfl, rfl⟩⟩, fun b hb hlt => ?_⟩
  simp only [blocks, List.filterMap_cons, Res.block] at hb
  rcases List.mem_cons.1 hb with rfl | hb
  · exact absurd hlt (Nat.lt_irrefl _)
  · simp only [blocks, List.filterMap_append]; exact List.mem_append_right _ hb

theorem app_core {P : Program} {T T₂ E ty : Nat} [hT : TRow P T E] (hu : P.underlying T₂ = some .string ∨ ∃ e, P.underlying T₂ = some (.slice e)) {w : World} {g : Gh} {LF R : List Res} {v : Value} {l : List UInt8} (u : Value) (s : List UInt8)
    (hi : Inv w g (R ++ LF)) (hv : RowOf E v l R) (hl : ∀ w', (Builtin.lenOf u).run P w' = .ok s.length w')
    (hf : ∀ w', (∀ b o x, g.H b o = some x → w'.cell? ⟨b, o, none⟩ = some x) → (Builtin.firstCells 1 s.length u).run P w' = .ok (bcs s).toArray w') (hb : l.length + s.length ≤ 140737488355328) :
    ∃ v' w' R', (Builtin.append_ #[T, T₂] ty #[v, u]).run P w = .ok v' w' ∧ RowOf E v' (l ++ s) R' ∧ Inv w' g (R' ++ LF) ∧ Step (blocks (R ++ LF)) w g w' g ∧ Within w (R ++ LF) (R' ++ LF) := by
  obtain ⟨i, t1, t2, t3, t4, t5, _⟩ := hT.out
  have hone : ∀ x ∈ bcs s, x.oneCell' = true := fun x hx => by
    obtain ⟨b, _, rfl⟩ := List.mem_map.1 hx; rfl
  have grown : ∀ cap nc (base : Option Addr), ¬ (l.length + s.length ≤ cap) → v = .slice base l.length cap → (∀ w', w'.heap = w.heap → (Builtin.firstCells 1 l.length (.slice base l.length cap)).run P w' = .ok (bcs l).toArray w') → nc = grownCap w (l.length + s.length) cap E →
      (Builtin.append_ #[T, T₂] ty #[v, u]).run P w = .ok (.slice (some ⟨w.heap.size, 0, none⟩) (l.length + s.length) nc) (w.drew.alloc (.cells ((bcs l ++ bcs s).toArray ++ Builtin.zeroCells (Value.int .u8 0).cells (nc - (l.length + s.length))) E (0, 0))) := by
    rintro cap nc base hn rfl hfl rfl
    have hcapb : Builtin.nextslicecap (l.length + s.length) cap ≤ 2 ^ 48 := by
      have := nextslicecap_le (show cap < l.length + s.length by omega)
      have : (2 : Nat) ^ 48 = 2 * 140737488355328 := by decide
      omega
    have h63' : ¬ (9223372036854775807 < ((l.length : Int) + (s.length : Int))) := by omega
    have h48' : ¬ (281474976710656 < Builtin.nextslicecap (l.length + s.length) cap * i.bytes) := by
      rw [t4]; have : (2 : Nat) ^ 48 = 281474976710656 := by decide
      omega
    have f1 := hfl w.drew rfl
    have f2 := hf w.drew hi.sat
    rcases hu with hu | ⟨e, hu⟩ <;>
    · simp [Builtin.append_, run_underlying t1, run_underlying hu, sizeOf, typeInfo, zeroValue, t2, t3, t5, hl, hn, h63', h48', Question.forced, f1, f2, newRow, grownCap]
      congr 2
      apply Array.ext'
      simp [List.append_assoc]
  have res : ∀ nc, l.length + s.length ≤ nc → ∃ R', RowOf E (.slice (some ⟨w.heap.size, 0, none⟩) (l.length + s.length) nc) (l ++ s) R' ∧ Inv (w.drew.alloc (.cells ((bcs l ++ bcs s).toArray ++ Builtin.zeroCells (Value.int .u8 0).cells (nc - (l.length + s.length))) E (0, 0))) g (R' ++ LF) ∧
      Step (blocks (R ++ LF)) w g (w.drew.alloc (.cells ((bcs l ++ bcs s).toArray ++ Builtin.zeroCells (Value.int .u8 0).cells (nc - (l.length + s.length))) E (0, 0))) g ∧ Within w (R ++ LF) (R' ++ LF) := fun nc hnc => by
    obtain ⟨k1, k2, k3⟩ := grown_row hi (.cells ((bcs l ++ bcs s).toArray ++ Builtin.zeroCells (Value.int .u8 0).cells (nc - (l.length + s.length))) E (0, 0))
    refine ⟨[.raw w.heap.size (.cells ((bcs l ++ bcs s).toArray ++ Builtin.zeroCells (Value.int .u8 0).cells (nc - (l.length + s.length))) E (0, 0))], ?_, k1, k2, k3⟩
    have := RowOf.row (E := E) (r := w.heap.size) (cap := nc) (cur := (bcs l ++ bcs s).toArray ++ Builtin.zeroCells (Value.int .u8 0).cells (nc - (l.length + s.length))) (l := l ++ s) (by simpa using hnc) (by
      have hz1 : (Value.int IntKind.u8 0).cells.size = 1 := rfl
      simp [size_zeroCells, hz1]; omega) (by
      simp only [Array.toList_append, bcs_append]
      rw [← bcs_append, List.take_left' (by simp)])
    simpa using this
  cases hv with
  | nil =>
    by_cases hs : s = []
    · subst hs
      refine ⟨.slice none 0 0, w, [], ?_, .nil, hi, .refl _ _ _, .refl _ _⟩
      have f2 := hf w hi.sat
      simp only [List.length_nil] at f2 hl
      rcases hu with hu | ⟨e, hu⟩ <;> simp [Builtin.append_, run_underlying t1, run_underlying hu, sizeOf, typeInfo, t2, t3, hl, f2, bcs]
    · have hpos : 0 < s.length := List.length_pos_iff.2 hs
      have hr := grown 0 _ none (by simp; omega) rfl (fun w' _ => rfl) rfl
      obtain ⟨R', k1, k2, k3, k4⟩ := res _ (grownCap_ge w (([] : List UInt8).length + s.length) 0 E)
      exact ⟨_, _, R', hr, k1, k2, k3, k4⟩
  | row hlc hs hc =>
    rename_i r cap cur
    obtain ⟨h1, h2, h3, hn, hiL⟩ := hi.rawHead
    by_cases hroom : l.length + s.length ≤ cap
    · have hbk' : w.heap[r]? = some (.cells cur.toList.toArray E (0, 0)) := by simpa using h1
      obtain ⟨w', hrun, hb', hos, htp, hout, hsz', hkk⟩ := storeCells_run (P := P) (bcs s) w cur.toList l.length 0 hbk' (by simp [hs]; omega) hone
      refine ⟨.slice (some ⟨r, 0, none⟩) (l.length + s.length) cap, w', [.raw r (.cells (cur.toList.take (l.length + 0) ++ bcs s ++ cur.toList.drop (l.length + 0 + (bcs s).length)).toArray E (0, 0))], ?_, ?_, hi.turnRaw hb' hkk, ⟨hos, htp, hout, Nat.le_of_eq hsz'.symm, fun k _ hk => hkk k (fun e => hk (by simp [blocks, Res.block, e])), .refl g, fun _ _ _ => ⟨fun _ => rfl, rfl⟩⟩, fun b hb _ => by simpa [blocks, Res.block] using hb⟩
      · have f2 := hf w hi.sat
        rcases hu with hu | ⟨e, hu⟩ <;> simp [Builtin.append_, run_underlying t1, run_underlying hu, sizeOf, typeInfo, t2, t3, hl, hroom, f2, add_plain, hrun]
      · have := RowOf.row (E := E) (r := r) (cap := cap) (cur := (cur.toList.take (l.length + 0) ++ bcs s ++ cur.toList.drop (l.length + 0 + (bcs s).length)).toArray) (l := l ++ s) (by simpa using hroom) (by
          simp only [List.size_toArray, List.length_append, List.length_take, List.length_drop, Array.length_toList, hs, len_bcs, Nat.add_zero]; omega) (by
          rw [Nat.add_zero, hc, ← bcs_append, List.take_left' (by simp)])
        simpa using this
    · have hr := grown cap _ (some ⟨r, 0, none⟩) hroom rfl (fun w' hw' => by
        show (loadCells _ (l.length * 1)).run P w' = _
        rw [Nat.mul_one, ← len_bcs l]
        refine loadCells_run fun j hj => ?_
        have hj2 : j < cur.toList.length := by rw [Array.length_toList, hs]; rw [len_bcs] at hj; omega
        simp only [World.cell?, hw', h1, Option.isSome_none, Bool.false_eq_true, if_false, Nat.zero_add]
        have : (bcs l)[j] = cur.toList[j] := by
          have := List.getElem_of_eq hc.symm hj
          rw [this, List.getElem_take]
        rw [this]
        simp [Array.getElem?_eq_getElem (show j < cur.size by simpa using hj2)]) rfl
      obtain ⟨R', k1, k2, k3, k4⟩ := res _ (grownCap_ge w (l.length + s.length) cap E)
      exact ⟨_, _, R', hr, k1, k2, k3, k4⟩

section
variable {P : Program} {N : Nat} {all : Array Oper} {K : Env → List Res → Prop} {fl : List Bool} {os : List Oper} {ρ : Env} {L : List Res} {d : Nat} {ty : TypeId} {pos : String} {af : Array Edge}
theorem firstStr (s : List UInt8) (w : World) : (Builtin.firstCells 1 s.length (.string ⟨s.toArray⟩)).run P w = .ok (bcs s).toArray w := by
  have h := Lib.run_firstCells_string (P := P) w 1 ⟨s.toArray⟩
  have e : (⟨s.toArray⟩ : ByteArray).size = s.length := by simp [ByteArray.size]
  rw [e] at h
  rw [h]; congr 1
theorem s_appStr {T T₂ E : Nat} [hT : TRow P T E] [h2 : TStr P T₂] {x y : Operand} {v : Value} {l s : List UInt8} {R LF : List Res} (F : List Res → List Res) {ay : PV} (hx : ρ.ev x = .raw v) (hy : ρ.ev y = ay) [jy : IsStr ay s] (hv : RowOf E v l R) (hp : L.Perm (R ++ LF)) (hq : ∀ R', (R' ++ LF).Perm (F R')) (hb : l.length + s.length ≤ 140737488355328)
    (k : ∀ v' R', RowOf E v' (l ++ s) R' → pops P N all K fl.tail os (upd ρ d (.raw v')) (F R')) (hd : Nat.blt d N = true := by rfl) (hfl : fl.headD true = true := by rfl) :
    pops P N all K fl (⟨some d, .call { callee := .builtin .append, args := #[x, y], argTypes := #[T, T₂] }, ty, pos, af, none⟩ :: os) ρ L :=
  pops_n rfl (dlt hd) hfl (OpN.perm hp fun a w g ha hi => by
    have h1 := evRaw ha (x := x) (by simp [Op.operands, Call.operands]) hx
    have h3 := ha y (by simp [Op.operands, Call.operands])
    rw [hy] at h3
    have e : a.eval y = .string ⟨s.toArray⟩ := jy.out g _ h3
    obtain ⟨v', w', R', q1, q2, q3, q4, q5⟩ := app_core (P := P) (T := T) (T₂ := T₂) (ty := ty) (.inl h2.out) (.string ⟨s.toArray⟩) s hi hv (fun _ => by simp [Builtin.lenOf, ByteArray.size]) (fun w' _ => firstStr s w') hb
    have he : execOp a.eval ⟨some d, .call { callee := .builtin .append, args := #[x, y], argTypes := #[T, T₂] }, ty, pos, af, none⟩ = (do pure (.value (← Builtin.append_ #[T, T₂] ty (#[x, y].map a.eval)))) := rfl
    have hr : (execOp a.eval ⟨some d, .call { callee := .builtin .append, args := #[x, y], argTypes := #[T, T₂] }, ty, pos, af, none⟩).run P w = .ok (.value v') w' := by
      rw [he]; simp [h1, e, q1]
    refine Oper.wq_of_run hr ?_
    exact ⟨v', .raw v', g, F R', rfl, .raw _, q3.perm (hq R'), q4, fun b hb hlt => q5 b ((blocks_perm (hq R')).symm.subset hb) hlt, k v' R' q2⟩)
/-- A slice of one byte is appended. -/
theorem s_appByte {T T₂ E E₂ : Nat} [hT : TRow P T E] [h2 : TSl P T₂ E₂] {x y : Operand} {v : Value} {l : List UInt8} {c : UInt8} {t : Tag} {R LF : List Res} (F : List Res → List Res) (hx : ρ.ev x = .raw v) (hy : ρ.ev y = .slice [[.raw (.int .u8 c.toNat)]] t) (hv : RowOf E v l R) (hp : L.Perm (R ++ LF)) (hq : ∀ R', (R' ++ LF).Perm (F R')) (hb : l.length + 1 ≤ 140737488355328)
    (k : ∀ v' R', RowOf E v' (l ++ [c]) R' → pops P N all K fl.tail os (upd ρ d (.raw v')) (F R')) (hd : Nat.blt d N = true := by rfl) (hfl : fl.headD true = true := by rfl) :
    pops P N all K fl (⟨some d, .call { callee := .builtin .append, args := #[x, y], argTypes := #[T, T₂] }, ty, pos, af, none⟩ :: os) ρ L :=
  pops_n rfl (dlt hd) hfl (OpN.perm hp fun a w g ha hi => by
    have h1 := evRaw ha (x := x) (by simp [Op.operands, Call.operands]) hx
    have h3 := ha y (by simp [Op.operands, Call.operands])
    rw [hy] at h3
    obtain ⟨base, cap, e, _, _, hnone, _, _, us, hus, hcell⟩ := h3.slice_cells (sz := 1) (by simp)
    simp only [List.flatten_cons, List.flatten_nil, List.append_nil] at hus
    obtain ⟨v1, rfl⟩ : ∃ v1, us = [v1] := by
      have := hus.len
      match us, this with
      | [v1], _ => exact ⟨v1, rfl⟩
    rw [hus.uncons.1.raw_inv] at hcell
    simp only [List.length_cons, List.length_nil, Nat.zero_add] at e
    obtain ⟨v', w', R', q1, q2, q3, q4, q5⟩ := app_core (P := P) (T := T) (T₂ := T₂) (ty := ty) (.inr ⟨_, h2.out⟩) (.slice base 1 cap) [c] hi hv (fun _ => rfl) (fun w' hs' => by
      cases base with
      | none => exact absurd (hnone rfl).1 (by simp)
      | some ad =>
        obtain ⟨b, o, sp⟩ := ad
        obtain ⟨hs, hH⟩ := hcell _ rfl
        rcases hs with ⟨e3, _⟩ | hs
        · cases e3
        simp only at hs
        subst hs
        exact loadCells_run (vs := [.int .u8 c.toNat]) fun j hj => hs' _ _ _ (hH j hj)) (by simpa using hb)
    have he : execOp a.eval ⟨some d, .call { callee := .builtin .append, args := #[x, y], argTypes := #[T, T₂] }, ty, pos, af, none⟩ = (do pure (.value (← Builtin.append_ #[T, T₂] ty (#[x, y].map a.eval)))) := rfl
    have hr : (execOp a.eval ⟨some d, .call { callee := .builtin .append, args := #[x, y], argTypes := #[T, T₂] }, ty, pos, af, none⟩).run P w = .ok (.value v') w' := by
      rw [he]; simp [h1, e, q1]
    refine Oper.wq_of_run hr ?_
    exact ⟨v', .raw v', g, F R', rfl, .raw _, q3.perm (hq R'), q4, fun b hb hlt => q5 b ((blocks_perm (hq R')).symm.subset hb) hlt, k v' R' q2⟩)
theorem s_lenR {T : TypeId} {E : Nat} [hT : TSl P T E] {x : Operand} {a : Option Addr} {n c : Nat} (hx : ρ.ev x = .raw (.slice a n c)) (k : pops P N all K fl.tail os (upd ρ d (.raw (.int .i64 n))) L) (hd : Nat.blt d N = true := by rfl) :
    pops P N all K fl (⟨some d, .call { callee := .builtin .len, args := #[x], argTypes := #[T] }, ty, pos, af, none⟩ :: os) ρ L :=
  step_q hd (qop_of_run fun a' w g ha hi => ⟨.int .i64 n, by
    have h1 := evRaw ha (x := x) (by simp [Op.operands, Call.operands]) hx
    have he : execOp a'.eval ⟨some d, .call { callee := .builtin .len, args := #[x], argTypes := #[T] }, ty, pos, af, none⟩ = (do pure (.value (← Builtin.len_ #[T] ty (#[x].map a'.eval)))) := rfl
    rw [he]
    simp [Builtin.len_, h1, run_und hT.out, goInt], .raw _⟩) k
theorem s_sliceData {T : TypeId} {x : Operand} {a : Addr} {n c : Nat} (hx : ρ.ev x = .raw (.slice (some a) n c)) (hc : c ≠ 0) (k : pops P N all K fl.tail os (upd ρ d (.raw (.pointer (some a)))) L) (hd : Nat.blt d N = true := by rfl) :
    pops P N all K fl (⟨some d, .call { callee := .builtin .unsafeSliceData, args := #[x], argTypes := #[T] }, ty, pos, af, none⟩ :: os) ρ L :=
  step_q hd (qop_of_run fun a' w g ha hi => ⟨.pointer (some a), by
    have h1 := evRaw ha (x := x) (by simp [Op.operands, Call.operands]) hx
    have he : execOp a'.eval ⟨some d, .call { callee := .builtin .unsafeSliceData, args := #[x], argTypes := #[T] }, ty, pos, af, none⟩ = (do pure (.value (← Builtin.unsafeSliceData_ #[T] ty (#[x].map a'.eval)))) := rfl
    rw [he]
    have := Lib.run_unsafeSliceData_row (P := P) w #[T] ty a n c hc
    simp [h1, this], .raw _⟩) k
theorem s_unsafeString {T T₂ E r : Nat} (hT : P.underlying T = some (.pointer E)) (hE : P.cellsOf E = 1) {x y : Operand} {cur : Array Value} {l : List UInt8} {L' : List Res} (hx : ρ.ev x = .raw (.pointer (some ⟨r, 0, none⟩))) (hy : ρ.ev y = .raw (.int .i64 l.length)) (hp : L.Perm (.raw r (.cells cur E (0, 0)) :: L'))
    (h0 : l ≠ []) (hl : l.length ≤ cur.size) (hc : cur.toList.take l.length = bcs l) (hb : l.length ≤ 140737488355328) (k : pops P N all K fl.tail os (upd ρ d (.str l)) L') (hd : Nat.blt d N = true := by rfl) (hfl : fl.headD true = true := by rfl) :
    pops P N all K fl (⟨some d, .call { callee := .builtin .unsafeString, args := #[x, y], argTypes := #[T, T₂] }, ty, pos, af, none⟩ :: os) ρ L :=
  pops_n rfl (dlt hd) hfl (OpN.perm hp fun a w g ha hi => by
    have h1 := evRaw ha (x := x) (by simp [Op.operands, Call.operands]) hx
    have h2 := evRaw ha (x := y) (by simp [Op.operands, Call.operands]) hy
    obtain ⟨k1, k2, k3, k4, k5⟩ := hi.rawHead
    have he : execOp a.eval ⟨some d, .call { callee := .builtin .unsafeString, args := #[x, y], argTypes := #[T, T₂] }, ty, pos, af, none⟩ = (do pure (.value (← Builtin.unsafeString_ #[T, T₂] ty (#[x, y].map a.eval)))) := rfl
    have hrun := Lib.run_unsafeString_row (P := P) w T T₂ ty E hT hE r cur.size (by simp [World.shape?, k1]) l h0 hl (by omega) (fun j x hj => by
      have hjl := (List.getElem?_eq_some_iff.1 hj).1
      have e1 : (bcs l)[j]? = some (.int .u8 x.toNat) := by simp [bcs, hj]
      rw [← hc, List.getElem?_take, if_pos hjl] at e1
      rw [add_plain]
      simp only [World.cell?, k1, Option.isSome_none, Bool.false_eq_true, if_false, Nat.zero_add]
      simpa using e1)
    have hr : (execOp a.eval ⟨some d, .call { callee := .builtin .unsafeString, args := #[x, y], argTypes := #[T, T₂] }, ty, pos, af, none⟩).run P w = .ok (.value (.string ⟨l.toArray⟩)) (w.freeze ⟨r, 0, none⟩ l.length) := by
      rw [he]; simp [h1, h2, hrun]
    have hk : ∀ b, b ≠ r → (w.freeze ⟨r, 0, none⟩ l.length).heap[b]? = w.heap[b]? := fun b hb => by
      unfold World.freeze
      split
      · rfl
      · simp [Array.getElem?_modify, Ne.symm hb]
    have hsz : (w.freeze ⟨r, 0, none⟩ l.length).heap.size = w.heap.size := by
      unfold World.freeze
      split <;> simp
    have hws : (w.freeze ⟨r, 0, none⟩ l.length).os = w.os ∧ (w.freeze ⟨r, 0, none⟩ l.length).tape = w.tape ∧ (w.freeze ⟨r, 0, none⟩ l.length).output = w.output ∧ (w.freeze ⟨r, 0, none⟩ l.length).drawn = w.drawn := by
      unfold World.freeze
      split <;> exact ⟨rfl, rfl, rfl, rfl⟩
    refine Oper.wq_of_run hr ?_
    exact ⟨_, .str l, g, L', rfl, .str (by show l.length ≤ maxN; exact hb), k5.other k2 k3 k4 hk, ⟨hws.1, hws.2.1, ⟨hws.2.2.1, Nat.le_of_eq hws.2.2.2.symm⟩, Nat.le_of_eq hsz.symm, fun b _ hb => hk b (fun e => hb (by simp [blocks, Res.block, e])), .refl g, fun _ _ _ => ⟨fun _ => rfl, rfl⟩⟩,
      fun b hb _ => by simp only [blocks, List.filterMap_cons, Res.block]; exact List.mem_cons_of_mem _ hb, k⟩)
instance {x y : PV} : At [x, y] 0 x := ⟨rfl⟩
instance {x y : PV} : At [x, y] 1 y := ⟨rfl⟩
theorem RowOf.one {E : Nat} {v : Value} {l : List UInt8} {R : List Res} (h : RowOf E v l R) : v.oneCell' = true := by cases h <;> rfl
/-- One cell of a variable is written over. -/
theorem s_storeV {T : TypeId} {x y : Operand} {b off by_ : Nat} {cs : List PV} {v : Value} {L' : List Res} [hT : TSz P T 1 by_] (cs' : List PV)
    (hx : ρ.ev x = .raw (.pointer (some ⟨b, off, none⟩))) (hy : ρ.ev y = .raw v) (hv : v.oneCell' = true) [hB : BoxAt b L cs] (hp : cs.take off ++ [.raw v] ++ cs.drop (off + 1) = cs') (hle : off + 1 ≤ cs.length) [hu : UpdC b cs cs' L L']
    (k : pops P N all K fl.tail os ρ L') (hfl : fl.headD true = true := by rfl) : pops P N all K fl (⟨none, .store T x y, ty, pos, af, none⟩ :: os) ρ L :=
  pops_n rfl (fun _ e => by cases e) hfl (opN_store (new := [.raw v]) (cs := cs) (cs' := cs') hx (fun g v' hv' => by
    rw [hy] at hv'
    rw [hv'.raw_inv]
    refine ⟨[v], ?_, .cons (.raw v) (.nil g)⟩
    cases v <;> first | rfl | cases hv) rfl (fun x hx => by
      rcases List.mem_cons.1 hx with rfl | h
      · exact ⟨by simp, by simp, fun u e => by cases e; exact hv, by simp⟩
      · cases h) hp hle hu.out k)
theorem le_func (f : Nat) : Le (.raw (.func (.func f) #[] #[])) (.clo f []) := Norm.out
theorem TRow.of {P : Program} {T E : Nat} (h1 : P.underlying T = some (.slice E)) (h2 : (P.info? E).map (fun i => (i.zero, i.size, i.bytes)) = some (some (.int .u8 0), 1, 1)) (h3 : P.cellsOf E = 1) : TRow P T E := ⟨by
  obtain ⟨i, hi, e⟩ := Option.map_eq_some_iff.1 h2
  injection e with e1 e2
  injection e2 with e2 e3
  exact ⟨i, h1, hi, e2, e3, e1, h3⟩⟩
/-! ### Pointers to a variable: compared, turned -/
class TPt (P : Program) (T : Nat) (E sz : outParam Nat) : Prop where
  out : P.underlying T = some (.pointer E) ∧ ∃ j, P.info? E = some j ∧ j.size = sz
theorem TPt.of {P : Program} {T E sz : Nat} (h1 : P.underlying T = some (.pointer E)) (h2 : (P.info? E).map (·.size) = some sz) : TPt P T E sz := ⟨h1, Option.map_eq_some_iff.1 h2⟩
theorem s_eqPN {T T' E sz : Nat} [hT : TPt P T E sz] {x y : Operand} {p : Option Addr} (hx : ρ.ev x = .raw (.pointer p)) (hy : ρ.ev y = .raw (.pointer none)) (k : pops P N all K fl.tail os (upd ρ d (.raw (.bool p.isNone))) L) (hd : Nat.blt d N = true := by rfl) :
    pops P N all K fl (⟨some d, .binOp .eql T x y T', ty, pos, af, none⟩ :: os) ρ L :=
  s_bin hx hy (fun w => by unfold eqGuard; simp) (fun w => by
    have h : ∀ d : Nat, (Op.equalIn (d + 1) T (.pointer p) (.pointer none)).run P w = .ok p.isNone w := fun d => by
      cases p <;> simp [Op.equalIn, run_underlying hT.out.1]
    simp only [binOp]
    simp [Op.equal, Op.maxDepth, h 9999]) k hd
theorem s_nePP {T T' E sz : Nat} [hT : TPt P T E sz] {x y : Operand} {a : Addr} (hx : ρ.ev x = .raw (.pointer (some a))) (hy : ρ.ev y = .raw (.pointer (some a))) (k : pops P N all K fl.tail os (upd ρ d (.raw (.bool false))) L) (hd : Nat.blt d N = true := by rfl) :
    pops P N all K fl (⟨some d, .binOp .neq T x y T', ty, pos, af, none⟩ :: os) ρ L :=
  s_bin hx hy (fun w => by unfold eqGuard; simp) (fun w => by
    obtain ⟨h1, j, h2, _⟩ := hT.out
    exact Lib.run_neq_ptr_same w a h1 h2) k hd
theorem s_toUnsafe {S D E sz T' b : Nat} [hS : TPt P S E sz] (hD : P.underlying D = some .unsafePointer) (hz : sz ≠ 0) {x : Operand} {cs : List PV} (hx : ρ.ev x = .raw (.pointer (some ⟨b, 0, none⟩))) (hm : Res.box b T' cs ∈ L) (hc : cs ≠ []) (k : pops P N all K fl.tail os (upd ρ d (.raw (.pointer (some ⟨b, 0, none⟩)))) L) (hd : Nat.blt d N = true := by rfl) :
    pops P N all K fl (⟨some d, .convert S D x, ty, pos, af, none⟩ :: os) ρ L :=
  step_q hd (qop_of_run fun a w g ha hi => ⟨.pointer (some ⟨b, 0, none⟩), by
    have h1 := evRaw ha (x := x) (by simp [Op.operands]) hx
    obtain ⟨vs, hb, hvs, _⟩ := hi.res _ hm
    obtain ⟨q1, j, q2, q3⟩ := hS.out
    have hl : 0 < vs.length := by rw [hvs.len]; exact List.length_pos_iff.2 hc
    have hrun := Lib.run_to_unsafe (P := P) w ⟨b, 0, none⟩ q1 hD q2 (by rw [q3]; exact hz) (e := T') (cells := vs.length) (by simp [World.shape?, hb]) hl
    have he : execOp a.eval ⟨some d, .convert S D x, ty, pos, af, none⟩ = (do pure (.value (← convert S D (a.eval x)))) := rfl
    rw [he]; simp [h1, hrun], .raw _⟩) k
theorem s_fromUnsafe {S D E sz T' b : Nat} [hD : TPt P D E sz] (hS : P.underlying S = some .unsafePointer) {x : Operand} {cs : List PV} (hx : ρ.ev x = .raw (.pointer (some ⟨b, 0, none⟩))) (hm : Res.box b T' cs ∈ L) (hl : liesAt P P.depth T' (cs.length / P.cellsOf T') 0 E 1 = true) (k : pops P N all K fl.tail os (upd ρ d (.raw (.pointer (some ⟨b, 0, none⟩)))) L) (hd : Nat.blt d N = true := by rfl) :
    pops P N all K fl (⟨some d, .convert S D x, ty, pos, af, none⟩ :: os) ρ L :=
  step_q hd (qop_of_run fun a w g ha hi => ⟨.pointer (some ⟨b, 0, none⟩), by
    have h1 := evRaw ha (x := x) (by simp [Op.operands]) hx
    obtain ⟨vs, hb, hvs, _⟩ := hi.res _ hm
    obtain ⟨q1, j, q2, q3⟩ := hD.out
    have hrun := Lib.run_from_unsafe (P := P) w ⟨b, 0, none⟩ hS q1 q2 (e := T') (cells := vs.length) (by simp [World.shape?, hb]) (by rw [hvs.len]; exact hl)
    have he : execOp a.eval ⟨some d, .convert S D x, ty, pos, af, none⟩ = (do pure (.value (← convert S D (a.eval x)))) := rfl
    rw [he]; simp [h1, hrun], .raw _⟩) k
theorem extC_same {f : Nat} {fn : Func} (hf : P.funcs[f]? = some fn) (hn : (fn.name == "runtime.NumGoroutine") = false) (hb : fn.body.isNone = true) (h1 : Extern.findNext fn = none) (h2 : Extern.find fn = some Extern.AbiNoEscape.same) (v : Value) :
    ExtC P f [.raw v] (.raw v) := ⟨fun vs w g hv hs => by
  match vs, hv with
  | [x], hv =>
    have e := hv.uncons.1.raw_inv
    subst e
    refine ⟨x, ?_, .raw _⟩
    rw [run_callFunc_extern hf hn hb h1 h2]
    rw [show #[x] = [x].toArray from rfl] at *
    rfl
  | [], hv => have := hv.len; simp at this
  | _ :: _ :: _, hv => have := hv.len; simp at this⟩
theorem s_storeP {T : TypeId} {x y : Operand} {b off by_ : Nat} {cs : List PV} {ay : PV} {L' : List Res} [hT : TSz P T 1 by_] (cs' : List PV)
    (hx : ρ.ev x = .raw (.pointer (some ⟨b, off, none⟩))) (hy : ρ.ev y = ay) [hB : BoxAt b L cs] (hf : flat [ay]) (hp : cs.take off ++ [ay] ++ cs.drop (off + 1) = cs') (hle : off + 1 ≤ cs.length) [hu : UpdC b cs cs' L L']
    (k : pops P N all K fl.tail os ρ L') (hfl : fl.headD true = true := by rfl) : pops P N all K fl (⟨none, .store T x y, ty, pos, af, none⟩ :: os) ρ L :=
  pops_n rfl (fun _ e => by cases e) hfl (opN_store (new := [ay]) (cs := cs) (cs' := cs') hx (fun g v hv => by
    rw [hy] at hv
    obtain ⟨h1, h2, h3, h4⟩ := hf ay (by simp)
    have h1 := hv.one h1 h2 h3 h4
    refine ⟨[v], ?_, .cons hv (.nil g)⟩
    cases v <;> first | rfl | cases h1) rfl hf hp hle hu.out k)
end
end Go.Q
/- What the kit's shelf proves, laid over this program (printed by the kit's lay-plain). -/
namespace Go.Proofs
open Go.Shelf
def Tryz.laysItoa_ren : Go.Shelf.Ren := ⟨fun | 171 => 268 | 243 => 285 | 246 => 291 | 283 => 294 | 284 => 295 | 285 => 296 | 286 => 297 | 129 => 185 | 317 => 298 | 318 => 299 | 319 => 300 | 320 => 301 | 337 => 302 | 338 => 303 | n => n, fun | 3 => 3 | 9 => 9 | 2 => 2 | 4 => 4 | 171 => 297 | 0 => 0 | 53 => 198 | 37 => 148 | 5 => 5 | 173 => 299 | 212 => 302 | 51 => 170 | 20 => 20 | 213 => 303 | 46 => 182 | 232 => 36 | 233 => 304 | n => n, fun | 17 => 1 | 18 => 2 | 19 => 3 | n => n⟩
theorem Tryz.laysItoa : Go.Proofs.LaysM.n171 Tryz.prog Tryz.laysItoa_ren := {
  mixed := by kernel_rfl
  f129 := Tryz.func185.trans (congrArg some (by kernel_rfl))
  f171 := Tryz.func268.trans (congrArg some (by kernel_rfl))
  f243 := Tryz.func285.trans (congrArg some (by kernel_rfl))
  f246 := Tryz.func291.trans (congrArg some (by kernel_rfl))
  f283 := Tryz.func294.trans (congrArg some (by kernel_rfl))
  f284 := Tryz.func295.trans (congrArg some (by kernel_rfl))
  f285 := Tryz.func296.trans (congrArg some (by kernel_rfl))
  f286 := Tryz.func297.trans (congrArg some (by kernel_rfl))
  f317 := Tryz.func298.trans (congrArg some (by kernel_rfl))
  f318 := Tryz.func299.trans (congrArg some (by kernel_rfl))
  f319 := Tryz.func300.trans (congrArg some (by kernel_rfl))
  f320 := Tryz.func301.trans (congrArg some (by kernel_rfl))
  f337 := Tryz.func302.trans (congrArg some (by kernel_rfl))
  f338 := Tryz.func303.trans (congrArg some (by kernel_rfl))
  t0 := Tryz.underlying0
  a0 := Tryz.isAgg0
  z0 := Tryz.sizeOf0
  v0 := Tryz.zeroValue0
  t2 := Tryz.underlying2
  a2 := Tryz.isAgg2
  z2 := Tryz.sizeOf2
  v2 := Tryz.zeroValue2
  t3 := Tryz.underlying3
  a3 := Tryz.isAgg3
  z3 := Tryz.sizeOf3
  v3 := Tryz.zeroValue3
  t4 := Tryz.underlying4
  a4 := Tryz.isAgg4
  z4 := Tryz.sizeOf4
  v4 := Tryz.zeroValue4
  t5 := Tryz.underlying5
  a5 := Tryz.isAgg5
  z5 := Tryz.sizeOf5
  v5 := Tryz.zeroValue5
  t9 := Tryz.underlying9
  a9 := Tryz.isAgg9
  z9 := Tryz.sizeOf9
  v9 := Tryz.zeroValue9
  t20 := Tryz.underlying20
  a20 := Tryz.isAgg20
  z20 := Tryz.sizeOf20
  v20 := Tryz.zeroValue20
  t37 := Tryz.underlying148
  a37 := Tryz.isAgg148
  z37 := Tryz.sizeOf148
  v37 := Tryz.zeroValue148
  t46 := Tryz.underlying182
  a46 := Tryz.isAgg182
  z46 := Tryz.sizeOf182
  v46 := Tryz.zeroValue182
  t51 := Tryz.underlying170
  a51 := Tryz.isAgg170
  z51 := Tryz.sizeOf170
  v51 := Tryz.zeroValue170
  t53 := Tryz.underlying198
  a53 := Tryz.isAgg198
  z53 := Tryz.sizeOf198
  v53 := Tryz.zeroValue198
  t171 := Tryz.underlying297
  a171 := Tryz.isAgg297
  z171 := Tryz.sizeOf297
  v171 := Tryz.zeroValue297
  t173 := Tryz.underlying299
  a173 := Tryz.isAgg299
  z173 := Tryz.sizeOf299
  v173 := Tryz.zeroValue299
  t212 := Tryz.underlying302
  a212 := Tryz.isAgg302
  z212 := Tryz.sizeOf302
  v212 := Tryz.zeroValue302
  t213 := Tryz.underlying303
  a213 := Tryz.isAgg303
  z213 := Tryz.sizeOf303
  t232 := Tryz.underlying36
  a232 := Tryz.isAgg36
  z232 := Tryz.sizeOf36
  v232 := Tryz.zeroValue36
  t233 := Tryz.underlying304
  a233 := Tryz.isAgg304
  z233 := Tryz.sizeOf304
  v233 := Tryz.zeroValue304
  g17 := by kernel_rfl
  g18 := by kernel_rfl
  g19 := by kernel_rfl
  i0 := by kernel_rfl
  i2 := by kernel_rfl
  i3 := by kernel_rfl
  i4 := by kernel_rfl
  i5 := by kernel_rfl
  i9 := by kernel_rfl
  i20 := by kernel_rfl
  i37 := by kernel_rfl
  i46 := by kernel_rfl
  i51 := by kernel_rfl
  i53 := by kernel_rfl
  i171 := by kernel_rfl
  i173 := by kernel_rfl
  i212 := by kernel_rfl
  i232 := by kernel_rfl
  i233 := by kernel_rfl
  m17 := by kernel_rfl
  m18 := by kernel_rfl
  m19 := by kernel_rfl }
def Tryz.sortD_ren : Go.Shelf.Ren := ⟨fun | 6 => 110 | 15 => 145 | 14 => 144 | 28 => 184 | 29 => 185 | 20 => 176 | 21 => 177 | 22 => 178 | 23 => 179 | 24 => 180 | 25 => 181 | 26 => 182 | 27 => 183 | 46 => 217 | 47 => 218 | 48 => 219 | 49 => 220 | 50 => 221 | 57 => 253 | n => n, fun | 22 => 25 | 24 => 37 | 25 => 80 | 3 => 3 | 39 => 182 | 0 => 0 | 53 => 170 | 55 => 198 | 4 => 4 | 46 => 206 | 45 => 205 | 50 => 123 | 5 => 5 | 9 => 9 | 66 => 235 | 70 => 239 | 76 => 263 | 77 => 264 | n => n, fun | n => n⟩
theorem Tryz.sortD : Go.Proofs.SlLaysF0.n6 Tryz.prog Tryz.sortD_ren := {
  mixed := by kernel_rfl
  f6 := ⟨Tryz.f110.name, by decide, Tryz.func110.trans (congrArg some (by kernel_rfl))⟩
  f14 := ⟨Tryz.f144.name, by decide, Tryz.func144.trans (congrArg some (by kernel_rfl))⟩
  f15 := Tryz.func145.trans (congrArg some (by kernel_rfl))
  f20 := ⟨Tryz.f176.name, by decide, Tryz.func176.trans (congrArg some (by kernel_rfl))⟩
  f21 := ⟨Tryz.f177.name, by decide, Tryz.func177.trans (congrArg some (by kernel_rfl))⟩
  f22 := ⟨Tryz.f178.name, by decide, Tryz.func178.trans (congrArg some (by kernel_rfl))⟩
  f23 := ⟨Tryz.f179.name, by decide, Tryz.func179.trans (congrArg some (by kernel_rfl))⟩
  f24 := ⟨Tryz.f180.name, by decide, Tryz.func180.trans (congrArg some (by kernel_rfl))⟩
  f25 := ⟨Tryz.f181.name, by decide, Tryz.func181.trans (congrArg some (by kernel_rfl))⟩
  f26 := ⟨Tryz.f182.name, by decide, Tryz.func182.trans (congrArg some (by kernel_rfl))⟩
  f27 := ⟨Tryz.f183.name, by decide, Tryz.func183.trans (congrArg some (by kernel_rfl))⟩
  f28 := Tryz.func184.trans (congrArg some (by kernel_rfl))
  f29 := Tryz.func185.trans (congrArg some (by kernel_rfl))
  f46 := ⟨Tryz.f217.name, by decide, Tryz.func217.trans (congrArg some (by kernel_rfl))⟩
  f47 := Tryz.func218.trans (congrArg some (by kernel_rfl))
  f48 := Tryz.func219.trans (congrArg some (by kernel_rfl))
  f49 := ⟨Tryz.f220.name, by decide, Tryz.func220.trans (congrArg some (by kernel_rfl))⟩
  f50 := ⟨Tryz.f221.name, by decide, Tryz.func221.trans (congrArg some (by kernel_rfl))⟩
  f57 := ⟨Tryz.f253.name, by decide, Tryz.func253.trans (congrArg some (by kernel_rfl))⟩
  t0 := Tryz.underlying0
  a0 := Tryz.isAgg0
  z0 := Tryz.sizeOf0
  v0 := Tryz.zeroValue0
  t3 := Tryz.underlying3
  a3 := Tryz.isAgg3
  z3 := Tryz.sizeOf3
  v3 := Tryz.zeroValue3
  t4 := Tryz.underlying4
  a4 := Tryz.isAgg4
  z4 := Tryz.sizeOf4
  v4 := Tryz.zeroValue4
  t5 := Tryz.underlying5
  a5 := Tryz.isAgg5
  z5 := Tryz.sizeOf5
  v5 := Tryz.zeroValue5
  t9 := Tryz.underlying9
  a9 := Tryz.isAgg9
  z9 := Tryz.sizeOf9
  v9 := Tryz.zeroValue9
  t22 := Tryz.underlying25
  a22 := Tryz.isAgg25
  z22 := Tryz.sizeOf25
  v22 := Tryz.zeroValue25
  t25 := Tryz.underlying80
  a25 := Tryz.isAgg80
  z25 := Tryz.sizeOf80
  v25 := Tryz.zeroValue80
  t39 := Tryz.underlying182
  a39 := Tryz.isAgg182
  z39 := Tryz.sizeOf182
  v39 := Tryz.zeroValue182
  t45 := Tryz.underlying205
  a45 := Tryz.isAgg205
  z45 := Tryz.sizeOf205
  v45 := Tryz.zeroValue205
  t46 := Tryz.underlying206
  a46 := Tryz.isAgg206
  z46 := Tryz.sizeOf206
  v46 := Tryz.zeroValue206
  t50 := Tryz.underlying123
  a50 := Tryz.isAgg123
  z50 := Tryz.sizeOf123
  v50 := Tryz.zeroValue123
  t53 := Tryz.underlying170
  a53 := Tryz.isAgg170
  z53 := Tryz.sizeOf170
  v53 := Tryz.zeroValue170
  t55 := Tryz.underlying198
  a55 := Tryz.isAgg198
  z55 := Tryz.sizeOf198
  v55 := Tryz.zeroValue198
  t66 := Tryz.underlying235
  a66 := Tryz.isAgg235
  z66 := Tryz.sizeOf235
  v66 := Tryz.zeroValue235
  t70 := Tryz.underlying239
  a70 := Tryz.isAgg239
  z70 := Tryz.sizeOf239
  v70 := Tryz.zeroValue239
  t76 := Tryz.underlying263
  a76 := Tryz.isAgg263
  z76 := Tryz.sizeOf263
  v76 := Tryz.zeroValue263
  t77 := Tryz.underlying264
  a77 := Tryz.isAgg264
  z77 := Tryz.sizeOf264
  v77 := Tryz.zeroValue264 }
end Go.Proofs
/- Contracts of the program: what the library writes: numbers, strings.Builder. -/
namespace Go.Proofs
open Go Go.Q Go.Shelf
attribute [local irreducible] pwp pops PCalls OpN

/-! ### Numbers -/
theorem decDigits_eq (n : Nat) : Lib.decDigits n = rDec n := by
  induction n using Nat.strongRecOn with
  | _ n ih =>
    unfold Lib.decDigits
    by_cases h : n < 10
    · rw [dif_pos h, rDec_small h]
    · rw [dif_neg h, rDec_big h, ih (n / 10) (by omega)]
theorem itoa_eq (n : Int) : Lib.itoa n = rDecI n := by
  unfold Lib.itoa rDecI
  by_cases h : n < 0
  · rw [if_pos h, if_pos h, decDigits_eq, show n.natAbs = (-n).toNat by omega]
  · rw [if_neg h, if_neg h, decDigits_eq]
theorem tab_is {w : World} {g : Gh} {L : List Res} (hi : Inv w g L) : Lib.TabIs Tryz.prog w "internal/strconv.uint64pow10" .u64 Lib.pow10Tab := by
  obtain ⟨T, p, h⟩ := hi.satM _ _ hi.glob.tab
  unfold Lib.TabIs World.var?
  rw [show Tryz.prog.globalNamed "internal/strconv.uint64pow10" = some globAt by kernel_rfl]
  simp only [Option.bind_some, h]
  rfl
instance Itoa_ct (n : Int) [hs : Small (-140737488355328 ≤ n ∧ n ≤ 140737488355328)] : FnC Tryz.prog 268 [.raw (.int .i64 n)] (.str (rDecI n)) := ⟨fn_ext fun vs w g LF hv hi => by
  obtain ⟨h0, h1⟩ := hs.out
  obtain ⟨v, rfl⟩ : ∃ v, vs = [v] := by
    have := hv.len
    match vs, this with
    | [v], _ => exact ⟨v, rfl⟩
  rw [hv.uncons.1.raw_inv]
  refine (Any.strconv_Itoa Tryz.laysItoa n (by omega) (by omega) w (tab_is hi)).mono ?_
  rintro e w' ⟨rfl, k, os, rfl⟩
  refine ⟨_, rfl, fun g => by rw [itoa_eq]; exact .str (by have := rDecI_len (n := n) ⟨h0, h1⟩; show _ ≤ 2 ^ 47; omega), rfl, rfl, rfl, Nat.le_add_right _ _, ?_, fun j hj => ?_⟩
  · show w.heap.size ≤ (w.heap ++ os).size
    simp
  · show (w.heap ++ os)[j]? = _
    rw [Array.getElem?_append_left hj]⟩

/-! ### strings.Builder -/
/-- A builder: its first cell, its buffer. -/
def bldB (b : Nat) (p v : Value) : Res := .box b 260 [.raw p, .raw v]
def self (b : Nat) : Value := .pointer (some ⟨b, 0, none⟩)
instance : TPt Tryz.prog 258 260 2 := .of (by kernel_rfl) (by kernel_rfl)
instance (v : Value) : ExtC Tryz.prog 292 [.raw v] (.raw v) := extC_same Tryz.func292 (by kernel_rfl) (by kernel_rfl) (by kernel_rfl) (by kernel_rfl) v
theorem copyCheck_fn (b : Nat) (p v : Value) (hp : p = .pointer none ∨ p = self b) : PCalls Tryz.prog 286 [.raw (self b)] [bldB b p v] (fun _ L' => L' = [bldB b (self b) v]) := by
  refine pcalls_bd Tryz.func286 rfl Tryz.ntmps286 (rs := []) rfl rfl fun hb LF => ?_
  rw [show [bldB b p v] ++ LF = .box b 260 [.raw p, .raw v] :: LF from rfl]
  obtain ⟨q, rfl, hq⟩ : ∃ q, p = .pointer q ∧ (q = none ∨ q = some ⟨b, 0, none⟩) := by
    rcases hp with rfl | rfl
    · exact ⟨none, rfl, .inl rfl⟩
    · exact ⟨_, rfl, .inr rfl⟩
  refine wf ?_
  refine s_eqPN rfl rfl ?_
  refine wf ?_
  rcases hq with rfl | rfl
  · refine pwp_condB (t := true) (fun _ => ?_) (fun h => by cases h)
    refine wf ?_
    refine s_toUnsafe (by kernel_rfl) (by decide) rfl List.mem_cons_self (by simp) ?_
    refine s_ext (xs := [.tmp 9]) (args := [.raw (self b)]) rfl (fun i h1 h2 => by
      match i, h1, h2 with
      | 0, _, _ => exact .refl _
      | m + 1, h1, _ => exact absurd h1 (by simp)) rfl ?_
    refine s_fromUnsafe (by kernel_rfl) rfl List.mem_cons_self (by kernel_rfl) ?_
    refine wf ?_
    refine s_storeV [.raw (self b), .raw v] rfl rfl rfl rfl (by simp) ?_
    refine wf ?_
    exact ⟨trivial, [], [bldB b (self b) v], .nil, .refl _, rfl⟩
  · refine pwp_condB (t := false) (fun h => by cases h) (fun _ => ?_)
    refine wf ?_
    refine s_nePP rfl rfl ?_
    refine wf ?_
    exact ⟨trivial, [], [bldB b (self b) v], .nil, .refl _, rfl⟩
instance : TRow Tryz.prog 148 5 := .of (by kernel_rfl) (by kernel_rfl) (by kernel_rfl)
/-- What a builder holds. -/
def Bld (b : Nat) (l : List UInt8) (L : List Res) : Prop := ∃ p v R, (p = .pointer none ∨ p = self b) ∧ RowOf 5 v l R ∧ L = bldB b p v :: R
theorem writeString_fn (b : Nat) (l s : List UInt8) (L : List Res) (hL : Bld b l L) (hl : l.length + s.length ≤ 140737488355328) : PCalls Tryz.prog 271 [.raw (self b), .str s] L (fun _ L' => Bld b (l ++ s) L') := by
  obtain ⟨p, v, R, hp, hv, rfl⟩ := hL
  refine pcalls_bd Tryz.func271 rfl Tryz.ntmps271 (rs := [.tmp 4, .tmp 5]) rfl rfl fun hb LF => ?_
  rw [show (bldB b p v :: R) ++ LF = [bldB b p v] ++ (R ++ LF) from rfl]
  refine ws ?_
  refine s_callR (xs := [.tmp 6]) [bldB b p v] (R ++ LF) (f := 286) (cs := []) (le_func _) rfl rfl (.refl _) _ (copyCheck_fn b p v hp) fun r L' e => ?_
  subst e
  refine wf ?_
  refine s_appStr (R := R) (LF := .box b 260 [.raw (self b), .raw v] :: LF) (fun R' => .box b 260 [.raw (self b), .raw v] :: (R' ++ LF)) (ay := .str s) rfl rfl hv (List.perm_middle (l₁ := R)).symm (fun R' => List.perm_middle) hl fun v' R' hv' => ?_
  refine wf ?_
  refine s_storeV [.raw (self b), .raw v'] rfl rfl hv'.one rfl (by simp) ?_
  refine wf ?_
  refine wf ?_
  exact ⟨trivial, _, bldB b (self b) v' :: R', .cons (.tmp 4) (.cons (.tmp 5) .nil), .refl _, _, v', R', .inr rfl, hv', rfl⟩
/-- One byte more. -/
theorem writeByte_fn (b : Nat) (l : List UInt8) (c : UInt8) (L : List Res) (hL : Bld b l L) (hl : l.length + 1 ≤ 140737488355328) : PCalls Tryz.prog 272 [.raw (self b), .raw (.int .u8 c.toNat)] L (fun _ L' => Bld b (l ++ [c]) L') := by
  obtain ⟨p, v, R, hp, hv, rfl⟩ := hL
  refine pcalls_bd Tryz.func272 rfl Tryz.ntmps272 (rs := [.tmp 4]) rfl rfl fun hb LF => ?_
  rw [show (bldB b p v :: R) ++ LF = [bldB b p v] ++ (R ++ LF) from rfl]
  refine ws ?_
  refine s_callR (xs := [.tmp 5]) [bldB b p v] (R ++ LF) (f := 286) (cs := []) (le_func _) rfl rfl (.refl _) _ (copyCheck_fn b p v hp) fun r L' e => ?_
  subst e
  refine wf ?_
  refine s_appByte (R := R) (LF := .box b 260 [.raw (self b), .raw v] :: LF) (fun R' => .box b 260 [.raw (self b), .raw v] :: (R' ++ LF)) (t := .ro) rfl rfl hv (List.perm_middle (l₁ := R)).symm (fun R' => List.perm_middle) hl fun v' R' hv' => ?_
  refine wf ?_
  refine s_storeV [.raw (self b), .raw v'] rfl rfl hv'.one rfl (by simp) ?_
  refine wf ?_
  refine wf ?_
  exact ⟨trivial, _, bldB b (self b) v' :: R', .cons (.tmp 4) .nil, .refl _, _, v', R', .inr rfl, hv', rfl⟩
/-- What it holds. -/
theorem string_fn (b : Nat) (l : List UInt8) (L : List Res) (hL : Bld b l L) (h0 : l ≠ []) (hl : l.length ≤ 140737488355328) : PCalls Tryz.prog 252 [.raw (self b)] L (fun r L' => r = .str l ∧ L' = []) := by
  obtain ⟨p, v, R, hp, hv, rfl⟩ := hL
  cases hv with
  | nil => exact absurd rfl h0
  | row h1 h2 h3 =>
    rename_i r cap cur
    refine pcalls_bd Tryz.func252 rfl Tryz.ntmps252 (rs := [.tmp 2]) rfl rfl fun hb LF => ?_
    have hcap : cap ≠ 0 := by have := List.length_pos_iff.2 h0; omega
    rw [show (bldB b p (.slice (some ⟨r, 0, none⟩) l.length cap) :: [.raw r (.cells cur 5 (0, 0))]) ++ LF = .box b 260 [.raw p, .raw (.slice (some ⟨r, 0, none⟩) l.length cap)] :: .raw r (.cells cur 5 (0, 0)) :: LF from rfl]
    refine wn ?_
    refine pwp_drawN 10 ?_ ?_
    · decide +kernel
    refine wf ?_
    refine s_sliceData rfl hcap ?_
    refine wf ?_
    refine s_lenR rfl ?_
    refine wf ?_
    refine s_unsafeString (E := 5) (by kernel_rfl) (by kernel_rfl) rfl rfl (.swap _ _ _) h0 (by omega) h3 hl ?_
    refine wf ?_
    exact ⟨trivial, _, [], .cons (.tmp 2) .nil, .cons _ (.refl _), rfl, rfl⟩
end Go.Proofs
/- Contracts of the program: trees of strings: checked, encoded. -/
namespace Go.Proofs
open Go Go.Q
attribute [local irreducible] pwp pops PCalls OpN

set_option maxHeartbeats 1000000 in
theorem encP_fn : ∀ (d : Nat) (x : Sx), wfX d x → ∀ (b : Nat) (l : List UInt8) (L : List Res), Bld b l L → l.length + (encX d x).length ≤ 1000000000 → PCalls Tryz.prog 251 [.raw (self b), .agg (eSx x)] L (fun _ L' => Bld b (l ++ encX d x) L')
  | 0, x, hw, _, _, _, _, _ => hw.elim
  | d + 1, x, hw, b, l, L, hL, hl => by
    have ih := encP_fn d
    refine pcalls_bd Tryz.func251 rfl Tryz.ntmps251 (rs := []) rfl rfl fun hb LF => ?_
    have hlen : x.list.length ≤ 140737488355328 := by
      have := (hb (.agg (eSx x)) (by simp)).agg_at (c := .slice (x.list.map eSx) .ro) (by rw [eSx_eq]; simp)
      exact this.slice_map
    refine wf ?_
    refine pwp_condB (fun h2 => ?_) (fun h2 => ?_)
    · have hB : x.isList = false := by simpa using h2
      rcases hw with ⟨_, h3, h4⟩ | ⟨h3, _⟩
      · have : Small (-140737488355328 ≤ (x.atom.length : Int) ∧ (x.atom.length : Int) ≤ 140737488355328) := ⟨by omega, by omega⟩
        have e : rDecI (x.atom.length : Int) = rDec x.atom.length := by
          rw [rDecI, if_neg (by omega)]; rfl
        have he : encX (d + 1) x = rDec x.atom.length ++ 58 :: x.atom := by simp [encX, hB]
        rw [he] at hl ⊢
        simp only [List.length_append, List.length_cons] at hl
        refine wf ?_
        refine s_callR (xs := [.tmp 9, .tmp 13]) L LF (f := 271) (cs := []) (le_func _) rfl rfl (.refl _) _ (writeString_fn b l (rDecI (x.atom.length : Int)) L hL (by rw [e]; omega)) fun r L1 hL1 => ?_
        rw [e] at hL1
        refine wf ?_
        refine wf ?_
        refine s_callR (xs := [.tmp 15, .const (.int .u8 58)]) L1 LF (f := 272) (cs := []) (le_func _) rfl rfl (.refl _) _ (writeByte_fn b (l ++ rDec x.atom.length) 58 L1 hL1 (by simp only [List.length_append]; omega)) fun r L2 hL2 => ?_
        refine wf ?_
        refine wf ?_
        refine s_callR (xs := [.tmp 17, .tmp 19]) L2 LF (f := 271) (cs := []) (le_func _) rfl rfl (.refl _) _ (writeString_fn b (l ++ rDec x.atom.length ++ [58]) x.atom L2 hL2 (by simp only [List.length_append, List.length_cons, List.length_nil]; omega)) fun r L3 hL3 => ?_
        refine wf ?_
        refine wf ?_
        exact ⟨trivial, _, L3, .nil, .refl _, by simpa using hL3⟩
      · rw [hB] at h3; cases h3
    have hB : x.isList = true := by simpa using h2
    rcases hw with ⟨h3, _⟩ | ⟨_, ha, hw⟩
    · rw [hB] at h3; cases h3
    have he : encX (d + 1) x = 40 :: (x.list.flatMap (encX d) ++ [41]) := by simp [encX, hB]
    rw [he] at hl ⊢
    simp only [List.length_cons, List.length_append, List.length_nil] at hl
    refine wf ?_
    refine s_callR (xs := [.tmp 21, .const (.int .u8 40)]) L LF (f := 272) (cs := []) (le_func _) rfl rfl (.refl _) _ (writeByte_fn b l 40 L hL (by omega)) fun r L1 hL1 => ?_
    refine wf ?_
    refine wf ?_
    refine pwp_loopS (σ := Nat × List Res) (fun k => k.1 ≤ x.list.length ∧ Bld b (l ++ 40 :: (x.list.take k.1).flatMap (encX d)) k.2) (fun k => x.list.length - k.1) (fun k => [(0, .raw (self b)), (24, .slice (x.list.map eSx) .ro), (25, .raw (.int .i64 x.list.length)), (26, .raw (.int .i64 k.1))]) (fun k => k.2 ++ LF) (0, L1) ⟨by simp, by simpa using hL1⟩ ⟨rfl, rfl, rfl, rfl⟩ (.refl _) ?_
    rintro ⟨k, L2⟩ ⟨hk, hL2⟩
    dsimp only at hk hL2 ⊢
    have hsl := flatMap_take_len (l := x.list) (f := encX d) (k := k)
    refine wf ?_
    refine pwp_condD (fun hc => ?_) (fun hc => ?_)
    · have hlt : k < x.list.length := by omega
      have hel := flatMap_take_len (l := x.list) (f := encX d) (k := k + 1)
      rw [flatMap_take_succ hlt, List.length_append] at hel
      refine wz fun b5 => ?_
      refine pwp_freezeD 5 ?_
      refine wf ?_
      refine s_callR (xs := [.tmp 30, .tmp 31]) L2 LF (f := 251) (cs := []) (le_func _) rfl rfl (.refl _) _ (ih x.list[k] (hw _ (List.getElem_mem hlt)) b _ L2 hL2 (by simp only [List.length_append, List.length_cons]; omega)) fun r L3 hL3 => ?_
      refine wf ?_
      refine wf ?_
      refine ⟨(k + 1, L3), ⟨by dsimp only; omega, ?_⟩, by dsimp only; omega, ⟨rfl, rfl, rfl, rfl⟩, .refl _⟩
      dsimp only
      rw [flatMap_take_succ hlt]
      simpa using hL3
    · rw [List.take_of_length_le (by omega)] at hL2
      refine wf ?_
      refine s_callR (xs := [.tmp 34, .const (.int .u8 41)]) L2 LF (f := 272) (cs := []) (le_func _) rfl rfl (.refl _) _ (writeByte_fn b _ 41 L2 hL2 (by simp only [List.length_append, List.length_cons]; omega)) fun r L3 hL3 => ?_
      refine wf ?_
      refine wf ?_
      exact ⟨trivial, _, L3, .nil, .refl _, by simpa using hL3⟩

/-! ### Checked -/
def meas (b : Nat) (n : Int) : Res := .box b 276 [.raw (.int .i64 n), .raw (.bool false)]
set_option maxHeartbeats 1000000 in
theorem addP_fn : ∀ (d : Nat) (x : Sx), wfX d x → ∀ (b : Nat) (n lv : Int), 0 ≤ n → n + ndX d x ≤ 20000 → 1 ≤ lv → lv + d ≤ 13 → PCalls Tryz.prog 269 [.raw (self b), .agg (eSx x), .raw (.int .i64 lv)] [meas b n] (fun _ L' => L' = [meas b (n + ndX d x)])
  | 0, x, hw, _, _, _, _, _, _, _ => hw.elim
  | d + 1, x, hw, b, n, lv, hn0, hn, hl0, hl => by
    have ih := addP_fn d
    have hpos : 1 ≤ ndX (d + 1) x := by unfold ndX; split <;> omega
    refine pcalls_bd Tryz.func269 rfl Tryz.ntmps269 (rs := []) rfl rfl fun hb LF => ?_
    have hlen : x.list.length ≤ 140737488355328 := by
      have := (hb (.agg (eSx x)) (by simp)).agg_at (c := .slice (x.list.map eSx) .ro) (by rw [eSx_eq]; simp)
      exact this.slice_map
    rw [show [meas b n] ++ LF = .box b 276 [.raw (.int .i64 n), .raw (.bool false)] :: LF from rfl]
    refine wf ?_
    refine s_storeV [.raw (.int .i64 (n + 1)), .raw (.bool false)] rfl rfl rfl rfl (by simp) ?_
    refine wf ?_
    refine wf ?_
    refine pops_if (fun hp => ?_) (fun hp => ?_)
    · have := of_decide_eq_true hp; omega
    refine wf ?_
    refine pwp_condD (fun h1 => ?_) (fun h1 => ?_)
    · omega
    refine wf ?_
    refine pwp_condB (fun h2 => ?_) (fun h2 => ?_)
    · refine wf ?_
      have : x.isList = false := by simpa using h2
      exact ⟨trivial, _, [meas b (n + 1)], .nil, .refl _, by simp [ndX, this]⟩
    have hB : x.isList = true := by simpa using h2
    rcases hw with ⟨h3, _⟩ | ⟨_, _, hw⟩
    · rw [hB] at h3; cases h3
    have hnd : ndX (d + 1) x = 1 + (x.list.map (ndX d)).sum := by simp [ndX, hB]
    rw [hnd] at hn ⊢
    refine wf ?_
    refine pwp_loopS (σ := Nat) (fun k => k ≤ x.list.length) (fun k => x.list.length - k) (fun k => [(0, .raw (self b)), (2, .raw (.int .i64 lv)), (31, .slice (x.list.map eSx) .ro), (32, .raw (.int .i64 x.list.length)), (33, .raw (.int .i64 k))]) (fun k => meas b (n + (1 + ((x.list.map (ndX d)).take k).sum : Nat)) :: LF) 0 (by simp) ⟨rfl, rfl, rfl, rfl, rfl⟩ (by simp; exact .refl _) ?_
    intro k hk
    have hsk := sum_take_le (l := x.list.map (ndX d)) (k := k)
    have hsk1 := sum_take_le (l := x.list.map (ndX d)) (k := k + 1)
    refine wf ?_
    refine pwp_condD (fun hc => ?_) (fun hc => ?_)
    · have hlt : k < x.list.length := by omega
      have e : ((x.list.map (ndX d)).take (k + 1)).sum = ((x.list.map (ndX d)).take k).sum + ndX d x.list[k] := by
        rw [List.take_succ_eq_append_getElem (by simpa using hlt), List.sum_append]; simp
      refine wz fun b7 => ?_
      refine pwp_freezeD 7 ?_
      rw [show meas b (n + (1 + ((x.list.map (ndX d)).take k).sum : Nat)) :: LF = .box b 276 [.raw (.int .i64 (n + (1 + ((x.list.map (ndX d)).take k).sum : Nat))), .raw (.bool false)] :: LF from rfl]
      refine wf ?_
      refine s_callR (xs := [.tmp 41, .tmp 42, .tmp 44]) [meas b (n + (1 + ((x.list.map (ndX d)).take k).sum : Nat))] LF (f := 269) (cs := []) (le_func _) rfl rfl (.refl _) _ (ih x.list[k] (hw _ (List.getElem_mem hlt)) b _ (lv + 1) (by omega) (by omega) (by omega) (by omega)) fun r L3 hL3 => ?_
      subst hL3
      refine wf ?_
      refine wf ?_
      refine ⟨k + 1, by omega, by dsimp only; omega, ⟨rfl, rfl, rfl, rfl, rfl⟩, ?_⟩
      show (meas b (n + ((1 + ((x.list.map (ndX d)).take (k + 1)).sum : Nat) : Int)) :: LF).Sublist _
      rw [e, show n + ((1 + (((x.list.map (ndX d)).take k).sum + ndX d x.list[k]) : Nat) : Int) = n + ((1 + ((x.list.map (ndX d)).take k).sum : Nat) : Int) + (ndX d x.list[k] : Int) by omega]
      exact .refl _
    · refine wf ?_
      rw [List.take_of_length_le (by simp; omega)]
      exact ⟨trivial, _, [meas b (n + (1 + (x.list.map (ndX d)).sum : Nat))], .nil, .refl _, rfl⟩

set_option maxHeartbeats 1000000 in
theorem shapeP_fn : ∀ (d : Nat) (x : Sx), wfX d x → Q.Fn Tryz.prog 270 [.agg (eSx x)] (.raw (.int .i64 0))
  | 0, x, hw => hw.elim
  | d + 1, x, hw => by
    have ih : ∀ (y : Sx), [Small (wfX d y)] → FnC Tryz.prog 270 [.agg (eSx y)] (.raw (.int .i64 0)) := fun y h => ⟨shapeP_fn d y h.out⟩
    refine fn_of Tryz.func270 Tryz.ntmps270 rfl (rs := [.tmp 2]) rfl rfl fun hb LF => ?_
    have hlen : x.list.length ≤ 140737488355328 := by
      have := (hb (.agg (eSx x)) (by simp)).agg_at (c := .slice (x.list.map eSx) .ro) (by rw [eSx_eq]; simp)
      exact this.slice_map
    have hsh : (x.isList = true → x.atom = []) ∧ (x.isList = false → x.list = []) ∧ x.atom.length ≤ 65536 ∧ ∀ y ∈ x.list, wfX d y := by
      rcases hw with ⟨h1, h2, h3⟩ | ⟨h1, h2, h3⟩
      · exact ⟨fun h => (by rw [h1] at h; cases h), fun _ => h2, h3, fun y hy => (by rw [h2] at hy; cases hy)⟩
      · exact ⟨fun _ => h2, fun h => (by rw [h1] at h; cases h), by rw [h2]; simp, h3⟩
    refine wf ?_
    refine pops_cutE [(6, .raw (.bool (false))), (1, .pt (eSx x) 0)] (LF) ?_ ?_
    · repeat' (first | (refine pwp_condD (fun h => ?_) (fun h => ?_) <;> refine wf ?_) | (refine pwp_condN (fun h => ?_) (fun h => ?_) <;> refine wf ?_) | (refine pwp_condB (fun h => ?_) (fun h => ?_) <;> refine wf ?_) | (refine pops_if (fun h => ?_) (fun h => ?_) <;> (have h2 := h; (try simp only [decide_eq_true_eq, decide_eq_false_iff_not, Bool.not_eq_true', Bool.not_eq_false'] at h2); refine wf ?_)))
      all_goals (refine ⟨⟨holdsB (by rfl) ?_, rfl⟩, .refl _⟩; (have := hsh.1; have := hsh.2.1; cases hB : x.isList <;> simp_all))
    refine wf ?_
    refine pwp_condD (fun h5 => ?_) (fun h5 => ?_)
    · have := hsh.2.2.1; omega
    refine wf ?_
    refine pwp_loopS (σ := Nat) (fun k => k ≤ x.list.length) (fun k => x.list.length - k) (fun k => [(31, .slice (x.list.map eSx) .ro), (32, .raw (.int .i64 x.list.length)), (33, .raw (.int .i64 k))]) (fun _ => LF) 0 (by simp) ⟨rfl, rfl, rfl⟩ (.refl _) ?_
    intro k hk
    refine wf ?_
    refine pwp_condD (fun hc => ?_) (fun hc => ?_)
    · have hlt : k < x.list.length := by omega
      have : Small (wfX d x.list[k]) := ⟨hsh.2.2.2 _ (List.getElem_mem hlt)⟩
      refine wz fun b4 => ?_
      refine pwp_freezeD 4 ?_
      refine wf ?_
      exact ⟨k + 1, by omega, by dsimp only; omega, ⟨rfl, rfl, rfl⟩, .refl _⟩
    · refine wf ?_
      exact end1 (.refl _)
instance : ZeroE Tryz.prog 276 [.raw (.int .i64 0), .raw (.bool false)] := ZeroE.of (us := [PV.raw (.int .i64 0), .raw (.bool false)].map zv) (by kernel_rfl) (by kernel_rfl)
instance CheckXP_ct (x : Sx) [hs : Small (okX x)] : FnC Tryz.prog 250 [.agg (eSx x)] (.raw (.int .i64 0)) := ⟨by
  obtain ⟨h1, h2⟩ := hs.out
  have i2 : FnC Tryz.prog 270 [.agg (eSx x)] (.raw (.int .i64 0)) := ⟨shapeP_fn 8 x h1⟩
  refine fn_of Tryz.func250 Tryz.ntmps250 rfl (rs := [.tmp 2]) rfl rfl fun hb LF => ?_
  refine wkb fun b1 => ?_
  refine wkb fun b5 => ?_
  refine s_callR (xs := [.tmp 6, .tmp 7, .const (.int .i64 1)]) [meas b5 0] (.box b1 217 (eSx x) :: LF) (f := 269) (cs := []) (le_func _) rfl rfl (.refl _) _ (addP_fn 8 x h1 b5 0 1 (by omega) (by omega) (by omega) (by omega)) fun r L3 hL3 => ?_
  subst hL3
  rw [show [meas b5 (0 + ndX 8 x)] ++ (.box b1 217 (eSx x) :: LF) = .box b5 276 [.raw (.int .i64 (0 + ndX 8 x)), .raw (.bool false)] :: .box b1 217 (eSx x) :: LF from rfl]
  refine wk ?_
  refine wk ?_
  exact end1 (.refl _)⟩
instance : ZeroE Tryz.prog 260 [.raw (.pointer none), .raw (.slice none 0 0)] := ZeroE.of (us := [PV.raw (.pointer none), .raw (.slice none 0 0)].map zv) (by kernel_rfl) (by kernel_rfl)
theorem encX_ne {d : Nat} {x : Sx} (h : wfX d x) : encX d x ≠ [] := by
  cases d with
  | zero => exact h.elim
  | succ d => unfold encX; split <;> simp
instance EncodeXP_ct (x : Sx) [hs : Small (okX x ∧ (encX 8 x).length ≤ 1000000000)] : FnC Tryz.prog 215 [.agg (eSx x)] (.tuple [.str (encX 8 x), .raw (.int .i64 0)]) := ⟨by
  obtain ⟨h1, h2⟩ := hs.out
  have : Small (okX x) := ⟨h1⟩
  refine fn_of Tryz.func215 Tryz.ntmps215 rfl (rs := [.tmp 2, .tmp 3]) rfl rfl fun hb LF => ?_
  refine wfb fun b => ?_
  rw [show Res.box b 260 [.raw (.pointer none), .raw (.slice none 0 0)] :: LF = [bldB b (.pointer none) (.slice none 0 0)] ++ LF from rfl]
  refine s_callR (xs := [.tmp 5, .tmp 11]) [bldB b (.pointer none) (.slice none 0 0)] LF (f := 251) (cs := []) (le_func _) rfl rfl (.refl _) _ (encP_fn 8 x h1.1 b [] _ ⟨.pointer none, .slice none 0 0, [], .inl rfl, .nil, rfl⟩ (by simpa using h2)) fun r L1 hL1 => ?_
  rw [List.nil_append] at hL1
  refine wf ?_
  refine wf ?_
  refine s_callR (xs := [.tmp 5]) L1 LF (f := 252) (cs := []) (le_func _) rfl rfl (.refl _) _ (string_fn b (encX 8 x) L1 hL1 (encX_ne h1.1) (by omega)) fun r L2 ⟨hr, hL2⟩ => ?_
  subst hr
  subst hL2
  refine wf ?_
  refine wf ?_
  refine end2 ?_
  exact .refl _⟩
end Go.Proofs
/- Contracts of the program: patches as trees of strings. -/
namespace Go.Proofs
open Go Go.Q
attribute [local irreducible] pwp pops PCalls OpN

instance IntP_ct (n : Int) : FnC Tryz.prog 249 [.raw (.int .i64 n)] (.tuple [.agg (eSx (rInt n).1), .raw (.int .i64 (rInt n).2)]) := ⟨by
  refine fn_of Tryz.func249 Tryz.ntmps249 rfl (rs := [.cell 2 217, .tmp 3]) rfl rfl fun hb LF => ?_
  refine wfb fun b => ?_
  refine pops_cutE [(9, .raw (.bool (decide (n < -1099511627776 ∨ 1099511627776 < n)))), (0, .raw (.int .i64 n)), (2, .raw (.pointer (some ⟨b, 0, none⟩)))] (.box b 217 (eSx Sx.zero) :: LF) ?_ ?_
  · repeat' (first | (refine pwp_condD (fun h => ?_) (fun h => ?_) <;> refine wf ?_) | (refine pwp_condN (fun h => ?_) (fun h => ?_) <;> refine wf ?_) | (refine pwp_condB (fun h => ?_) (fun h => ?_) <;> refine wf ?_) | (refine pops_if (fun h => ?_) (fun h => ?_) <;> (have h2 := h; (try simp only [decide_eq_true_eq, decide_eq_false_iff_not, Bool.not_eq_true', Bool.not_eq_false'] at h2); refine wf ?_)))
    all_goals (refine ⟨⟨holdsB (by rfl) ?_, rfl, rfl⟩, .refl _⟩; first | (simp_all; done) | grind)
  refine wf ?_
  refine pwp_condD (fun h => ?_) (fun h => ?_)
  · refine wf ?_
    refine endC1 rfl (.of_eq ?_)
    rw [rInt, if_pos h]
  · have : Small (-140737488355328 ≤ n ∧ n ≤ 140737488355328) := ⟨by omega⟩
    refine wf ?_
    refine endC1 rfl (.of_eq ?_)
    rw [rInt, if_neg h]; rfl⟩
instance atomP_ct (s : Str) : FnC Tryz.prog 212 [.str s] (.agg (eSx (sAtom s))) := ⟨by
  refine fn_of Tryz.func212 Tryz.ntmps212 rfl (rs := [.cell 2 217]) rfl rfl fun hb LF => ?_
  refine wfb fun b => ?_
  refine endC rfl (.of_eq ?_)
  rfl⟩
/-- A list whose elements may still grow in number. -/
@[reducible] def lsC (l : List Sx) (t : Tag) : List PV := [.raw (.bool true), .str [], .slice (l.map eSx) t]
theorem lsC_ro (l : List Sx) : lsC l .ro = eSx (sList l) := by rw [eSx_eq]; rfl
theorem lsC_le (l : List Sx) (t : Tag) : Le (.agg (lsC l t)) (.agg (eSx (sList l))) := fun g v hv => by
  obtain ⟨vs, rfl, h⟩ := hv.agg_inv
  match vs, h with
  | [a, b, c], h =>
    rw [← lsC_ro]
    exact VRl.agg (.cons h.uncons.1 (.cons h.uncons.2.uncons.1 (.cons h.uncons.2.uncons.2.uncons.1.ro (.nil g))))
  | [], h => have := h.len; simp at this
  | [_], h => have := h.len; simp at this
  | [_, _], h => have := h.len; simp at this
  | _ :: _ :: _ :: _ :: _, h => have := h.len; simp at this
instance (l : List Sx) (t : Tag) : EncC (.agg (lsC l t)) eSx (sList l) := ⟨fun g v hv => Cells.agg _ g v (lsC_le l t g v hv)⟩
instance {x y z : PV} : At [x, y, z] 2 z := ⟨rfl⟩
instance (c : Sx) (l : List Sx) (t : Tag) : Put (eSx c) 0 (lsC l t) (lsC l t) := ⟨by rw [eSx_eq]; simp⟩
instance (l : List Sx) (t : Tag) : LenIs (lsC l t) 3 := ⟨rfl⟩
instance (l : List Sx) (t : Tag) : Flat (lsC l t) := by unfold lsC; infer_instance
theorem list_any (l : List Sx) (t : Tag) : Q.Fn Tryz.prog 211 [.slice (l.map eSx) t] (.agg (lsC l t)) := by
  refine fn_of Tryz.func211 Tryz.ntmps211 rfl (rs := [.cell 2 217]) rfl rfl fun hb LF => ?_
  refine pwp_seq ?_
  refine pwp_region (by kernel_rfl) ?_
  refine s_alloc fun b => ?_
  refine pops_nil ?_
  refine pwp_seq ?_
  refine pwp_region (by kernel_rfl) ?_
  refine s_moveN (by (conv => lhs; whnf); done) ?_
  refine s_build2 (z := eSx Sx.zero) (c0 := [.raw (.bool true)]) (c1 := [.slice (l.map eSx) t]) (r1 := lsC l t) (hP0 := ⟨rfl, by simp⟩) (hP1 := ⟨rfl, by simp⟩) ?_ ?_ rfl rfl ?_
  · exact Cells.one (c := .raw (.bool true)) Flat.out
  · exact Cells.one (c := .slice (l.map eSx) t) Flat.out
  refine wf ?_
  exact endC rfl (.refl _)
instance listR_ct (l : List Sx) : FnC Tryz.prog 211 [.slice (l.map eSx) .ro] (.agg (eSx (sList l))) := ⟨lsC_ro l ▸ list_any l .ro⟩
instance (priority := low) listT_ct (l : List Sx) (t : Tag) : FnC Tryz.prog 211 [.slice (l.map eSx) t] (.agg (lsC l t)) := ⟨list_any l t⟩
instance listN_ct : FnC Tryz.prog 211 [.slice [] .nil] (.agg (lsC [] .nil)) := ⟨list_any [] .nil⟩
instance numberP_ct (n : Int) : FnC Tryz.prog 214 [.raw (.int .i64 n)] (.agg (eSx (sNum n))) := ⟨by
  refine fn_of Tryz.func214 Tryz.ntmps214 rfl (rs := [.cell 2 217]) rfl rfl fun hb LF => ?_
  refine wfb fun b => ?_
  refine wfb fun b2 => ?_
  refine endC rfl (.of_eq ?_)
  rfl⟩
instance encodeIdP_ct (x : Ident) : FnC Tryz.prog 241 [.agg (eIdent x)] (.agg (eSx (sRef x))) := ⟨by
  refine fn_of Tryz.func241 Tryz.ntmps241 rfl (rs := [.cell 2 217]) rfl rfl fun hb LF => ?_
  refine wf ?_
  refine s_alloc fun b => ?_
  refine wn ?_
  refine pwp_condD (fun h => ?_) (fun h => ?_)
  · refine wn ?_
    refine pwp_drawN 6 ?_ ?_
    · decide +kernel
    refine wf ?_
    refine endC rfl (.of_eq ?_)
    rw [sRef, sDig, if_pos h]
  · refine wn ?_
    refine pwp_drawN 9 ?_ ?_
    · decide +kernel
    refine wf ?_
    refine endC rfl (.of_eq ?_)
    rw [sRef, sDig, if_neg h]⟩

set_option maxHeartbeats 1000000 in
instance overP_ct (l : List Ident) (t : Tag) [hs : Small (l.length ≤ 1000000)] : FnC Tryz.prog 242 [.slice (l.map eIdent) t] (.agg (eSx (sOver l))) := ⟨by
  refine fn_of Tryz.func242 Tryz.ntmps242 rfl (rs := [.cell 2 217]) rfl rfl fun hb LF => ?_
  have hlen := hs.out
  refine wfb fun b => ?_
  refine wfb fun b3 => ?_
  refine pwp_tok 3 ?_
  refine pwp_loopS (σ := Nat × Tag × List Sx) (fun k => k.1 ≤ l.length ∧ k.2.2 = (l.take k.1).map sRef) (fun k => l.length - k.1) (fun k => [(2, .raw (.pointer (some ⟨b, 0, none⟩))), (3, .raw (.pointer (some ⟨b3, 0, none⟩))), (7, .slice (l.map eIdent) t), (8, .raw (.int .i64 l.length)), (9, .raw (.int .i64 k.1))]) (fun k => .tok k.2.1 k.2.2.length 3 :: .box b3 217 (lsC k.2.2 k.2.1) :: .box b 217 (eSx Sx.zero) :: LF) (0, .nil, []) ⟨by simp, by simp⟩ ⟨rfl, rfl, rfl, rfl, rfl⟩ (.refl _) ?_
  rintro ⟨k, v, out⟩ ⟨hk, he⟩
  dsimp only at hk he
  have hol : out.length = k := by rw [he]; simp; omega
  refine wf ?_
  refine pwp_condD (fun hc => ?_) (fun hc => ?_)
  · have hlt : k < l.length := by omega
    have ee : (l.take (k + 1)).map sRef = out ++ [sRef l[k]] := by rw [List.take_succ_eq_append_getElem hlt, List.map_append, he]; rfl
    refine wz fun b5 => ?_
    refine pwp_freezeD 5 ?_
    refine wn ?_
    refine pwp_drawN 5 ?_ ?_
    · decide +kernel
    refine wfa fun v' => ?_
    refine s_storeP (ay := .slice ((out ++ [sRef l[k]]).map eSx) v') (lsC (out ++ [sRef l[k]]) v') rfl rfl Flat.out rfl (by simp) ?_
    refine wf ?_
    refine wf ?_
    exact ⟨(k + 1, v', out ++ [sRef l[k]]), ⟨by dsimp only; omega, ee.symm⟩, by dsimp only; omega, ⟨rfl, rfl, rfl, rfl, rfl⟩, .refl _⟩
  · rw [List.take_of_length_le (by omega)] at he
    refine wf ?_
    refine endC rfl ?_
    rw [sOver, ← he]
    exact lsC_le _ _⟩
set_option maxHeartbeats 1000000 in
instance encodeLinesP_ct (l : List Str) (t : Tag) [hs : Small (l.length ≤ 1000000)] : FnC Tryz.prog 246 [.slice (l.map eS) t] (.agg (eSx (sList (l.map sAtom)))) := ⟨by
  refine fn_of Tryz.func246 Tryz.ntmps246 rfl (rs := [.cell 2 217]) rfl rfl fun hb LF => ?_
  have hlen := hs.out
  refine wfb fun b => ?_
  refine wfb fun b3 => ?_
  refine pwp_tok 3 ?_
  refine pwp_loopS (σ := Nat × Tag × List Sx) (fun k => k.1 ≤ l.length ∧ k.2.2 = (l.take k.1).map sAtom) (fun k => l.length - k.1) (fun k => [(2, .raw (.pointer (some ⟨b, 0, none⟩))), (3, .raw (.pointer (some ⟨b3, 0, none⟩))), (7, .slice (l.map eS) t), (8, .raw (.int .i64 l.length)), (9, .raw (.int .i64 k.1))]) (fun k => .tok k.2.1 k.2.2.length 3 :: .box b3 217 (lsC k.2.2 k.2.1) :: .box b 217 (eSx Sx.zero) :: LF) (0, .nil, []) ⟨by simp, by simp⟩ ⟨rfl, rfl, rfl, rfl, rfl⟩ (.refl _) ?_
  rintro ⟨k, v, out⟩ ⟨hk, he⟩
  dsimp only at hk he
  have hol : out.length = k := by rw [he]; simp; omega
  refine wf ?_
  refine pwp_condD (fun hc => ?_) (fun hc => ?_)
  · have hlt : k < l.length := by omega
    have ee : (l.take (k + 1)).map sAtom = out ++ [sAtom l[k]] := by rw [List.take_succ_eq_append_getElem hlt, List.map_append, he]; rfl
    refine wn ?_
    refine pwp_drawN 5 ?_ ?_
    · decide +kernel
    refine wfa fun v' => ?_
    refine s_storeP (ay := .slice ((out ++ [sAtom l[k]]).map eSx) v') (lsC (out ++ [sAtom l[k]]) v') rfl rfl Flat.out rfl (by simp) ?_
    refine wf ?_
    refine wf ?_
    exact ⟨(k + 1, v', out ++ [sAtom l[k]]), ⟨by dsimp only; omega, ee.symm⟩, by dsimp only; omega, ⟨rfl, rfl, rfl, rfl, rfl⟩, .refl _⟩
  · rw [List.take_of_length_le (by omega)] at he
    refine wf ?_
    refine endC rfl ?_
    rw [← he]
    exact lsC_le _ _⟩
end Go.Proofs
/- Contracts of the program: a patch encoded. -/
namespace Go.Proofs
open Go Go.Q
attribute [local irreducible] pwp pops PCalls OpN

def fd1 (c : Chg) : List Sx := [sNum c.type]
def fd2 (c : Chg) : List Sx := [sRef c.file, sRef c.parent, sAtom c.name, sOver c.over]
def fd3 (c : Chg) : List Sx := [sRef c.file, sNum c.mode, sOver c.over]
def fd4 (c : Chg) : List Sx := [sRef c.file, sAtom c.data, sOver c.over]
def fd5 (c : Chg) : List Sx := [sRef c.file, sRef c.after, sRef c.before, sList (c.lines.map sAtom)]
def fd6 (c : Chg) : List Sx := [sRef c.file, sRef c.after, sRef c.before, sOver c.over]
def fd7 (c : Chg) : List Sx := [sOver c.over]
instance fd1_ct (c : Chg) [hs : Small (c.lines.length ≤ 100000 ∧ c.over.length ≤ 100000)] : FnC Tryz.prog 239 [.agg (eChg c)] (.slice ((fd1 c).map eSx) .ro) := ⟨by
  obtain ⟨h1, h2⟩ := hs.out
  have i1 : Small (c.over.length ≤ 1000000) := ⟨by omega⟩
  have i2 : Small (c.lines.length ≤ 1000000) := ⟨by omega⟩
  refine fn_of Tryz.func239 Tryz.ntmps239 rfl (rs := [.tmp 2]) rfl rfl fun hb LF => ?_
  refine wf ?_
  refine end1 (.of_eq ?_)
  rfl⟩
instance fd2_ct (c : Chg) [hs : Small (c.lines.length ≤ 100000 ∧ c.over.length ≤ 100000)] : FnC Tryz.prog 240 [.agg (eChg c)] (.slice ((fd2 c).map eSx) .ro) := ⟨by
  obtain ⟨h1, h2⟩ := hs.out
  have i1 : Small (c.over.length ≤ 1000000) := ⟨by omega⟩
  have i2 : Small (c.lines.length ≤ 1000000) := ⟨by omega⟩
  refine fn_of Tryz.func240 Tryz.ntmps240 rfl (rs := [.tmp 2]) rfl rfl fun hb LF => ?_
  refine wn ?_
  refine pwp_drawN 14 ?_ ?_
  · decide +kernel
  refine wf ?_
  refine end1 (.of_eq ?_)
  rfl⟩
instance fd3_ct (c : Chg) [hs : Small (c.lines.length ≤ 100000 ∧ c.over.length ≤ 100000)] : FnC Tryz.prog 243 [.agg (eChg c)] (.slice ((fd3 c).map eSx) .ro) := ⟨by
  obtain ⟨h1, h2⟩ := hs.out
  have i1 : Small (c.over.length ≤ 1000000) := ⟨by omega⟩
  have i2 : Small (c.lines.length ≤ 1000000) := ⟨by omega⟩
  refine fn_of Tryz.func243 Tryz.ntmps243 rfl (rs := [.tmp 2]) rfl rfl fun hb LF => ?_
  refine wn ?_
  refine pwp_drawN 11 ?_ ?_
  · decide +kernel
  refine wf ?_
  refine end1 (.of_eq ?_)
  rfl⟩
instance fd4_ct (c : Chg) [hs : Small (c.lines.length ≤ 100000 ∧ c.over.length ≤ 100000)] : FnC Tryz.prog 244 [.agg (eChg c)] (.slice ((fd4 c).map eSx) .ro) := ⟨by
  obtain ⟨h1, h2⟩ := hs.out
  have i1 : Small (c.over.length ≤ 1000000) := ⟨by omega⟩
  have i2 : Small (c.lines.length ≤ 1000000) := ⟨by omega⟩
  refine fn_of Tryz.func244 Tryz.ntmps244 rfl (rs := [.tmp 2]) rfl rfl fun hb LF => ?_
  refine wn ?_
  refine pwp_drawN 11 ?_ ?_
  · decide +kernel
  refine wf ?_
  refine end1 (.of_eq ?_)
  rfl⟩
instance fd5_ct (c : Chg) [hs : Small (c.lines.length ≤ 100000 ∧ c.over.length ≤ 100000)] : FnC Tryz.prog 245 [.agg (eChg c)] (.slice ((fd5 c).map eSx) .ro) := ⟨by
  obtain ⟨h1, h2⟩ := hs.out
  have i1 : Small (c.over.length ≤ 1000000) := ⟨by omega⟩
  have i2 : Small (c.lines.length ≤ 1000000) := ⟨by omega⟩
  refine fn_of Tryz.func245 Tryz.ntmps245 rfl (rs := [.tmp 2]) rfl rfl fun hb LF => ?_
  refine wn ?_
  refine pwp_drawN 14 ?_ ?_
  · decide +kernel
  refine wf ?_
  refine end1 (.of_eq ?_)
  rfl⟩
instance fd6_ct (c : Chg) [hs : Small (c.lines.length ≤ 100000 ∧ c.over.length ≤ 100000)] : FnC Tryz.prog 247 [.agg (eChg c)] (.slice ((fd6 c).map eSx) .ro) := ⟨by
  obtain ⟨h1, h2⟩ := hs.out
  have i1 : Small (c.over.length ≤ 1000000) := ⟨by omega⟩
  have i2 : Small (c.lines.length ≤ 1000000) := ⟨by omega⟩
  refine fn_of Tryz.func247 Tryz.ntmps247 rfl (rs := [.tmp 2]) rfl rfl fun hb LF => ?_
  refine wn ?_
  refine pwp_drawN 14 ?_ ?_
  · decide +kernel
  refine wf ?_
  refine end1 (.of_eq ?_)
  rfl⟩
instance fd7_ct (c : Chg) [hs : Small (c.lines.length ≤ 100000 ∧ c.over.length ≤ 100000)] : FnC Tryz.prog 248 [.agg (eChg c)] (.slice ((fd7 c).map eSx) .ro) := ⟨by
  obtain ⟨h1, h2⟩ := hs.out
  have i1 : Small (c.over.length ≤ 1000000) := ⟨by omega⟩
  have i2 : Small (c.lines.length ≤ 1000000) := ⟨by omega⟩
  refine fn_of Tryz.func248 Tryz.ntmps248 rfl (rs := [.tmp 2]) rfl rfl fun hb LF => ?_
  refine wf ?_
  refine end1 (.of_eq ?_)
  rfl⟩
def fTab : List (Int × PV) := [(1, .raw (.func (.func 239) #[] #[])), (2, .raw (.func (.func 240) #[] #[])), (3, .raw (.func (.func 243) #[] #[])), (4, .raw (.func (.func 244) #[] #[])), (5, .raw (.func (.func 245) #[] #[])), (6, .raw (.func (.func 247) #[] #[])), (7, .raw (.func (.func 248) #[] #[]))]
theorem fieldsTab_fn : PCalls Tryz.prog 213 [] [] (fun r L' => ∃ b, r = .raw (.map (some b)) ∧ L' = [.map b (eMap kInt vId fTab)]) := by
  refine pcalls_bd Tryz.func213 rfl Tryz.ntmps213 (rs := [.tmp 0]) rfl rfl fun hb LF => ?_
  rw [List.nil_append]
  refine wfm fun b => ?_
  exact ⟨trivial, _, [.map b (eMap kInt vId fTab)], .cons (.tmp 0) .nil, .refl _, b, rfl, rfl⟩
def fOf (k : Int) : Nat := if k = 1 then 239 else if k = 2 then 240 else if k = 3 then 243 else if k = 4 then 244 else if k = 5 then 245 else if k = 6 then 247 else 248
def fdOf (c : Chg) : List Sx := if c.kind = 1 then fd1 c else if c.kind = 2 then fd2 c else if c.kind = 3 then fd3 c else if c.kind = 4 then fd4 c else if c.kind = 5 then fd5 c else if c.kind = 6 then fd6 c else fd7 c
theorem fdOf_len (c : Chg) : (fdOf c).length ≤ 4 := by
  unfold fdOf
  repeat' split
  all_goals simp [fd1, fd2, fd3, fd4, fd5, fd6, fd7]
theorem kinds {k : Int} (h : 1 ≤ k ∧ k ≤ 7) : k = 1 ∨ k = 2 ∨ k = 3 ∨ k = 4 ∨ k = 5 ∨ k = 6 ∨ k = 7 := by omega
theorem fTab_get {k : Int} (h : 1 ≤ k ∧ k ≤ 7) : vId ((mGet k fTab).getD (.raw .nilFunc)) = .raw (.func (.func (fOf k)) #[] #[]) := by
  rcases kinds h with h | h | h | h | h | h | h <;> (subst h; rfl)
theorem fOf_fun {k : Int} (h : 1 ≤ k ∧ k ≤ 7) : TFun Tryz.prog (fOf k) := by
  rcases kinds h with h | h | h | h | h | h | h <;> (subst h; simp only [fOf]; first | exact (inferInstance : TFun Tryz.prog 239) | exact (inferInstance : TFun Tryz.prog 240) | exact (inferInstance : TFun Tryz.prog 243) | exact (inferInstance : TFun Tryz.prog 244) | exact (inferInstance : TFun Tryz.prog 245) | exact (inferInstance : TFun Tryz.prog 247) | exact (inferInstance : TFun Tryz.prog 248))
theorem fd_call (c : Chg) (h : 1 ≤ c.kind ∧ c.kind ≤ 7) [hs : Small (c.lines.length ≤ 100000 ∧ c.over.length ≤ 100000)] : Q.Fn Tryz.prog (fOf c.kind) [.agg (eChg c)] (.slice ((fdOf c).map eSx) .ro) := by
  unfold fOf fdOf
  by_cases h1 : c.kind = 1
  · rw [if_pos h1, if_pos h1]; exact (fd1_ct c).out
  by_cases h2 : c.kind = 2
  · rw [if_neg h1, if_neg h1, if_pos h2, if_pos h2]; exact (fd2_ct c).out
  by_cases h3 : c.kind = 3
  · rw [if_neg h1, if_neg h1, if_neg h2, if_neg h2, if_pos h3, if_pos h3]; exact (fd3_ct c).out
  by_cases h4 : c.kind = 4
  · rw [if_neg h1, if_neg h1, if_neg h2, if_neg h2, if_neg h3, if_neg h3, if_pos h4, if_pos h4]; exact (fd4_ct c).out
  by_cases h5 : c.kind = 5
  · rw [if_neg h1, if_neg h1, if_neg h2, if_neg h2, if_neg h3, if_neg h3, if_neg h4, if_neg h4, if_pos h5, if_pos h5]; exact (fd5_ct c).out
  by_cases h6 : c.kind = 6
  · rw [if_neg h1, if_neg h1, if_neg h2, if_neg h2, if_neg h3, if_neg h3, if_neg h4, if_neg h4, if_neg h5, if_neg h5, if_pos h6, if_pos h6]; exact (fd6_ct c).out
  rw [if_neg h1, if_neg h1, if_neg h2, if_neg h2, if_neg h3, if_neg h3, if_neg h4, if_neg h4, if_neg h5, if_neg h5, if_neg h6, if_neg h6]; exact (fd7_ct c).out

/-! ### The whole -/
def sChgP (c : Chg) : Sx := sList ([sNum c.kind] ++ fdOf c)
def sPatP (p : Pat) : Sx := sList [sAtom [113, 117, 105, 108, 116, 49], sAtom p.author, sAtom p.message, sNum p.time, sList (p.deps.map fun d => sAtom d.bs), sList (p.changes.map sChgP)]
theorem sChgP_eq {c : Chg} (h : 1 ≤ c.kind ∧ c.kind ≤ 7) : sChgP c = sChg c := by
  unfold sChgP sChg sChg1 sChg2 sChg3 fdOf
  rcases kinds h with h | h | h | h | h | h | h <;> simp [h, fd1, fd2, fd3, fd4, fd5, fd6, fd7]
theorem sPatP_eq {p : Pat} (hd : ∀ d ∈ p.deps, d ≠ Dig.zero) (hk : ∀ c ∈ p.changes, 1 ≤ c.kind ∧ c.kind ≤ 7) : sPatP p = sPat p := by
  unfold sPatP sPat
  rw [List.map_congr_left (f := fun d : Dig => sAtom d.bs) (g := sDig) (fun d h => by rw [sDig, if_neg (hd d h)]), List.map_congr_left (f := sChgP) (g := sChg) (fun c h => sChgP_eq (hk c h))]

structure encOkP (p : Pat) : Prop where
  ok : encOk p
  deps : ∀ d ∈ p.deps, d ≠ Dig.zero
  kinds : ∀ c ∈ p.changes, 1 ≤ c.kind ∧ c.kind ≤ 7
set_option maxHeartbeats 2000000 in
instance encodePP_ct (p : Pat) [hs : Small (encOkP p)] : FnC Tryz.prog 171 [.agg (ePat p)] (.tuple [.str (rEnc p), .raw (.int .i64 0)]) := ⟨by
  refine fn_of Tryz.func171 Tryz.ntmps171 rfl (rs := [.tmp 2, .tmp 3]) rfl rfl fun hb LF => ?_
  have hd := hs.out.ok.deps
  have hch := hs.out.ok.chgs
  refine wfb fun b4 => ?_
  refine s_alloc fun b5 => ?_
  refine wf ?_
  refine pwp_tok 3 ?_
  refine pwp_loopS (σ := Nat × Tag × List Sx) (fun k => k.1 ≤ p.deps.length ∧ k.2.2 = (p.deps.take k.1).map fun d => sAtom d.bs) (fun k => p.deps.length - k.1) (fun k => [(1, .pt (ePat p) 0), (4, .raw (.pointer (some ⟨b4, 0, none⟩))), (5, .raw (.pointer (some ⟨b5, 0, none⟩))), (15, .slice (p.deps.map eDig) .ro), (16, .raw (.int .i64 p.deps.length)), (17, .raw (.int .i64 k.1))]) (fun k => .tok k.2.1 k.2.2.length 3 :: .box b5 217 (lsC [] .nil) :: .box b4 217 (lsC k.2.2 k.2.1) :: LF) (0, .nil, []) ⟨by simp, by simp⟩ ⟨rfl, rfl, rfl, rfl, rfl, rfl⟩ (.refl _) ?_
  rintro ⟨k, v, l⟩ ⟨hk, he⟩
  dsimp only at hk he
  have hll : l.length = k := by rw [he]; simp; omega
  refine wf ?_
  refine pwp_condD (fun hc => ?_) (fun hc => ?_)
  · have hlt : k < p.deps.length := by omega
    have ee : (p.deps.take (k + 1)).map (fun d => sAtom d.bs) = l ++ [sAtom p.deps[k].bs] := by rw [List.take_succ_eq_append_getElem hlt, List.map_append, he]; rfl
    refine wz fun b7 => ?_
    refine pwp_freezeD 7 ?_
    refine wn ?_
    refine pwp_drawN 6 ?_ ?_
    · decide +kernel
    refine wfa fun v' => ?_
    refine s_storeP (ay := .slice ((l ++ [sAtom p.deps[k].bs]).map eSx) v') (lsC (l ++ [sAtom p.deps[k].bs]) v') rfl rfl Flat.out rfl (by simp) ?_
    refine wf ?_
    refine wf ?_
    exact ⟨(k + 1, v', l ++ [sAtom p.deps[k].bs]), ⟨by dsimp only; omega, ee.symm⟩, by dsimp only; omega, ⟨rfl, rfl, rfl, rfl, rfl, rfl⟩, .refl _⟩
  rw [List.take_of_length_le (by omega)] at he
  clear hll
  refine wf ?_
  refine s_callR (xs := []) [] (.tok v l.length 3 :: .box b5 217 (lsC [] .nil) :: .box b4 217 (lsC l v) :: LF) (f := 213) (cs := []) (le_func _) rfl rfl (.refl _) _ fieldsTab_fn fun r L1 ⟨bm, hr, hL1⟩ => ?_
  subst hr
  subst hL1
  refine wo ?_
  refine pops_nil ?_
  refine pwp_freezeM [(1, .pt (ePat p) 0), (4, .raw (.pointer (some ⟨b4, 0, none⟩))), (5, .raw (.pointer (some ⟨b5, 0, none⟩))), (8, .fmap (eMap kInt vId fTab))] ⟨.inl rfl, .inl rfl, .inl rfl, .inr ⟨rfl, rfl⟩⟩ (.refl _) ?_
  refine wf ?_
  refine pwp_tok 3 ?_
  refine pwp_loopS (σ := Nat × Tag × List Sx) (fun k => k.1 ≤ p.changes.length ∧ k.2.2 = (p.changes.take k.1).map sChgP) (fun k => p.changes.length - k.1) (fun k => [(1, .pt (ePat p) 0), (4, .raw (.pointer (some ⟨b4, 0, none⟩))), (5, .raw (.pointer (some ⟨b5, 0, none⟩))), (8, .fmap (eMap kInt vId fTab)), (32, .slice (p.changes.map eChg) .ro), (33, .raw (.int .i64 p.changes.length)), (34, .raw (.int .i64 k.1))]) (fun k => .tok k.2.1 k.2.2.length 3 :: .box b5 217 (lsC k.2.2 k.2.1) :: .box b4 217 (lsC l v) :: LF) (0, .nil, []) ⟨by simp, by simp⟩ ⟨rfl, rfl, rfl, rfl, rfl, rfl, rfl⟩ (.cons_cons _ (.cons _ (.refl _))) ?_
  rintro ⟨k, u, m⟩ ⟨hk, hm⟩
  dsimp only at hk hm
  have hml : m.length = k := by rw [hm]; simp; omega
  refine wf ?_
  refine pwp_condD (fun hc => ?_) (fun hc => ?_)
  · have hlt : k < p.changes.length := by omega
    have ee : (p.changes.take (k + 1)).map sChgP = m ++ [sChgP p.changes[k]] := by rw [List.take_succ_eq_append_getElem hlt, List.map_append, hm]; rfl
    have hcc := hs.out.ok.chg _ (List.getElem_mem hlt)
    have hkc := hs.out.kinds _ (List.getElem_mem hlt)
    have : Small (p.changes[k].lines.length ≤ 100000 ∧ p.changes[k].over.length ≤ 100000) := ⟨hcc⟩
    have hfun := fOf_fun hkc
    have hfl := fdOf_len p.changes[k]
    refine wz fun b10 => ?_
    refine pwp_freezeD 10 ?_
    refine pwp_seq ?_
    refine pwp_region (by kernel_rfl) ?_
    refine s_fldF (by rfl) (hr := (by first | infer_instance | fail)) ?_
    refine s_loadS (by rfl) rfl ?_
    refine j_call1 (by (conv => lhs; whnf); done) (hN0 := (by first | infer_instance | fail)) (hc := (by first | infer_instance | fail)) ?_
    refine s_bsT1 (by (conv => lhs; whnf); done) (hC0 := (by first | infer_instance | fail)) (hf := (by first | infer_instance | fail)) (by decide) fun t => ?_
    refine wz fun b11 => ?_
    refine wn ?_
    refine pwp_drawN 8 ?_ ?_
    · decide +kernel
    refine wf ?_
    refine s_callV (xs := [.tmp 49]) (f := fOf p.changes[k].kind) (cs := []) (by show Le (vId ((mGet p.changes[k].kind fTab).getD (.raw .nilFunc))) _; rw [fTab_get hkc]; exact le_func _) rfl rfl (fd_call p.changes[k] hkc) ?_
    refine wfa fun v' => ?_
    refine s_storeP (ay := .slice (([sNum p.changes[k].kind] ++ fdOf p.changes[k]).map eSx) v') (lsC ([sNum p.changes[k].kind] ++ fdOf p.changes[k]) v') rfl rfl Flat.out rfl (by simp) ?_
    refine wf ?_
    refine wfa fun u' => ?_
    refine s_storeP (ay := .slice ((m ++ [sChgP p.changes[k]]).map eSx) u') (lsC (m ++ [sChgP p.changes[k]]) u') rfl rfl Flat.out rfl (by simp) ?_
    refine wf ?_
    exact ⟨(k + 1, u', m ++ [sChgP p.changes[k]]), ⟨by dsimp only; omega, ee.symm⟩, by dsimp only; omega, ⟨rfl, rfl, rfl, rfl, rfl, rfl, rfl⟩, by dsimp only; repeat (first | exact List.Sublist.refl _ | apply List.Sublist.cons_cons | apply List.Sublist.cons)⟩
  rw [List.take_of_length_le (by omega)] at hm
  have e : sPat p = sList [sAtom [113, 117, 105, 108, 116, 49], sAtom p.author, sAtom p.message, sNum p.time, sList l, sList m] := by rw [← sPatP_eq hs.out.deps hs.out.kinds, sPatP, ← he, ← hm]
  have i1 : Small (okX (sList [sAtom [113, 117, 105, 108, 116, 49], sAtom p.author, sAtom p.message, sNum p.time, sList l, sList m]) ∧ (encX 8 (sList [sAtom [113, 117, 105, 108, 116, 49], sAtom p.author, sAtom p.message, sNum p.time, sList l, sList m])).length ≤ 1000000000) := by
    rw [← e]; exact ⟨hs.out.ok.ok, hs.out.ok.len⟩
  refine wf ?_
  refine end2 ?_
  rw [rEnc, e]
  exact .refl _⟩
end Go.Proofs
