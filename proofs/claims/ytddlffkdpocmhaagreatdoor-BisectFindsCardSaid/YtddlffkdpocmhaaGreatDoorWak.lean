/- The small logic: slices sorted in place, by what the kit's shelf proves. Library, no statement of its own. -/
import Derived.Test.YtddlffkdpocmhaaGreatDoorWaj
import Derived.Shelf.SlSortCmp.NoneTotal
import Derived.ProofKit
import Derived.SizedLaws
import Derived.OpenShut
import Derived.Test.YtddlffkdpocmhaaGreatDoorWag
import Derived.Test.YtddlffkdpocmhaaGreatDoorWaf
set_option linter.unusedSimpArgs false
set_option linter.unusedVariables false
namespace Go.Q
open Go Go.Proofs Go.Sort

theorem flatMap_at {α : Type} {k : Nat} (hk0 : 0 < k) {enc : α → List Value} (hk : ∀ x, (enc x).length = k) : ∀ (l : List α) (t : Nat), (l.flatMap enc)[t]? = (l[t / k]?).bind fun x => (enc x)[t % k]?
  | [], t => by simp
  | x :: l, t => by
    rw [List.flatMap_cons]
    by_cases h : t < k
    · rw [List.getElem?_append_left (by rw [hk]; exact h), Nat.div_eq_of_lt h, Nat.mod_eq_of_lt h]
      simp
    · rw [List.getElem?_append_right (by rw [hk]; omega), hk, flatMap_at hk0 hk l (t - k)]
      have e1 : t / k = (t - k) / k + 1 := by
        rw [Nat.div_eq_sub_div hk0 (by omega)]
      have e2 : t % k = (t - k) % k := Nat.mod_eq_sub_mod (by omega)
      rw [e1, e2]
      simp
theorem flatMap_len {α : Type} {k : Nat} {enc : α → List Value} (hk : ∀ x, (enc x).length = k) (l : List α) : (l.flatMap enc).length = l.length * k := by
  induction l with
  | nil => simp
  | cons x l ih => rw [List.flatMap_cons, List.length_append, hk, ih, List.length_cons, Nat.add_mul]; omega
theorem flatK_eq {α : Type} [Inhabited α] {k : Nat} (hk0 : 0 < k) {enc : α → List Value} (hk : ∀ x, (enc x).length = k) (l : List α) : (flatK enc k l.toArray).toList = l.flatMap enc := by
  refine List.ext_getElem? fun t => ?_
  rw [flatMap_at hk0 hk]
  by_cases h : t < l.length * k
  · have h1 : t / k < l.length := Nat.div_lt_of_lt_mul (by rw [Nat.mul_comm]; exact h)
    have h2 : t % k < k := Nat.mod_lt _ hk0
    have h3 : t < (flatK enc k l.toArray).toList.length := by simpa using h
    rw [List.getElem?_eq_getElem h3, List.getElem?_eq_getElem h1]
    simp only [Option.bind_some]
    rw [List.getElem?_eq_getElem (by rw [hk]; exact h2)]
    congr 1
    have := get_flatK enc k l.toArray t (by simpa using h)
    simp only [Array.getElem_toList]
    rw [getElem!_pos _ t (by simpa using h)] at this
    rw [this]
    simp [h1, getElem!_pos, hk, h2]
  · rw [List.getElem?_eq_none (by simpa using h)]
    have : ¬ t / k < l.length := fun h' => h (by
      have := Nat.lt_mul_of_div_lt h' hk0
      first | exact this | (rw [Nat.mul_comm]; exact this))
    rw [List.getElem?_eq_none (by omega)]
    rfl
section
variable {α : Type} [Inhabited α] {enc : α → List Value} {k : Nat} {w : World} {r : Nat} {cur : Array Value} {E : Nat}
theorem sortWorld_row (h : w.heap[r]? = some (.cells cur E (0, 0))) (m : Nat) (dk : Array α) (os : Array Obj) : (sortWorldK enc k w r 0 m dk os).heap[r]? = some (.cells (putCells id 0 (flatK enc k dk) cur) E (0, 0)) := by
  have hlt := (Array.getElem?_eq_some_iff.1 h).1
  show ((w.heap.modify r (onCells (putCells id 0 (flatK enc k dk)))) ++ os)[r]? = _
  rw [Array.getElem?_append_left (by simpa using hlt), Array.getElem?_modify, if_pos rfl, h]
  rfl
theorem sortWorld_other (m : Nat) (dk : Array α) (os : Array Obj) : ∀ b, b < w.heap.size → b ≠ r → (sortWorldK enc k w r 0 m dk os).heap[b]? = w.heap[b]? := fun b hb hn => by
  show ((w.heap.modify r (onCells (putCells id 0 (flatK enc k dk)))) ++ os)[b]? = _
  rw [Array.getElem?_append_left (by simpa using hb), Array.getElem?_modify, if_neg (Ne.symm hn)]
theorem sortWorld_size (m : Nat) (dk : Array α) (os : Array Obj) : w.heap.size ≤ (sortWorldK enc k w r 0 m dk os).heap.size := by
  show _ ≤ ((w.heap.modify r (onCells (putCells id 0 (flatK enc k dk)))) ++ os).size
  simp
theorem putCells_take (F : Array Value) (h : F.size ≤ cur.size) : (putCells id 0 F cur).toList.take F.size = F.toList := by
  refine List.ext_getElem (by simp [putCells]; omega) fun j h1 h2 => ?_
  have hj : j < F.size := by simpa using h2
  simp [putCells, hj]
end
/-- One block may have turned that nothing is known of; blocks come. -/
theorem Inv.laterBut {w w' : World} {g : Gh} {L : List Res} {r : Nat} (hi : Inv w g L) (hH : ∀ o, g.H r o = none) (hM : g.M r = none) (hr : r ∉ blocks L) (hk : ∀ k, k < w.heap.size → k ≠ r → w'.heap[k]? = w.heap[k]?) : Inv w' g L := by
  refine ⟨fun b i v h => ?_, fun b z h => (hi.satM b z h).congr (hk b (hi.satM b z h).lt (fun e => by rw [e, hM] at h; cases h)), fun r' hr' => ?_, hi.nodup, hi.glob⟩
  · have h0 := hi.sat b i v h
    have hb : b < w.heap.size := by
      rcases Nat.lt_or_ge b w.heap.size with h' | h'
      · exact h'
      · simp [World.cell?, Array.getElem?_eq_none h'] at h0
    simp only [World.cell?] at h0 ⊢
    rw [hk b hb (fun e => by rw [e, hH] at h; cases h)]; exact h0
  · exact Res.holds_kept (.refl g) (hi.res r' hr') fun b hb => ⟨hk b (hi.lt (List.mem_filterMap.2 ⟨r', hr', hb⟩)) (fun e => hr (List.mem_filterMap.2 ⟨r', hr', by rw [hb, e]⟩)), fun _ => rfl, rfl⟩
/-- A world that has only grown. -/
theorem grown_eq {w w' : World} (h1 : w'.os = w.os) (h2 : w'.tape = w.tape) (h3 : w'.output = w.output) (h4 : w.drawn ≤ w'.drawn) (h5 : w.heap.size ≤ w'.heap.size) (hk : ∀ k, k < w.heap.size → w'.heap[k]? = w.heap[k]?) : ∃ q os, w' = grow (w.drewN q) os := by
  refine ⟨w'.drawn - w.drawn, w'.heap.extract w.heap.size w'.heap.size, ?_⟩
  have hh : w'.heap = w.heap ++ w'.heap.extract w.heap.size w'.heap.size := by
    refine Array.ext_getElem? fun i => ?_
    by_cases hi : i < w.heap.size
    · rw [Array.getElem?_append_left hi, hk i hi]
    · rw [Array.getElem?_append_right (by omega)]
      by_cases h6 : i < w'.heap.size
      · rw [Array.getElem?_eq_getElem h6, Array.getElem?_eq_getElem (by simp; omega)]
        simp
        congr 1
        omega
      · rw [Array.getElem?_eq_none (by omega), Array.getElem?_eq_none (by simp; omega)]
  have hd : w'.drawn = w.drawn + (w'.drawn - w.drawn) := by omega
  obtain ⟨⟩ := w'
  obtain ⟨⟩ := w
  simp only at h1 h2 h3 hh hd
  subst h1 h2 h3
  simp only [grow, World.drewN]
  rw [← hh, ← hd]
end Go.Q
/- The small logic: rows known to the letter, read and written in place. Library, no statement of its own. -/
namespace Go.Q
open Go

section
variable {α : Type} {vf : α → List Value} {sz : Nat} (hl : ∀ a, (vf a).length = sz)
include hl
theorem row_at : ∀ (l : List α) (k : Nat) (h : k < l.length) (rest : List Value), ((l.flatMap vf ++ rest).drop (k * sz)).take sz = vf l[k]
  | x :: l, 0, h, rest => by
    rw [Nat.zero_mul, List.drop_zero, List.flatMap_cons, List.append_assoc]
    exact List.take_left' (hl x)
  | x :: l, k + 1, h, rest => by
    rw [List.flatMap_cons, List.append_assoc, show (k + 1) * sz = (vf x).length + k * sz by rw [hl, Nat.add_mul]; omega, List.drop_append]
    simp only [List.getElem_cons_succ]
    rw [List.drop_eq_nil_of_le (by omega), List.nil_append, show (vf x).length + k * sz - (vf x).length = k * sz by omega]
    exact row_at l k (by simpa using h) rest
theorem flat_set : ∀ (l : List α) (k : Nat) (_ : k < l.length) (d : α) (rest : List Value), (l.flatMap vf ++ rest).take (k * sz) ++ vf d ++ (l.flatMap vf ++ rest).drop (k * sz + sz) = (l.set k d).flatMap vf ++ rest
  | x :: l, 0, h, d, rest => by
    rw [Nat.zero_mul, List.take_zero, List.nil_append, Nat.zero_add, List.flatMap_cons, List.append_assoc, List.drop_left' (hl x), List.set_cons_zero, List.flatMap_cons, List.append_assoc]
  | x :: l, k + 1, h, d, rest => by
    have ih := flat_set l k (by simpa using h) d rest
    have e : (k + 1) * sz = (vf x).length + k * sz := by rw [hl, Nat.add_mul]; omega
    rw [e, Nat.add_assoc, List.flatMap_cons, List.append_assoc (vf x), List.take_length_add_append, List.drop_length_add_append, List.set_cons_succ, List.flatMap_cons, List.append_assoc (vf x), List.append_assoc (vf x), ih, List.append_assoc]
end
theorem RowL.inv {α : Type} {vf : α → List Value} {sz E n c : Nat} {o : Option Addr} {R : List Res} {l : List α} (hv : RowL vf E sz (.slice o n c) l R) (h : l ≠ []) :
    n = l.length ∧ ∃ r cur rest, o = some ⟨r, 0, none⟩ ∧ R = [.raw r (.cells cur E (0, 0))] ∧ cur.toList = l.flatMap vf ++ rest ∧ cur.size = c * sz ∧ l.length ≤ c := by
  unfold RowL at hv
  generalize hn : l.length = m at hv
  generalize hus : l.flatMap vf = us at hv
  cases hv with
  | nil o ho => exact absurd (List.eq_nil_of_length_eq_zero hn) h
  | row hl hs hu hc =>
    rename_i r cur
    refine ⟨rfl, r, cur, cur.toList.drop (n * sz), rfl, rfl, ?_, hs, by omega⟩
    rw [← hc, List.take_append_drop]
theorem RowL.mk {α : Type} {vf : α → List Value} {sz E c r : Nat} {cur : Array Value} {l : List α} {rest : List Value} (hl : ∀ a, (vf a).length = sz) (h1 : cur.toList = l.flatMap vf ++ rest) (h2 : cur.size = c * sz) (h3 : l.length ≤ c) : RowL vf E sz (.slice (some ⟨r, 0, none⟩) l.length c) l [.raw r (.cells cur E (0, 0))] := by
  have h4 : (l.flatMap vf).length = l.length * sz := by
    clear h1 h3
    induction l with
    | nil => simp
    | cons x l ih => rw [List.flatMap_cons, List.length_append, hl, ih, List.length_cons, Nat.add_mul]; omega
  exact .row h3 h2 h4 (by rw [h1]; exact List.take_left' h4)
/-- A row turns no more. -/
theorem RowL.freeze {α : Type} {f : α → List PV} {vf : α → List Value} {sz E : Nat} [hr : RawE f vf] [hf : Len f sz] {w : World} {g : Gh} {R L' : List Res} {v : Value} {l : List α} (hi : Inv w g (R ++ L')) (hv : RowL vf E sz v l R) (hm : l.length ≤ maxN ∧ l.length * sz ≤ maxN) :
    ∃ g', Inv w g' L' ∧ Step (blocks (R ++ L')) w g w g' ∧ Within w (R ++ L') L' ∧ VR g' v (.slice (l.map f) .ro) := by
  have hlen : (l.flatMap vf).length = l.length * sz := len_raws (f := f) l
  unfold RowL at hv
  generalize hus : l.flatMap vf = us at hv
  generalize hn : l.length = n at hv
  cases hv with
  | nil o ho =>
    have h0 : l = [] := List.eq_nil_of_length_eq_zero hn
    subst h0
    exact ⟨g, hi, .refl _ _ _, .refl _ _, (VR.nilN o ho).ro⟩
  | row hl hs hu hc =>
    rename_i r cap cur
    obtain ⟨k1, k2, k3, k4, k5⟩ := hi.rawHead
    have hle := Gh.le_lay (g := g) (b := r) (from_ := 0) (us := us) (fun o _ => k2 o)
    have hcs : us.length ≤ cur.size := by rw [hu, hs]; exact Nat.mul_le_mul_right _ hl
    have hcell : ∀ j (hj : j < us.length), w.cell? ⟨r, j, none⟩ = some us[j] := fun j hj => by
      have hj2 : j < cur.size := by omega
      simp only [World.cell?, k1, Option.isSome_none, Bool.false_eq_true, if_false]
      rw [Array.getElem?_eq_getElem hj2]
      have := List.getElem_of_eq hc (i := j) (by rw [hc]; exact hj)
      rw [← this, List.getElem_take]
      simp
    refine ⟨g.lay r 0 us, ⟨fun b' o v hv => ?_, fun b' z hz => hi.satM b' z hz, fun r' hr' => ?_, k5.nodup, hi.glob.mono hle⟩, ⟨rfl, rfl, ⟨rfl, Nat.le_refl _⟩, Nat.le_refl _, fun _ _ _ => rfl, hle, fun k _ hn => ⟨fun o => Gh.lay_out (fun h => hn (by rw [h.1]; simp [blocks, Res.block])), rfl⟩⟩, fun b hb _ => by simp only [blocks, List.cons_append, List.nil_append, List.filterMap_cons, Res.block]; exact List.mem_cons_of_mem _ hb, ?_⟩
    · by_cases hin : b' = r ∧ 0 ≤ o ∧ o < 0 + us.length
      · obtain ⟨rfl, _, h6⟩ := hin
        have hj : o < us.length := by omega
        have := Gh.lay_in (g := g) (b := b') (from_ := 0) hj
        rw [Nat.zero_add, hv] at this
        cases this
        exact hcell o hj
      · rw [Gh.lay_out hin] at hv; exact hi.sat b' o v hv
    · exact Res.holds_kept hle (k5.res r' hr') fun b' hb' => ⟨rfl, fun o => Gh.lay_out (fun h => k4 (List.mem_filterMap.2 ⟨r', hr', by rw [hb', h.1]⟩)), rfl⟩
    · subst hn
      have huv : VRl (g.lay r 0 us) us (l.map f).flatten := by
        rw [flat_raws l, hus]
        exact ⟨by simp, fun i h1 h2 => by simp; exact .raw _⟩
      have := VR.of_cells (g := g.lay r 0 us) (xs := l.map f) (t := .ro) (sz := sz) (b := r) (off := 0) (cap := cap) (fun e he => by obtain ⟨a, _, rfl⟩ := List.mem_map.1 he; exact hf.out a) (by simpa using hl) (by simpa using hm) (us := us) huv (fun j hj => by
        have := Gh.lay_in (g := g) (b := r) (from_ := 0) hj
        rw [Nat.zero_add] at this ⊢
        exact this) (fun b' cap' e => by cases e) (by simp)
      simpa using this
section
variable {P : Program} {N : Nat} {all : Array Oper} {K : Env → List Res → Prop} {fl : List Bool} {os : List Oper} {ρ : Env} {L : List Res} {d : Nat} {ty : TypeId} {pos : String} {af : Array Edge}
theorem s_ixRow {T : TypeId} {E sz by_ : Nat} [hT : TSl P T E] [hE : TSz P E sz by_] {x y : Operand} {r off n c k : Nat} {kk : IntKind} (hx : ρ.ev x = .raw (.slice (some ⟨r, off, none⟩) n c)) (hy : ρ.ev y = .raw (.int kk (k : Int))) (hk : k < n)
    (kk' : pops P N all K fl.tail os (upd ρ d (.raw (.pointer (some ⟨r, off + k * sz, none⟩)))) L) (hd : Nat.blt d N = true := by rfl) :
    pops P N all K fl (⟨some d, .indexAddr T x y, ty, pos, af, none⟩ :: os) ρ L :=
  step_q hd (qop_of_run fun a w g ha hi => by
    have h1 := evRaw ha (x := x) (by simp [Op.operands]) hx
    have h2 := evRaw ha (x := y) (by simp [Op.operands]) hy
    refine ⟨.pointer (some ⟨r, off + k * sz, none⟩), ?_, .raw _⟩
    simp only [execOp, Instr.indexAt, h2, h1, asIntOf, Sem.run_bind, Sem.run_pure, Result.andThen_ok, run_und hT.out]
    simp only [Bool.and_false, Bool.false_eq_true, if_false]
    rw [if_pos ⟨by omega, by omega⟩]
    simp [TSz.run hE, add_plain]) kk'
theorem s_ldRow {α : Type} {f : α → List PV} {vf : α → List Value} {T sz : Nat} [hT : TAgg P T sz] [hr : RawE f vf] {x : Operand} {r off E : Nat} {p : Nat × Nat} {cur : Array Value} {a0 : α} (hx : ρ.ev x = .raw (.pointer (some ⟨r, off, none⟩))) (hm : Res.raw r (.cells cur E p) ∈ L) (hv : (cur.toList.drop off).take sz = vf a0) (hle : off + sz ≤ cur.size)
    (k : pops P N all K fl.tail os (upd ρ d (.agg (f a0))) L) (hd : Nat.blt d N = true := by rfl) : pops P N all K fl (⟨some d, .load T x, ty, pos, af, none⟩ :: os) ρ L :=
  step_q hd (qop_of_run fun a w g ha hi => by
    have h1 := evRaw ha (x := x) (by simp [Op.operands]) hx
    obtain ⟨hb, _, _⟩ := hi.res _ hm
    have hlen : (vf a0).length = sz := by rw [← hv]; simp; omega
    refine ⟨.agg (vf a0).toArray, ?_, ?_⟩
    · have := loadVar_agg hT.out (w := w) (b := r) (o := off) (vs := vf a0) hlen (fun j hj => by
        have hj2 : off + j < cur.size := by omega
        simp only [World.cell?, hb, Option.isSome_none, Bool.false_eq_true, if_false]
        rw [Array.getElem?_eq_getElem hj2]
        have := List.getElem_of_eq hv (i := j) (by rw [hv]; exact hj)
        rw [← this]
        simp)
      simp only [execOp, Instr.loadAt, h1, Instr.sureAddr, Sem.run_bind, Sem.run_pure, Result.andThen_ok, this]
    · rw [hr.out]
      have : VRl g (vf a0) ((vf a0).map PV.raw) := ⟨by simp, fun i h1 h2 => by simp; exact .raw _⟩
      exact this.agg) k
theorem s_stRow {α : Type} {f : α → List PV} {vf : α → List Value} {T sz by_ : Nat} [hT : TSz P T sz by_] [hr : RawE f vf] {x y : Operand} {r off E : Nat} {cur : Array Value} {a0 : α} {L' : List Res} (F : Res → List Res) (hx : ρ.ev x = .raw (.pointer (some ⟨r, off, none⟩))) (hy : ρ.ev y = .agg (f a0)) (hlen : (vf a0).length = sz) (hle : off + sz ≤ cur.size)
    (hp : L.Perm (.raw r (.cells cur E (0, 0)) :: L')) (hq : ∀ c, (c :: L').Perm (F c))
    (k : pops P N all K fl.tail os ρ (F (.raw r (.cells (cur.toList.take off ++ vf a0 ++ cur.toList.drop (off + sz)).toArray E (0, 0))))) (hfl : fl.headD true = true := by rfl) : pops P N all K fl (⟨none, .store T x y, ty, pos, af, none⟩ :: os) ρ L :=
  pops_n rfl (fun _ e => by cases e) hfl (OpN.perm hp fun a w g ha hi => by
    have h1 := evRaw ha (x := x) (by simp [Op.operands]) hx
    have h2 := ha y (by simp [Op.operands])
    rw [hy] at h2
    obtain ⟨us, e, hus⟩ := h2.agg_inv
    rw [hr.out] at hus
    have hus' := raws_inv hus
    subst hus'
    obtain ⟨k1, k2, k3, k4, k5⟩ := hi.rawHead
    obtain ⟨w', hrun, hb', hos, htp, hout, hsz, hk⟩ := storeCells_run (P := P) (vf a0) w cur.toList off 0 (by simpa using k1) (by simpa [hlen] using hle) (hr.one a0)
    have hrn : (execOp a.eval ⟨none, .store T x y, ty, pos, af, none⟩).run P w = .ok .skip w' := by
      simp only [execOp, Instr.storeAt, h1, Instr.sureAddr, Sem.run_bind, Sem.run_pure, Result.andThen_ok, storeVar, TSz.run hT, e, Value.cells, List.size_toArray]
      rw [if_neg (by rw [hlen]; simp)]
      simp [hrun]
    rw [Nat.add_zero, hlen] at hb'
    refine Oper.wq_of_run hrn ?_
    exact ⟨undef, .raw undef, g, _, rfl, .raw _, (hi.turnRaw hb' hk).perm (hq _), ⟨hos, htp, hout, Nat.le_of_eq hsz.symm, fun b _ hn => hk b (fun e => hn (by simp [blocks, Res.block, e])), .refl g, fun _ _ _ => ⟨fun _ => rfl, rfl⟩⟩,
      fun b hb _ => by
        have := (blocks_perm (hq _)).symm.subset hb
        simpa [blocks, Res.block] using this, k⟩)
theorem pwp_freezeRow {α : Type} {f : α → List PV} {vf : α → List Value} {sz E : Nat} [hr : RawE f vf] [hf : Len f sz] {R L' : List Res} {v : Value} {l : List α} {c : Code} {Q : PPost} (i : Nat) (hv : RowL vf E sz v l R) (hm : l.length ≤ maxN ∧ l.length * sz ≤ maxN) (hp : L.Perm (R ++ L')) (hi : ρ i = .raw v) (k : pwp P N c Q (upd ρ i (.slice (l.map f) .ro)) L') : pwp P N c Q ρ L :=
  pwp_ghost (fun base a w g ha hI => by
    obtain ⟨g', h1, h2, h3, h4⟩ := RowL.freeze (f := f) (hI.perm hp) hv hm
    refine ⟨g', ⟨ha.size, ha.defers.mono h2.le, fun j => ?_⟩, h1, h2.grow (fun b hb => (blocks_perm hp).symm.subset hb), fun b hb hlt => (blocks_perm hp).symm.subset (h3 b hb hlt)⟩
    have hj := (ha.slot j).mono h2.le
    by_cases e : j = i
    · subst e
      rw [hi] at hj
      show VR g' _ (upd ρ j _ j)
      rw [upd_self, hj.raw_inv]; exact h4
    · show VR g' _ (upd ρ i _ j)
      rw [upd_ne _ _ e]; exact hj) k
theorem s_cutRow {T E sz by_ : Nat} [hT : TSl P T E] [hE : TSz P E sz by_] {x : Operand} {lo hi : Option Operand} {r off n c : Nat} (i j : Nat) (hx : ρ.ev x = .raw (.slice (some ⟨r, off, none⟩) n c)) (hij : i ≤ j) (hj : j ≤ n) (hc : i < c) (hnc : n ≤ c)
    (hlo : ∀ o, lo = some o → ∃ k, ρ.ev o = .raw (.int k i)) (hlo' : lo = none → i = 0) (hhi : ∀ o, hi = some o → ∃ k, ρ.ev o = .raw (.int k j)) (hhi' : hi = none → j = n)
    (k : pops P N all K fl.tail os (upd ρ d (.raw (.slice (some ⟨r, off + i * sz, none⟩) (j - i) (c - i)))) L) (hd : Nat.blt d N = true := by rfl) :
    pops P N all K fl (⟨some d, .slice T x lo hi none, ty, pos, af, none⟩ :: os) ρ L :=
  step_q hd (qop_of_run fun a w g ha hI => by
    have e1 := evRaw ha (x := x) (by simp [Op.operands]) hx
    have hbl : ∀ o, lo = some o → ∃ k, a.eval o = .int k i := fun o e => by
      obtain ⟨k, hk⟩ := hlo o e
      exact ⟨k, evRaw ha (by simp [Op.operands, e]) hk⟩
    have hbh : ∀ o, hi = some o → ∃ k, a.eval o = .int k j := fun o e => by
      obtain ⟨k, hk⟩ := hhi o e
      exact ⟨k, evRaw ha (by simp [Op.operands, e]) hk⟩
    have hbounds : (Instr.sliceBounds true n c (lo.map a.eval) (hi.map a.eval) none).run P w = .ok (i, j, c) w := by
      unfold Instr.sliceBounds
      cases lo with
      | none =>
        have := hlo' rfl; subst this
        cases hi with
        | none => have := hhi' rfl; subst this; simp
        | some o =>
          obtain ⟨k, hk⟩ := hbh o rfl
          simp [hk, Instr.sliceBound, asIntOf]
          omega
      | some o =>
        obtain ⟨k, hk⟩ := hbl o rfl
        cases hi with
        | none =>
          have := hhi' rfl; subst this
          simp [hk, Instr.sliceBound, asIntOf]
          omega
        | some o' =>
          obtain ⟨k', hk'⟩ := hbh o' rfl
          simp [hk, hk', Instr.sliceBound, asIntOf]
          rw [if_pos (by omega)]
          simp
          omega
    refine ⟨.slice (some ⟨r, off + i * sz, none⟩) (j - i) (c - i), ?_, .raw _⟩
    show (do pure (Next.value (← Instr.sliceAt T (a.eval x) (lo.map a.eval) (hi.map a.eval) none)) : Sem Next).run P w = _
    simp only [Instr.sliceAt, Sem.run_bind, run_underlying hT.out, Result.andThen_ok, Instr.slice, e1, hbounds, TSz.run hE, Sem.run_pure]
    rw [if_neg (by omega)]
    simp [add_plain]) k
theorem s_clearRow {T E sz by_ : Nat} [hT : TRw P T E sz by_] (hz : ∀ i z, P.info? E = some i → i.zero = some z → ∀ x ∈ z.cells, x.oneCell' = true) {x : Operand} {r off n c : Nat} {cur : Array Value} {L' : List Res} (F : Res → List Res) (hx : ρ.ev x = .raw (.slice (some ⟨r, off, none⟩) n c)) (hn : 0 < n) (hle : off + n * sz ≤ cur.size)
    (hp : L.Perm (.raw r (.cells cur E (0, 0)) :: L')) (hq : ∀ c, (c :: L').Perm (F c))
    (k : ∀ zs : List Value, zs.length = n * sz → pops P N all K fl.tail os ρ (F (.raw r (.cells (cur.toList.take off ++ zs ++ cur.toList.drop (off + n * sz)).toArray E (0, 0))))) (hfl : fl.headD true = true := by rfl) :
    pops P N all K fl (⟨none, .call { callee := .builtin .clear, args := #[x], argTypes := #[T] }, ty, pos, af, none⟩ :: os) ρ L :=
  pops_n rfl (fun _ e => by cases e) hfl (OpN.perm hp fun a w g ha hi => by
    have h1 := evRaw ha (x := x) (by simp [Op.operands, Call.operands]) hx
    obtain ⟨i, z, t1, t2, t3, t4, t5, t6, t7, t8⟩ := hT.out
    obtain ⟨k1, k2, k3, k4, k5⟩ := hi.rawHead
    have hzl : (Builtin.zeroCells z.cells n).toList.length = n * sz := by rw [Array.length_toList, size_zeroCells, t6]
    have hz1 : ∀ x ∈ (Builtin.zeroCells z.cells n).toList, x.oneCell' = true := fun x hx => by
      simp only [Builtin.zeroCells, Array.toList_map, List.mem_map] at hx
      obtain ⟨j, _, rfl⟩ := hx
      have hj : j % z.cells.size < z.cells.size := Nat.mod_lt _ (by rw [t6]; omega)
      rw [getElem!_pos z.cells _ hj]
      exact hz i z t2 t5 _ (Array.getElem_mem hj)
    obtain ⟨w', hrun, hb', hos, htp, hout, hsz, hk⟩ := storeCells_run (P := P) (Builtin.zeroCells z.cells n).toList w cur.toList off 0 (by simpa using k1) (by rw [hzl]; simpa using hle) hz1
    have he : execOp a.eval ⟨none, .call { callee := .builtin .clear, args := #[x], argTypes := #[T] }, ty, pos, af, none⟩ = (do pure (.value (← Builtin.clear_ #[T] ty (#[x].map a.eval)))) := rfl
    have hr : (execOp a.eval ⟨none, .call { callee := .builtin .clear, args := #[x], argTypes := #[T] }, ty, pos, af, none⟩).run P w = .ok (.value (.tuple #[])) w' := by
      rw [he]
      obtain ⟨m, rfl⟩ : ∃ m, n = m + 1 := ⟨n - 1, by omega⟩
      simp [Builtin.clear_, h1, run_underlying t1, zeroValue, typeInfo, t2, t5, hrun]
    rw [Nat.add_zero, hzl] at hb'
    refine Oper.wq_of_run hr ?_
    exact ⟨_, .raw _, g, _, rfl, .raw _, (hi.turnRaw hb' hk).perm (hq _), ⟨hos, htp, hout, Nat.le_of_eq hsz.symm, fun b _ hn => hk b (fun e => hn (by simp [blocks, Res.block, e])), .refl g, fun _ _ _ => ⟨fun _ => rfl, rfl⟩⟩,
      fun b hb _ => by
        have := (blocks_perm (hq _)).symm.subset hb
        simpa [blocks, Res.block] using this, k _ hzl⟩)
end
end Go.Q
/- The small logic: a map turns no more that other resources point to. Library, no statement of its own. -/
namespace Go.Q
open Go

theorem Fm.vr {b : Nat} {kvs : List (PV × PV)} {x y : PV} {g : Gh} {v : Value} (h : Fm b kvs x y) (hb : VR g (.map (some b)) (.fmap kvs)) (hv : VR g v x) : VR g v y := by
  rcases h with rfl | ⟨rfl, rfl⟩
  · exact hv
  · rw [hv.raw_inv]; exact hb
theorem Inv.resLe {w : World} {g : Gh} {L : List Res} {r r' : Res} (hi : Inv w g (r :: L)) (hb : r'.block = r.block) (h : r.holds w g → r'.holds w g) : Inv w g (r' :: L) :=
  ⟨hi.sat, hi.satM, fun s hs => by
    rcases List.mem_cons.1 hs with rfl | hs
    · exact h (hi.res r List.mem_cons_self)
    · exact hi.res s (List.mem_cons_of_mem _ hs), by
    have := hi.nodup
    simp only [blocks, List.filterMap_cons, hb] at this ⊢
    exact this, hi.glob⟩
/-- What is known of a resource once the map b turns no more. -/
structure ResLe (b : Nat) (kvs : List (PV × PV)) (r r' : Res) : Prop where
  block : r'.block = r.block
  holds : ∀ w g, VR g (.map (some b)) (.fmap kvs) → r.holds w g → r'.holds w g
theorem ResLe.box {b bx T : Nat} {kvs : List (PV × PV)} {cs cs' : List PV} (hl : cs'.length = cs.length) (h : ∀ i (h1 : i < cs.length) (h2 : i < cs'.length), Fm b kvs cs[i] cs'[i]) : ResLe b kvs (.box bx T cs) (.box bx T cs') :=
  ⟨rfl, fun w g hb ⟨vs, h1, h2, h3, h4⟩ => ⟨vs, h1, ⟨h2.len.trans hl.symm, fun i a c => (h i (by omega) c).vr hb (h2.at_ i a (by omega))⟩, h3, h4⟩⟩
theorem ResLe.map {b bo : Nat} {kvs l l' : List (PV × PV)} (hl : l'.length = l.length) (h : ∀ i (h1 : i < l.length) (h2 : i < l'.length), l[i].1 = l'[i].1 ∧ Fm b kvs l[i].2 l'[i].2) : ResLe b kvs (.map bo l) (.map bo l') :=
  ⟨rfl, fun w g hb ⟨es, cl, h1, h2, h3, h4⟩ => ⟨es, cl, h1, ⟨h2.len.trans hl.symm, fun i a c => by
    rw [← (h i (by omega) c).1]; exact h2.key i a (by omega), fun i a c => (h i (by omega) c).2.vr hb (h2.val i a (by omega))⟩, h3, h4⟩⟩
theorem mSet_fm {κ : Type} [DecidableEq κ] {ek : κ → PV} {b : Nat} {kvs : List (PV × PV)} (d : κ) : ∀ (C : List (κ × PV)), (eMap ek vId (mSet d (.fmap kvs) C)).length = (eMap ek vId (mSet d (.raw (.map (some b))) C)).length ∧ ∀ i (h1 : i < (eMap ek vId (mSet d (.raw (.map (some b))) C)).length) (h2 : i < (eMap ek vId (mSet d (.fmap kvs) C)).length), (eMap ek vId (mSet d (.raw (.map (some b))) C))[i].1 = (eMap ek vId (mSet d (.fmap kvs) C))[i].1 ∧ Fm b kvs (eMap ek vId (mSet d (.raw (.map (some b))) C))[i].2 (eMap ek vId (mSet d (.fmap kvs) C))[i].2
  | [] => ⟨rfl, fun i h1 h2 => by
    match i, h1, h2 with
    | 0, _, _ => exact ⟨rfl, .inr ⟨rfl, rfl⟩⟩⟩
  | (a, y) :: C => by
    by_cases e : d = a
    · simp only [mSet, if_pos e]
      refine ⟨by simp [eMap], fun i h1 h2 => ?_⟩
      match i, h1, h2 with
      | 0, _, _ => exact ⟨rfl, .inr ⟨rfl, rfl⟩⟩
      | i + 1, _, _ => exact ⟨rfl, .inl rfl⟩
    · obtain ⟨ih1, ih2⟩ := mSet_fm (ek := ek) (b := b) (kvs := kvs) d C
      simp only [mSet, if_neg e]
      refine ⟨by simpa [eMap] using ih1, fun i h1 h2 => ?_⟩
      match i, h1, h2 with
      | 0, _, _ => exact ⟨rfl, .inl rfl⟩
      | i + 1, h1, h2 => exact ih2 i (by simpa [eMap] using h1) (by simpa [eMap] using h2)
theorem ResLe.mSet {κ : Type} [DecidableEq κ] {ek : κ → PV} {b bo : Nat} {kvs : List (PV × PV)} (d : κ) (C : List (κ × PV)) : ResLe b kvs (.map bo (eMap ek vId (mSet d (.raw (.map (some b))) C))) (.map bo (eMap ek vId (mSet d (.fmap kvs) C))) :=
  .map (mSet_fm d C).1 (mSet_fm d C).2
theorem mSet_map {κ α β : Type} [DecidableEq κ] (f : α → β) (k : κ) (x : α) : ∀ C : List (κ × α), mSet k (f x) (C.map fun p => (p.1, f p.2)) = (mSet k x C).map fun p => (p.1, f p.2)
  | [] => rfl
  | (a, y) :: C => by
    simp only [List.map_cons, mSet]
    split
    · rfl
    · rw [mSet_map f k x C]; rfl
theorem eMap_vId {κ α : Type} (ek : κ → PV) (ev : α → PV) (C : List (κ × α)) : eMap ek vId (C.map fun p => (p.1, ev p.2)) = eMap ek ev C := by
  simp [eMap, vId, Function.comp_def]
section
variable {P : Program} {N : Nat} {ρ : Env} {L : List Res} {Q : PPost} {c : Code}
theorem pwp_freezeMR {b : Nat} {kvs : List (PV × PV)} {r r' : Res} {L' : List Res} (hp : L.Perm (.map b kvs :: r :: L')) (hr : ResLe b kvs r r') (k : pwp P N c Q ρ (r' :: L')) : pwp P N c Q ρ L :=
  pwp_ghost (fun base a w g ha hI => by
    obtain ⟨g', h1, h2, h3, h4⟩ := hI.freezeM hp
    refine ⟨g', ⟨ha.size, ha.defers.mono h2.le, fun i => (ha.slot i).mono h2.le⟩, h1.resLe hr.block (hr.holds w g' h4), h2, fun b' hb' hlt => h3 b' ?_ hlt⟩
    have e : blocks (r' :: L') = blocks (r :: L') := by simp only [blocks, List.filterMap_cons, hr.block]
    rw [← e]; exact hb') k
end
end Go.Q
/- The small logic: what a statement's inputs are: from the data that a row speaks of to forms. Library, no statement of its own. -/
namespace Go.Q
open Go

theorem cell_spot {w : World} {b o s : Nat} : w.cell? ⟨b, o, some s⟩ = none := by
  unfold World.cell?
  split <;> simp
/-- Every value of a type, as a row hands it over, has a form of which F is true. -/
def Opens (P : Program) (t : Nat) (F : List PV → Prop) : Prop :=
  ∀ (H : Type) (enc : TypeId × Value → H) (w : World) (g : Gh), (∀ b o v, w.cell? ⟨b, o, none⟩ = some v → g.H b o = some v) → ∀ (base : Nat) (held : Bool) (fuel : Nat) (cs : List Value) (x : DataW H × List MemPlace),
    DataW.trod enc P w base (fun _ => true) held fuel t cs = some x → (∀ n ∈ x.1.weights P t, n ≤ reachBytes) → ∃ xs, F xs ∧ VRl g cs xs
theorem Opens.to {P : Program} {t : Nat} {F G : List PV → Prop} (h : Opens P t F) (hg : ∀ xs, F xs → G xs) : Opens P t G := fun H enc w g hc base held fuel cs x ht hw => by
  obtain ⟨xs, h1, h2⟩ := h H enc w g hc base held fuel cs x ht hw
  exact ⟨xs, hg xs h1, h2⟩
theorem opens_int {P : Program} {t : Nat} {k : IntKind} (ht : P.underlying t = some (.int k)) : Opens P t (fun xs => ∃ n, (Lit.int k n).wf = true ∧ xs = [.raw (.int k n)]) := fun H enc w g hc base held fuel cs x h hw => by
  obtain ⟨n, rfl, rfl, h1⟩ := DataW.trod_int ht h
  exact ⟨_, ⟨n, h1, rfl⟩, .cons (.raw _) (.nil g)⟩
theorem opens_bool {P : Program} {t : Nat} (ht : P.underlying t = some .bool) : Opens P t (fun xs => ∃ b, xs = [.raw (.bool b)]) := fun H enc w g hc base held fuel cs x h hw => by
  obtain ⟨b, rfl, rfl⟩ := DataW.trod_bool ht h
  exact ⟨_, ⟨b, rfl⟩, .cons (.raw _) (.nil g)⟩
theorem opens_str {P : Program} {t : Nat} (ht : P.underlying t = some .string) : Opens P t (fun xs => ∃ s, xs = [.str s]) := fun H enc w g hc base held fuel cs x h hw => by
  obtain ⟨s, rfl, rfl, h1⟩ := DataW.trod_string ht h
  have h2 : s.data.toList.length ≤ maxN := by
    have := hw s.data.toList.length (by simp [DataW.weights])
    have h3 := reachBytes_lt
    unfold maxN; omega
  refine ⟨_, ⟨s.data.toList, rfl⟩, .cons ?_ (.nil g)⟩
  have := VR.str (g := g) h2
  simpa using this
theorem weights_each {H : Type} {P : Program} {e : Nat} : ∀ {l : List (DataW H)} {d : DataW H}, d ∈ l → ∀ n ∈ d.weights P e, n ∈ DataW.weightsAll P e l
  | x :: l, d, hd, n, hn => by
    simp only [DataW.weightsAll, List.mem_append]
    rcases List.mem_cons.1 hd with rfl | hd
    · exact .inl hn
    · exact .inr (weights_each hd n hn)
theorem opens_slice {P : Program} {t e sz by_ : Nat} {F : List PV → Prop} (ht : P.underlying t = some (.slice e)) (hc : P.cellsOf e = sz) (hb : P.bytesOf e = by_) (h0 : 0 < sz) (hsb : sz ≤ by_) (hF : ∀ ys, F ys → ys.length = sz) (h : Opens P e F) :
    Opens P t (fun xs => ∃ yss : List (List PV), (∀ ys ∈ yss, F ys) ∧ xs = [.slice yss .ro]) := fun H enc w g hg base held fuel cs x hx hw => by
  rcases DataW.trod_slice ht hx with ⟨rfl, rfl⟩ | ⟨a, len, cap, elems, rest, n, rfl, rfl, rfl, h1, h2, h3, h4, h5, h6, h7⟩
  · exact ⟨_, ⟨[], by simp, rfl⟩, .cons .nilR (.nil g)⟩
  subst hc
  have hwe : ∀ y ∈ elems, ∀ n ∈ y.1.weights P e, n ≤ reachBytes := fun y hy n hn => hw n (by
    simp only [DataW.weights, ht, List.mem_cons, List.mem_append]
    exact .inr (.inl (weights_each (List.mem_map_of_mem hy) n hn)))
  have hbytes : len * by_ ≤ reachBytes := by
    have := hw ((elems.length + rest.length) * P.bytesOf e) (by simp [DataW.weights, ht])
    rw [hb, h4] at this
    exact Nat.le_trans (Nat.mul_le_mul_right _ (by omega)) this
  obtain ⟨hrl, hr⟩ := h6 rfl
  obtain ⟨b, off, spot⟩ := a
  have cellspot : ∀ i cs', i = 0 → w.cells? base (Addr.add ⟨b, off, spot⟩ (i * P.cellsOf e)) (P.cellsOf e) = some cs' → spot = none := fun i cs' hi hcs => by
    subst hi
    obtain ⟨_, hl, hc⟩ := World.cells?_some hcs
    have := hc 0 h0
    rw [List.getElem?_eq_getElem (by omega)] at this
    have e0 : Addr.add (Addr.add ⟨b, off, spot⟩ (0 * P.cellsOf e)) 0 = ⟨b, off, spot⟩ := by simp [Addr.add]
    rw [e0] at this
    cases spot with
    | none => rfl
    | some s => rw [cell_spot] at this; cases this
  have hspot : spot = none ∨ (len = 0 ∧ cap = 0) := by
    by_cases hl : len = 0
    · by_cases hcp : cap = 0
      · exact .inr ⟨hl, hcp⟩
      · left
        have := hr 0 (by omega)
        have hlt : 0 < rest.length := by omega
        rw [List.getElem?_eq_getElem hlt, Option.bind_eq_some_iff] at this
        obtain ⟨cs', hcs, _⟩ := this
        exact cellspot _ cs' (by omega) hcs
    · left
      have := h5 0 (by omega)
      have hlt : 0 < elems.length := by omega
      rw [List.getElem?_eq_getElem hlt, Option.bind_eq_some_iff] at this
      obtain ⟨cs', hcs, _⟩ := this
      exact cellspot _ cs' (by omega) hcs
  rcases hspot with rfl | ⟨rfl, rfl⟩
  · have key : ∀ m, m ≤ len → ∃ (us : List Value) (yss : List (List PV)), yss.length = m ∧ us.length = m * P.cellsOf e ∧ (∀ ys ∈ yss, F ys) ∧ VRl g us yss.flatten ∧ ∀ j (hj : j < us.length), w.cell? ⟨b, off + j, none⟩ = some us[j] := by
      intro m
      induction m with
      | zero => intro _; exact ⟨[], [], rfl, by simp, by simp, .nil g, fun j hj => absurd hj (by simp)⟩
      | succ m ih =>
        intro hm
        obtain ⟨us, yss, k1, k2, k3, k4, k5⟩ := ih (by omega)
        have hlt : m < elems.length := by omega
        have := h5 m (by omega)
        rw [List.getElem?_eq_getElem hlt, Option.bind_eq_some_iff] at this
        obtain ⟨cs', hcs, hy⟩ := this
        obtain ⟨_, hl, hcc⟩ := World.cells?_some hcs
        obtain ⟨ys, f1, f2⟩ := h H enc w g hg base held n cs' _ hy (hwe _ (List.getElem_mem hlt))
        refine ⟨us ++ cs', yss ++ [ys], by simp [k1], by rw [List.length_append, k2, hl, Nat.add_mul]; omega, fun z hz => ?_, ?_, fun j hj => ?_⟩
        · rcases List.mem_append.1 hz with hz | hz
          · exact k3 z hz
          · rw [List.mem_singleton.1 hz]; exact f1
        · rw [List.flatten_append]
          have : VRl g cs' [ys].flatten := by simpa using f2
          exact k4.append this
        · by_cases hju : j < us.length
          · rw [List.getElem_append_left hju]; exact k5 j hju
          · rw [List.getElem_append_right (by omega)]
            have hj2 : j - us.length < cs'.length := by rw [List.length_append] at hj; omega
            have := hcc (j - us.length) (by omega)
            rw [List.getElem?_eq_getElem hj2] at this
            have e2 : off + j = off + m * P.cellsOf e + (j - us.length) := by rw [← k2]; omega
            rw [← this, e2, add_plain, add_plain]
    obtain ⟨us, yss, k1, k2, k3, k4, k5⟩ := key len (Nat.le_refl _)
    refine ⟨_, ⟨yss, k3, rfl⟩, .cons ?_ (.nil g)⟩
    have hr2 := reachBytes_lt
    have hb1 : len * P.cellsOf e ≤ len * by_ := Nat.mul_le_mul_left _ hsb
    have hb2 : len ≤ len * P.cellsOf e := Nat.le_mul_of_pos_right _ h0
    have := VR.of_cells (g := g) (xs := yss) (t := .ro) (sz := P.cellsOf e) (b := b) (off := off) (cap := cap) (fun y hy => hF y (k3 y hy)) (by omega) (by rw [k1]; unfold maxN; omega) k4 (fun j hj => hg _ _ _ (k5 j hj)) (by simp) (by simp)
    rw [k1] at this
    exact this
  · exact ⟨_, ⟨[], by simp, rfl⟩, .cons .nilR (.nil g)⟩

/-! ### Structs -/
/-- A struct's fields, by their types and places. -/
def structRow : TypeDesc → Option (List (Nat × Nat))
  | .struct fs => some (fs.toList.map fun f => (f.type, f.offset))
  | _ => none
inductive FOpen (P : Program) : List (Nat × Nat) → List (List PV → Prop) → Nat → Nat → Prop
  | nil (n : Nat) : FOpen P [] [] n n
  | cons {t o n : Nat} {r : List (Nat × Nat)} {F : List PV → Prop} {Fs : List (List PV → Prop)} (sz : Nat) (hs : P.cellsOf t = sz) (h : Opens P t F) (k : FOpen P r Fs (o + sz) n) : FOpen P ((t, o) :: r) (F :: Fs) o n
inductive AllF : List (List PV → Prop) → List (List PV) → Prop
  | nil : AllF [] []
  | cons {F : List PV → Prop} {Fs : List (List PV → Prop)} {y : List PV} {ys : List (List PV)} (h : F y) (k : AllF Fs ys) : AllF (F :: Fs) (y :: ys)
theorem opens_fields {P : Program} {H : Type} {enc : TypeId × Value → H} {w : World} {g : Gh} (hg : ∀ b o v, w.cell? ⟨b, o, none⟩ = some v → g.H b o = some v) {base fuel : Nat} {held : Bool} {cs : List Value} :
    ∀ {r : List (Nat × Nat)} {Fs : List (List PV → Prop)} {o n : Nat}, FOpen P r Fs o n → cs.length = n →
      (∀ (i t o : Nat), r[i]? = some (t, o) → ∃ x, DataW.trod enc P w base (fun _ => true) held fuel t ((cs.drop o).take (P.cellsOf t)) = some x ∧ ∀ n ∈ x.1.weights P t, n ≤ reachBytes) → ∃ yss, AllF Fs yss ∧ VRl g (cs.drop o) yss.flatten
  | _, _, _, _, .nil n, hn, _ => ⟨[], .nil, by rw [List.drop_eq_nil_of_le (by omega)]; exact .nil g⟩
  | _, _, _, _, .cons (t := t) (o := o) sz hs h k, hn, hx => by
    obtain ⟨x, h1, h2⟩ := hx 0 t o rfl
    obtain ⟨ys, f1, f2⟩ := h H enc w g hg base held fuel _ x h1 h2
    obtain ⟨yss, k1, k2⟩ := opens_fields hg k hn (fun i t o hi => hx (i + 1) t o (by simpa using hi))
    refine ⟨ys :: yss, .cons f1 k1, ?_⟩
    rw [hs] at f2
    have := f2.append k2
    rw [← List.drop_drop, List.take_append_drop] at this
    simpa using this
theorem opens_struct {P : Program} {t n : Nat} {r : List (Nat × Nat)} {Fs : List (List PV → Prop)} (hr : (P.underlying t).bind structRow = some r) (hn : P.cellsOf t = n) (h : FOpen P r Fs 0 n) : Opens P t (fun xs => ∃ yss, AllF Fs yss ∧ xs = yss.flatten) := fun H enc w g hg base held fuel cs x hx hw => by
  obtain ⟨td, h1, h2⟩ := Option.bind_eq_some_iff.1 hr
  obtain ⟨fs, rfl⟩ : ∃ fs, td = .struct fs := by
    cases td <;> simp [structRow] at h2
    exact ⟨_, rfl⟩
  simp only [structRow, Option.some.injEq] at h2
  obtain ⟨xs, m, rfl, rfl, k1, k2, k3⟩ := DataW.trod_struct h1 hx
  obtain ⟨yss, j1, j2⟩ := opens_fields (enc := enc) (w := w) (base := base) (held := held) (fuel := m) hg (cs := cs) h (by rw [k1, hn]) (fun i t' o hi => by
    rw [← h2, List.getElem?_map, Option.map_eq_some_iff] at hi
    obtain ⟨f, hf, e⟩ := hi
    obtain ⟨e1, e2⟩ := Prod.mk.inj e
    subst e1 e2
    have hf' : fs[i]? = some f := by simpa using hf
    have hlt : i < xs.length := by
      rw [k2]
      exact (Array.getElem?_eq_some_iff.1 hf').1
    refine ⟨xs[i], by rw [k3 i f hf', List.getElem?_eq_getElem hlt], fun n hn => hw n ?_⟩
    simp only [DataW.weights, h1]
    exact DataW.weights_mem_each (j := i) (t := f.type) (d := xs[i].1) (by simp [hf']) (by simp [hlt]) n hn)
  exact ⟨_, ⟨yss, j1, rfl⟩, by simpa using j2⟩
theorem exists_map {α : Type} {f : α → List PV} : ∀ {yss : List (List PV)}, (∀ ys ∈ yss, ∃ a, ys = f a) → ∃ l : List α, yss = l.map f
  | [], _ => ⟨[], rfl⟩
  | y :: yss, h => by
    obtain ⟨a, ha⟩ := h y List.mem_cons_self
    obtain ⟨l, hl⟩ := exists_map (yss := yss) (fun z hz => h z (List.mem_cons_of_mem _ hz))
    exact ⟨a :: l, by rw [ha, hl]; rfl⟩
theorem Opens.list {P : Program} {t e sz by_ : Nat} {α : Type} {f : α → List PV} (h : Opens P e (fun xs => ∃ a, xs = f a)) (hf : ∀ a, (f a).length = sz) (ht : P.underlying t = some (.slice e)) (hc : P.cellsOf e = sz) (hb : P.bytesOf e = by_) (h0 : 0 < sz) (hsb : sz ≤ by_) : Opens P t (fun xs => ∃ l : List α, xs = [.slice (l.map f) .ro]) :=
  Opens.to (opens_slice ht hc hb h0 hsb (fun ys ⟨a, ha⟩ => by rw [ha]; exact hf a) h) fun xs ⟨yss, h1, h2⟩ => by
    obtain ⟨l, rfl⟩ := exists_map h1
    exact ⟨l, h2⟩
/-- Digests. -/
theorem opens_dig {P : Program} {t e : Nat} (ht : P.underlying t = some (.array 32 e)) (he : P.underlying e = some (.int .u8)) (hc : P.cellsOf t = 32) (hce : P.cellsOf e = 1) : Opens P t (fun xs => ∃ d, xs = eDig d) := fun H enc w g hg base held fuel cs x hx hw => by
  obtain ⟨xs, m, rfl, rfl, k1, k2, k3⟩ := DataW.trod_array ht hx
  rw [hc] at k1
  have each : ∀ i (hi : i < cs.length), ∃ b : UInt8, cs[i] = .int .u8 b.toNat := fun i hi => by
    have := k3 i (by omega)
    rw [List.getElem?_eq_getElem (by omega), hce, Nat.mul_one] at this
    obtain ⟨n, e1, _, hwf⟩ := DataW.trod_int he this
    have e2 : (cs.drop i).take 1 = [cs[i]] := by
      rw [List.drop_eq_getElem_cons hi]; rfl
    rw [e2] at e1
    simp only [List.cons.injEq, and_true] at e1
    simp [Lit.wf, IntKind.min, IntKind.max, IntKind.signed, IntKind.bits] at hwf
    refine ⟨n.toNat.toUInt8, ?_⟩
    rw [e1]
    congr 1
    simp
    omega
  have : ∀ l : List Value, (∀ v ∈ l, ∃ b : UInt8, v = .int .u8 b.toNat) → ∃ bs : List UInt8, l = bs.map u8 := by
    intro l
    induction l with
    | nil => intro _; exact ⟨[], rfl⟩
    | cons v l ih =>
      intro h
      obtain ⟨b, rfl⟩ := h v List.mem_cons_self
      obtain ⟨bs, rfl⟩ := ih (fun v hv => h v (List.mem_cons_of_mem _ hv))
      exact ⟨b :: bs, rfl⟩
  obtain ⟨bs, rfl⟩ := this cs (fun v hv => by
    obtain ⟨i, hi, rfl⟩ := List.mem_iff_getElem.1 hv
    exact each i hi)
  refine ⟨_, ⟨⟨bs, by simpa using k1⟩, rfl⟩, ?_⟩
  refine ⟨by simp [eDig], fun i h1 h2 => ?_⟩
  simp [eDig, eU8]
  exact .raw _

/-! ### The world in which a call begins, and the one in which it ends -/
def gAll (w : World) : Gh := ⟨fun b o => w.cell? ⟨b, o, none⟩, fun b => if b = globAt then some (.row pow10Tab) else none⟩
theorem inv_all {w : World} (h : ∃ T p, w.heap[globAt]? = some (.cells pow10Tab.toArray T p)) : Inv w (gAll w) [] :=
  ⟨fun _ _ _ h => h, fun b z hz => (by
    simp only [gAll] at hz
    split at hz
    · rename_i e; subst e; cases hz; exact h
    · cases hz), by simp, List.nodup_nil, ⟨by simp [gAll]⟩⟩
theorem Step.below {w w' : World} {g g' : Gh} (h : Step [] w g w' g') : Go.RowKit.Below w.heap.size w w' := ⟨h.os, h.tape, h.output.1, h.size, fun k hk => h.keep k hk (by simp)⟩
end Go.Q
/- Contracts: digests and lists of them (the reference's layers 2, 16, 17). -/
namespace Go.Proofs
open Go Go.Q
attribute [local irreducible] pwp pops PCalls OpN

instance Compare_ct (a b : Dig) : FnC Tryz.prog 64 [.agg (eDig a), .agg (eDig b)] (.raw (.int .i64 (cmpD a b))) := ⟨by
  refine fn_of Tryz.func64 Tryz.ntmps64 rfl (rs := [.tmp 4]) rfl rfl fun hb LF => ?_
  refine walkb fun p => ?_
  refine walkbp fun q => ?_
  refine pwp_loopS (σ := Nat) (fun k => k ≤ 32 ∧ ∀ i, i < k → a.at i = b.at i) (fun k => 32 - k) (fun k => [(2, .raw (.pointer (some ⟨p, 0, none⟩))), (3, .raw (.pointer (some ⟨q, 0, none⟩))), (5, .raw (.int .i64 k))]) (fun _ => .box q 37 (eDig b) :: .box p 37 (eDig a) :: LF) 0 ⟨by simp, by simp⟩ ⟨rfl, rfl, rfl⟩ (.refl _) ?_
  rintro k ⟨hk, he⟩
  refine walk ?_
  refine pwp_condD (fun hc => ?_) (fun hc => ?_)
  · refine walk ?_
    refine pwp_condD (fun h1 => ?_) (fun h1 => ?_)
    · refine walk ?_
      refine end1 (.of_eq ?_)
      have h2 : a.at k < b.at k := by rw [UInt8.lt_iff_toNat_lt]; omega
      rw [cmpD_at (by omega) he (fun e => by rw [e] at h2; exact UInt8.lt_irrefl _ h2), if_pos h2]
    · refine walk ?_
      refine pwp_condD (fun h2 => ?_) (fun h2 => ?_)
      · refine walk ?_
        refine end1 (.of_eq ?_)
        have h3 : ¬ a.at k < b.at k := by rw [UInt8.lt_iff_toNat_lt]; omega
        rw [cmpD_at (by omega) he (fun e => by rw [e] at h2; omega), if_neg h3]
      · refine walk ?_
        refine ⟨k + 1, ⟨by omega, fun i hi => ?_⟩, by dsimp only; omega, ⟨rfl, rfl, rfl⟩, .refl _⟩
        rcases Nat.lt_or_ge i k with h' | h'
        · exact he i h'
        · have : i = k := by omega
          subst this
          exact UInt8.toNat.inj (by omega)
  · refine walk ?_
    refine end1 (.of_eq ?_)
    rw [cmpD_zero.2 (Dig.ext_at fun i hi => he i (by omega))]⟩

instance zero_ct (a : Dig) : FnC Tryz.prog 123 [.agg (eDig a)] (.raw (.bool (decide (a = Dig.zero)))) := ⟨by
  refine fn_of Tryz.func123 Tryz.ntmps123 rfl (rs := [.tmp 2]) rfl rfl fun hb LF => ?_
  refine walkb fun p => ?_
  exact ⟨trivial, _, [], .cons (.tmp 2) .nil, .cons _ (.refl _), .refl _, rfl⟩⟩

instance SameD_ct (l m : List Dig) (t u : Tag) : FnC Tryz.prog 41 [.slice (l.map eDig) t, .slice (m.map eDig) u] (.raw (.bool (decide (l = m)))) := ⟨by
  refine fn_of Tryz.func41 Tryz.ntmps41 rfl (rs := [.tmp 4]) rfl rfl fun hb LF => ?_
  have hlen : l.length ≤ 140737488355328 := (hb (.slice (l.map eDig) t) (by simp)).slice_map
  refine walk ?_
  refine pwp_condN (fun h1 => ?_) (fun h1 => ?_)
  · refine walk ?_
    refine end1 (.of_eq ?_)
    have : ¬ l = m := fun e => h1 (by rw [e])
    simp [this]
  · refine walk ?_
    have hl : l.length = m.length := by omega
    refine pwp_loopS (σ := Nat) (fun k => k ≤ l.length ∧ l.take k = m.take k) (fun k => l.length - k) (fun k => [(0, .slice (l.map eDig) t), (1, .slice (m.map eDig) u), (5, .raw (.int .i64 k))]) (fun _ => LF) 0 ⟨by simp, by simp⟩ ⟨rfl, rfl, rfl⟩ (.refl _) ?_
    rintro k ⟨hk, he⟩
    refine walk ?_
    refine pwp_condD (fun hc => ?_) (fun hc => ?_)
    · refine walk ?_
      refine pwp_condN (fun h2 => ?_) (fun h2 => ?_)
      · refine walk ?_
        refine end1 (.of_eq ?_)
        have : ¬ l = m := fun e => h2 (by simp [e])
        simp [this]
      · refine walk ?_
        refine ⟨k + 1, ⟨by omega, ?_⟩, by dsimp only; omega, ⟨rfl, rfl, rfl⟩, .refl _⟩
        rw [List.take_succ_eq_append_getElem (by omega), List.take_succ_eq_append_getElem (by omega), he, h2]
    · refine walk ?_
      refine end1 (.of_eq ?_)
      have : l = m := by
        rw [List.take_of_length_le (by omega), List.take_of_length_le (by omega)] at he
        exact he
      simp [this]⟩
end Go.Proofs
/- Contracts: lists of digests and sets of patches (the reference's layers 16 and 17). -/
namespace Go.Proofs
open Go Go.Q
attribute [local irreducible] pwp pops PCalls OpN

instance Has_ct (l : List Dig) (d : Dig) (t : Tag) : FnC Tryz.prog 102 [.slice (l.map eDig) t, .agg (eDig d)] (.raw (.bool (decide (d ∈ l)))) := ⟨by
  refine fn_of Tryz.func102 Tryz.ntmps102 rfl (rs := [.tmp 4]) rfl rfl fun hb LF => ?_
  have hlen : l.length ≤ 140737488355328 := (hb (.slice (l.map eDig) t) (by simp)).slice_map
  refine walkb fun b => ?_
  refine pwp_loopS (σ := Nat) (fun k => k ≤ l.length ∧ ∀ i (h : i < l.length), i < k → d ≠ l[i]) (fun k => l.length - k) (fun k => [(0, .slice (l.map eDig) t), (3, .raw (.pointer (some ⟨b, 0, none⟩))), (5, .raw (.int .i64 k))]) (fun _ => .box b 37 (eDig d) :: LF) 0 ⟨by simp, by simp⟩ ⟨rfl, rfl, rfl⟩ (.refl _) ?_
  rintro k ⟨hk, hne⟩
  refine walk ?_
  refine pwp_condD (fun hc => ?_) (fun hc => ?_)
  · refine walk ?_
    refine pwp_condD (fun he => ?_) (fun he => ?_)
    · refine walk ?_; refine end1 (.of_eq ?_)
      have : d ∈ l := he ▸ List.getElem_mem _
      simp [this]
    · refine walk ?_
      refine ⟨k + 1, ⟨by omega, fun i h hi => ?_⟩, by dsimp only; omega, ⟨rfl, rfl, rfl⟩, .refl _⟩
      rcases Nat.lt_or_ge i k with h' | h'
      · exact hne i h h'
      · have : i = k := by omega
        subst this; exact fun e => he e.symm
  · refine walk ?_; refine end1 (.of_eq ?_)
    have : ¬ d ∈ l := fun h => by
      obtain ⟨i, hi, e⟩ := List.mem_iff_getElem.1 h
      exact hne i hi (by omega) e.symm
    simp [this]⟩

def allIn (l m : List Dig) : Bool := m.all (fun x => decide (x ∈ l))
instance all_ct (l m : List Dig) (t u : Tag) : FnC Tryz.prog 90 [.slice (l.map eDig) t, .slice (m.map eDig) u] (.raw (.bool (allIn l m))) := ⟨by
  refine fn_of Tryz.func90 Tryz.ntmps90 rfl (rs := [.tmp 4]) rfl rfl fun hb LF => ?_
  have hlen : m.length ≤ 140737488355328 := (hb (.slice (m.map eDig) u) (by simp)).slice_map
  refine walk ?_
  refine pwp_loopS (σ := Nat) (fun k => k ≤ m.length ∧ ∀ i (h : i < m.length), i < k → m[i] ∈ l) (fun k => m.length - k) (fun k => [(0, .slice (l.map eDig) t), (1, .slice (m.map eDig) u), (5, .raw (.int .i64 k))]) (fun _ => LF) 0 ⟨by simp, by simp⟩ ⟨rfl, rfl, rfl⟩ (.refl _) ?_
  rintro k ⟨hk, hne⟩
  refine walk ?_
  refine pwp_condD (fun hc => ?_) (fun hc => ?_)
  · refine walk ?_
    refine pwp_condN (fun he => ?_) (fun he => ?_)
    · refine walk ?_; refine end1 (.of_eq ?_)
      have : allIn l m = false := by
        unfold allIn; rw [List.all_eq_false]; exact ⟨_, List.getElem_mem _, by simpa using he⟩
      rw [this]
    · refine walk ?_
      refine ⟨k + 1, ⟨by omega, fun i h hi => ?_⟩, by dsimp only; omega, ⟨rfl, rfl, rfl⟩, .refl _⟩
      rcases Nat.lt_or_ge i k with h' | h'
      · exact hne i h h'
      · have : i = k := by omega
        subst this; exact he
  · refine walk ?_; refine end1 (.of_eq ?_)
    have : allIn l m = true := by
      unfold allIn; rw [List.all_eq_true]; intro x hx
      obtain ⟨i, hi, rfl⟩ := List.mem_iff_getElem.1 hx
      simpa using hne i hi (by omega)
    rw [this]⟩

def ids (s : List Sto) : List Dig := s.map (·.id)
instance Ids_ct (s : List Sto) (t : Tag) : FnC Tryz.prog 34 [.slice (s.map eSto) t] (.slice ((ids s).map eDig) .ro) := ⟨by
  refine fn_of Tryz.func34 Tryz.ntmps34 rfl (rs := [.tmp 2]) rfl rfl fun hb LF => ?_
  have hlen : s.length * 37 ≤ 140737488355328 := (hb (.slice (s.map eSto) t) (by simp)).slice_cells
  refine walk ?_
  refine pwp_tok 32 ?_
  refine pwp_loopS (σ := Nat × Tag) (fun k => k.1 ≤ s.length) (fun k => s.length - k.1) (fun k => [(0, .slice (s.map eSto) t), (3, .slice ((ids (s.take k.1)).map eDig) k.2), (4, .raw (.int .i64 k.1))]) (fun k => .tok k.2 (ids (s.take k.1)).length 32 :: LF) (0, .nil) (by simp) ⟨rfl, rfl, rfl⟩ (.refl _) ?_
  rintro ⟨k, u⟩ hk
  dsimp only at hk
  refine walk ?_
  refine pwp_condD (fun hc => ?_) (fun hc => ?_)
  · have hl : (ids (s.take k)).length = k := by simp [ids]; omega
    refine walka fun v => ?_
    have e : ids (s.take (k + 1)) = ids (s.take k) ++ [s[k].id] := by
      rw [List.take_succ_eq_append_getElem (by omega)]; simp only [ids, List.map_append, List.map_cons, List.map_nil]
    refine ⟨(k + 1, v), by dsimp only; omega, by dsimp only; omega, ⟨rfl, by dsimp only; rw [e]; rfl, rfl⟩, by dsimp only; rw [e]; exact .refl _⟩
  · refine walk ?_
    refine end1 (.ros ?_)
    rw [List.take_of_length_le (by omega)]⟩

def getS : List Sto → Dig → Option Pat
  | [], _ => none
  | x :: s, d => if x.id = d then some x.patch else getS s d
theorem getS_none {s : List Sto} {d : Dig} (h : ∀ i (h : i < s.length), s[i].id ≠ d) : getS s d = none := by
  induction s with
  | nil => rfl
  | cons x s ih =>
    have h0 := h 0 (by simp)
    simp only [List.getElem_cons_zero] at h0
    simp only [getS, h0, if_false]
    exact ih fun i hi => by have := h (i + 1) (by simpa using hi); simpa using this
theorem getS_some {s : List Sto} {d : Dig} {k : Nat} (hk : k < s.length) (h : ∀ i (h : i < s.length), i < k → s[i].id ≠ d) (he : s[k].id = d) : getS s d = some s[k].patch := by
  induction s generalizing k with
  | nil => simp at hk
  | cons x s ih =>
    cases k with
    | zero => simp only [List.getElem_cons_zero] at he ⊢; simp [getS, he]
    | succ k =>
      have h0 := h 0 (by simp) (by omega)
      simp only [List.getElem_cons_zero] at h0
      simp only [getS, h0, if_false, List.getElem_cons_succ]
      exact ih (by simpa using hk) (fun i hi hik => by have := h (i + 1) (by simpa using hi) (by omega); simpa using this) (by simpa using he)
def optP (o : Option Pat) : PV := .tuple [.agg (ePat (o.getD Pat.zero)), .raw (.bool o.isSome)]
instance Get_ct (s : List Sto) (d : Dig) (t : Tag) : FnC Tryz.prog 45 [.slice (s.map eSto) t, .agg (eDig d)] (optP (getS s d)) := ⟨by
  refine fn_of Tryz.func45 Tryz.ntmps45 rfl (rs := [.cell 4 57, .tmp 5]) rfl rfl fun hb LF => ?_
  have hlen : s.length ≤ 140737488355328 := (hb (.slice (s.map eSto) t) (by simp)).slice_map
  refine walkb fun b => ?_
  refine walkbp fun r => ?_
  refine pwp_loopS (σ := Nat) (fun k => k ≤ s.length ∧ ∀ i (h : i < s.length), i < k → s[i].id ≠ d) (fun k => s.length - k) (fun k => [(0, .slice (s.map eSto) t), (3, .raw (.pointer (some ⟨b, 0, none⟩))), (4, .raw (.pointer (some ⟨r, 0, none⟩))), (6, .raw (.int .i64 k))]) (fun _ => .box r 57 (ePat Pat.zero) :: .box b 37 (eDig d) :: LF) 0 ⟨by simp, by simp⟩ ⟨rfl, rfl, rfl, rfl⟩ (.refl _) ?_
  rintro k ⟨hk, hne⟩
  refine walk ?_
  refine pwp_condD (fun hc => ?_) (fun hc => ?_)
  · refine walk ?_
    refine pwp_condD (fun he => ?_) (fun he => ?_)
    · refine walk ?_
      refine endC1 rfl (.of_eq ?_)
      rw [getS_some (by omega) hne he]; rfl
    · refine walk ?_
      refine ⟨k + 1, ⟨by omega, fun i h hi => ?_⟩, by dsimp only; omega, ⟨rfl, rfl, rfl, rfl⟩, .refl _⟩
      rcases Nat.lt_or_ge i k with h' | h'
      · exact hne i h h'
      · have : i = k := by omega
        subst this; exact he
  · refine walk ?_
    refine endC1 rfl (.of_eq ?_)
    rw [getS_none fun i h => hne i h (by omega)]; rfl⟩

set_option maxHeartbeats 1000000 in
instance With_ct (l : List Dig) (d : Dig) (t : Tag) [hs : Small (l.length ≤ 1000000)] : FnC Tryz.prog 100 [.slice (l.map eDig) t, .agg (eDig d)] (.slice ((withD l d).map eDig) .ro) := ⟨by
  refine fn_of Tryz.func100 Tryz.ntmps100 rfl (rs := [.tmp 4]) rfl rfl fun hb LF => ?_
  have hlen : l.length ≤ 1000000 := hs.out
  refine walkb fun b => ?_
  refine pwp_loopS (σ := Nat) (fun k => k ≤ l.length ∧ ∀ i (h : i < l.length), i < k → Dig.lt l[i] d) (fun k => l.length - k) (fun k => [(0, .slice (l.map eDig) t), (3, .raw (.pointer (some ⟨b, 0, none⟩))), (5, .raw (.int .i64 k))]) (fun _ => .box b 37 (eDig d) :: LF) 0 ⟨by simp, by simp⟩ ⟨rfl, rfl, rfl⟩ (.refl _) ?_
  rintro k ⟨hk, hne⟩
  refine walk ?_
  refine pops_if (fun hp => ?_) (fun hp => ?_)
  · have hc : (k : Int) < l.length := of_decide_eq_true hp
    refine walkp ?_
    refine pwp_condD (fun h1 => ?_) (fun h1 => ?_)
    · refine walk ?_
      refine ⟨k + 1, ⟨by omega, fun i h hi => ?_⟩, by dsimp only; omega, ⟨rfl, rfl, rfl⟩, .refl _⟩
      rcases Nat.lt_or_ge i k with h' | h'
      · exact hne i h h'
      · have : i = k := by omega
        subst this; exact h1
    · refine walk ?_
      refine pwp_condD (fun h2 => ?_) (fun h2 => ?_)
      · refine walk ?_
        refine end1 (.ros ?_)
        rw [withD_at hk hne (fun _ => h1), if_pos ⟨by omega, h2⟩]
      · refine walka fun t1 => ?_
        refine walkap fun t2 => ?_
        refine walkap fun t3 => ?_
        refine end1 (.ros ?_)
        rw [withD_at hk hne (fun _ => h1), if_neg (fun ⟨_, e⟩ => h2 e)]
        simp
  · have hc : ¬ (k : Int) < l.length := of_decide_eq_false hp
    refine walkp ?_
    refine walkap fun t1 => ?_
    refine walkap fun t2 => ?_
    refine walkap fun t3 => ?_
    refine end1 (.ros ?_)
    rw [withD_at hk hne (fun h => absurd (show (k : Int) < l.length by omega) hc), if_neg (fun ⟨h, _⟩ => hc (by omega))]
    simp⟩
end Go.Proofs
/- Contracts: small questions about atoms and identities (the reference's layers 16 and 17). -/
namespace Go.Proofs
open Go Go.Q
attribute [local irreducible] pwp pops PCalls OpN

def rWant (k : Int) : Int := if k = 7 then 0 else k
def rText (k : Int) : Bool := decide (k = 5) || decide (k = 6)
def rOther (x : Ident) : Bool := !decide (x.patch = Dig.zero)
def rDirectory (x : Atm) : Bool := decide (x.kind = 1) && decide (x.type = 4)
def rAllowed (x : Ident) (n : Int) : Bool := if x.patch = Dig.zero then decide (0 ≤ x.n) && decide (x.n < n) else decide (0 ≤ x.n) && decide (x.n < 100000)
def rFitsFile (k : Int) (x : Atm) : Bool := if x.kind ≠ 1 then false else if rText k then decide (x.type = 1) else !decide (k = 4) || decide (x.type = 2) || decide (x.type = 3)
def rFitsEnd (f : Ident) (x : Atm) : Bool := decide (x.kind = 5) && decide (x.file = f)

instance none_ct : FnC Tryz.prog 281 [] (.agg (eIdent Ident.zero)) := ⟨by
  refine fn_of Tryz.func281 Tryz.ntmps281 rfl (rs := [.cell 0 115]) rfl rfl fun hb LF => ?_
  refine walkb fun b => ?_
  exact endC rfl (.refl _)⟩
instance Root_ct : FnC Tryz.prog 139 [] (.agg (eIdent ⟨Dig.zero, -1⟩)) := ⟨by
  refine fn_of Tryz.func139 Tryz.ntmps139 rfl (rs := [.cell 0 115]) rfl rfl fun hb LF => ?_
  refine walkb fun b => ?_
  exact endC rfl (.refl _)⟩
instance want_ct (k : Int) : FnC Tryz.prog 203 [.raw (.int .i64 k)] (.raw (.int .i64 (rWant k))) := ⟨by
  refine fn_of Tryz.func203 Tryz.ntmps203 rfl (rs := [.tmp 2]) rfl rfl fun hb LF => ?_
  refine walk ?_
  refine pwp_condD (fun h => ?_) (fun h => ?_)
  · refine walk ?_
    refine end1 (.of_eq ?_)
    simp [rWant, h]
  · refine walk ?_
    refine end1 (.of_eq ?_)
    simp [rWant, h]⟩
instance text_ct (k : Int) : FnC Tryz.prog 201 [.raw (.int .i64 k)] (.raw (.bool (rText k))) := ⟨by
  refine fn_of Tryz.func201 Tryz.ntmps201 rfl (rs := [.tmp 2]) rfl rfl fun hb LF => ?_
  refine walk ?_
  refine pops_if (fun hp => ?_) (fun hp => ?_)
  · refine walkp ?_
    refine end1 (.of_eq ?_)
    simp_all [rText]
  · refine walkp ?_
    refine end1 (.of_eq ?_)
    simp_all [rText]⟩
instance other_ct (x : Ident) : FnC Tryz.prog 159 [.agg (eIdent x)] (.raw (.bool (rOther x))) := ⟨by
  refine fn_of Tryz.func159 Tryz.ntmps159 rfl (rs := [.tmp 2]) rfl rfl fun hb LF => ?_
  refine walkb fun b => ?_
  refine end1 (.of_eq ?_)
  rfl⟩
instance directory_ct (x : Atm) : FnC Tryz.prog 162 [.agg (eAtm x)] (.raw (.bool (rDirectory x))) := ⟨by
  refine fn_of Tryz.func162 Tryz.ntmps162 rfl (rs := [.tmp 2]) rfl rfl fun hb LF => ?_
  refine walkb fun b => ?_
  refine pops_if (fun hp => ?_) (fun hp => ?_)
  · refine walkp ?_
    refine end1 (.of_eq ?_)
    simp_all [rDirectory]
  · refine walkp ?_
    refine end1 (.of_eq ?_)
    simp_all [rDirectory]⟩
instance allowed_ct (x : Ident) (n : Int) : FnC Tryz.prog 283 [.agg (eIdent x), .raw (.int .i64 n)] (.raw (.bool (rAllowed x n))) := ⟨by
  refine fn_of Tryz.func283 Tryz.ntmps283 rfl (rs := [.tmp 4]) rfl rfl fun hb LF => ?_
  refine walkb fun b => ?_
  refine pwp_condD (fun h => ?_) (fun h => ?_)
  · refine walk ?_
    refine pops_if (fun hp => ?_) (fun hp => ?_)
    · refine walkp ?_
      refine end1 (.of_eq ?_)
      simp_all [rAllowed] <;> omega
    · refine walkp ?_
      refine end1 (.of_eq ?_)
      simp_all [rAllowed] <;> omega
  · refine walk ?_
    refine pops_if (fun hp => ?_) (fun hp => ?_)
    · refine walkp ?_
      refine end1 (.of_eq ?_)
      simp_all [rAllowed] <;> omega
    · refine walkp ?_
      refine end1 (.of_eq ?_)
      simp_all [rAllowed] <;> omega⟩
instance FitsFile_ct (k : Int) (x : Atm) : FnC Tryz.prog 161 [.raw (.int .i64 k), .agg (eAtm x)] (.raw (.bool (rFitsFile k x))) := ⟨by
  refine fn_of Tryz.func161 Tryz.ntmps161 rfl (rs := [.tmp 4]) rfl rfl fun hb LF => ?_
  refine walkb fun b => ?_
  refine pwp_condN (fun h => ?_) (fun h => ?_)
  · refine walk ?_
    refine end1 (.of_eq ?_)
    simp [rFitsFile, h]
  · refine walk ?_
    refine pwp_condB (fun h2 => ?_) (fun h2 => ?_)
    · refine walk ?_
      refine end1 (.of_eq ?_)
      simp [rFitsFile, h, h2]
    · refine walk ?_
      refine pops_if (fun hp => ?_) (fun hp => ?_)
      · refine walkp ?_
        refine end1 (.of_eq ?_)
        simp_all [rFitsFile]
      · refine walkp ?_
        refine pops_if (fun hq => ?_) (fun hq => ?_)
        · refine walkp ?_
          refine end1 (.of_eq ?_)
          simp_all [rFitsFile]
        · refine walkp ?_
          refine end1 (.of_eq ?_)
          simp_all [rFitsFile]⟩
instance FitsEnd_ct (f : Ident) (x : Atm) : FnC Tryz.prog 202 [.agg (eIdent f), .agg (eAtm x)] (.raw (.bool (rFitsEnd f x))) := ⟨by
  refine fn_of Tryz.func202 Tryz.ntmps202 rfl (rs := [.tmp 4]) rfl rfl fun hb LF => ?_
  refine walkb fun b => ?_
  refine walkbp fun b2 => ?_
  refine pops_if (fun hp => ?_) (fun hp => ?_)
  · refine walkp ?_
    refine end1 (.of_eq ?_)
    simp_all [rFitsEnd]
  · refine walkp ?_
    refine end1 (.of_eq ?_)
    simp_all [rFitsEnd]⟩
end Go.Proofs
/- Contracts: references within a patch (the reference's layer 16). -/
namespace Go.Proofs
open Go Go.Q
attribute [local irreducible] pwp pops PCalls OpN

def rFitsOver (k : Int) (f : Ident) (x : Atm) : Bool := decide (rWant k = 0) || decide (x.kind = rWant k) && decide (x.file = f)
def rOne (x : Ident) (own : List Atm) (fits : Bool) : Int := if rAllowed x own.length = false then 7 else if x.patch = Dig.zero ∧ fits = false then 8 else 0
def rGet (own : List Atm) (x : Ident) : Atm := if x.patch = Dig.zero ∧ 0 ≤ x.n then own.getD x.n.toNat Atm.zero else Atm.zero
def rComplete (x : Ident) (d : Dig) : Ident := if 0 ≤ x.n ∧ x.patch = Dig.zero then { x with patch := d } else x
def rWhole (x : Ident) (d : Dig) : Ident := if x.patch = Dig.zero ∧ 0 ≤ x.n then { x with patch := d } else x

instance FitsOver_ct (k : Int) (f : Ident) (x : Atm) : FnC Tryz.prog 164 [.raw (.int .i64 k), .agg (eIdent f), .agg (eAtm x)] (.raw (.bool (rFitsOver k f x))) := ⟨by
  refine fn_of Tryz.func164 Tryz.ntmps164 rfl (rs := [.tmp 6]) rfl rfl fun hb LF => ?_
  refine walkb fun b => ?_
  refine walkbp fun b2 => ?_
  refine pops_if (fun hp => ?_) (fun hp => ?_)
  · refine walkp ?_
    refine end1 (.of_eq ?_)
    simp_all [rFitsOver]
  · refine walkp ?_
    refine pops_if (fun hq => ?_) (fun hq => ?_)
    · refine walkp ?_
      refine end1 (.of_eq ?_)
      simp_all [rFitsOver]
    · refine walkp ?_
      refine end1 (.of_eq ?_)
      simp_all [rFitsOver]⟩
instance one_ct (x : Ident) (own : List Atm) (t : Tag) (fits : Bool) : FnC Tryz.prog 259 [.agg (eIdent x), .slice (own.map eAtm) t, .raw (.bool fits)] (.raw (.int .i64 (rOne x own fits))) := ⟨by
  refine fn_of Tryz.func259 Tryz.ntmps259 rfl (rs := [.tmp 6]) rfl rfl fun hb LF => ?_
  refine walkb fun b => ?_
  refine pwp_condB (fun h => ?_) (fun h => ?_)
  · refine walk ?_
    refine end1 (.of_eq ?_)
    simp_all [rOne]
  · refine walk ?_
    refine pops_if (fun hp => ?_) (fun hp => ?_)
    · refine walkp ?_
      refine pwp_condB (fun h2 => ?_) (fun h2 => ?_)
      · refine walk ?_
        refine end1 (.of_eq ?_)
        simp_all [rOne]
      · refine walk ?_
        refine end1 (.of_eq ?_)
        simp_all [rOne]
    · refine walkp ?_
      refine end1 (.of_eq ?_)
      simp_all [rOne]⟩
instance get_ct (own : List Atm) (t : Tag) (x : Ident) : FnC Tryz.prog 260 [.slice (own.map eAtm) t, .agg (eIdent x)] (.agg (eAtm (rGet own x))) := ⟨by
  refine fn_of Tryz.func260 Tryz.ntmps260 rfl (rs := [.cell 4 157]) rfl rfl fun hb LF => ?_
  refine walkb fun b => ?_
  refine walkbp fun b2 => ?_
  refine pops_if (fun hp => ?_) (fun hp => ?_)
  · refine walkp ?_
    refine pops_if (fun hq => ?_) (fun hq => ?_)
    · refine walkp ?_
      refine pwp_condD (fun h => ?_) (fun h => ?_)
      · have h0 : 0 ≤ x.n := of_decide_eq_true hq
        refine walk ?_
        refine endC rfl (.of_eq ?_)
        have : x.n.toNat < own.length := by omega
        simp_all [rGet]
      · refine walk ?_
        refine endC rfl (.of_eq ?_)
        have h0 : 0 ≤ x.n := of_decide_eq_true hq
        have : ¬ x.n.toNat < own.length := by omega
        simp_all [rGet]
    · refine walkp ?_
      refine endC rfl (.of_eq ?_)
      have h0 : ¬ 0 ≤ x.n := of_decide_eq_false hq
      simp [rGet, h0]
  · refine walkp ?_
    refine endC rfl (.of_eq ?_)
    simp_all [rGet]⟩
instance complete_ct (x : Ident) (d : Dig) : FnC Tryz.prog 165 [.agg (eIdent x), .agg (eDig d)] (.agg (eIdent (rComplete x d))) := ⟨by
  refine fn_of Tryz.func165 Tryz.ntmps165 rfl (rs := [.cell 4 115]) rfl rfl fun hb LF => ?_
  refine walkb fun b => ?_
  refine walkbp fun b2 => ?_
  refine walkbp fun b3 => ?_
  refine pops_if (fun hp => ?_) (fun hp => ?_)
  · refine walkp ?_
    refine pwp_condD (fun h => ?_) (fun h => ?_)
    · refine walk ?_
      refine endC rfl (.of_eq ?_)
      simp_all [rComplete]
    · refine walk ?_
      refine endC rfl (.of_eq ?_)
      simp_all [rComplete]
  · refine walkp ?_
    refine endC rfl (.of_eq ?_)
    have h0 : ¬ 0 ≤ x.n := of_decide_eq_false hp
    simp [rComplete, h0]⟩
instance whole_ct (x : Ident) (d : Dig) : FnC Tryz.prog 233 [.agg (eIdent x), .agg (eDig d)] (.agg (eIdent (rWhole x d))) := ⟨by
  refine fn_of Tryz.func233 Tryz.ntmps233 rfl (rs := [.cell 4 115]) rfl rfl fun hb LF => ?_
  refine walkb fun b => ?_
  refine walkbp fun b2 => ?_
  refine walkbp fun b3 => ?_
  refine pops_if (fun hp => ?_) (fun hp => ?_)
  · refine walkp ?_
    refine pwp_condD (fun h => ?_) (fun h => ?_)
    · refine walk ?_
      refine endC rfl (.of_eq ?_)
      simp_all [rWhole]
    · refine walk ?_
      refine endC rfl (.of_eq ?_)
      simp [rWhole, h]
  · refine walkp ?_
    refine endC rfl (.of_eq ?_)
    simp_all [rWhole]⟩
end Go.Proofs
/- Contracts: the order of identities; equality of lists, changes, patches and sets (the reference's layers 4, 16, 17). -/
namespace Go.Proofs
open Go Go.Q
attribute [local irreducible] pwp pops PCalls OpN

def cmpI (a b : Ident) : Int := if cmpD a.patch b.patch ≠ 0 then cmpD a.patch b.patch else if a.n < b.n then -1 else if b.n < a.n then 1 else 0
instance CompareI_ct (a b : Ident) : FnC Tryz.prog 264 [.agg (eIdent a), .agg (eIdent b)] (.raw (.int .i64 (cmpI a b))) := ⟨by
  refine fn_of Tryz.func264 Tryz.ntmps264 rfl (rs := [.tmp 4]) rfl rfl fun hb LF => ?_
  refine walkb fun p => ?_
  refine walkbp fun q => ?_
  refine pwp_condN (fun h => ?_) (fun h => ?_)
  · refine walk ?_
    refine end1 (.of_eq ?_)
    simp [cmpI, h]
  · refine walk ?_
    refine pwp_condD (fun h1 => ?_) (fun h1 => ?_)
    · refine walk ?_
      refine end1 (.of_eq ?_)
      simp [cmpI, h, h1]
    · refine walk ?_
      refine pwp_condD (fun h2 => ?_) (fun h2 => ?_)
      · refine walk ?_
        refine end1 (.of_eq ?_)
        simp [cmpI, h, h1, h2]
      · refine walk ?_
        refine end1 (.of_eq ?_)
        simp [cmpI, h, h1, h2]⟩

/-- Each one less than the next. -/
def rAsc (l : List Ident) : Bool := (List.range (l.length - 1)).all fun i => decide (cmpI (l.getD i Ident.zero) (l.getD (i + 1) Ident.zero) < 0)
instance Ascending_ct (l : List Ident) (t : Tag) : FnC Tryz.prog 258 [.slice (l.map eIdent) t] (.raw (.bool (rAsc l))) := ⟨by
  refine fn_of Tryz.func258 Tryz.ntmps258 rfl (rs := [.tmp 2]) rfl rfl fun hb LF => ?_
  have hlen : l.length ≤ 140737488355328 := (hb (.slice (l.map eIdent) t) (by simp)).slice_map
  refine walk ?_
  refine pwp_loopS (σ := Nat) (fun k => 1 ≤ k ∧ ∀ i, i + 1 < k → i + 1 < l.length → cmpI (l.getD i Ident.zero) (l.getD (i + 1) Ident.zero) < 0) (fun k => l.length - k) (fun k => [(0, .slice (l.map eIdent) t), (3, .raw (.int .i64 k))]) (fun _ => LF) 1 ⟨by simp, fun i h => by omega⟩ ⟨rfl, rfl⟩ (.refl _) ?_
  rintro k ⟨hk, he⟩
  refine walk ?_
  refine pwp_condD (fun hc => ?_) (fun hc => ?_)
  · obtain ⟨j, rfl⟩ : ∃ j, k = j + 1 := ⟨k - 1, by omega⟩
    refine walk ?_
    have e : ((↑(j + 1) : Int) - 1).toNat = j := by omega
    have hj : j + 1 < l.length := by omega
    refine pwp_condD (fun h1 => ?_) (fun h1 => ?_)
    · refine walk ?_
      refine end1 (.of_eq ?_)
      simp only [e] at h1
      have : rAsc l = false := by
        unfold rAsc
        rw [List.all_eq_false]
        refine ⟨j, List.mem_range.2 (by omega), ?_⟩
        simp only [decide_eq_true_eq, List.getD_eq_getElem?_getD, List.getElem?_eq_getElem hj, List.getElem?_eq_getElem (show j < l.length by omega), Option.getD_some]
        omega
      rw [this]
    · refine walk ?_
      simp only [e] at h1
      refine ⟨j + 1 + 1, ⟨by omega, fun i h2 h3 => ?_⟩, by dsimp only; omega, ⟨rfl, rfl⟩, .refl _⟩
      rcases Nat.lt_or_ge (i + 1) (j + 1) with h' | h'
      · exact he i h' h3
      · have : i = j := by omega
        subst this
        simp only [List.getD_eq_getElem?_getD, List.getElem?_eq_getElem hj, List.getElem?_eq_getElem (show i < l.length by omega), Option.getD_some]
        omega
  · refine walk ?_
    refine end1 (.of_eq ?_)
    have : rAsc l = true := by
      unfold rAsc
      rw [List.all_eq_true]
      intro i hi
      rw [List.mem_range] at hi
      exact decide_eq_true (he i (by omega) (by omega))
    rw [this]⟩
end Go.Proofs
/- Contracts: equality of lists, changes, patches and sets (the reference's layers 4, 16, 17). Printed by a program. -/
namespace Go.Proofs
open Go Go.Q
attribute [local irreducible] pwp pops PCalls OpN

instance SameIds_ct (l m : List Ident) (t u : Tag) : FnC Tryz.prog 126 [.slice (l.map eIdent) t, .slice (m.map eIdent) u] (.raw (.bool (decide (l = m)))) := ⟨by
  refine fn_of Tryz.func126 Tryz.ntmps126 rfl (rs := [.tmp 4]) rfl rfl fun hb LF => ?_
  have hlen : l.length ≤ 140737488355328 := (hb (.slice (l.map eIdent) t) (by simp)).slice_map
  refine walk ?_
  refine pwp_condN (fun h1 => ?_) (fun h1 => ?_)
  · refine walk ?_
    refine end1 (.of_eq ?_)
    have : ¬ l = m := fun e => h1 (by rw [e])
    simp [this]
  · refine walk ?_
    have hl : l.length = m.length := by omega
    refine pwp_loopS (σ := Nat) (fun k => k ≤ l.length ∧ l.take k = m.take k) (fun k => l.length - k) (fun k => [(0, .slice (l.map eIdent) t), (1, .slice (m.map eIdent) u), (5, .raw (.int .i64 k))]) (fun _ => LF) 0 ⟨by simp, by simp⟩ ⟨rfl, rfl, rfl⟩ (.refl _) ?_
    rintro k ⟨hk, he⟩
    refine walk ?_
    refine pwp_condD (fun hc => ?_) (fun hc => ?_)
    · refine walk ?_
      refine pwp_condN (fun h2 => ?_) (fun h2 => ?_)
      · refine walk ?_
        refine end1 (.of_eq ?_)
        have : ¬ l = m := fun e => h2 (by simp [e])
        simp [this]
      · refine walk ?_
        refine ⟨k + 1, ⟨by omega, ?_⟩, by dsimp only; omega, ⟨rfl, rfl, rfl⟩, .refl _⟩
        rw [List.take_succ_eq_append_getElem (by omega), List.take_succ_eq_append_getElem (by omega), he, h2]
    · refine walk ?_
      refine end1 (.of_eq ?_)
      have : l = m := by
        rw [List.take_of_length_le (by omega), List.take_of_length_le (by omega)] at he
        exact he
      simp [this]⟩
instance SameS_ct (l m : List Str) (t u : Tag) : FnC Tryz.prog 125 [.slice (l.map eS) t, .slice (m.map eS) u] (.raw (.bool (decide (l = m)))) := ⟨by
  refine fn_of Tryz.func125 Tryz.ntmps125 rfl (rs := [.tmp 4]) rfl rfl fun hb LF => ?_
  have hlen : l.length ≤ 140737488355328 := (hb (.slice (l.map eS) t) (by simp)).slice_map
  refine walk ?_
  refine pwp_condN (fun h1 => ?_) (fun h1 => ?_)
  · refine walk ?_
    refine end1 (.of_eq ?_)
    have : ¬ l = m := fun e => h1 (by rw [e])
    simp [this]
  · refine walk ?_
    have hl : l.length = m.length := by omega
    refine pwp_loopS (σ := Nat) (fun k => k ≤ l.length ∧ l.take k = m.take k) (fun k => l.length - k) (fun k => [(0, .slice (l.map eS) t), (1, .slice (m.map eS) u), (5, .raw (.int .i64 k))]) (fun _ => LF) 0 ⟨by simp, by simp⟩ ⟨rfl, rfl, rfl⟩ (.refl _) ?_
    rintro k ⟨hk, he⟩
    refine walk ?_
    refine pwp_condD (fun hc => ?_) (fun hc => ?_)
    · refine walk ?_
      refine pwp_condN (fun h2 => ?_) (fun h2 => ?_)
      · refine walk ?_
        refine end1 (.of_eq ?_)
        have : ¬ l = m := fun e => h2 (by simp [e])
        simp [this]
      · refine walk ?_
        refine ⟨k + 1, ⟨by omega, ?_⟩, by dsimp only; omega, ⟨rfl, rfl, rfl⟩, .refl _⟩
        rw [List.take_succ_eq_append_getElem (by omega), List.take_succ_eq_append_getElem (by omega), he, h2]
    · refine walk ?_
      refine end1 (.of_eq ?_)
      have : l = m := by
        rw [List.take_of_length_le (by omega), List.take_of_length_le (by omega)] at he
        exact he
      simp [this]⟩

theorem chg_eq (a b : Chg) : decide (a = b) = (decide (a.kind = b.kind) && decide (a.file = b.file) && decide (a.type = b.type) && decide (a.parent = b.parent) && decide (a.name = b.name) && decide (a.mode = b.mode) && decide (a.data = b.data) && decide (a.after = b.after) && decide (a.before = b.before) && decide (a.lines = b.lines) && decide (a.over = b.over)) := by
  cases a; cases b; rw [Bool.eq_iff_iff]; simp [and_assoc]
instance SameChange_ct (a b : Chg) : FnC Tryz.prog 93 [.agg (eChg a), .agg (eChg b)] (.raw (.bool (decide (a = b)))) := ⟨by
  refine fn_of Tryz.func93 Tryz.ntmps93 rfl (rs := [.tmp 4]) rfl rfl fun hb LF => ?_
  rw [chg_eq]
  refine walkb fun p => ?_
  refine walkbp fun q => ?_
  iterate 10
    refine pops_if (fun hp => ?_) (fun hp => by
      refine walkp ?_
      refine end1 (.of_eq ?_)
      simp_all)
    refine walkp ?_
  refine end1 (.of_eq ?_)
  simp_all⟩
end Go.Proofs
/- Contracts: equality of patches and sets; sets that are kept and put into (the reference's layers 16 and 17). -/
namespace Go.Proofs
open Go Go.Q
attribute [local irreducible] pwp pops PCalls OpN

theorem pat_ext {a b : Pat} (h1 : a.author = b.author) (h2 : a.message = b.message) (h3 : a.time = b.time) (h4 : a.deps = b.deps) (h5 : a.changes = b.changes) : a = b := by
  cases a; cases b; simp_all
instance SameP_ct (a b : Pat) : FnC Tryz.prog 47 [.agg (ePat a), .agg (ePat b)] (.raw (.bool (decide (a = b)))) := ⟨by
  refine fn_of Tryz.func47 Tryz.ntmps47 rfl (rs := [.tmp 4]) rfl rfl fun hb LF => ?_
  have hlen : a.changes.length ≤ 140737488355328 := ((hb (.agg (ePat a)) (by simp)).agg_at (c := .slice (a.changes.map eChg) .ro) (by simp [ePat])).slice_map
  have no : ∀ {q : Prop}, (a = b → ¬ q) → q → Le (.raw (.bool false)) (.raw (.bool (decide (a = b)))) := fun h hq => .of_eq (by rw [decide_eq_false (fun e => h e hq)])
  refine walkb fun p => ?_
  refine walkbp fun q => ?_
  iterate 4
    refine pops_if (fun hp => by
      refine walkp ?_
      refine end1 (no (fun e => ?_) hp)
      simp [e]) (fun hp => ?_)
    refine walkp ?_
  refine pwp_condN (fun h => ?_) (fun h => ?_)
  · refine walk ?_
    refine end1 (no (fun e => ?_) h)
    simp [e]
  · refine walk ?_
    have hl : a.changes.length = b.changes.length := by omega
    refine pwp_loopS (σ := Nat) (fun k => k ≤ a.changes.length ∧ a.changes.take k = b.changes.take k) (fun k => a.changes.length - k) (fun k => [(2, .raw (.pointer (some ⟨p, 0, none⟩))), (3, .raw (.pointer (some ⟨q, 0, none⟩))), (5, .raw (.int .i64 k))]) (fun _ => .box q 57 (ePat b) :: .box p 57 (ePat a) :: LF) 0 ⟨by simp, by simp⟩ ⟨rfl, rfl, rfl⟩ (.refl _) ?_
    rintro k ⟨hk, he⟩
    refine walk ?_
    refine pwp_condD (fun hc => ?_) (fun hc => ?_)
    · refine walk ?_
      refine pwp_condN (fun h2 => ?_) (fun h2 => ?_)
      · refine walk ?_
        refine end1 (no (fun e => ?_) h2)
        simp [e]
      · refine walk ?_
        refine ⟨k + 1, ⟨by omega, ?_⟩, by dsimp only; omega, ⟨rfl, rfl, rfl⟩, .refl _⟩
        rw [List.take_succ_eq_append_getElem (by omega), List.take_succ_eq_append_getElem (by omega), he, h2]
    · refine walk ?_
      refine end1 (.of_eq ?_)
      have h5 : a.changes = b.changes := by
        rw [List.take_of_length_le (by omega), List.take_of_length_le (by omega)] at he
        exact he
      have : a = b := by
        apply pat_ext <;> simp_all
      simp [this]⟩
theorem sto_ext {a b : Sto} (h1 : a.id = b.id) (h2 : a.patch = b.patch) : a = b := by
  cases a; cases b; simp_all
instance SameSet_ct (l m : List Sto) (t u : Tag) : FnC Tryz.prog 31 [.slice (l.map eSto) t, .slice (m.map eSto) u] (.raw (.bool (decide (l = m)))) := ⟨by
  refine fn_of Tryz.func31 Tryz.ntmps31 rfl (rs := [.tmp 4]) rfl rfl fun hb LF => ?_
  have hlen : l.length ≤ 140737488355328 := (hb (.slice (l.map eSto) t) (by simp)).slice_map
  refine walk ?_
  refine pwp_condN (fun h1 => ?_) (fun h1 => ?_)
  · refine walk ?_
    refine end1 (.of_eq ?_)
    have : ¬ l = m := fun e => h1 (by rw [e])
    simp [this]
  · refine walk ?_
    have hl : l.length = m.length := by omega
    refine pwp_loopS (σ := Nat) (fun k => k ≤ l.length ∧ l.take k = m.take k) (fun k => l.length - k) (fun k => [(0, .slice (l.map eSto) t), (1, .slice (m.map eSto) u), (5, .raw (.int .i64 k))]) (fun _ => LF) 0 ⟨by simp, by simp⟩ ⟨rfl, rfl, rfl⟩ (.refl _) ?_
    rintro k ⟨hk, he⟩
    refine walk ?_
    refine pwp_condD (fun hc => ?_) (fun hc => ?_)
    · refine walk ?_
      refine pops_if (fun hp => ?_) (fun hp => ?_)
      · refine walkp ?_
        refine end1 (.of_eq ?_)
        have : ¬ l = m := fun e => by simp [e] at hp
        simp [this]
      · refine walkp ?_
        refine pwp_condN (fun h2 => ?_) (fun h2 => ?_)
        · refine walk ?_
          refine end1 (.of_eq ?_)
          have : ¬ l = m := fun e => h2 (by simp [e])
          simp [this]
        · refine walk ?_
          refine ⟨k + 1, ⟨by omega, ?_⟩, by dsimp only; omega, ⟨rfl, rfl, rfl⟩, .refl _⟩
          have h3 : l[k] = m[k] := sto_ext (by simpa using hp) h2
          rw [List.take_succ_eq_append_getElem (by omega), List.take_succ_eq_append_getElem (by omega), he, h3]
    · refine walk ?_
      refine end1 (.of_eq ?_)
      have : l = m := by
        rw [List.take_of_length_le (by omega), List.take_of_length_le (by omega)] at he
        exact he
      simp [this]⟩

def keepS (s : List Sto) (l : List Dig) : List Sto := s.filter fun x => decide (x.id ∈ l)
instance Keep_ct (s : List Sto) (l : List Dig) (t u : Tag) [hs : Small (s.length ≤ 1000000)] : FnC Tryz.prog 61 [.slice (s.map eSto) t, .slice (l.map eDig) u] (.slice ((keepS s l).map eSto) .ro) := ⟨by
  refine fn_of Tryz.func61 Tryz.ntmps61 rfl (rs := [.tmp 4]) rfl rfl fun hb LF => ?_
  have hlen : s.length ≤ 1000000 := hs.out
  refine walk ?_
  refine pwp_tok 37 ?_
  refine pwp_loopS (σ := Nat × Tag) (fun k => k.1 ≤ s.length) (fun k => s.length - k.1) (fun k => [(0, .slice (s.map eSto) t), (1, .slice (l.map eDig) u), (5, .slice ((keepS (s.take k.1) l).map eSto) k.2), (6, .raw (.int .i64 k.1))]) (fun k => .tok k.2 (keepS (s.take k.1) l).length 37 :: LF) (0, .nil) (by simp) ⟨rfl, rfl, rfl, rfl⟩ (.refl _) ?_
  rintro ⟨k, v⟩ hk
  dsimp only at hk
  refine walk ?_
  refine pwp_condD (fun hc => ?_) (fun hc => ?_)
  · have hl : (keepS (s.take k) l).length ≤ k := Nat.le_trans (List.length_filter_le _ _) (by simp; omega)
    have e : keepS (s.take (k + 1)) l = keepS (s.take k) l ++ keepS [s[k]] l := by
      rw [List.take_succ_eq_append_getElem (by omega)]; simp only [keepS, List.filter_append]
    refine walk ?_
    refine pwp_condD (fun h => ?_) (fun h => ?_)
    · refine walka fun v' => ?_
      have e2 : keepS [s[k]] l = [s[k]] := by simp [keepS, h]
      rw [e2] at e
      refine ⟨(k + 1, v'), by dsimp only; omega, by dsimp only; omega, ⟨rfl, rfl, by dsimp only; rw [e]; rfl, rfl⟩, by dsimp only; rw [e]; exact .refl _⟩
    · refine walk ?_
      have e2 : keepS [s[k]] l = [] := by simp [keepS, h]
      rw [e2, List.append_nil] at e
      refine ⟨(k + 1, v), by dsimp only; omega, by dsimp only; omega, ⟨rfl, rfl, by dsimp only; rw [e]; rfl, rfl⟩, by dsimp only; rw [e]; exact .refl _⟩
  · refine walk ?_
    refine end1 (.ros ?_)
    rw [List.take_of_length_le (by omega)]⟩
end Go.Proofs
/- Contracts: lines, names, the fields of a change (the reference's layers 4, 12, 16). -/
namespace Go.Proofs
open Go Go.Q
attribute [local irreducible] pwp pops PCalls OpN

theorem all_true_of {α : Type} {l : List α} {q : α → Bool} (h : ∀ i (h : i < l.length), q l[i] = true) : l.all q = true := by
  rw [List.all_eq_true]; intro x hx
  obtain ⟨i, hi, rfl⟩ := List.mem_iff_getElem.1 hx
  exact h i hi
theorem all_false_of {α : Type} {l : List α} {q : α → Bool} {k : Nat} (hk : k < l.length) (h : q l[k] = false) : l.all q = false := by
  rw [List.all_eq_false]; exact ⟨_, List.getElem_mem hk, by simp [h]⟩
theorem upto_succ {α : Type} {l : List α} {q : α → Bool} {k : Nat} (he : ∀ i (h : i < l.length), i < k → q l[i] = true) (hk : k < l.length) (h : q l[k] = true) : ∀ i (h : i < l.length), i < k + 1 → q l[i] = true := fun i hi hik => by
  rcases Nat.lt_or_ge i k with h' | h'
  · exact he i hi h'
  · have : i = k := by omega
    subst this; exact h

def rCleanC (m n : Int) (c : UInt8) : Bool := !decide ((c.toNat : Int) = m) && !decide ((c.toNat : Int) = n)
def rClean (s : Str) (m n : Int) : Bool := s.all (rCleanC m n)
instance clean_ct (s : Str) (m n : Int) : FnC Tryz.prog 290 [.str s, .raw (.int .u8 m), .raw (.int .u8 n)] (.raw (.bool (rClean s m n))) := ⟨by
  refine fn_of Tryz.func290 Tryz.ntmps290 rfl (rs := [.tmp 6]) rfl rfl fun hb LF => ?_
  have hlen : s.length ≤ 140737488355328 := (hb (.str s) (by simp)).str_len
  refine walk ?_
  refine pwp_loopS (σ := Nat) (fun k => k ≤ s.length ∧ ∀ i (h : i < s.length), i < k → rCleanC m n s[i] = true) (fun k => s.length - k) (fun k => [(0, .str s), (1, .raw (.int .u8 m)), (2, .raw (.int .u8 n)), (7, .raw (.int .i64 k))]) (fun _ => LF) 0 ⟨by simp, by simp⟩ ⟨rfl, rfl, rfl, rfl⟩ (.refl _) ?_
  rintro k ⟨hk, he⟩
  refine walk ?_
  refine pwp_condD (fun hc => ?_) (fun hc => ?_)
  · have hlt : k < s.length := by omega
    refine walk ?_
    repeat' (first | (refine pwp_condD (fun h => ?_) (fun h => ?_) <;> refine walk ?_) | (refine pwp_condN (fun h => ?_) (fun h => ?_) <;> refine walk ?_) | (refine pwp_condB (fun h => ?_) (fun h => ?_) <;> refine walk ?_) | (refine pops_if (fun h => ?_) (fun h => ?_) <;> (have h2 := h; (try simp only [decide_eq_true_eq, decide_eq_false_iff_not, Bool.not_eq_true', Bool.not_eq_false'] at h2); refine walkp ?_)))
    all_goals first
      | (refine ⟨k + 1, ⟨by omega, upto_succ he hlt ?_⟩, by dsimp only; omega, ⟨rfl, rfl, rfl, rfl⟩, .refl _⟩; simp_all [rCleanC]; done)
      | (refine end1 (.of_eq ?_); have : rCleanC m n s[k] = false := by simp_all [rCleanC]
         rw [rClean, all_false_of hlt this])
  · refine walk ?_
    refine end1 (.of_eq ?_)
    rw [rClean, all_true_of fun i h => he i h (by omega)]⟩
def rValid (s : Str) : Bool := decide ((s.length : Int) ≤ 1000) && rClean s 10 0
instance Valid_ct (s : Str) : FnC Tryz.prog 282 [.str s] (.raw (.bool (rValid s))) := ⟨by
  refine fn_of Tryz.func282 Tryz.ntmps282 rfl (rs := [.tmp 2]) rfl rfl fun hb LF => ?_
  refine walk ?_
  repeat' (first | (refine pwp_condD (fun h => ?_) (fun h => ?_) <;> refine walk ?_) | (refine pwp_condN (fun h => ?_) (fun h => ?_) <;> refine walk ?_) | (refine pwp_condB (fun h => ?_) (fun h => ?_) <;> refine walk ?_) | (refine pops_if (fun h => ?_) (fun h => ?_) <;> (have h2 := h; (try simp only [decide_eq_true_eq, decide_eq_false_iff_not, Bool.not_eq_true', Bool.not_eq_false'] at h2); refine walkp ?_)))
  all_goals (refine end1 (.of_eq ?_); first | (simp_all [rValid]; done) | grind [rValid])⟩

def rNameC (c : UInt8) : Bool := (decide (97 ≤ (c.toNat : Int)) && decide ((c.toNat : Int) ≤ 122)) || (decide (65 ≤ (c.toNat : Int)) && decide ((c.toNat : Int) ≤ 90)) || (decide (48 ≤ (c.toNat : Int)) && decide ((c.toNat : Int) ≤ 57)) || decide ((c.toNat : Int) = 46) || decide ((c.toNat : Int) = 95) || decide ((c.toNat : Int) = 45)
def rName (s : Str) : Bool := s.all rNameC && decide (1 ≤ (s.length : Int)) && decide ((s.length : Int) ≤ 40) && !decide (s = [46]) && !decide (s = [46, 46])
set_option maxHeartbeats 1000000 in
instance Name_ct (s : Str) : FnC Tryz.prog 187 [.str s] (.raw (.bool (rName s))) := ⟨by
  refine fn_of Tryz.func187 Tryz.ntmps187 rfl (rs := [.tmp 2]) rfl rfl fun hb LF => ?_
  have hlen : s.length ≤ 140737488355328 := (hb (.str s) (by simp)).str_len
  refine walk ?_
  refine pwp_loopS (σ := Nat) (fun k => k ≤ s.length ∧ ∀ i (h : i < s.length), i < k → rNameC s[i] = true) (fun k => s.length - k) (fun k => [(0, .str s), (3, .raw (.int .i64 k))]) (fun _ => LF) 0 ⟨by simp, by simp⟩ ⟨rfl, rfl⟩ (.refl _) ?_
  rintro k ⟨hk, he⟩
  refine walk ?_
  refine pwp_condD (fun hc => ?_) (fun hc => ?_)
  · have hlt : k < s.length := by omega
    refine walk ?_
    repeat' (first | (refine pwp_condD (fun h => ?_) (fun h => ?_) <;> refine walk ?_) | (refine pwp_condN (fun h => ?_) (fun h => ?_) <;> refine walk ?_) | (refine pwp_condB (fun h => ?_) (fun h => ?_) <;> refine walk ?_) | (refine pops_if (fun h => ?_) (fun h => ?_) <;> (have h2 := h; (try simp only [decide_eq_true_eq, decide_eq_false_iff_not, Bool.not_eq_true', Bool.not_eq_false'] at h2); refine walkp ?_)))
    all_goals first
      | (refine ⟨k + 1, ⟨by omega, upto_succ he hlt ?_⟩, by dsimp only; omega, ⟨rfl, rfl⟩, .refl _⟩; clear he hc; grind [rNameC])
      | (refine end1 (.of_eq ?_); have : rNameC s[k] = false := by clear he hc; grind [rNameC]
         rw [rName, all_false_of hlt this]; rfl)
  · have hall : s.all rNameC = true := all_true_of fun i h => he i h (by omega)
    refine walk ?_
    repeat' (first | (refine pwp_condD (fun h => ?_) (fun h => ?_) <;> refine walk ?_) | (refine pwp_condN (fun h => ?_) (fun h => ?_) <;> refine walk ?_) | (refine pwp_condB (fun h => ?_) (fun h => ?_) <;> refine walk ?_) | (refine pops_if (fun h => ?_) (fun h => ?_) <;> (have h2 := h; (try simp only [decide_eq_true_eq, decide_eq_false_iff_not, Bool.not_eq_true', Bool.not_eq_false'] at h2); refine walkp ?_)))
    all_goals (refine end1 (.of_eq ?_); first | (simp_all [rName]; done) | grind [rName])⟩

def rLines (l : List Str) : Int := if (l.length : Int) = 0 then 1 else if 2000 < (l.length : Int) then 4 else if l.all rValid then 0 else 3
instance lines_ct (l : List Str) (t : Tag) : FnC Tryz.prog 257 [.slice (l.map eS) t] (.raw (.int .i64 (rLines l))) := ⟨by
  refine fn_of Tryz.func257 Tryz.ntmps257 rfl (rs := [.tmp 2]) rfl rfl fun hb LF => ?_
  have hlen : l.length ≤ 140737488355328 := (hb (.slice (l.map eS) t) (by simp)).slice_map
  refine walk ?_
  refine pwp_condD (fun h1 => ?_) (fun h1 => ?_)
  · refine walk ?_
    refine end1 (.of_eq ?_)
    simp [rLines, h1]
  refine walk ?_
  refine pwp_condD (fun h2 => ?_) (fun h2 => ?_)
  · refine walk ?_
    refine end1 (.of_eq ?_)
    simp only [rLines, h1, h2, if_true, if_false]
  refine walk ?_
  refine pwp_loopS (σ := Nat) (fun k => k ≤ l.length ∧ ∀ i (h : i < l.length), i < k → rValid l[i] = true) (fun k => l.length - k) (fun k => [(0, .slice (l.map eS) t), (3, .raw (.int .i64 k))]) (fun _ => LF) 0 ⟨by simp, by simp⟩ ⟨rfl, rfl⟩ (.refl _) ?_
  rintro k ⟨hk, he⟩
  refine walk ?_
  refine pwp_condD (fun hc => ?_) (fun hc => ?_)
  · have hlt : k < l.length := by omega
    refine walk ?_
    refine pwp_condB (fun h => ?_) (fun h => ?_)
    · refine walk ?_
      refine end1 (.of_eq ?_)
      simp only [rLines, h1, h2, if_false]
      rw [all_false_of hlt (by simpa using h)]; rfl
    · refine walk ?_
      exact ⟨k + 1, ⟨by omega, upto_succ he hlt (by simpa using h)⟩, by dsimp only; omega, ⟨rfl, rfl⟩, .refl _⟩
  · refine walk ?_
    refine end1 (.of_eq ?_)
    simp only [rLines, h1, h2, if_false]
    rw [all_true_of fun i h => he i h (by omega)]; rfl⟩
end Go.Proofs
/- Contracts: the fields of a change (the reference's layer 16). -/
namespace Go.Proofs
open Go Go.Q
attribute [local irreducible] pwp pops PCalls OpN

def rRest (c : Chg) : Chg :=
  { kind := c.kind, file := if 2 ≤ c.kind ∧ c.kind ≤ 6 then Ident.zero else c.file, type := if c.kind = 1 then 0 else c.type, parent := if c.kind = 2 then Ident.zero else c.parent, name := if c.kind = 2 then [] else c.name,
    mode := if c.kind = 3 then 0 else c.mode, data := if c.kind = 4 then [] else c.data, after := if c.kind = 5 ∨ c.kind = 6 then Ident.zero else c.after, before := if c.kind = 5 ∨ c.kind = 6 then Ident.zero else c.before,
    lines := if c.kind = 5 then [] else c.lines, over := if c.kind ≠ 1 ∧ c.kind ≠ 5 then [] else c.over }
set_option maxHeartbeats 1000000 in
instance rest_ct (c : Chg) : FnC Tryz.prog 256 [.agg (eChg c)] (.agg (eChg (rRest c))) := ⟨by
  refine fn_of Tryz.func256 Tryz.ntmps256 rfl (rs := [.cell 2 119]) rfl rfl fun hb LF => ?_
  refine walkb fun b => ?_
  refine walkbp fun b2 => ?_
  repeat' (first | (refine pwp_condD (fun h => ?_) (fun h => ?_) <;> ((try dsimp only at h); first | (exfalso; omega; done) | refine walk ?_)) | (refine pwp_condN (fun h => ?_) (fun h => ?_) <;> ((try dsimp only at h); first | (exfalso; omega; done) | refine walk ?_)) | (refine pwp_condB (fun h => ?_) (fun h => ?_) <;> ((try dsimp only at h); first | (exfalso; omega; done) | refine walk ?_)) | (refine pops_if (fun h => ?_) (fun h => ?_) <;> (have h2 := h; (try simp only [decide_eq_true_eq, decide_eq_false_iff_not, Bool.not_eq_true', Bool.not_eq_false'] at h2); first | (exfalso; omega; done) | refine walkp ?_)))
  all_goals (refine endC rfl (.of_eq (congrArg (fun c => PV.agg (eChg c)) ?_)); simp only [rRest, Chg.mk.injEq]; and_intros <;> first | trivial | rfl | (split <;> first | rfl | (exfalso; omega)))⟩

def rEmpty (c : Chg) : Bool := decide (c.file = Ident.zero) && decide (c.type = 0) && decide (c.parent = Ident.zero) && decide (c.name = []) && decide (c.mode = 0) && decide (c.data = []) && decide (c.after = Ident.zero) && decide (c.before = Ident.zero) && decide ((c.lines.length : Int) = 0) && decide ((c.over.length : Int) = 0)
set_option maxHeartbeats 1000000 in
instance empty_ct (c : Chg) : FnC Tryz.prog 255 [.agg (eChg c)] (.raw (.bool (rEmpty c))) := ⟨by
  refine fn_of Tryz.func255 Tryz.ntmps255 rfl (rs := [.tmp 2]) rfl rfl fun hb LF => ?_
  refine walkb fun b => ?_
  iterate 9
    refine pops_if (fun hp => ?_) (fun hp => by
      refine walkp ?_
      refine end1 (.of_eq ?_)
      simp_all [rEmpty])
    refine walkp ?_
  refine end1 (.of_eq ?_)
  simp_all [rEmpty]⟩
end Go.Proofs
