/- The small logic: loops over functions. Library, no statement of its own. -/
import Derived.Test.YtddlffkdpocmhaaGreatDoorWah
import Derived.RangeFuncNested
import Derived.WideKeyRuns
import Derived.Lib.Bytealg
import Derived.Lib.BytesEntry
import Derived.Test.YtddlffkdpocmhaaGreatDoorWag
import Derived.Laws.Externs
set_option linter.unusedSimpArgs false
set_option linter.unusedVariables false
namespace Go.Q
open Go

/-! ### Worlds in which one object has turned -/
theorem Step.comp {B B₁ : List Nat} {w w₁ w₂ : World} {g g₁ g₂ : Gh} (h : Step B w g w₁ g₁) (k : Step B₁ w₁ g₁ w₂ g₂) (hB : ∀ b ∈ B₁, b < w.heap.size → b ∈ B) : Step B w g w₂ g₂ :=
  ⟨k.os.trans h.os, k.tape.trans h.tape, ⟨k.output.1.trans h.output.1, Nat.le_trans h.output.2 k.output.2⟩, Nat.le_trans h.size k.size,
   fun b hb hn => by rw [k.keep b (Nat.lt_of_lt_of_le hb h.size) (fun hm => hn (hB b hm hb)), h.keep b hb hn], h.le.trans k.le,
   fun b hb hn => by
    obtain ⟨a1, a2⟩ := k.new b (Nat.lt_of_lt_of_le hb h.size) (fun hm => hn (hB b hm hb))
    obtain ⟨b1, b2⟩ := h.new b hb hn
    exact ⟨fun o => by rw [a1, b1], by rw [a2, b2]⟩⟩
theorem Step.put {B : List Nat} {w : World} {g : Gh} {l : Nat} (o : Obj) (hl : l ∈ B) : Step B w g (w.putObj l o) g :=
  ⟨rfl, rfl, ⟨rfl, Nat.le_refl _⟩, Nat.le_of_eq (by simp [World.putObj]), fun k _ hn => World.putObj_heap_other (fun e => hn (e ▸ hl)), .refl g, fun _ _ _ => ⟨fun _ => rfl, rfl⟩⟩
/-- A block of which nothing is known turns. -/
theorem Inv.put {w : World} {g : Gh} {L : List Res} {l : Nat} (o : Obj) (hi : Inv w g L) (hH : ∀ o, g.H l o = none) (hM : g.M l = none) (hl : l ∉ blocks L) : Inv (w.putObj l o) g L := by
  have hk : ∀ k, k ≠ l → (w.putObj l o).heap[k]? = w.heap[k]? := fun k hk => World.putObj_heap_other hk
  refine ⟨fun b i v h => ?_, fun b z h => ?_, fun r hr => ?_, hi.nodup, hi.glob⟩
  · have : b ≠ l := fun e => by subst e; rw [hH] at h; cases h
    have h0 := hi.sat b i v h
    simp only [World.cell?] at h0 ⊢
    rw [hk b this]; exact h0
  · have : b ≠ l := fun e => by subst e; rw [hM] at h; cases h
    exact (hi.satM b z h).congr (hk b this)
  · exact Res.holds_kept (.refl g) (hi.res r hr) fun b hb => ⟨hk b (fun e => hl (List.mem_filterMap.2 ⟨r, hr, by rw [hb, e]⟩)), fun _ => rfl, rfl⟩
theorem Inv.putRaw {w : World} {g : Gh} {L : List Res} {l : Nat} {o : Obj} (o' : Obj) (hi : Inv w g (.raw l o :: L)) : Inv (w.putObj l o') g (.raw l o' :: L) := by
  obtain ⟨h1, h2, h3⟩ := hi.res _ (List.mem_cons_self)
  have hnd := hi.nodup
  simp only [blocks, List.filterMap_cons, Res.block] at hnd
  have hn := (List.nodup_cons.1 hnd).1
  have k := (hi.sub (List.sublist_cons_self _ _)).put o' h2 h3 hn
  refine ⟨k.sat, k.satM, fun r hr => ?_, hi.nodup, hi.glob⟩
  rcases List.mem_cons.1 hr with rfl | hr
  · exact ⟨World.putObj_heap_same (Array.getElem?_eq_some_iff.1 h1).1, h2, h3⟩
  · exact k.res r hr
/-- A block of one's own comes back among the resources. -/
theorem Inv.addRaw {w : World} {g : Gh} {L : List Res} {l : Nat} {o : Obj} (hi : Inv w g L) (h1 : w.heap[l]? = some o) (h2 : ∀ o, g.H l o = none) (h3 : g.M l = none) (hl : l ∉ blocks L) : Inv w g (.raw l o :: L) :=
  ⟨hi.sat, hi.satM, fun r hr => by
    rcases List.mem_cons.1 hr with rfl | hr
    · exact ⟨h1, h2, h3⟩
    · exact hi.res r hr, by simp only [blocks, List.filterMap_cons, Res.block]; exact List.nodup_cons.2 ⟨hl, hi.nodup⟩, hi.glob⟩
theorem Inv.addKnow {w : World} {g : Gh} {L : List Res} {vs : List Value} {xs : List PV} (hi : Inv w g L) (h : VRl g vs xs) : Inv w g (.know vs xs :: L) :=
  ⟨hi.sat, hi.satM, fun r hr => by
    rcases List.mem_cons.1 hr with rfl | hr
    · exact h
    · exact hi.res r hr, hi.nodup, hi.glob⟩
theorem Inv.lt {w : World} {g : Gh} {L : List Res} (hi : Inv w g L) {b : Nat} (hb : b ∈ blocks L) : b < w.heap.size := by
  obtain ⟨r, hr, e⟩ := List.mem_filterMap.1 hb
  exact Res.holds_lt (hi.res r hr) e
theorem Inv.fresh {w : World} {g : Gh} {L : List Res} (hi : Inv w g L) {b : Nat} (hb : w.heap.size ≤ b) : (∀ o, g.H b o = none) ∧ g.M b = none := by
  constructor
  · intro o
    cases h : g.H b o with
    | none => rfl
    | some v => have := hi.sat _ _ _ h; simp [World.cell?, Array.getElem?_eq_none hb] at this
  · cases h : g.M b with
    | none => rfl
    | some z => exact absurd (hi.satM _ _ h).lt (by omega)
/-- A new object. -/
theorem Inv.allocO {w : World} {g : Gh} {L : List Res} (hi : Inv w g L) (o : Obj) : Inv (w.alloc o) g L ∧ Step (blocks L) w g (w.alloc o) g := by
  have hk : ∀ k, k < w.heap.size → (w.alloc o).heap[k]? = w.heap[k]? := fun k hk => by
    show (w.heap.push o)[k]? = _
    rw [Array.getElem?_push, if_neg (by omega)]
  refine ⟨⟨fun b i v h => ?_, fun b z h => (hi.satM b z h).congr (hk b (hi.satM b z h).lt), fun r hr => ?_, hi.nodup, hi.glob⟩, ⟨rfl, rfl, ⟨rfl, Nat.le_refl _⟩, by simp, fun k hlt _ => hk k hlt, .refl g, fun _ _ _ => ⟨fun _ => rfl, rfl⟩⟩⟩
  · have h0 := hi.sat b i v h
    have hb : b < w.heap.size := by
      rcases Nat.lt_or_ge b w.heap.size with h' | h'
      · exact h'
      · simp [World.cell?, Array.getElem?_eq_none h'] at h0
    simp only [World.cell?] at h0 ⊢
    rw [hk b hb]; exact h0
  · exact Res.holds_kept (.refl g) (hi.res r hr) fun b hb => ⟨hk b (hi.lt (List.mem_filterMap.2 ⟨r, hr, hb⟩)), fun _ => rfl, rfl⟩

/-! ### What a loop's body does to a call of yield -/
def PYield (P : Program) (l : Nat) (args : List PV) (L : List Res) (R : Bool → List Res → Prop) : Prop :=
  ∀ (vs : List Value) (w : World) (g : Gh) (LF : List Res), VRl g vs args → Inv w g (L ++ LF) →
    ∃ fn tmps assign body, (Instr.yield l vs.toArray).run P w = .ok (.round l fn tmps assign body) w ∧
      RoundIn Fence.wide 0 P l fn tmps assign body w (fun e w' => ∃ b g' L', e = .returned (.bool b) ∧ Inv w' g' (L' ++ LF) ∧ Step (blocks (L ++ LF)) w g w' g' ∧ Within w (L ++ LF) (L' ++ LF) ∧ R b L')
theorem PYield.mono {P : Program} {l : Nat} {args : List PV} {L : List Res} {R R' : Bool → List Res → Prop} (h : PYield P l args L R) (hr : ∀ b L', R b L' → R' b L') : PYield P l args L R' := fun vs w g LF hv hi => by
  obtain ⟨fn, tmps, assign, body, h1, h2⟩ := h vs w g LF hv hi
  exact ⟨fn, tmps, assign, body, h1, RoundIn.mono h2 fun e w' ⟨b, g', L', k1, k2, k3, k4, k5⟩ => ⟨b, g', L', k1, k2, k3, k4, hr _ _ k5⟩⟩

section
variable {P : Program} {N : Nat} {all : Array Oper} {K : Env → List Res → Prop} {fl : List Bool} {os : List Oper} {ρ : Env} {L : List Res} {Q : PPost} {c : Code} {d : Nat} {ty : TypeId} {pos : String} {af : Array Edge}

theorem opN_yield {dst : Option Nat} {x : Operand} {xs : List Operand} {ats : Array TypeId} {gd : Option (Nat × Bool)} {l : Nat} {L₁ LF : List Res} {Ψ : PV → List Res → Prop} {args : List PV}
    (hx : ρ.ev x = .raw (.func (.yield l) #[] #[])) (hargs : xs.map ρ.ev = args) (hp : L.Perm (L₁ ++ LF)) (hc : PYield P l args L₁ (fun b L' => Ψ (.raw (.bool b)) (L' ++ LF))) :
    OpN P ⟨dst, .call { callee := .value x, args := xs.toArray, argTypes := ats }, ty, pos, af, gd⟩ ρ L Ψ := by
  refine OpN.perm hp fun a w g ha hi => ?_
  have h1 := evRaw ha (x := x) (by simp [Op.operands, Call.operands]) hx
  have hvs : VRl g (xs.map a.eval) args := by
    subst hargs
    refine ⟨by simp, fun i h1 h2 => ?_⟩
    simp only [List.getElem_map]
    exact ha _ (by simp [Op.operands, Call.operands])
  obtain ⟨fn, tmps, assign, body, hy, hR⟩ := hc _ w g LF hvs hi
  have hr : (execOp a.eval ⟨dst, .call { callee := .value x, args := xs.toArray, argTypes := ats }, ty, pos, af, gd⟩).run P w = .ok (.round l fn tmps assign body) w := by
    simp only [execOp, resolve, h1, Deferred.ofValue, Sem.run_bind, Sem.run_pure, Result.andThen_ok, invoke]
    simpa using hy
  refine Oper.wq_of_run hr ?_
  refine RoundIn.mono (F := Fence.wide) (n := 0) hR ?_
  rintro e w' ⟨b, g', L', rfl, h2, h3, h4, h5⟩
  exact ⟨.bool b, .raw (.bool b), g', L' ++ LF, rfl, .raw _, h2, h3, h4, h5⟩
theorem s_yield {x : Operand} {xs : List Operand} {xa : Array Operand} {ats : Array TypeId} {l : Nat} {args : List PV} (L₁ LF : List Res) (hx : ρ.ev x = .raw (.func (.yield l) #[] #[])) (hxa : xa = xs.toArray) (hargs : xs.map ρ.ev = args) (hp : L.Perm (L₁ ++ LF))
    (R : Bool → List Res → Prop) (hc : PYield P l args L₁ R) (k : ∀ b L', R b L' → pops P N all K fl.tail os (upd ρ d (.raw (.bool b))) (L' ++ LF)) (hd : Nat.blt d N = true := by rfl) (hfl : fl.headD true = true := by rfl) :
    pops P N all K fl (⟨some d, .call { callee := .value x, args := xa, argTypes := ats }, ty, pos, af, none⟩ :: os) ρ L := by
  subst hxa
  exact pops_n rfl (dlt hd) hfl (opN_yield hx hargs hp (hc.mono fun b L' h => k b L' h))
theorem s_yield0 {x : Operand} {xs : List Operand} {xa : Array Operand} {ats : Array TypeId} {l : Nat} {args : List PV} (L₁ LF : List Res) (hx : ρ.ev x = .raw (.func (.yield l) #[] #[])) (hxa : xa = xs.toArray) (hargs : xs.map ρ.ev = args) (hp : L.Perm (L₁ ++ LF))
    (R : Bool → List Res → Prop) (hc : PYield P l args L₁ R) (k : ∀ b L', R b L' → pops P N all K fl.tail os ρ (L' ++ LF)) (hfl : fl.headD true = true := by rfl) :
    pops P N all K fl (⟨none, .call { callee := .value x, args := xa, argTypes := ats }, ty, pos, af, none⟩ :: os) ρ L := by
  subst hxa
  exact pops_n rfl (fun _ e => by cases e) hfl (opN_yield hx hargs hp (hc.mono fun b L' h => k b L' h))
end

/-! ### Iterators, loops over them -/
/-- The function f, with these captured, calls yield with each of xs, in this order, as long as it says yes. -/
def PIter (P : Program) (f : Nat) (caps : List PV) {α : Type} (enc : α → List PV) (xs : List α) : Prop :=
  ∀ (l : Nat) (J Jx : List α → List Res → Prop),
    (∀ pre x L, (pre ++ [x]) <+: xs → J pre L → PYield P l (enc x) L (fun b L' => (b = true ∧ J (pre ++ [x]) L') ∨ (b = false ∧ Jx (pre ++ [x]) L'))) →
    ∀ L, J [] L → PCalls P f (.raw (.func (.yield l) #[] #[]) :: caps) L (fun _ L' => J xs L' ∨ ∃ pre, Jx pre L')

@[reducible] def updL : Env → List Nat → List PV → Env
  | ρ, p :: ps, x :: xs => updL (upd ρ p x) ps xs
  | ρ, _, _ => ρ
@[reducible] def RoundQ {α σ : Type} (I Ix : List α → σ → Prop) (LL : σ → List Res → List Res) (LF : List Res) (pre : List α) : PPost
  | .normal, _, L => ∃ s, I pre s ∧ (LL s LF).Sublist L
  | .ret, _, L => ∃ s, Ix pre s ∧ (LL s LF).Sublist L
  | _, _, _ => False

theorem slots_updL {g : Gh} : ∀ (ps : List Nat) (vs : List Value) (xs : List PV) (t : Array Value) (ρ : Env), VRl g vs xs → (∀ p ∈ ps, p < t.size) → (∀ i, VR g (t.getD i undef) (ρ i)) →
    ((ps.zip vs).foldl (fun t (p : Nat × Value) => t.setIfInBounds p.1 p.2) t).size = t.size ∧ ∀ i, VR g (((ps.zip vs).foldl (fun t (p : Nat × Value) => t.setIfInBounds p.1 p.2) t).getD i undef) (updL ρ ps xs i)
  | [], _, _, t, ρ, _, _, h => ⟨rfl, h⟩
  | p :: ps, [], [], t, ρ, _, _, h => ⟨rfl, h⟩
  | p :: ps, [], x :: xs, t, ρ, hv, _, _ => by have := hv.len; simp at this
  | p :: ps, v :: vs, [], t, ρ, hv, _, _ => by have := hv.len; simp at this
  | p :: ps, v :: vs, x :: xs, t, ρ, hv, hp, h => by
    obtain ⟨h1, h2⟩ := hv.uncons
    have := slots_updL ps vs xs (t.setIfInBounds p v) (upd ρ p x) h2 (fun q hq => by simpa using hp q (List.mem_cons_of_mem _ hq)) (fun i => by
      by_cases e : i = p
      · subst e
        have hlt := hp i (List.mem_cons_self)
        rw [upd_self]; simp [hlt]; exact h1
      · rw [upd_ne _ _ e]
        have := h i
        simpa [Array.getElem?_setIfInBounds_ne (Ne.symm e)] using this)
    simpa using this

theorem VR.undef_any {g g' : Gh} {x : PV} (h : VR g undef x) : VR g' undef x := by
  unfold undef at *
  cases h with
  | raw v => exact .raw _
  | junk v => exact .junk _
  | tuple hl h => exact .tuple hl (fun i h1 => by simp at h1)

theorem callsIn_fen {ro : Option Nat} {n : Nat} {P : Program} {f : FuncId} {args : Array Value} {w : World} {R : Ending → World → Prop} (h : Calls P f args w R) : CallsIn (Fen ro) n P f args w R :=
  (callsIn_wide (n := n)).2 h

section
variable {P : Program} {N : Nat} {ρ : Env} {L : List Res} {Q : PPost}

theorem range_core {base ll D : Nat} {ro : Option Nat} {fn : FuncId} {ps : List Nat} {assign body : Code} {f : Nat} {caps : List PV} {vcaps : List Value} {α σ : Type} {enc : α → List PV} {xs : List α}
    {I Ix : List α → σ → Prop} {LL : σ → List Res → List Res} {s0 : σ} {LF : List Res} {mark : List Deferred} {a : Act} {w w1 : World} {g g1 : Gh}
    (hit : PIter P f caps enc xs) (henc : ∀ x, (enc x).length = ps.length) (hps : ∀ p ∈ ps, p < N)
    (hLL : ∀ s LF', LL s LF' = LL s [] ++ LF') (h0 : I [] s0)
    (hbody : ∀ pre x s LF', (pre ++ [x]) <+: xs → I pre s → pwp P N assign (PThen (pwp P N body (RoundQ I Ix LL LF' (pre ++ [x]))) (fun _ _ _ => False)) (updL ρ ps (enc x)) (LL s LF'))
    (hdone : ∀ s, I xs s → Q .normal ρ (LL s LF)) (hstop : ∀ pre s, Ix pre s → Q .ret ρ (LL s LF))
    (hi0 : Inv w g (LL s0 LF)) (hcap : VRl g1 vcaps caps)
    (c1 : w1.heap[ll]? = some (.loop { state := .ready, pending := none, fn, tmps := a.tmps, params := ps.toArray, assign, body, defers := D })) (c2 : w.heap.size ≤ ll)
    (c3 : Inv w1 g1 (LL s0 LF)) (c4 : Step (blocks (LL s0 LF)) w g w1 g1) (c5 : (∀ o, g1.H ll o = none) ∧ g1.M ll = none) (c6 : Agr base g1 N { a with defers := mark ++ a.defers } ρ) :
    CallsIn (Fen ro) 0 P f (#[.func (.yield ll) #[] #[]] ++ vcaps.toArray) w1 (rangePost (Fen ro) 0 P ll (Lift base N w g (LL s0 LF) Q) { a with defers := mark ++ a.defers }) := by
  obtain ⟨rec, hrec⟩ : ∃ rec : LoopState → Option Code → Loop, rec = fun st pe => { state := st, pending := pe, fn, tmps := a.tmps, params := ps.toArray, assign, body, defers := D } := ⟨_, rfl⟩
  replace c1 : w1.heap[ll]? = some (.loop (rec .ready none)) := by rw [hrec]; exact c1
  let kn : Res := .know a.tmps.toList ((List.range N).map ρ)
  have hsz : a.tmps.size = N := c6.size
  have hkn : VRl g1 a.tmps.toList ((List.range N).map ρ) := ⟨by simp [hsz], fun i h1 h2 => by
    have := c6.slot i
    simp at h1 h2 ⊢
    simpa [h1] using this⟩
  have hbig : ∀ g', g1.le g' → ∀ i, N ≤ i → VR g' (a.tmps.getD i undef) (ρ i) := fun g' _ i hi => by
    have := c6.slot i
    have e : a.tmps.getD i undef = undef := by simp [Array.getElem?_eq_none (show a.tmps.size ≤ i by omega)]
    change VR g1 (a.tmps.getD i undef) (ρ i) at this
    rw [e] at this ⊢
    exact this.undef_any
  have hbig' : ∀ g' i, N ≤ i → VR g' (a.tmps.getD i undef) (ρ i) := fun g' i hi => by
    have := c6.slot i
    have e : a.tmps.getD i undef = undef := by simp [Array.getElem?_eq_none (show a.tmps.size ≤ i by omega)]
    change VR g1 (a.tmps.getD i undef) (ρ i) at this
    rw [e] at this ⊢
    exact this.undef_any
  have hln : ll ∉ blocks (LL s0 LF) := fun h => by have := hi0.lt h; omega
  have hiJ : Inv w1 g1 ((.raw ll (.loop (rec .ready none)) :: kn :: LL s0 LF) ++ []) := by
    rw [List.append_nil]
    exact (c3.addKnow hkn).addRaw c1 c5.1 c5.2 hln
  have hcall := hit ll (fun pre L' => ∃ s, I pre s ∧ L' = .raw ll (.loop (rec .ready none)) :: kn :: LL s LF) (fun pre L' => ∃ s, Ix pre s ∧ L' = .raw ll (.loop (rec .done (some .ret))) :: kn :: LL s LF) (by
    rintro pre x L1 hpre ⟨s, hI, rfl⟩ vs' w2 g2 LF2 hv hi2
    obtain ⟨hl2, hH2, hM2⟩ := hi2.res _ (List.mem_cons_self)
    have hlt2 := (Array.getElem?_eq_some_iff.1 hl2).1
    have hk2 : VRl g2 a.tmps.toList ((List.range N).map ρ) := hi2.res kn (by simp)
    have hnd2 := hi2.nodup
    have hLLa : ∀ s, LL s LF ++ LF2 = LL s (LF ++ LF2) := fun s => by rw [hLL s LF, hLL s (LF ++ LF2), List.append_assoc]
    have hi3 : Inv w2 g2 (LL s (LF ++ LF2)) := hi2.sub (by
      rw [← hLLa]
      simp only [List.cons_append]
      exact .cons _ (.cons _ (.refl _)))
    have hln2 : ll ∉ blocks (LL s (LF ++ LF2)) := by
      rw [← hLLa]
      simp only [blocks, List.cons_append, List.filterMap_cons, Res.block] at hnd2
      exact (List.nodup_cons.1 hnd2).1
    have hvl : vs'.length = ps.length := by rw [hv.len, henc]
    have hy := run_yield (P := P) (args := vs'.toArray) hl2 (by rw [hrec]; simp [hvl])
    rw [hrec] at hy
    refine ⟨fn, _, assign, body, hy, ?_⟩
    have hfold : ((ps.toArray.zip vs'.toArray).foldl (fun tmps (x : Nat × Value) => tmps.setIfInBounds x.1 x.2) a.tmps) = (ps.zip vs').foldl (fun tmps (x : Nat × Value) => tmps.setIfInBounds x.1 x.2) a.tmps := by simp
    have hslot := slots_updL ps vs' (enc x) a.tmps ρ hv (fun p hp => by rw [hsz]; exact hps p hp) (fun i => by
      rcases Nat.lt_or_ge i N with h' | h'
      · have := hk2.at_ i (by simpa [hsz] using h') (by simpa using h')
        simp at this
        simpa [hsz, h'] using this
      · exact hbig' g2 i h')
    refine roundIn_of_wpIn (F := Fence.wide) trivial ?_
    have hb := hbody pre x s (LF ++ LF2) hpre hI (some ll) w2.heap.size { tmps := (ps.zip vs').foldl (fun tmps (x : Nat × Value) => tmps.setIfInBounds x.1 x.2) a.tmps, defers := [] } w2 g2
      ⟨fun l e => by cases e; exact ⟨hln2, _, hl2⟩, Nat.le_refl _, ⟨by rw [hslot.1, hsz], .nil _ _, hslot.2⟩, hi3⟩
    rw [← hfold] at hb
    refine wpIn_mono hb ?_
    have hB : ∀ b ∈ blocks (LL s (LF ++ LF2)), b ∈ blocks ((.raw ll (.loop (rec .ready none)) :: kn :: LL s LF) ++ LF2) := fun b hb => by
      rw [← hLLa] at hb
      simp only [blocks, List.cons_append, List.filterMap_cons, Res.block, kn] at hb ⊢
      exact List.mem_cons_of_mem _ hb
    have hlB : ll ∈ blocks ((.raw ll (.loop (rec .ready none)) :: kn :: LL s LF) ++ LF2) := by simp [blocks, Res.block]
    rintro e a1 w3 ⟨ρ3, g3, L3, k1, k2, k3, k4, k5⟩
    cases e with
    | normal =>
      have hl3 : w3.heap[ll]? = some (.loop (rec .ready none)) := (k3.keep ll hlt2 hln2).trans hl2
      obtain ⟨n1, n2⟩ := k3.new ll hlt2 hln2
      have hln3 : ll ∉ blocks L3 := fun h => hln2 (k4 ll h hlt2)
      have hH3 : ∀ o, g3.H ll o = none := fun o => by rw [n1, hH2]
      have hM3 : g3.M ll = none := by rw [n2, hM2]
      refine ⟨_, run_beginRound hl3 (by rw [hrec]), ?_⟩
      obtain ⟨rb, hrb⟩ : ∃ rb : Loop, rb = { rec .ready none with state := .busy } := ⟨_, rfl⟩
      rw [← hrb]
      have hlt3 := (Array.getElem?_eq_some_iff.1 hl3).1
      have hl3' : (w3.putObj ll (.loop rb)).heap[ll]? = some (.loop rb) := World.putObj_heap_same hlt3
      have hsz3 : (w3.putObj ll (.loop rb)).heap.size = w3.heap.size := by simp [World.putObj]
      refine wpIn_mono (k5 (some ll) w2.heap.size a1 (w3.putObj ll (.loop rb)) g3 ⟨fun l e => by cases e; exact ⟨hln3, _, hl3'⟩, by rw [hsz3]; exact k3.size, k1, k2.put _ hH3 hM3 hln3⟩) ?_
      have st3 : Step (blocks ((.raw ll (.loop (rec .ready none)) :: kn :: LL s LF) ++ LF2)) w2 g2 (w3.putObj ll (.loop rb)) g3 := (k3.grow hB).comp (.put (B := [ll]) _ (by simp)) (fun b hb _ => by simp at hb; subst hb; exact hlB)
      rintro e a4 w4 ⟨ρ4, g4, L4, m1, m2, m3, m4, m5⟩
      have hl4 : w4.heap[ll]? = some (.loop rb) := (m3.keep ll (by rw [hsz3]; exact hlt3) hln3).trans hl3'
      obtain ⟨n3, n4⟩ := m3.new ll (by rw [hsz3]; exact hlt3) hln3
      have hln4 : ll ∉ blocks L4 := fun h => hln3 (m4 ll h (by rw [hsz3]; exact hlt3))
      have hH4 : ∀ o, g4.H ll o = none := fun o => by rw [n3, hH3]
      have hM4 : g4.M ll = none := by rw [n4, hM3]
      have hlt4 := (Array.getElem?_eq_some_iff.1 hl4).1
      have fin : ∀ (o : Obj) (s' : σ), (LL s' (LF ++ LF2)).Sublist L4 →
          Inv (w4.putObj ll o) g4 ((.raw ll o :: kn :: LL s' LF) ++ LF2) ∧ Step (blocks ((.raw ll (.loop (rec .ready none)) :: kn :: LL s LF) ++ LF2)) w2 g2 (w4.putObj ll o) g4 ∧ Within w2 ((.raw ll (.loop (rec .ready none)) :: kn :: LL s LF) ++ LF2) ((.raw ll o :: kn :: LL s' LF) ++ LF2) := fun o s' hsub => by
        have hin : ∀ b ∈ blocks (LL s' (LF ++ LF2)), b < w2.heap.size → b ∈ blocks (LL s (LF ++ LF2)) := fun b hb hlt =>
          k4 b (m4 b ((blocks_sublist hsub).subset hb) (by rw [hsz3]; exact Nat.lt_of_lt_of_le hlt k3.size)) hlt
        refine ⟨?_, ?_, ?_⟩
        · have i4 := (m2.put o hH4 hM4 hln4).sub hsub
          have i5 := (i4.addKnow ((hk2.mono k3.le).mono m3.le)).addRaw (World.putObj_heap_same hlt4) hH4 hM4 (fun h => hln4 ((blocks_sublist hsub).subset h))
          have e : (.raw ll o :: kn :: LL s' LF) ++ LF2 = .raw ll o :: kn :: LL s' (LF ++ LF2) := by simp only [List.cons_append, hLLa]
          rw [e]; exact i5
        · refine (st3.comp m3 fun b hb hlt => ?_).comp (.put (B := [ll]) _ (by simp)) (fun b hb _ => by simp at hb; subst hb; exact hlB)
          exact hB b (k4 b hb hlt)
        · intro b hb hlt
          simp only [List.cons_append, hLLa] at hb
          simp only [blocks, List.filterMap_cons, Res.block, kn] at hb
          rcases List.mem_cons.1 hb with rfl | hb
          · exact hlB
          · exact hB b (hin b hb hlt)
      cases e with
      | normal =>
        obtain ⟨s', hI', hsub⟩ := m5
        have hr := run_endRound (P := P) none hl4
        have e1 : ({ rb with state := if (none : Option Code).isNone = true then .ready else .done, pending := none } : Loop) = rec .ready none := by rw [hrb, hrec]; rfl
        rw [e1] at hr
        obtain ⟨f1, f2, f3⟩ := fin (.loop (rec .ready none)) s' hsub
        exact ⟨_, _, hr, true, g4, _, rfl, f1, f2, f3, .inl ⟨rfl, s', hI', rfl⟩⟩
      | ret =>
        obtain ⟨s', hI', hsub⟩ := m5
        have hr := run_endRound (P := P) (some .ret) hl4
        have e1 : ({ rb with state := if (some Code.ret : Option Code).isNone = true then .ready else .done, pending := some .ret } : Loop) = rec .done (some .ret) := by rw [hrb, hrec]; rfl
        rw [e1] at hr
        obtain ⟨f1, f2, f3⟩ := fin (.loop (rec .done (some .ret))) s' hsub
        exact ⟨_, _, hr, false, g4, _, rfl, f1, f2, f3, .inr ⟨rfl, s', hI', rfl⟩⟩
      | _ => exact m5.elim
    | _ => exact k5.elim) (.raw ll (.loop (rec .ready none)) :: kn :: LL s0 LF) ⟨s0, h0, rfl⟩ (.func (.yield ll) #[] #[] :: vcaps) w1 g1 [] (.cons (.raw _) hcap) hiJ
  have eargs : (#[Value.func (.yield ll) #[] #[]] ++ vcaps.toArray) = (Value.func (.yield ll) #[] #[] :: vcaps).toArray := by simp
  rw [eargs]
  refine CallsIn.mono (callsIn_fen hcall) ?_
  rintro e w2 ⟨v, x, g2, L2, rfl, hv, hi2, hs2, hw2, hJ⟩
  rw [List.append_nil] at hi2 hs2 hw2
  rw [List.append_nil] at hw2
  have W1 : ∀ b ∈ blocks (.raw ll (.loop (rec .ready none)) :: kn :: LL s0 LF), b < w.heap.size → b ∈ blocks (LL s0 LF) := fun b hb hlt => by
    simp only [blocks, List.filterMap_cons, Res.block, kn] at hb
    rcases List.mem_cons.1 hb with rfl | hb
    · omega
    · exact hb
  have fin : ∀ (s : σ) (o o' : Obj), L2 = .raw ll o :: kn :: LL s LF → Inv (w2.putObj ll o') g2 (LL s LF) ∧ Step (blocks (LL s0 LF)) w g (w2.putObj ll o') g2 ∧ Within w (LL s0 LF) (LL s LF) := fun s o o' e => by
    subst e
    refine ⟨(hi2.putRaw o').sub (.cons _ (.cons _ (.refl _))), (c4.comp hs2 W1).comp (.put (B := [ll]) _ (by simp)) (fun b hb hlt => by simp at hb; omega), fun b hb hlt => ?_⟩
    exact W1 b (hw2 b (by simp only [blocks, List.filterMap_cons, Res.block, kn]; exact List.mem_cons_of_mem _ hb) (Nat.lt_of_lt_of_le hlt c4.size)) hlt
  rcases hJ with ⟨s, hI, e2⟩ | ⟨pre, s, hIx, e2⟩
  · obtain ⟨hl2, _, _⟩ := hi2.res _ (by rw [e2]; exact List.mem_cons_self)
    obtain ⟨f1, f2, f3⟩ := fin s _ (.loop { rec .ready none with state := .exhausted }) e2
    have hr := run_endLoop (P := P) hl2 (by rw [hrec]; simp)
    exact ⟨none, _, by rw [hr, hrec], ρ, g2, _, c6.mono hs2.le, f1, f2, f3, hdone s hI⟩
  · obtain ⟨hl2, _, _⟩ := hi2.res _ (by rw [e2]; exact List.mem_cons_self)
    obtain ⟨f1, f2, f3⟩ := fin s _ (.loop { rec .done (some .ret) with state := .exhausted }) e2
    have hr := run_endLoop (P := P) hl2 (by rw [hrec]; simp)
    exact ⟨some .ret, _, by rw [hr, hrec], wpIn_ret ⟨ρ, g2, _, c6.mono hs2.le, f1, f2, f3, hstop pre s hIx⟩⟩

theorem VR.ev {base : Nat} {g : Gh} {a : Act} (h : Agr base g N a ρ) (x : Operand) : VR g (a.eval x) (ρ.ev x) := by
  cases x with
  | tmp t => exact h.slot t
  | const v => exact .raw v
  | global k => exact .raw _
  | func f => exact .raw _

/-- A loop over a function: I: between two rounds, what has come, a ghost state; LL: the resources at it, ahead of the others; Ix: a round has left by 'return'. -/
theorem pwp_rangeFunc {g0 : Operand} {pa : Array Tmp} {assign body : Code} {f : Nat} {caps : List PV} {α σ : Type} {enc : α → List PV} {xs : List α} [hf : TFun P f]
    (hit : PIter P f caps enc xs) (ps : List Nat) (I Ix : List α → σ → Prop) (LL : σ → List Res → List Res) (s0 : σ) (LF : List Res)
    (hg : Le (ρ.ev g0) (.clo f caps)) (hpa : pa = ps.toArray) (henc : ∀ x, (enc x).length = ps.length) (hps : ∀ p ∈ ps, p < N)
    (hLL : ∀ s LF', LL s LF' = LL s [] ++ LF') (hL : (LL s0 LF).Sublist L) (h0 : I [] s0)
    (hbody : ∀ pre x s LF', (pre ++ [x]) <+: xs → I pre s → pwp P N assign (PThen (pwp P N body (RoundQ I Ix LL LF' (pre ++ [x]))) (fun _ _ _ => False)) (updL ρ ps (enc x)) (LL s LF'))
    (hdone : ∀ s, I xs s → Q .normal ρ (LL s LF)) (hstop : ∀ pre s, Ix pre s → Q .ret ρ (LL s LF)) : pwp P N (.rangeFunc g0 pa assign body) Q ρ L := by
  refine pwp_weaken (ρ' := ρ) (fun i => .inl rfl) hL ?_
  subst hpa
  intro ro base a w g hs
  refine wpIn_rangeFunc (F := Fen ro) (n := 0) fun fn _ => ?_
  obtain ⟨vcaps, hv1, hv2⟩ := (hg g _ (VR.ev hs.agr g0)).clo_inv
  have hd : (Fen ro).depth.isSome = true → 1 ≤ 0 := fun h => by simp [Fen, Fence.wide] at h
  have hres : ∀ (e : Act) (ll : Nat) (w : World), e.tmps = a.tmps → (resolve a.eval (rangeCall g0 ll) 0).run P w = .ok { target := .fn (.func f) vcaps.toArray, args := #[.func (.yield ll) #[] #[]] } w := fun e ll w _ => by
    simp only [resolve, rangeCall, hv1, Deferred.ofValue, Sem.run_pure]
    simp [Act.eval]
  cases ro with
  | none =>
    obtain ⟨i1, s1⟩ := hs.inv.allocO (.deferred (some []))
    have hD : (w.alloc (.deferred (some []))).heap[w.heap.size]? = some (.deferred (some [])) := by show (w.heap.push _)[w.heap.size]? = _; simp
    obtain ⟨hH0, hM0⟩ := hs.inv.fresh (b := w.heap.size) (Nat.le_refl _)
    let g1 : Gh := { g with M := fun b => if b = w.heap.size then some .mark else g.M b }
    have hle : g.le g1 := ⟨fun _ _ _ h => h, fun b z h => by
      show (if b = w.heap.size then some .mark else g.M b) = _
      rw [if_neg (fun e => by rw [e, hM0] at h; cases h)]; exact h⟩
    have i2 : Inv (w.alloc (.deferred (some []))) g1 (LL s0 LF) := ⟨i1.sat, fun b z h => by
      change (if b = w.heap.size then some .mark else g.M b) = some z at h
      split at h
      · rename_i e; subst e; cases h; exact hD
      · exact i1.satM b z h, fun r hr => Res.holds_kept hle (i1.res r hr) fun b hb => ⟨rfl, fun _ => rfl, by
          show (if b = w.heap.size then some .mark else g.M b) = _
          rw [if_neg]
          intro e
          have := hs.inv.lt (List.mem_filterMap.2 ⟨r, hr, hb⟩)
          omega⟩, i1.nodup, i1.glob.mono hle⟩
    have s2 : Step (blocks (LL s0 LF)) w g (w.alloc (.deferred (some []))) g1 := ⟨s1.os, s1.tape, s1.output, s1.size, s1.keep, hle, fun k hk hn => ⟨fun _ => rfl, by
      show (if k = w.heap.size then some .mark else g.M k) = _
      rw [if_neg (by omega)]⟩⟩
    let o : Obj := .loop { state := .ready, pending := none, fn, tmps := a.tmps, params := ps.toArray, assign, body, defers := w.heap.size }
    obtain ⟨i3, s3⟩ := i2.allocO o
    have hsz1 : (w.alloc (.deferred (some []))).heap.size = w.heap.size + 1 := by simp
    refine ⟨w.heap.size + 1, [markOf w.heap.size], (w.alloc (.deferred (some []))).alloc o, _, (w.alloc (.deferred (some []))).alloc o, f, #[.func (.yield (w.heap.size + 1)) #[] #[]] ++ vcaps.toArray, (w.alloc (.deferred (some []))).alloc o, run_enterLoop_outer _ _ _ _ _, hres a _ _ rfl, fun _ _ => trivial, ?_, hd, ?_⟩
    · simp only [invoke, hf.out]
    · refine range_core (g1 := g1) (mark := [markOf w.heap.size]) (D := w.heap.size) (fn := fn) (enc := enc) hit henc hps hLL h0 hbody hdone hstop hs.inv (hv2.mono hle) ?_ (by omega) i3 (s2.comp s3 (fun b hb _ => hb)) ?_ ?_
      · have : ((w.alloc (.deferred (some []))).alloc o).heap[(w.alloc (.deferred (some []))).heap.size]? = some o := World.alloc_heap_new _ o
        rw [hsz1] at this; exact this
      · exact i2.fresh (by rw [hsz1]; exact Nat.le_refl _)
      · refine ⟨hs.agr.size, ⟨?_⟩, fun i => (hs.agr.slot i).mono hle⟩
        obtain ⟨Ds, e1, e2, e3⟩ := hs.agr.defers.out
        refine ⟨w.heap.size :: Ds, by simp [e1], List.nodup_cons.2 ⟨fun hm => ?_, e2⟩, fun D hD => ?_⟩
        · have := (e3 _ hm).2; rw [hM0] at this; cases this
        · rcases List.mem_cons.1 hD with rfl | hD
          · exact ⟨hs.low, by show (if w.heap.size = w.heap.size then some .mark else g.M w.heap.size) = _; simp⟩
          · exact ⟨(e3 D hD).1, hle.M _ _ (e3 D hD).2⟩
  | some l₀ =>
    obtain ⟨hn, r₀, hr₀⟩ := hs.ro l₀ rfl
    let o : Obj := .loop { state := .ready, pending := none, fn, tmps := a.tmps, params := ps.toArray, assign, body, defers := r₀.defers }
    obtain ⟨i3, s3⟩ := hs.inv.allocO o
    refine ⟨w.heap.size, [], w.alloc o, _, w.alloc o, f, #[.func (.yield w.heap.size) #[] #[]] ++ vcaps.toArray, w.alloc o, run_enterLoop_inner hr₀ _ _ _ _ _, hres a _ _ rfl, fun _ _ => trivial, ?_, hd, ?_⟩
    · simp only [invoke, hf.out]
    · refine range_core (g1 := g) (mark := []) (D := r₀.defers) (fn := fn) (enc := enc) hit henc hps hLL h0 hbody hdone hstop hs.inv hv2 ?_ (Nat.le_refl _) i3 s3 ?_ ?_
      · show (w.heap.push o)[_]? = _; simp [o]
      · exact hs.inv.fresh (Nat.le_refl _)
      · exact ⟨hs.agr.size, hs.agr.defers, hs.agr.slot⟩
end
end Go.Q
/- The small logic: maps. Library, no statement of its own. -/
namespace Go.Q
open Go

/-! ### Maps as lists of pairs -/
def kIdx {κ : Type} [DecidableEq κ] (k : κ) : List κ → Option Nat
  | [] => none
  | a :: l => if k = a then some 0 else (kIdx k l).map (· + 1)
def mGet {κ α : Type} [DecidableEq κ] (k : κ) : List (κ × α) → Option α
  | [] => none
  | (a, x) :: l => if k = a then some x else mGet k l
def mSet {κ α : Type} [DecidableEq κ] (k : κ) (x : α) : List (κ × α) → List (κ × α)
  | [] => [(k, x)]
  | (a, y) :: l => if k = a then (k, x) :: l else (a, y) :: mSet k x l
theorem mGet_mSet {κ α : Type} [DecidableEq κ] (k k' : κ) (x : α) : ∀ l : List (κ × α), mGet k' (mSet k x l) = if k' = k then some x else mGet k' l
  | [] => by simp [mSet, mGet]
  | (a, y) :: l => by
    unfold mSet
    by_cases h : k = a
    · subst h
      rw [if_pos rfl]
      simp only [mGet]
      by_cases h2 : k' = k <;> simp [h2]
    · rw [if_neg h]
      simp only [mGet, mGet_mSet k k' x l]
      by_cases h2 : k' = a
      · subst h2; simp [Ne.symm h]
      · simp [h2]
theorem mSet_keys_new {κ α : Type} [DecidableEq κ] (k : κ) (x : α) : ∀ {l : List (κ × α)}, kIdx k (l.map (·.1)) = none → mSet k x l = l ++ [(k, x)]
  | [], _ => rfl
  | (a, y) :: l, h => by
    simp only [List.map_cons, kIdx] at h
    by_cases e : k = a
    · simp [e] at h
    · simp only [e, if_false, Option.map_eq_none_iff] at h
      simp [mSet, e, mSet_keys_new k x h]
theorem mSet_keys_old {κ α : Type} [DecidableEq κ] (k : κ) (x : α) : ∀ {l : List (κ × α)} {i : Nat}, kIdx k (l.map (·.1)) = some i → ∃ y, l[i]? = some (k, y) ∧ mSet k x l = l.set i (k, x) ∧ mGet k l = some y
  | [], _, h => by simp [kIdx] at h
  | (a, y) :: l, i, h => by
    simp only [List.map_cons, kIdx] at h
    by_cases e : k = a
    · subst e
      simp at h; subst h
      exact ⟨y, rfl, by simp [mSet], by simp [mGet]⟩
    · simp only [e, if_false, Option.map_eq_some_iff] at h
      obtain ⟨j, hj, rfl⟩ := h
      obtain ⟨z, h1, h2, h3⟩ := mSet_keys_old k x hj
      exact ⟨z, by simpa using h1, by simp [mSet, e, h2], by simp [mGet, e, h3]⟩
theorem mGet_none {κ α : Type} [DecidableEq κ] (k : κ) : ∀ {l : List (κ × α)}, kIdx k (l.map (·.1)) = none → mGet k l = none
  | [], _ => rfl
  | (a, y) :: l, h => by
    simp only [List.map_cons, kIdx] at h
    by_cases e : k = a
    · simp [e] at h
    · simp only [e, if_false, Option.map_eq_none_iff] at h
      simp [mGet, e, mGet_none k h]
/-- The form of a map. -/
def eMap {κ α : Type} (ek : κ → PV) (ev : α → PV) (l : List (κ × α)) : List (PV × PV) := l.map fun p => (ek p.1, ev p.2)

/-! ### Types -/
class TMap (P : Program) (T : Nat) (K E : outParam Nat) : Prop where
  out : P.underlying T = some (.map K E)
/-- The zero value of E is a0's form. -/
class ZV (P : Program) (E : Nat) {α : Type} (ev : α → PV) (a0 : outParam α) : Prop where
  out : ∃ i v, P.info? E = some i ∧ i.zero = some v ∧ ∀ g, VR g v (ev a0)
structure KeyOk (P : Program) (K : Nat) {κ : Type} [DecidableEq κ] (ek : κ → PV) : Prop where
  check : ∀ (b : Bool) (g : Gh) (v : Value) (k : κ) (w : World), VR g v (ek k) → (Instr.checkKey b 10000 K v).run P w = .ok () w
  find : ∀ (g : Gh) (v : Value) (k : κ) (es : List MapEntry) (l : List κ) (w : World), VR g v (ek k) → es.length = l.length → (∀ i (h : i < es.length) (h' : i < l.length), VR g es[i].key (ek l[i])) →
    (Instr.findKey K v es).run P w = .ok ((kIdx k l).bind fun i => (es[i]?).map fun e => (i, e.val)) w
  same : ∀ (g : Gh) (u v : Value) (k : κ), VR g u (ek k) → VR g v (ek k) → Instr.sameBits 10000 u v = true
class TKey (P : Program) (K : Nat) {κ : Type} [DecidableEq κ] (ek : κ → PV) : Prop where
  out : KeyOk P K ek

/-- The forms of keys and values. -/
def kDig (d : Dig) : PV := .agg (eDig d)
def kInt (n : Int) : PV := .raw (.int .i64 n)
def vBool (b : Bool) : PV := .raw (.bool b)
def vSl {α : Type} (f : α → List PV) (l : List α) : PV := .slice (l.map f) .ro
def vMap {κ α : Type} (ek : κ → PV) (ev : α → PV) (l : List (κ × α)) : PV := .fmap (eMap ek ev l)
def vInt (n : Int) : PV := .raw (.int .i64 n)
def vId (x : PV) : PV := x

theorem find_shift {α β : Type} {r : Option Nat} {e : α} {es : List α} {f : Nat → α → β} : ((r.map (· + 1)).bind fun i => ((e :: es)[i]?).map (f i)) = (r.bind fun i => (es[i]?).map (f (i + 1))) := by
  cases r <;> simp
theorem find_dig {P : Program} {K : Nat} (hT : ∃ E i, P.underlying K = some (.array 32 E) ∧ P.underlying E = some (.int .u8) ∧ P.info? E = some i ∧ i.size = 1) (k : Dig) (w : World) : ∀ (es : List MapEntry) (l : List Dig) (n : Nat), es.length = l.length →
    (∀ i (h : i < es.length) (h' : i < l.length), es[i].key = .agg (l[i].bs.map u8).toArray) →
    (Instr.findAsking K (.agg (k.bs.map u8).toArray) es n).run P w = .ok ((kIdx k l).bind fun i => (es[i]?).map fun e => (n + i, e.val)) w
  | [], [], n, _, _ => by simp [Instr.findAsking, kIdx]
  | [], _ :: _, _, h, _ => by simp at h
  | _ :: _, [], _, h, _ => by simp at h
  | e :: es, a :: l, n, h, hk => by
    have h0 := hk 0 (by simp) (by simp)
    simp only [List.getElem_cons_zero] at h0
    unfold Instr.findAsking
    simp only [Sem.run_bind, Op.equal, h0, Op.maxDepth, run_equal_dig 9998 hT, Result.andThen_ok]
    by_cases e1 : k = a
    · subst e1
      simp [kIdx]
    · have d1 : decide (k = a) = false := by simp [e1]
      simp only [d1, Bool.false_eq_true, if_false]
      rw [find_dig hT k w es l (n + 1) (by simpa using h) (fun i h1 h2 => by have := hk (i + 1) (by simpa using h1) (by simpa using h2); simpa using this)]
      simp only [kIdx, e1, if_false]
      rw [find_shift]
      congr 1
      cases kIdx k l with
      | none => rfl
      | some j => simp only [Option.bind_some]; congr 1; funext e; rw [Nat.add_assoc, Nat.add_comm 1]
theorem sameBits_u8s : ∀ (l : List UInt8), (((l.map u8).zip (l.map u8)).all fun (p : Value × Value) => Instr.sameBits 9999 p.1 p.2) = true
  | [] => rfl
  | a :: l => by
    simp only [List.map_cons, List.zip_cons_cons, List.all_cons, Bool.and_eq_true]
    exact ⟨by simp [u8, Instr.sameBits], sameBits_u8s l⟩
theorem keyOk_dig {P : Program} {K : Nat} [hT : TDig P K] : KeyOk P K kDig where
  check := fun b g v k w hv => by
    obtain ⟨E, i, h1, h2, h3, h4⟩ := hT.arr
    have hv := eDig_inv hv
    subst hv
    rw [show (10000 : Nat) = 9999 + 1 from rfl, Instr.checkKey]
    simp only [Sem.run_bind, run_underlying h1, Result.andThen_ok]
    simp only [Std.Legacy.Range.forIn_eq_forIn_range', Std.Legacy.Range.size, Nat.sub_zero, Nat.add_one_sub_one, Nat.div_one]
    have each : ∀ j ∈ List.range' 0 32, j < 32 := fun j hj => by simpa using hj
    generalize List.range' 0 32 = is at each
    induction is with
    | nil => simp
    | cons j is ih =>
      have hj := each j (by simp)
      have hlt : j < k.bs.length := by rw [k.len]; exact hj
      have p0 : (sizeOf E).run P w = .ok 1 w := by unfold sizeOf typeInfo; simp [h3, h4]
      have p1 : (part E (k.bs.map u8).toArray (j * 1)).run P w = .ok (u8 k.bs[j]) w := run_part_scal (scal_int h2) (by simp [hlt]) w
      have p2 : (Instr.checkKey b 9999 E (u8 k.bs[j])).run P w = .ok () w := by rw [show (9999 : Nat) = 9998 + 1 from rfl, Instr.checkKey]; simp [run_underlying h2, u8]
      simp only [List.forIn_cons, Sem.run_bind, p0, Result.andThen_ok, p1, p2, Sem.run_pure]
      exact ih (fun y hy => each y (by simp [hy]))
  find := fun g v k es l w hv hl hk => by
    obtain ⟨E, i, h1, _⟩ := hT.arr
    have hv := eDig_inv hv
    subst hv
    rw [run_findKey_eq w (by rw [h1]), find_dig hT.arr k w es l 0 hl (fun i h h' => eDig_inv (hk i h h'))]
    simp
  same := fun g u v k hu hv => by
    rw [eDig_inv hu, eDig_inv hv, show (10000 : Nat) = 9999 + 1 from rfl, Instr.sameBits]
    simpa using sameBits_u8s k.bs
instance {P : Program} {K : Nat} [TDig P K] : TKey P K kDig := ⟨keyOk_dig⟩

theorem find_int {k : Int} {q : IntKind} : ∀ (es : List MapEntry) (l : List Int) (n : Nat), es.length = l.length → (∀ i (h : i < es.length) (h' : i < l.length), es[i].key = .int .i64 l[i]) →
    Instr.findNow (.int q) (.int .i64 k) es n = some ((kIdx k l).bind fun i => (es[i]?).map fun e => (n + i, e.val))
  | [], [], n, _, _ => by simp [Instr.findNow, kIdx]
  | [], _ :: _, _, h, _ => by simp at h
  | _ :: _, [], _, h, _ => by simp at h
  | e :: es, a :: l, n, h, hk => by
    have h0 := hk 0 (by simp) (by simp)
    simp only [List.getElem_cons_zero] at h0
    unfold Instr.findNow
    by_cases e1 : k = a
    · subst e1
      simp [h0, Instr.sameNow, kIdx]
    · have d1 : (k == a) = false := by simp [e1]
      simp only [h0, Instr.sameNow, if_true, d1]
      rw [find_int es l (n + 1) (by simpa using h) (fun i h1 h2 => by have := hk (i + 1) (by simpa using h1) (by simpa using h2); simpa using this)]
      simp only [kIdx, e1, if_false]
      rw [find_shift]
      congr 1
      cases kIdx k l with
      | none => rfl
      | some j => simp only [Option.bind_some]; congr 1; funext e; rw [Nat.add_assoc, Nat.add_comm 1]
theorem keyOk_int {P : Program} {K : Nat} {q : IntKind} [hT : TInt P K q] : KeyOk P K kInt where
  check := fun b g v k w hv => by
    rw [hv.raw_inv, show (10000 : Nat) = 9999 + 1 from rfl, Instr.checkKey]
    simp [run_underlying hT.out]
  find := fun g v k es l w hv hl hk => by
    rw [hv.raw_inv, MapKept.run_findKey hT.out (find_int es l 0 hl (fun i h h' => (hk i h h').raw_inv))]
    simp
  same := fun g u v k hu hv => by
    rw [hu.raw_inv, hv.raw_inv]; simp [Instr.sameBits]
instance {P : Program} {K : Nat} {q : IntKind} [TInt P K q] : TKey P K kInt := ⟨keyOk_int⟩

/-! ### The operations -/
section
variable {P : Program} {κ α : Type} [DecidableEq κ] {ek : κ → PV} {ev : α → PV} {T K E : Nat}
theorem lookup_run (hT : P.underlying T = some (.map K E)) (hk : KeyOk P K ek) {a0 : α} (hz : ∃ i v, P.info? E = some i ∧ i.zero = some v ∧ ∀ g, VR g v (ev a0)) {w : World} {g : Gh} {es : Array MapEntry} {l : List (κ × α)}
    (hE : Entries g es (eMap ek ev l)) {x v : Value} {k : κ} (hx : (∃ m c, x = .map (some m) ∧ w.heap[m]? = some (.map es c)) ∨ (x = .map none ∧ es = #[])) (hv : VR g v (ek k)) (ok : Bool) :
    ∃ u, (Instr.lookup T x v ok).run P w = .ok (if ok then .tuple #[u, .bool (mGet k l).isSome] else u) w ∧ VR g u (ev ((mGet k l).getD a0)) := by
  have hlen : es.toList.length = (l.map (·.1)).length := by have := hE.len; simpa [eMap] using this
  have hf := hk.find g v k es.toList (l.map (·.1)) w hv hlen (fun i h h' => by
    have := hE.key i (by simpa using h) (by simpa [eMap] using h')
    simpa [eMap] using this)
  cases hi : kIdx k (l.map (·.1)) with
  | none =>
    rw [hi] at hf
    obtain ⟨i, z, z1, z2, z3⟩ := hz
    refine ⟨z, ?_, by rw [mGet_none k hi]; exact z3 g⟩
    unfold Instr.lookup
    rcases hx with ⟨m, c, rfl, hb⟩ | ⟨rfl, rfl⟩
    · simp only [Sem.run_bind, run_underlying hT, Result.andThen_ok, MapKept.run_getObj_map hb, Sem.run_pure, hk.check _ g v k w hv, hf, Option.bind_none, zeroValue, typeInfo, run_program, z1, z2, mGet_none k hi]
      cases ok <;> simp
    · simp only [Sem.run_bind, run_underlying hT, Result.andThen_ok, Sem.run_pure, hk.check _ g v k w hv, hf, Option.bind_none, zeroValue, typeInfo, run_program, z1, z2, mGet_none k hi]
      cases ok <;> simp
  | some i =>
    rw [hi] at hf
    obtain ⟨y, h1, _, h3⟩ := mSet_keys_old (α := α) k a0 hi
    have hlt : i < l.length := (List.getElem?_eq_some_iff.1 h1).1
    have hlt' : i < es.size := by have := hE.len; simp [eMap] at this; omega
    have hval := hE.val i hlt' (by simpa [eMap] using hlt)
    have hy : l[i] = (k, y) := (List.getElem?_eq_some_iff.1 h1).2
    simp only [eMap, List.getElem_map, hy] at hval
    refine ⟨es[i].val, ?_, by rw [h3]; exact hval⟩
    unfold Instr.lookup
    have e1 : es.toList[i]? = some es[i] := by simp [hlt']
    rcases hx with ⟨m, c, rfl, hb⟩ | ⟨rfl, rfl⟩
    · simp only [Sem.run_bind, run_underlying hT, Result.andThen_ok, MapKept.run_getObj_map hb, Sem.run_pure, hk.check _ g v k w hv, hf, Option.bind_some, e1, Option.map_some, h3]
      cases ok <;> simp
    · simp at hlt'
end

section
variable {P : Program} {N : Nat} {all : Array Oper} {K : Env → List Res → Prop} {fl : List Bool} {os : List Oper} {ρ : Env} {L : List Res} {Q : PPost} {c : Code} {d : Nat} {ty : TypeId} {pos : String} {af : Array Edge}
variable {κ α : Type} [DecidableEq κ] {ek : κ → PV} {ev : α → PV} {T KT ET : Nat}

/-- Values whose form is a key's. -/
class IsKey' (x : PV) (ek : κ → PV) (k : outParam κ) : Prop where
  out : Le x (ek k)
instance (d : Dig) : IsKey' (.agg (eDig d)) kDig d := ⟨.refl _⟩
instance (n : Int) : IsKey' (.raw (.int .i64 n)) kInt n := ⟨.refl _⟩

/-- A map that no longer turns. -/
theorem s_lookF {x y : Operand} {l : List (κ × α)} {ay : PV} {k0 : κ} (hx : ρ.ev x = .fmap (eMap ek ev l)) (hy : ρ.ev y = ay) [hT : TMap P T KT ET] [hK : TKey P KT ek] {a0 : α} [hz : ZV P ET ev a0] [hk : IsKey' ay ek k0]
    (k : pops P N all K fl.tail os (upd ρ d (ev ((mGet k0 l).getD a0))) L) (hd : Nat.blt d N = true := by rfl) : pops P N all K fl (⟨some d, .lookup T x y false, ty, pos, af, none⟩ :: os) ρ L :=
  step_q hd (qop_of_run fun a w g ha hi => by
    have h1 := ha x (by simp [Op.operands]); rw [hx] at h1
    have h2 := hk.out g _ (hy ▸ ha y (by simp [Op.operands]))
    have key : ∃ es, ((∃ m c, a.eval x = .map (some m) ∧ w.heap[m]? = some (.map es c)) ∨ (a.eval x = .map none ∧ es = #[])) ∧ Entries g es (eMap ek ev l) := by
      generalize a.eval x = v at h1
      generalize eMap ek ev l = kvs at h1 ⊢
      cases h1 with
      | fmap hM hl hk' hv' => obtain ⟨c, hc⟩ := hi.satM _ _ hM; exact ⟨_, .inl ⟨_, c, rfl, hc⟩, ⟨hl, hk', hv'⟩⟩
      | nilM => exact ⟨#[], .inr ⟨rfl, rfl⟩, ⟨rfl, by simp, by simp⟩⟩
    obtain ⟨es, he, hE⟩ := key
    obtain ⟨u, hr, hu⟩ := lookup_run hT.out hK.out hz.out hE he h2 false
    refine ⟨u, ?_, hu⟩
    simp only [execOp, hr, Sem.run_bind, Result.andThen_ok, Sem.run_pure]; rfl) k
theorem s_lookFok {x y : Operand} {l : List (κ × α)} {ay : PV} {k0 : κ} (hx : ρ.ev x = .fmap (eMap ek ev l)) (hy : ρ.ev y = ay) [hT : TMap P T KT ET] [hK : TKey P KT ek] {a0 : α} [hz : ZV P ET ev a0] [hk : IsKey' ay ek k0]
    (k : pops P N all K fl.tail os (upd ρ d (.tuple [ev ((mGet k0 l).getD a0), .raw (.bool (mGet k0 l).isSome)])) L) (hd : Nat.blt d N = true := by rfl) : pops P N all K fl (⟨some d, .lookup T x y true, ty, pos, af, none⟩ :: os) ρ L :=
  step_q hd (qop_of_run fun a w g ha hi => by
    have h1 := ha x (by simp [Op.operands]); rw [hx] at h1
    have h2 := hk.out g _ (hy ▸ ha y (by simp [Op.operands]))
    have key : ∃ es, ((∃ m c, a.eval x = .map (some m) ∧ w.heap[m]? = some (.map es c)) ∨ (a.eval x = .map none ∧ es = #[])) ∧ Entries g es (eMap ek ev l) := by
      generalize a.eval x = v at h1
      generalize eMap ek ev l = kvs at h1 ⊢
      cases h1 with
      | fmap hM hl hk' hv' => obtain ⟨c, hc⟩ := hi.satM _ _ hM; exact ⟨_, .inl ⟨_, c, rfl, hc⟩, ⟨hl, hk', hv'⟩⟩
      | nilM => exact ⟨#[], .inr ⟨rfl, rfl⟩, ⟨rfl, by simp, by simp⟩⟩
    obtain ⟨es, he, hE⟩ := key
    obtain ⟨u, hr, hu⟩ := lookup_run hT.out hK.out hz.out hE he h2 true
    refine ⟨_, ?_, VRl.tuple (.cons hu (.cons (.raw (.bool (mGet k0 l).isSome)) (.nil g)))⟩
    simp only [execOp, hr, Sem.run_bind, Result.andThen_ok, Sem.run_pure]; rfl) k
/-- A map of one's own. -/
theorem s_lookM {x y : Operand} {b : Nat} {l : List (κ × α)} {ay : PV} {k0 : κ} (hx : ρ.ev x = .raw (.map (some b))) (hm : Res.map b (eMap ek ev l) ∈ L) (hy : ρ.ev y = ay) [hT : TMap P T KT ET] [hK : TKey P KT ek] {a0 : α} [hz : ZV P ET ev a0] [hk : IsKey' ay ek k0]
    (k : pops P N all K fl.tail os (upd ρ d (ev ((mGet k0 l).getD a0))) L) (hd : Nat.blt d N = true := by rfl) : pops P N all K fl (⟨some d, .lookup T x y false, ty, pos, af, none⟩ :: os) ρ L :=
  step_q hd (qop_of_run fun a w g ha hi => by
    have h1 := evRaw ha (x := x) (by simp [Op.operands]) hx
    have h2 := hk.out g _ (hy ▸ ha y (by simp [Op.operands]))
    obtain ⟨es, c, hb, hE, _⟩ := hi.res _ hm
    obtain ⟨u, hr, hu⟩ := lookup_run hT.out hK.out hz.out hE (.inl ⟨b, c, h1, hb⟩) h2 false
    refine ⟨u, ?_, hu⟩
    simp only [execOp, hr, Sem.run_bind, Result.andThen_ok, Sem.run_pure]; rfl) k
theorem s_lookMok {x y : Operand} {b : Nat} {l : List (κ × α)} {ay : PV} {k0 : κ} (hx : ρ.ev x = .raw (.map (some b))) (hm : Res.map b (eMap ek ev l) ∈ L) (hy : ρ.ev y = ay) [hT : TMap P T KT ET] [hK : TKey P KT ek] {a0 : α} [hz : ZV P ET ev a0] [hk : IsKey' ay ek k0]
    (k : pops P N all K fl.tail os (upd ρ d (.tuple [ev ((mGet k0 l).getD a0), .raw (.bool (mGet k0 l).isSome)])) L) (hd : Nat.blt d N = true := by rfl) : pops P N all K fl (⟨some d, .lookup T x y true, ty, pos, af, none⟩ :: os) ρ L :=
  step_q hd (qop_of_run fun a w g ha hi => by
    have h1 := evRaw ha (x := x) (by simp [Op.operands]) hx
    have h2 := hk.out g _ (hy ▸ ha y (by simp [Op.operands]))
    obtain ⟨es, c, hb, hE, _⟩ := hi.res _ hm
    obtain ⟨u, hr, hu⟩ := lookup_run hT.out hK.out hz.out hE (.inl ⟨b, c, h1, hb⟩) h2 true
    refine ⟨_, ?_, VRl.tuple (.cons hu (.cons (.raw (.bool (mGet k0 l).isSome)) (.nil g)))⟩
    simp only [execOp, hr, Sem.run_bind, Result.andThen_ok, Sem.run_pure]; rfl) k
/-- A new map. -/
theorem s_makeMap (k : ∀ b, pops P N all K fl.tail os (upd ρ d (.raw (.map (some b)))) (.map b [] :: L)) (hd : Nat.blt d N = true := by rfl) (hf : fl.headD true = true := by rfl) :
    pops P N all K fl (⟨some d, .makeMap T none, ty, pos, af, none⟩ :: os) ρ L :=
  pops_n rfl (dlt hd) hf (fun a w g ha hi => by
    obtain ⟨i1, s1⟩ := hi.allocO (.map #[] 0)
    have hr : (execOp a.eval ⟨some d, .makeMap T none, ty, pos, af, none⟩).run P w = .ok (.value (.map (some w.heap.size))) (w.alloc (.map #[] 0)) := by
      simp only [execOp, Instr.makeMap, Option.map_none, Sem.run_bind, run_newObj_alloc, Result.andThen_ok, Sem.run_pure]
    refine Oper.wq_of_run hr ?_
    obtain ⟨f1, f2⟩ := hi.fresh (b := w.heap.size) (Nat.le_refl _)
    refine ⟨_, _, g, _, rfl, .raw _, ⟨i1.sat, i1.satM, fun r hr => ?_, ?_, i1.glob⟩, s1, ?_, k _⟩
    · rcases List.mem_cons.1 hr with rfl | hr
      · exact ⟨#[], 0, by show (w.heap.push _)[w.heap.size]? = _; simp, ⟨rfl, by simp, by simp⟩, f1, f2⟩
      · exact i1.res r hr
    · simp only [blocks, List.filterMap_cons, Res.block]
      exact List.nodup_cons.2 ⟨fun h => by have := hi.lt h; omega, hi.nodup⟩
    · intro b' hb' hlt
      simp only [blocks, List.filterMap_cons, Res.block] at hb'
      rcases List.mem_cons.1 hb' with rfl | hb'
      · omega
      · exact hb')
/-- An entry written. -/
theorem opN_mapUpd {dst : Option Nat} {gd : Option (Nat × Bool)} [hT : TMap P T KT ET] [hK : TKey P KT ek] {x y z : Operand} {b : Nat} {l : List (κ × α)} {k0 : κ} {x0 : α} {L' : List Res} {op : Op} (hop : op = .mapUpdate T x y z ∨ op = .insert T x y z) (hx : ρ.ev x = .raw (.map (some b))) (hp : L.Perm (.map b (eMap ek ev l) :: L'))
    (hk : Le (ρ.ev y) (ek k0)) (hz : Le (ρ.ev z) (ev x0)) {Ψ : PV → List Res → Prop} (k : Ψ (.raw undef) (.map b (eMap ek ev (mSet k0 x0 l)) :: L')) : OpN P ⟨dst, op, ty, pos, af, gd⟩ ρ L Ψ := by
  refine OpN.perm hp fun a w g ha hi => ?_
  have hopx : x ∈ op.operands := by rcases hop with rfl | rfl <;> simp [Op.operands]
  have hopy : y ∈ op.operands := by rcases hop with rfl | rfl <;> simp [Op.operands]
  have hopz : z ∈ op.operands := by rcases hop with rfl | rfl <;> simp [Op.operands]
  have h1 := evRaw ha (x := x) hopx hx
  have h2 := hk g _ (ha y hopy)
  have h3 := hz g _ (ha z hopz)
  obtain ⟨es, cl, hb, hE, hH, hM⟩ := hi.res _ (List.mem_cons_self)
  have hlen : es.toList.length = (l.map (·.1)).length := by have := hE.len; simpa [eMap] using this
  have hf := hK.out.find g (a.eval y) k0 es.toList (l.map (·.1)) w h2 hlen (fun i h h' => by
    have := hE.key i (by simpa using h) (by simpa [eMap] using h')
    simpa [eMap] using this)
  have hlt : b < w.heap.size := (Array.getElem?_eq_some_iff.1 hb).1
  have hnd := hi.nodup
  simp only [blocks, List.filterMap_cons, Res.block] at hnd
  have hrest : Inv w g L' := hi.sub (List.sublist_cons_self _ _)
  -- what the store leaves
  have fin : ∀ (es' : Array MapEntry) (cl' : Nat), Entries g es' (eMap ek ev (mSet k0 x0 l)) → (Instr.mapUpdate T (a.eval x) (a.eval y) (a.eval z)).run P w = .ok () (w.putObj b (.map es' cl')) →
      Oper.wq P ⟨dst, op, ty, pos, af, gd⟩ a w (fun a' w' => ∃ v x g' L'', a' = a.put dst v ∧ VR g' v x ∧ Inv w' g' L'' ∧ Step (blocks (.map b (eMap ek ev l) :: L')) w g w' g' ∧ Within w (.map b (eMap ek ev l) :: L') L'' ∧ Ψ x L'') := fun es' cl' hE' hr => by
    have hr' : (execOp a.eval ⟨dst, op, ty, pos, af, gd⟩).run P w = .ok .skip (w.putObj b (.map es' cl')) := by
      rcases hop with rfl | rfl <;> simp only [execOp, hr, Sem.run_bind, Result.andThen_ok, Sem.run_pure]
    refine Oper.wq_of_run hr' ?_
    have i2 := hrest.put (.map es' cl') hH hM (List.nodup_cons.1 hnd).1
    refine ⟨undef, .raw undef, g, .map b (eMap ek ev (mSet k0 x0 l)) :: L', rfl, .raw _, ⟨i2.sat, i2.satM, fun r hr => ?_, hi.nodup, hi.glob⟩, .put _ (by simp [blocks, Res.block]), fun b' hb' _ => hb', k⟩
    rcases List.mem_cons.1 hr with rfl | hr
    · exact ⟨es', cl', World.putObj_heap_same hlt, hE', hH, hM⟩
    · exact i2.res r hr
  cases hi' : kIdx k0 (l.map (·.1)) with
  | none =>
    rw [hi'] at hf
    refine fin (es.push { key := a.eval y, val := a.eval z, born := cl }) (cl + 1) ?_ ?_
    · rw [mSet_keys_new k0 x0 hi', eMap, List.map_append]
      have hl : es.size = l.length := by simpa [eMap] using hE.len
      refine ⟨by simp [hl], fun i j1 j2 => ?_, fun i j1 j2 => ?_⟩
      · by_cases hi2 : i < es.size
        · rw [Array.getElem_push_lt hi2, List.getElem_append_left (by simp; omega)]
          exact hE.key i hi2 (by simp [eMap]; omega)
        · have e : i = es.size := by simp at j1; omega
          subst e
          rw [List.getElem_append_right (by simp [hl])]
          rw [Array.getElem_push_eq]; simpa [hl] using h2
      · by_cases hi2 : i < es.size
        · rw [Array.getElem_push_lt hi2, List.getElem_append_left (by simp; omega)]
          exact hE.val i hi2 (by simp [eMap]; omega)
        · have e : i = es.size := by simp at j1; omega
          subst e
          rw [List.getElem_append_right (by simp [hl])]
          rw [Array.getElem_push_eq]; simpa [hl] using h3
    · unfold Instr.mapUpdate
      simp only [Sem.run_bind, run_underlying hT.out, Result.andThen_ok, h1, MapKept.run_getObj_map hb, hK.out.check false g _ k0 w h2, hf, Option.bind_none, MapKept.run_setObj_map _ hb]
      rfl
  | some i =>
    rw [hi'] at hf
    obtain ⟨y0, e1, e2, _⟩ := mSet_keys_old k0 x0 hi'
    have hl : es.size = l.length := by simpa [eMap] using hE.len
    have hli : i < l.length := (List.getElem?_eq_some_iff.1 e1).1
    have hli' : i < es.size := by omega
    have hy0 : l[i] = (k0, y0) := (List.getElem?_eq_some_iff.1 e1).2
    have hkey : VR g es[i].key (ek k0) := by
      have := hE.key i hli' (by simp [eMap]; exact hli)
      simpa [eMap, hy0] using this
    have hsame := hK.out.same g _ _ k0 hkey h2
    refine fin (es.modify i fun e => { e with key := a.eval y, val := a.eval z }) cl ?_ ?_
    · rw [e2]
      refine ⟨by simp [eMap, hl], fun j j1 j2 => ?_, fun j j1 j2 => ?_⟩
      · simp only [Array.size_modify] at j1
        have j3 : j < l.length := by omega
        rw [Array.getElem_modify (by simpa using j1)]
        by_cases hj : i = j
        · subst hj
          simp [eMap]; exact h2
        · simp only [hj, if_false]
          have := hE.key j j1 (by simp [eMap]; exact j3)
          simpa [eMap, List.getElem_set_ne hj] using this
      · simp only [Array.size_modify] at j1
        have j3 : j < l.length := by omega
        rw [Array.getElem_modify (by simpa using j1)]
        by_cases hj : i = j
        · subst hj
          simp [eMap]; exact h3
        · simp only [hj, if_false]
          have := hE.val j j1 (by simp [eMap]; exact j3)
          simpa [eMap, List.getElem_set_ne hj] using this
    · have hf2 : (Instr.findKey KT (a.eval y) es.toList).run P w = .ok (some (i, es[i].val)) w := by rw [hf]; simp [hli']
      have hst : (Instr.keyThatStays es[i].key (a.eval y)).run P w = .ok (a.eval y) w := by unfold Instr.keyThatStays; rw [if_pos hsame]; rfl
      unfold Instr.mapUpdate
      simp only [Sem.run_bind, run_underlying hT.out, Result.andThen_ok, h1, MapKept.run_getObj_map hb, hK.out.check false g _ k0 w h2, hf2, Array.getElem?_eq_getElem hli', Option.map_some, Option.getD_some, hst, MapKept.run_setObj_map _ hb]
      rfl
theorem s_mapUpd [hT : TMap P T KT ET] [hK : TKey P KT ek] {x y z : Operand} {b : Nat} {l : List (κ × α)} {k0 : κ} {x0 : α} {L' : List Res} (hx : ρ.ev x = .raw (.map (some b))) (hp : L.Perm (.map b (eMap ek ev l) :: L')) (hk : Le (ρ.ev y) (ek k0)) (hz : Le (ρ.ev z) (ev x0))
    (k : pops P N all K fl.tail os ρ (.map b (eMap ek ev (mSet k0 x0 l)) :: L')) (hfl : fl.headD true = true := by rfl) : pops P N all K fl (⟨none, .mapUpdate T x y z, ty, pos, af, none⟩ :: os) ρ L :=
  pops_n rfl (fun _ e => by cases e) hfl (opN_mapUpd (.inl rfl) hx hp hk hz k)
theorem s_mapIns [hT : TMap P T KT ET] [hK : TKey P KT ek] {x y z : Operand} {b : Nat} {l : List (κ × α)} {k0 : κ} {x0 : α} {L' : List Res} (hx : ρ.ev x = .raw (.map (some b))) (hp : L.Perm (.map b (eMap ek ev l) :: L')) (hk : Le (ρ.ev y) (ek k0)) (hz : Le (ρ.ev z) (ev x0))
    (k : pops P N all K fl.tail os ρ (.map b (eMap ek ev (mSet k0 x0 l)) :: L')) (hfl : fl.headD true = true := by rfl) : pops P N all K fl (⟨none, .insert T x y z, ty, pos, af, none⟩ :: os) ρ L :=
  pops_n rfl (fun _ e => by cases e) hfl (opN_mapUpd (.inr rfl) hx hp hk hz k)

/-! ### A map turns no more -/
theorem Inv.freezeM {w : World} {g : Gh} {L' : List Res} {b : Nat} {kvs : List (PV × PV)} (hi : Inv w g L) (hp : L.Perm (.map b kvs :: L')) :
    ∃ g', Inv w g' L' ∧ Step (blocks L) w g w g' ∧ Within w L L' ∧ VR g' (.map (some b)) (.fmap kvs) := by
  have hi2 := hi.perm hp
  obtain ⟨es, cl, h1, h2, h3, h4⟩ := hi2.res _ (List.mem_cons_self)
  let g' : Gh := { g with M := fun k => if k = b then some (.map es) else g.M k }
  have hle : g.le g' := ⟨fun _ _ _ h => h, fun k z h => by
    show (if k = b then some (Frz.map es) else g.M k) = _
    rw [if_neg (fun e => by rw [e, h4] at h; cases h)]; exact h⟩
  have hbl : b ∈ blocks L := (blocks_perm hp).symm.subset (by simp [blocks, Res.block])
  have hnd := hi2.nodup
  simp only [blocks, List.filterMap_cons, Res.block] at hnd
  have hnb : ∀ r ∈ L', r.block ≠ some b := fun r hr e => (List.nodup_cons.1 hnd).1 (List.mem_filterMap.2 ⟨r, hr, e⟩)
  refine ⟨g', ⟨hi.sat, fun k z hz => ?_, fun r hr => ?_, (List.nodup_cons.1 hnd).2, hi.glob.mono hle⟩, ⟨rfl, rfl, ⟨rfl, Nat.le_refl _⟩, Nat.le_refl _, fun _ _ _ => rfl, hle, fun k _ hn => ⟨fun _ => rfl, ?_⟩⟩, fun b' hb' _ => (blocks_perm hp).symm.subset ?_, ?_⟩
  · change (if k = b then some (Frz.map es) else g.M k) = some z at hz
    split at hz
    · rename_i e; subst e; cases hz; exact ⟨cl, h1⟩
    · exact hi.satM k z hz
  · refine Res.holds_kept hle (hi2.res r (List.mem_cons_of_mem _ hr)) fun b' hb' => ⟨rfl, fun _ => rfl, ?_⟩
    show (if b' = b then some (Frz.map es) else g.M b') = _
    rw [if_neg (fun e => by subst e; exact hnb r hr hb')]
  · show (if k = b then some (Frz.map es) else g.M k) = _
    rw [if_neg (fun e => by subst e; exact hn hbl)]
  · simp only [blocks, List.filterMap_cons, Res.block]; exact List.mem_cons_of_mem _ hb'
  · exact .fmap (es := es) (by show (if b = b then some (Frz.map es) else g.M b) = _; simp) h2.len (fun i a c => (h2.key i a c).mono hle) (fun i a c => (h2.val i a c).mono hle)
def Fm (b : Nat) (kvs : List (PV × PV)) (x y : PV) : Prop := x = y ∨ (x = .raw (.map (some b)) ∧ y = .fmap kvs)
theorem pwp_freezeM {b : Nat} {kvs : List (PV × PV)} {L' : List Res} (E : List (Nat × PV)) (hE : HoldsR (Fm b kvs) ρ E) (hp : L.Perm (.map b kvs :: L')) (k : pwp P N c Q (env E) L') : pwp P N c Q ρ L :=
  pwp_ghost (fun base a w g ha hi => by
    obtain ⟨g', h1, h2, h3, h4⟩ := hi.freezeM hp
    refine ⟨g', ⟨ha.size, ha.defers.mono h2.le, fun i => ?_⟩, h1, h2, h3⟩
    rcases env_leR hE i with (e | ⟨e1, e2⟩) | e
    · rw [← e]; exact (ha.slot i).mono h2.le
    · rw [e2]
      have := (ha.slot i).mono h2.le
      rw [e1] at this
      rw [this.raw_inv]; exact h4
    · rw [e]; exact .junk _) k
end
end Go.Q
/- The small logic: arrays that no longer turn, as slices; functions that the model itself answers. Library, no statement of its own. -/
namespace Go.Q
open Go
section
variable {P : Program} {N : Nat} {all : Array Oper} {K : Env → List Res → Prop} {fl : List Bool} {os : List Oper} {ρ : Env} {L : List Res} {Q : PPost} {c : Code} {d : Nat} {ty : TypeId} {pos : String} {af : Array Edge}

theorem eBy_flat (l : List UInt8) : (l.map eBy).flatten = l.map eU8 := by
  induction l with
  | nil => rfl
  | cons a l ih => simp [ih, eBy, eU8, u8]
/-- An array of bytes that no longer turns, as a slice. -/
theorem s_sliceF {T : TypeId} [hT : TDig P T] {x : Operand} {dg : Dig} (hx : ρ.ev x = .pt (eDig dg) 0) (k : pops P N all K fl.tail os (upd ρ d (.slice (dg.bs.map eBy) .ro)) L) (hd : Nat.blt d N = true := by rfl) :
    pops P N all K fl (⟨some d, .slice T x none none none, ty, pos, af, none⟩ :: os) ρ L :=
  step_q hd (qop_of_run fun a' w g ha hi => by
    obtain ⟨E, i, e1, e2, e3, e4⟩ := hT.arr
    have h1 := ha x (by simp [Op.operands]); rw [hx] at h1
    generalize hv : a'.eval x = v at h1
    generalize hcs : eDig dg = cs at h1
    cases h1 with
    | pt f hH hv' =>
      rename_i b o
      subst hcs
      refine ⟨.slice (some ⟨b, o, none⟩) 32 32, ?_, ?_⟩
      · show (do pure (Next.value (← Instr.sliceAt T (a'.eval x) none none none)) : Sem Next).run P w = _
        simp [Instr.sliceAt, run_und e1, hv, Instr.sureAddr, Instr.sliceBounds, sizeOf, typeInfo, e3, e4, add_plain]
      · have hl : (eDig dg).length = 32 := by simp
        let us : List Value := (List.range 32).map f
        have hus : VRl g us (eDig dg) := ⟨by simp [us], fun j j1 j2 => by simpa [us] using hv' j j2⟩
        have := VR.of_cells (g := g) (xs := dg.bs.map eBy) (t := .ro) (sz := 1) (b := b) (off := o) (cap := 32) (fun e he => by obtain ⟨a, _, rfl⟩ := List.mem_map.1 he; rfl) (by simp [dg.len]) ⟨by rw [List.length_map, dg.len]; decide, by rw [List.length_map, dg.len]; decide⟩ (us := us)
          (by rw [eBy_flat]; exact hus) (fun j hj => by
            have hj' : j < 32 := by simpa [us] using hj
            rw [hH j (by omega)]; simp [us]) (by simp) (by simp)
        simpa [dg.len] using this) k

/-! ### Functions that the model itself answers -/
class ExtC (P : Program) (f : Nat) (args : List PV) (X : outParam PV) : Prop where
  out : ∀ (vs : List Value) (w : World) (g : Gh), VRl g vs args → (∀ b o v, g.H b o = some v → w.cell? ⟨b, o, none⟩ = some v) → ∃ v, (callFunc f vs.toArray).run P w = .ok (.value v) w ∧ VR g v X
theorem s_ext {f : Nat} {X : PV} {ats : Array TypeId} {xs : List Operand} {xa : Array Operand} {args : List PV} (hxa : xa = xs.toArray) (hargs : ∀ i (h1 : i < xs.length) (h2 : i < args.length), Le (ρ.ev xs[i]) args[i]) (hl : xs.length = args.length) [hc : ExtC P f args X] (k : pops P N all K fl.tail os (upd ρ d X) L) (hd : Nat.blt d N = true := by rfl) :
    pops P N all K fl (⟨some d, .call { callee := .value (.func f), args := xa, argTypes := ats }, ty, pos, af, none⟩ :: os) ρ L := by
  subst hxa
  refine step_q hd (qop_of_run fun a w g ha hi => ?_) k
  have hvs : VRl g (xs.map a.eval) args := ⟨by simpa using hl, fun i h1 h2 => by
    simp only [List.getElem_map]
    exact hargs i (by simpa using h1) h2 g _ (ha _ (by simp [Op.operands, Call.operands]))⟩
  obtain ⟨v, hr, hv⟩ := hc.out _ w g hvs hi.sat
  refine ⟨v, ?_, hv⟩
  have he : execOp a.eval ⟨some d, .call { callee := .value (.func f), args := xs.toArray, argTypes := ats }, ty, pos, af, none⟩ = callFunc f (#[] ++ xs.toArray.map a.eval ++ #[]) := rfl
  rw [he]
  simpa using hr
theorem j_ext2 {f : Nat} {X : PV} {ats : Array TypeId} {x0 x1 : Operand} {a0 a1 b0 b1 : PV} (q0 : ρ.ev x0 = a0) (q1 : ρ.ev x1 = a1) [hN0 : Norm a0 b0] [hN1 : Norm a1 b1] [hc : ExtC P f [b0, b1] X] (k : pops P N all K fl.tail os (upd ρ d X) L) (hd : Nat.blt d N = true := by rfl) :
    pops P N all K fl (⟨some d, .call { callee := .value (.func f), args := #[x0, x1], argTypes := ats }, ty, pos, af, none⟩ :: os) ρ L :=
  s_ext (xs := [x0, x1]) (args := [b0, b1]) rfl (fun i h1 h2 => by
    match i, h1, h2 with
    | 0, _, _ => exact q0 ▸ hN0.out
    | 1, _, _ => exact q1 ▸ hN1.out
    | m + 2, h1, _ => exact absurd h1 (by simp only [List.length_cons, List.length_nil]; omega)) rfl k hd
theorem bytesOf_run {w : World} {g : Gh} (hsat : ∀ b o v, g.H b o = some v → w.cell? ⟨b, o, none⟩ = some v) {v : Value} {bs : List UInt8} {t : Tag} (h : VR g v (.slice (bs.map eBy) t)) : (Extern.Bytes.bytesOf v).run P w = .ok ⟨bs.toArray⟩ w := by
  obtain ⟨base, cap, e1, hcap, hmx, hnone, _, _, us, hus, hcell⟩ := h.slice_cells (sz := 1) (fun e he => by obtain ⟨a, _, rfl⟩ := List.mem_map.1 he; rfl)
  subst e1
  rw [eBy_flat] at hus
  cases base with
  | none =>
    have : bs = [] := by simpa using (hnone rfl).1
    subst this
    simp [Extern.Bytes.bytesOf]; rfl
  | some ad =>
    obtain ⟨b, o, s⟩ := ad
    obtain ⟨hs, hH⟩ := hcell _ rfl
    rcases hs with ⟨e3, e4⟩ | hs
    · have : bs = [] := by simpa using e3
      subst this
      simp [Extern.Bytes.bytesOf, Extern.Bytes.loadBytes]; rfl
    simp only at hs
    subst hs
    have := Lib.run_loadBytesX (P := P) w (bs.map fun x => (x.toNat : Int)) ⟨b, o, none⟩ .empty (fun j x hx => by
      rw [List.getElem?_map] at hx
      obtain ⟨y, hy, rfl⟩ := Option.map_eq_some_iff.1 hx
      have hj : j < bs.length := (List.getElem?_eq_some_iff.1 hy).1
      have hj' : j < us.length := by rw [hus.len]; simpa using hj
      rw [add_plain, hsat _ _ _ (hH j hj')]
      have h2 := hus.at_ j hj' (by simpa using hj)
      have h3 : bs[j] = y := (List.getElem?_eq_some_iff.1 hy).2
      simp only [List.getElem_map, eU8, h3] at h2
      rw [h2.raw_inv]; rfl)
    rw [List.length_map] at this
    simp only [Extern.Bytes.bytesOf, List.length_map, this]
    congr 1
    apply ByteArray.ext
    have e2 : Lib.bytesOf (bs.map fun x => (x.toNat : Int)) = bs := by
      unfold Lib.bytesOf
      rw [List.map_map]
      conv => rhs; rw [← List.map_id bs]
      apply List.map_congr_left
      intro x _
      simp
    simp [e2]
end
theorem compareBytes_eq : ∀ a b : List UInt8, Lib.compareBytes a b = cmpL a b
  | [], [] => rfl
  | [], _ :: _ => rfl
  | _ :: _, [] => rfl
  | x :: xs, y :: ys => by simp [Lib.compareBytes, cmpL, compareBytes_eq xs ys]
theorem extC_compare {P : Program} {f : Nat} {fn : Func} (hf : P.funcs[f]? = some fn) (hn : (fn.name == "runtime.NumGoroutine") = false) (hb : fn.body.isNone = true) (h1 : Extern.findNext fn = none) (h2 : Extern.find fn = some Extern.BytealgCompare.compare) (a b : List UInt8) (t u : Tag) :
    ExtC P f [.slice (a.map eBy) t, .slice (b.map eBy) u] (.raw (.int .i64 (cmpL a b))) := ⟨fun vs w g hv hs => by
  match vs, hv with
  | [x, y], hv =>
    obtain ⟨q1, q2⟩ := hv.uncons
    obtain ⟨q2, _⟩ := q2.uncons
    refine ⟨_, ?_, .raw _⟩
    rw [run_callFunc_extern hf hn hb h1 h2]
    show ((do pure (goInt (Extern.BytealgCompare.cmp (← Extern.Bytes.bytesOf x) (← Extern.Bytes.bytesOf y))) : Sem Value).run P w).andThen _ = _
    simp only [Sem.run_bind, bytesOf_run hs q1, bytesOf_run hs q2, Result.andThen_ok, Sem.run_pure, Lib.cmp_eq, compareBytes_eq]
    rfl
  | [], hv => have := hv.len; simp at this
  | [_], hv => have := hv.len; simp at this
  | _ :: _ :: _ :: _, hv => have := hv.len; simp at this⟩
theorem extC_indexByte {P : Program} {f : Nat} {fn : Func} (hf : P.funcs[f]? = some fn) (hn : (fn.name == "runtime.NumGoroutine") = false) (hb : fn.body.isNone = true) (h1 : Extern.findNext fn = none) (h2 : Extern.find fn = some Extern.BytealgIndexByte.indexByte) (s : Str) (c : Int) :
    ExtC P f [.str s, .raw (.int .u8 c)] (.raw (.int .i64 (Lib.indexByte s c.toNat.toUInt8))) := ⟨fun vs w g hv hs => by
  match vs, hv with
  | [x, y], hv =>
    obtain ⟨q1, q2⟩ := hv.uncons
    obtain ⟨q2, _⟩ := q2.uncons
    have e1 : x = .string ⟨s.toArray⟩ := by cases q1; rfl
    have e2 := q2.raw_inv
    subst e1 e2
    refine ⟨_, ?_, .raw _⟩
    rw [run_callFunc_extern hf hn hb h1 h2, Lib.run_indexByteString]
    rfl
  | [], hv => have := hv.len; simp at this
  | [_], hv => have := hv.len; simp at this
  | _ :: _ :: _ :: _, hv => have := hv.len; simp at this⟩
end Go.Q
