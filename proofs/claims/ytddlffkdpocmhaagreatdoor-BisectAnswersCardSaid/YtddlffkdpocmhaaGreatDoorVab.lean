/- The small logic, fifth text: single operations. Library, no statement of its own. -/
import Derived.Test.YtddlffkdpocmhaaGreatDoorVaa
import Derived.IntWalk
import Derived.Laws.Strings
import Derived.Laws.Entries
import Derived.ChangeKeysEq
import Derived.Laws.StructEq
set_option linter.unusedSimpArgs false
set_option linter.unusedVariables false
namespace Go.Q
open Go

/-! ### What is asked of types -/
class TAgg (P : Program) (T : Nat) (n : outParam Nat) : Prop where
  out : AggT P T n
class TScal (P : Program) (T : Nat) : Prop where
  out : ScalT P T
class TSz (P : Program) (E : Nat) (sz bytes : outParam Nat) : Prop where
  out : ∃ i, P.info? E = some i ∧ i.size = sz ∧ i.bytes = bytes
class TSl (P : Program) (T : Nat) (E : outParam Nat) : Prop where
  out : P.underlying T = some (.slice E)
class TArr (P : Program) (T : Nat) (n E : outParam Nat) : Prop where
  out : P.underlying T = some (.array n E)
class TStr (P : Program) (T : Nat) : Prop where
  out : P.underlying T = some .string
class TInt (P : Program) (T : Nat) (k : outParam IntKind) : Prop where
  out : P.underlying T = some (.int k)
class TZero (P : Program) (T : Nat) (z : outParam Value) : Prop where
  out : ∃ i, P.info? T = some i ∧ i.zero = some z
class TFld (P : Program) (S k : Nat) (off : outParam Nat) : Prop where
  out : ∃ fs f i, P.underlying S = some (.struct fs) ∧ fs[k]? = some f ∧ f.offset = off ∧ P.info? f.type = some i ∧ i.size ≠ 0
class TFun (P : Program) (f : Nat) : Prop where
  out : ∀ vs w, (callFunc f vs).run P w = .ok (.enter f vs) w

theorem TSz.run {P : Program} {E sz bytes : Nat} (h : TSz P E sz bytes) (w : World) : (sizeOf E).run P w = .ok sz w := by
  obtain ⟨i, h1, h2, _⟩ := h.out
  unfold sizeOf typeInfo
  simp [h1, h2]
theorem run_und {P : Program} {T : Nat} {d : TypeDesc} (h : P.underlying T = some d) (w : World) : (underlying T).run P w = .ok d w := by
  unfold underlying; simp [h]

section
variable {P : Program} {N : Nat} {all : Array Oper} {K : Env → List Res → Prop} {fl : List Bool} {os : List Oper} {ρ : Env} {L : List Res}
variable {d : Nat} {ty : TypeId} {pos : String} {af : Array Edge}

theorem pops_q {o : Oper} {x : PV} (hg : o.guard = none) (hd : ∀ d, o.dst = some d → d < N) (hq : QOp P o ρ L x) (k : pops P N all K fl.tail os (updo ρ o.dst x) L) : pops P N all K fl (o :: os) ρ L :=
  ⟨hd, .inr ⟨by unfold GYes; rw [hg]; trivial, .inl ⟨x, hq, k⟩⟩⟩

theorem pops_n {o : Oper} (hg : o.guard = none) (hd : ∀ d, o.dst = some d → d < N) (hf : fl.headD true = true) (hq : OpN P o ρ L (fun x L' => pops P N all K fl.tail os (updo ρ o.dst x) L')) : pops P N all K fl (o :: os) ρ L :=
  ⟨hd, .inr ⟨by unfold GYes; rw [hg]; trivial, .inr ⟨hf, hq⟩⟩⟩

theorem pops_nil (h : K ρ L) : pops P N all K fl [] ρ L := h

/-- A guarded operation that is carried out. -/
theorem pops_yes {dst : Option Nat} {op : Op} {j : Nat} {b : Bool} {s : Nat} (hs : (all[j]?).bind (·.dst) = some s) (h : ρ s = .raw (.bool b)) (k : pops P N all K fl (⟨dst, op, ty, pos, af, none⟩ :: os) ρ L) :
    pops P N all K fl (⟨dst, op, ty, pos, af, some (j, b)⟩ :: os) ρ L := by
  obtain ⟨hd, k⟩ := k
  refine ⟨hd, .inr ⟨⟨s, hs, h⟩, ?_⟩⟩
  rcases k with ⟨hno, _⟩ | ⟨_, k⟩
  · exact hno.elim
  · exact k

/-- One that is passed over. -/
theorem pops_no {dst : Option Nat} {op : Op} {j : Nat} {b : Bool} {s : Nat} {v : Value} (hs : (all[j]?).bind (·.dst) = some s) (h : ρ s = .raw v) (hv : v ≠ .bool b) (hd : ∀ d, dst = some d → d < N) (k : pops P N all K fl.tail os (updo ρ dst (.raw undef)) L) :
    pops P N all K fl (⟨dst, op, ty, pos, af, some (j, b)⟩ :: os) ρ L := ⟨hd, .inl ⟨⟨s, v, hs, h, hv⟩, k⟩⟩

theorem dlt {d N : Nat} (h : Nat.blt d N = true) : ∀ d', some d = some d' → d' < N := fun d' e => by cases e; exact Nat.le_of_ble_eq_true h

/-- The shape of every step over an operation that hands back a value. -/
theorem step_q {op : Op} {x : PV} (hd : Nat.blt d N = true) (hq : QOp P ⟨some d, op, ty, pos, af, none⟩ ρ L x) (k : pops P N all K fl.tail os (upd ρ d x) L) : pops P N all K fl (⟨some d, op, ty, pos, af, none⟩ :: os) ρ L :=
  pops_q rfl (dlt hd) hq k

theorem s_assign {x : Operand} (k : pops P N all K fl.tail os (upd ρ d (ρ.ev x)) L) (hd : Nat.blt d N = true := by rfl) : pops P N all K fl (⟨some d, .assign x, ty, pos, af, none⟩ :: os) ρ L :=
  step_q hd (qop_of_run fun a w g ha hi => ⟨a.eval x, rfl, ha x (by simp [Op.operands])⟩) k

theorem evRaw {g : Gh} {a : Act} {o : Oper} (ha : Args g a ρ o) {x : Operand} (hm : x ∈ o.op.operands) {v : Value} (h : ρ.ev x = .raw v) : a.eval x = v := by
  have := ha x hm; rw [h] at this; exact this.raw_inv

theorem s_pickT {c x y : Operand} (hc : ρ.ev c = .raw (.bool true)) (k : pops P N all K fl.tail os (upd ρ d (ρ.ev x)) L) (hd : Nat.blt d N = true := by rfl) : pops P N all K fl (⟨some d, .pick c x y, ty, pos, af, none⟩ :: os) ρ L :=
  step_q hd (qop_of_run fun a w g ha hi => ⟨a.eval x, by
    have := evRaw ha (x := c) (by simp [Op.operands]) hc
    simp [execOp, this, asBool], ha x (by simp [Op.operands])⟩) k
theorem s_pickF {c x y : Operand} (hc : ρ.ev c = .raw (.bool false)) (k : pops P N all K fl.tail os (upd ρ d (ρ.ev y)) L) (hd : Nat.blt d N = true := by rfl) : pops P N all K fl (⟨some d, .pick c x y, ty, pos, af, none⟩ :: os) ρ L :=
  step_q hd (qop_of_run fun a w g ha hi => ⟨a.eval y, by
    have := evRaw ha (x := c) (by simp [Op.operands]) hc
    simp [execOp, this, asBool], ha y (by simp [Op.operands])⟩) k

/-- Integer operators. -/
theorem s_int {op : BinOp} {T T' : TypeId} {x y : Operand} {k₁ k₂ : IntKind} {m n : Int} {v : Value} (hx : ρ.ev x = .raw (.int k₁ m)) (hy : ρ.ev y = .raw (.int k₂ n))
    (hr : ∀ w, (binOp op T (.int k₁ m) (.int k₂ n)).run P w = .ok v w) (k : pops P N all K fl.tail os (upd ρ d (.raw v)) L) (hd : Nat.blt d N = true := by rfl) :
    pops P N all K fl (⟨some d, .binOp op T x y T', ty, pos, af, none⟩ :: os) ρ L :=
  step_q hd (qop_of_run fun a w g ha hi => ⟨v, by
    have h1 := evRaw ha (x := x) (by simp [Op.operands]) hx
    have h2 := evRaw ha (x := y) (by simp [Op.operands]) hy
    have hg : (eqGuard op T x y (.int k₁ m) (.int k₂ n)).run P w = .ok () w := by unfold eqGuard; cases op <;> rfl
    simp only [execOp, h1, h2, Sem.run_bind, hg, Result.andThen_ok, hr, Sem.run_pure], .raw v⟩) k

theorem s_lss {T T' : TypeId} {x y : Operand} {k₁ : IntKind} {m n : Int} (hx : ρ.ev x = .raw (.int k₁ m)) (hy : ρ.ev y = .raw (.int k₁ n)) (k : pops P N all K fl.tail os (upd ρ d (.raw (.bool (decide (m < n))))) L) (hd : Nat.blt d N = true := by rfl) :
    pops P N all K fl (⟨some d, .binOp .lss T x y T', ty, pos, af, none⟩ :: os) ρ L := s_int hx hy (fun w => by simp [binOp, Op.intCmp]) k hd
theorem s_leq {T T' : TypeId} {x y : Operand} {k₁ : IntKind} {m n : Int} (hx : ρ.ev x = .raw (.int k₁ m)) (hy : ρ.ev y = .raw (.int k₁ n)) (k : pops P N all K fl.tail os (upd ρ d (.raw (.bool (decide (m ≤ n))))) L) (hd : Nat.blt d N = true := by rfl) :
    pops P N all K fl (⟨some d, .binOp .leq T x y T', ty, pos, af, none⟩ :: os) ρ L := s_int hx hy (fun w => by simp [binOp, Op.intCmp]) k hd
theorem s_gtr {T T' : TypeId} {x y : Operand} {k₁ : IntKind} {m n : Int} (hx : ρ.ev x = .raw (.int k₁ m)) (hy : ρ.ev y = .raw (.int k₁ n)) (k : pops P N all K fl.tail os (upd ρ d (.raw (.bool (decide (n < m))))) L) (hd : Nat.blt d N = true := by rfl) :
    pops P N all K fl (⟨some d, .binOp .gtr T x y T', ty, pos, af, none⟩ :: os) ρ L := s_int hx hy (fun w => by simp [binOp, Op.intCmp]) k hd
theorem s_geq {T T' : TypeId} {x y : Operand} {k₁ : IntKind} {m n : Int} (hx : ρ.ev x = .raw (.int k₁ m)) (hy : ρ.ev y = .raw (.int k₁ n)) (k : pops P N all K fl.tail os (upd ρ d (.raw (.bool (decide (n ≤ m))))) L) (hd : Nat.blt d N = true := by rfl) :
    pops P N all K fl (⟨some d, .binOp .geq T x y T', ty, pos, af, none⟩ :: os) ρ L := s_int hx hy (fun w => by simp [binOp, Op.intCmp]) k hd
theorem s_eqi {T T' : TypeId} {x y : Operand} {k₁ : IntKind} {m n : Int} (hx : ρ.ev x = .raw (.int k₁ m)) (hy : ρ.ev y = .raw (.int k₁ n)) (k : pops P N all K fl.tail os (upd ρ d (.raw (.bool (decide (m = n))))) L) (hd : Nat.blt d N = true := by rfl) :
    pops P N all K fl (⟨some d, .binOp .eql T x y T', ty, pos, af, none⟩ :: os) ρ L := s_int hx hy (fun w => by simp [binOp, Op.intCmp, BEq.beq]) k hd
theorem s_nei {T T' : TypeId} {x y : Operand} {k₁ : IntKind} {m n : Int} (hx : ρ.ev x = .raw (.int k₁ m)) (hy : ρ.ev y = .raw (.int k₁ n)) (k : pops P N all K fl.tail os (upd ρ d (.raw (.bool (!decide (m = n))))) L) (hd : Nat.blt d N = true := by rfl) :
    pops P N all K fl (⟨some d, .binOp .neq T x y T', ty, pos, af, none⟩ :: os) ρ L := s_int hx hy (fun w => by simp [binOp, Op.intCmp, bne, BEq.beq]) k hd
theorem s_add {T T' : TypeId} {x y : Operand} {m n : Int} (hx : ρ.ev x = .raw (.int .i64 m)) (hy : ρ.ev y = .raw (.int .i64 n)) (hb : -9223372036854775808 ≤ m + n ∧ m + n ≤ 9223372036854775807) (k : pops P N all K fl.tail os (upd ρ d (.raw (.int .i64 (m + n)))) L) (hd : Nat.blt d N = true := by rfl) :
    pops P N all K fl (⟨some d, .binOp .add T x y T', ty, pos, af, none⟩ :: os) ρ L := s_int hx hy (fun w => by simp [binOp, Op.intArith, IntWalk.i64_in _ hb]) k hd
theorem s_sub {T T' : TypeId} {x y : Operand} {m n : Int} (hx : ρ.ev x = .raw (.int .i64 m)) (hy : ρ.ev y = .raw (.int .i64 n)) (hb : -9223372036854775808 ≤ m - n ∧ m - n ≤ 9223372036854775807) (k : pops P N all K fl.tail os (upd ρ d (.raw (.int .i64 (m - n)))) L) (hd : Nat.blt d N = true := by rfl) :
    pops P N all K fl (⟨some d, .binOp .sub T x y T', ty, pos, af, none⟩ :: os) ρ L := s_int hx hy (fun w => by simp [binOp, Op.intArith, IntWalk.i64_in _ hb]) k hd

theorem s_not {T : TypeId} {x : Operand} {b : Bool} (hx : ρ.ev x = .raw (.bool b)) (k : pops P N all K fl.tail os (upd ρ d (.raw (.bool (!b)))) L) (hd : Nat.blt d N = true := by rfl) : pops P N all K fl (⟨some d, .unOp .not T x, ty, pos, af, none⟩ :: os) ρ L :=
  step_q hd (qop_of_run fun a w g ha hi => ⟨.bool (!b), by
    have h1 := evRaw ha (x := x) (by simp [Op.operands]) hx
    simp [execOp, h1, Op.unary], .raw _⟩) k

/-- len of a slice. -/
theorem s_len {T : TypeId} {E : Nat} [hT : TSl P T E] {x : Operand} {xs : List (List PV)} {t : Tag} (hx : ρ.ev x = .slice xs t) (k : pops P N all K fl.tail os (upd ρ d (.raw (.int .i64 xs.length))) L) (hd : Nat.blt d N = true := by rfl) :
    pops P N all K fl (⟨some d, .call { callee := .builtin .len, args := #[x], argTypes := #[T] }, ty, pos, af, none⟩ :: os) ρ L :=
  step_q hd (qop_of_run fun a w g ha hi => ⟨.int .i64 xs.length, by
    have h1 := ha x (by simp [Op.operands, Call.operands])
    rw [hx] at h1
    have hlen : ∃ o cap, a.eval x = .slice o xs.length cap := by
      generalize a.eval x = v at h1
      cases h1 with
      | nilN => exact ⟨_, _, rfl⟩
      | nilR => exact ⟨_, _, rfl⟩
      | slice sz f hl hc hm hs hH hv ht hn => subst hl; exact ⟨_, _, rfl⟩
    obtain ⟨o, cap, h2⟩ := hlen
    have he : execOp a.eval ⟨some d, .call { callee := .builtin .len, args := #[x], argTypes := #[T] }, ty, pos, af, none⟩ = (do pure (.value (← Builtin.len_ #[T] ty (#[x].map a.eval)))) := rfl
    rw [he]
    simp [Builtin.len_, h2, run_und hT.out, goInt], .raw _⟩) k


/-- The address of a slice's element. -/
theorem s_index {T : TypeId} {E sz by_ : Nat} [hT : TSl P T E] [hE : TSz P E sz by_] {x y : Operand} {xs : List (List PV)} {t : Tag} {kk : IntKind} {n : Int} (hx : ρ.ev x = .slice xs t) (hy : ρ.ev y = .raw (.int kk n)) (h0 : 0 ≤ n) (hn : n.toNat < xs.length)
    (hsz : (xs[n.toNat]).length = sz) (k : pops P N all K fl.tail os (upd ρ d (.pt xs[n.toNat] 0)) L) (hd : Nat.blt d N = true := by rfl) :
    pops P N all K fl (⟨some d, .indexAddr T x y, ty, pos, af, none⟩ :: os) ρ L :=
  step_q hd (qop_of_run fun a w g ha hi => by
    have h1 := ha x (by simp [Op.operands])
    rw [hx] at h1
    have h2 := evRaw ha (x := y) (by simp [Op.operands]) hy
    generalize hv : a.eval x = v at h1
    cases h1 with
    | nilN => simp at hn
    | nilR => simp at hn
    | slice sz' f hl hc hm hs hH hv' ht hnn =>
      rename_i b off len cap
      have hsz' : sz' = sz := by rw [← hsz]; exact (hs _ (List.getElem_mem hn)).symm
      subst hsz'
      refine ⟨.pointer (some ⟨b, off + n.toNat * sz', none⟩), ?_, ?_⟩
      · simp only [execOp, Instr.indexAt, h2, hv, asIntOf, Sem.run_bind, Sem.run_pure, Result.andThen_ok, run_und hT.out]
        simp only [Bool.and_false, Bool.false_eq_true, if_false]
        rw [if_pos ⟨h0, by omega⟩]
        simp [TSz.run hE, add_plain]
      · have := VR.pt (g := g) (b := b) (o := off + n.toNat * sz') (off := 0) (cs := xs[n.toNat]) (fun j => f (n.toNat * sz' + j)) (fun j hj => by rw [← hH n.toNat j (by omega) (by rw [← hsz]; exact hj)]) (fun j hj => hv' n.toNat hn j hj)
        simpa using this) k

/-- A whole struct or array out of frozen memory. -/
theorem s_loadA {T n : Nat} [hT : TAgg P T n] {x : Operand} {cs : List PV} {off : Nat} (hx : ρ.ev x = .pt cs off) (hl : off + n ≤ cs.length) (k : pops P N all K fl.tail os (upd ρ d (.agg ((cs.drop off).take n))) L) (hd : Nat.blt d N = true := by rfl) :
    pops P N all K fl (⟨some d, .load T x, ty, pos, af, none⟩ :: os) ρ L :=
  step_q hd (qop_of_run fun a w g ha hi => by
    have h1 := ha x (by simp [Op.operands])
    rw [hx] at h1
    generalize hv : a.eval x = v at h1
    cases h1 with
    | pt f hH hv' =>
      rename_i b o
      have hcell : ∀ j (hj : j < ((List.range n).map fun j => f (off + j)).length), w.cell? ⟨b, o + off + j, none⟩ = some ((List.range n).map fun j => f (off + j))[j] := fun j hj => by
        have hj' : j < n := by simpa using hj
        rw [Nat.add_assoc, hi.sat _ _ _ (hH (off + j) (by omega))]; simp
      refine ⟨.agg ((List.range n).map fun j => f (off + j)).toArray, ?_, ?_⟩
      · have := loadVar_agg hT.out (w := w) (b := b) (o := o + off) (vs := (List.range n).map fun j => f (off + j)) (by simp) hcell
        simp only [execOp, Instr.loadAt, hv, Instr.sureAddr, Sem.run_bind, Sem.run_pure, Result.andThen_ok, this]
      · refine VRl.agg ⟨by simp; omega, fun j h1 h2 => ?_⟩
        have hj : j < n := by simpa using h1
        have := hv' (off + j) (by omega)
        simpa using this) k

/-- One cell out of frozen memory. -/
theorem s_loadS {T : Nat} [hT : TScal P T] {x : Operand} {cs : List PV} {off : Nat} {c : PV} (hx : ρ.ev x = .pt cs off) (hl : cs[off]? = some c) (k : pops P N all K fl.tail os (upd ρ d c) L) (hd : Nat.blt d N = true := by rfl) :
    pops P N all K fl (⟨some d, .load T x, ty, pos, af, none⟩ :: os) ρ L :=
  step_q hd (qop_of_run fun a w g ha hi => by
    have h1 := ha x (by simp [Op.operands])
    rw [hx] at h1
    generalize hv : a.eval x = v at h1
    obtain ⟨hlt, hc⟩ := List.getElem?_eq_some_iff.1 hl
    cases h1 with
    | pt f hH hv' =>
      rename_i b o
      refine ⟨f off, ?_, hc ▸ hv' off hlt⟩
      have := loadVar_scal hT.out (P := P) (w := w) (b := b) (o := o + off) (hi.sat _ _ _ (hH off hlt))
      simp only [execOp, Instr.loadAt, hv, Instr.sureAddr, Sem.run_bind, Sem.run_pure, Result.andThen_ok, this]) k

/-- Out of a box. -/
theorem s_loadBA {T n : Nat} [hT : TAgg P T n] {x : Operand} {b off T' : Nat} {cs : List PV} (hx : ρ.ev x = .raw (.pointer (some ⟨b, off, none⟩))) (hm : Res.box b T' cs ∈ L) (hl : off + n ≤ cs.length) (k : pops P N all K fl.tail os (upd ρ d (.agg ((cs.drop off).take n))) L) (hd : Nat.blt d N = true := by rfl) :
    pops P N all K fl (⟨some d, .load T x, ty, pos, af, none⟩ :: os) ρ L :=
  step_q hd (qop_of_run fun a w g ha hi => by
    have h1 := evRaw ha (x := x) (by simp [Op.operands]) hx
    obtain ⟨vs, hb, hvs, _, _⟩ := hi.res _ hm
    have hlen : ((vs.drop off).take n).length = n := by have := hvs.len; simp; omega
    refine ⟨.agg ((vs.drop off).take n).toArray, ?_, ((hvs.drop off).take n).agg⟩
    have := loadVar_agg hT.out (w := w) (b := b) (o := off) (vs := (vs.drop off).take n) hlen (fun j hj => by
      rw [hlen] at hj
      rw [cell_of_box hb (off + j) (by have := hvs.len; omega)]; simp)
    simp only [execOp, Instr.loadAt, h1, Instr.sureAddr, Sem.run_bind, Sem.run_pure, Result.andThen_ok, this]) k

theorem s_loadBS {T : Nat} [hT : TScal P T] {x : Operand} {b off T' : Nat} {cs : List PV} {c : PV} (hx : ρ.ev x = .raw (.pointer (some ⟨b, off, none⟩))) (hm : Res.box b T' cs ∈ L) (hl : cs[off]? = some c) (k : pops P N all K fl.tail os (upd ρ d c) L) (hd : Nat.blt d N = true := by rfl) :
    pops P N all K fl (⟨some d, .load T x, ty, pos, af, none⟩ :: os) ρ L :=
  step_q hd (qop_of_run fun a w g ha hi => by
    have h1 := evRaw ha (x := x) (by simp [Op.operands]) hx
    obtain ⟨vs, hb, hvs, _, _⟩ := hi.res _ hm
    obtain ⟨hlt, hc⟩ := List.getElem?_eq_some_iff.1 hl
    have hlt' : off < vs.length := by rw [hvs.len]; exact hlt
    refine ⟨vs[off], ?_, hc ▸ hvs.at_ off hlt' hlt⟩
    have := loadVar_scal hT.out (P := P) (w := w) (b := b) (o := off) (cell_of_box hb off hlt')
    simp only [execOp, Instr.loadAt, h1, Instr.sureAddr, Sem.run_bind, Sem.run_pure, Result.andThen_ok, this]) k

theorem s_fldB {S f off' : Nat} [hF : TFld P S f off'] {x : Operand} {b off : Nat} (hx : ρ.ev x = .raw (.pointer (some ⟨b, off, none⟩))) (k : pops P N all K fl.tail os (upd ρ d (.raw (.pointer (some ⟨b, off + off', none⟩)))) L) (hd : Nat.blt d N = true := by rfl) :
    pops P N all K fl (⟨some d, .fieldAddr S x f, ty, pos, af, none⟩ :: os) ρ L :=
  step_q hd (qop_of_run fun a w g ha hi => by
    have h1 := evRaw ha (x := x) (by simp [Op.operands]) hx
    obtain ⟨fs, fd, i, h2, h3, h4, h5, h6⟩ := hF.out
    refine ⟨.pointer (some ⟨b, off + off', none⟩), ?_, .raw _⟩
    simp [execOp, Instr.fieldAt, h1, run_und h2, h3, Instr.sureAddr, fieldPlace, sizeOf, typeInfo, h5, h6, h4, add_plain]) k

theorem s_extract {x : Operand} {i : Nat} {vs : List PV} {c : PV} (hx : ρ.ev x = .tuple vs) (hc : vs[i]? = some c) (k : pops P N all K fl.tail os (upd ρ d c) L) (hd : Nat.blt d N = true := by rfl) :
    pops P N all K fl (⟨some d, .extract x i, ty, pos, af, none⟩ :: os) ρ L :=
  step_q hd (qop_of_run fun a w g ha hi => by
    have h1 := ha x (by simp [Op.operands])
    rw [hx] at h1
    obtain ⟨us, h2, h3⟩ := h1.tuple_inv
    obtain ⟨hlt, hc'⟩ := List.getElem?_eq_some_iff.1 hc
    have hlt' : i < us.length := by rw [h3.len]; exact hlt
    refine ⟨us[i], ?_, hc' ▸ h3.at_ i hlt' hlt⟩
    simp [execOp, Instr.extract, h2, hlt']) k

/-! ### New memory -/
theorem Inv.alloc {w : World} {g : Gh} (hi : Inv w g L) {vs : List Value} {cs : List PV} (hv : VRl g vs cs) (T : TypeId) :
    Inv { w with heap := w.heap.push (.cells vs.toArray T (0, 0)) } g (.box w.heap.size T cs :: L) ∧ Step (blocks L) w g { w with heap := w.heap.push (.cells vs.toArray T (0, 0)) } g ∧ Within w L (.box w.heap.size T cs :: L) := by
  have hlt : ∀ r ∈ L, ∀ b, r.block = some b → b < w.heap.size := fun r hr b hb => by
    have := hi.res r hr
    rcases Nat.lt_or_ge b w.heap.size with h | h
    · exact h
    · have hn : w.heap[b]? = none := Array.getElem?_eq_none h
      cases r with
      | box b' T' cs' => obtain ⟨_, h1, _⟩ := this; simp [Res.block] at hb; subst hb; rw [hn] at h1; cases h1
      | tok t n sz => cases t with
        | own b' cap => obtain ⟨_, _, _, h1, _⟩ := this; simp [Res.block] at hb; subst hb; rw [hn] at h1; cases h1
        | _ => simp [Res.block] at hb
      | map b' kvs => obtain ⟨_, _, h1, _⟩ := this; simp [Res.block] at hb; subst hb; rw [hn] at h1; cases h1
      | raw b' o => obtain ⟨h1, _⟩ := this; simp [Res.block] at hb; subst hb; rw [hn] at h1; cases h1
      | know vs xs => simp [Res.block] at hb
      | iter b' kvs dn => obtain ⟨_, _, _, h1, _⟩ := this; simp [Res.block] at hb; subst hb; rw [hn] at h1; cases h1
  have hH : ∀ o, g.H w.heap.size o = none := fun o => by
    cases h : g.H w.heap.size o with
    | none => rfl
    | some v => have := hi.sat _ _ _ h; simp [World.cell?] at this
  have hM : g.M w.heap.size = none := by
    cases h : g.M w.heap.size with
    | none => rfl
    | some v => exact absurd (hi.satM _ _ h).lt (Nat.lt_irrefl _)
  have hget : ∀ b, b < w.heap.size → (w.heap.push (Obj.cells vs.toArray T (0, 0)))[b]? = w.heap[b]? := fun b hb => by
    rw [Array.getElem?_push, if_neg (by omega)]
  refine ⟨⟨fun b o v h => ?_, fun b es h => ?_, fun r hr => ?_, ?_, hi.glob⟩, ⟨rfl, rfl, ⟨rfl, Nat.le_refl _⟩, by simp, fun k hk _ => hget k hk, .refl g, fun _ _ _ => ⟨fun _ => rfl, rfl⟩⟩, fun b hb hl => ?_⟩
  · have h1 := hi.sat b o v h
    have hb : b < w.heap.size := by
      rcases Nat.lt_or_ge b w.heap.size with h' | h'
      · exact h'
      · simp [World.cell?, Array.getElem?_eq_none h'] at h1
    simp only [World.cell?] at h1 ⊢
    rw [hget b hb]; exact h1
  · exact (hi.satM b es h).congr (hget b (hi.satM b es h).lt)
  · rcases List.mem_cons.1 hr with rfl | hr
    · exact ⟨vs, by simp, hv, hH, hM⟩
    · have h1 := hi.res r hr
      have h2 := hlt r hr
      cases r with
      | box b' T' cs' => obtain ⟨us, h3, h4⟩ := h1; exact ⟨us, by rw [hget b' (h2 b' rfl)]; exact h3, h4⟩
      | tok t n sz => cases t with
        | own b' cap => obtain ⟨us, T', fr, h3, h4⟩ := h1; exact ⟨us, T', fr, by rw [hget b' (h2 b' rfl)]; exact h3, h4⟩
        | _ => exact h1
      | map b' kvs => obtain ⟨es, c, h3, h4⟩ := h1; exact ⟨es, c, by rw [hget b' (h2 b' rfl)]; exact h3, h4⟩
      | raw b' o => obtain ⟨h3, h4⟩ := h1; exact ⟨by rw [hget b' (h2 b' rfl)]; exact h3, h4⟩
      | know vs xs => exact h1
      | iter b' kvs dn => obtain ⟨m, es, c, h3, h4⟩ := h1; exact ⟨m, es, c, by rw [hget b' (h2 b' rfl)]; exact h3, h4⟩
  · show (blocks (Res.box w.heap.size T cs :: L)).Nodup
    simp only [blocks, List.filterMap_cons, Res.block]
    refine List.nodup_cons.2 ⟨fun hm => ?_, hi.nodup⟩
    obtain ⟨r, hr, hb⟩ := List.mem_filterMap.1 hm
    exact absurd (hlt r hr _ hb) (Nat.lt_irrefl _)
  · simp only [blocks, List.filterMap_cons, Res.block, List.mem_cons] at hb
    rcases hb with rfl | hb
    · exact absurd hl (Nat.lt_irrefl _)
    · exact hb

/-- A struct or an array is laid into a variable of its own. -/
theorem s_box {T : TypeId} {x : Operand} {cs : List PV} (hx : ρ.ev x = .agg cs) (k : ∀ b, pops P N all K fl.tail os (upd ρ d (.raw (.pointer (some ⟨b, 0, none⟩)))) (.box b T cs :: L)) (hd : Nat.blt d N = true := by rfl) (hf : fl.headD true = true := by rfl) :
    pops P N all K fl (⟨some d, .box T x, ty, pos, af, none⟩ :: os) ρ L :=
  pops_n rfl (dlt hd) hf (fun a w g ha hi => by
    have h1 := ha x (by simp [Op.operands])
    rw [hx] at h1
    obtain ⟨vs, h2, h3⟩ := h1.agg_inv
    obtain ⟨i1, i2, i3⟩ := hi.alloc h3 T
    have hr : (execOp a.eval ⟨some d, .box T x, ty, pos, af, none⟩).run P w = .ok (.value (.pointer (some ⟨w.heap.size, 0, none⟩))) { w with heap := w.heap.push (.cells vs.toArray T (0, 0)) } := by
      simp [execOp, Instr.box, newVar, newRow, h2, Value.cells]
    refine Oper.wq_of_run hr ?_
    exact ⟨_, _, g, _, rfl, .raw _, i1, i2, i3, k _⟩)
end
end Go.Q
/- The small logic, sixth text: digests and identities. Library, no statement of its own. -/
namespace Go.Q
open Go

/-- A digest: 32 bytes. -/
structure Dig where
  bs : List UInt8
  len : bs.length = 32

theorem Dig.ext {a b : Dig} (h : a.bs = b.bs) : a = b := by cases a; cases b; cases h; rfl
instance : DecidableEq Dig := fun a b => if h : a.bs = b.bs then isTrue (Dig.ext h) else isFalse fun e => h (e ▸ rfl)

def u8 (b : UInt8) : Value := .int .u8 b.toNat
def eU8 (b : UInt8) : PV := .raw (u8 b)
def eDig (d : Dig) : List PV := d.bs.map eU8
@[simp] theorem eDig_length (d : Dig) : (eDig d).length = 32 := by simp [eDig, d.len]

structure Ident where
  patch : Dig
  n : Int
deriving DecidableEq

def eIdent (x : Ident) : List PV := eDig x.patch ++ [.raw (.int .i64 x.n)]
@[simp] theorem eIdent_length (x : Ident) : (eIdent x).length = 33 := by simp [eIdent]

class TDig (P : Program) (T : Nat) : Prop where
  arr : ∃ E i, P.underlying T = some (.array 32 E) ∧ P.underlying E = some (.int .u8) ∧ P.info? E = some i ∧ i.size = 1
  guard : P.eqGuardType P.depth T = false
class TIdent (P : Program) (T : Nat) : Prop where
  str : ∃ D I, P.fieldsOf T = #[⟨ "Patch", D, 0, false, "", "", 0⟩, ⟨ "N", I, 32, false, "", "", 32⟩] ∧ P.underlying I = some (.int .i64) ∧ (∃ i, P.info? D = some i ∧ i.size = 32) ∧
    (∃ E i, P.underlying D = some (.array 32 E) ∧ P.underlying E = some (.int .u8) ∧ P.info? E = some i ∧ i.size = 1)
  und : P.underlying T = some (.struct (P.fieldsOf T))
  held : P.stoodInHeld T = false
  guard : P.eqGuardType P.depth T = false

section
variable {P : Program}

theorem u8_inj {a b : UInt8} : ((a.toNat : Int) == (b.toNat : Int)) = decide (a = b) := by
  rw [Bool.eq_iff_iff]; simp only [beq_iff_eq, decide_eq_true_eq]
  exact ⟨fun h => UInt8.toNat.inj (by omega), fun h => by rw [h]⟩

theorem run_part_scal {E : TypeId} (h : ScalT P E) {xs : Array Value} {o : Nat} {v : Value} (hx : xs[o]? = some v) (w : World) : (part E xs o).run P w = .ok v w := by
  unfold part; rw [Sem.run_bind, isAgg_run_no h]; simp [hx]

theorem scal_int {E : TypeId} {k : IntKind} (h : P.underlying E = some (.int k)) : ScalT P E := ⟨_, h, by simp, by simp⟩

theorem run_eqItems_u8 (d : Nat) {E : TypeId} (hE : P.underlying E = some (.int .u8)) (xs ys : List UInt8) (hl : xs.length = ys.length) (w : World) : ∀ (n k : Nat), k + n = xs.length →
    (Op.eqItems (d + 1) E 1 (xs.map u8).toArray (ys.map u8).toArray (List.range' k n)).run P w = .ok (decide (xs.drop k = ys.drop k)) w := by
  intro n
  induction n with
  | zero => intro k hk; simp [Op.eqItems, List.drop_eq_nil_of_le (show xs.length ≤ k by omega), List.drop_eq_nil_of_le (show ys.length ≤ k by omega)]
  | succ n ih =>
    intro k hk
    have h1 : k < xs.length := by omega
    have h2 : k < ys.length := by omega
    rw [List.range'_succ]
    simp only [Op.eqItems, Sem.run_bind, Nat.mul_one]
    rw [run_part_scal (scal_int hE) (v := u8 xs[k]) (by simp [h1]), Result.andThen_ok, run_part_scal (scal_int hE) (v := u8 ys[k]) (by simp [h2]), Result.andThen_ok]
    rw [u8, u8, run_equalIn_int w d E .u8 .u8 _ _ hE, Result.andThen_ok, u8_inj]
    by_cases he : xs[k] = ys[k]
    · rw [List.drop_eq_getElem_cons h1, List.drop_eq_getElem_cons h2]
      simp only [he, decide_true, Bool.not_true, Bool.false_eq_true, if_false, List.cons.injEq, true_and]
      exact ih (k + 1) (by omega)
    · have : ¬ xs.drop k = ys.drop k := by
        intro e
        have := congrArg (fun l => l[0]?) e
        simp [h1, h2] at this
        exact he this
      simp [he, this]

theorem run_equal_dig (d : Nat) {T : TypeId} (hT : ∃ E i, P.underlying T = some (.array 32 E) ∧ P.underlying E = some (.int .u8) ∧ P.info? E = some i ∧ i.size = 1) (a b : Dig) (w : World) :
    (Op.equalIn (d + 2) T (.agg (a.bs.map u8).toArray) (.agg (b.bs.map u8).toArray)).run P w = .ok (decide (a = b)) w := by
  obtain ⟨E, i, h1, h2, h3, h4⟩ := hT
  rw [run_equalIn_array w (d + 1) _ _ h1 h3]
  have hc : P.cellsOf E = 1 := by simp [Program.cellsOf, h3, h4]
  rw [hc, List.range_eq_range', run_eqItems_u8 d h2 a.bs b.bs (by rw [a.len, b.len]) w 32 0 (by rw [a.len])]
  simp only [List.drop_zero]
  congr 1
  rw [Bool.eq_iff_iff]; simp only [decide_eq_true_eq]
  exact ⟨fun e => Dig.ext e, fun e => e ▸ rfl⟩

theorem eDig_inv {g : Gh} {v : Value} {d : Dig} (h : VR g v (.agg (eDig d))) : v = .agg (d.bs.map u8).toArray := by
  obtain ⟨vs, rfl, h2⟩ := h.agg_inv
  have : eDig d = (d.bs.map u8).map .raw := by simp [eDig, eU8]
  rw [this] at h2
  rw [h2.raws_inv]

theorem eIdent_inv {g : Gh} {v : Value} {x : Ident} (h : VR g v (.agg (eIdent x))) : v = .agg (x.patch.bs.map u8 ++ [Value.int .i64 x.n]).toArray := by
  obtain ⟨vs, rfl, h2⟩ := h.agg_inv
  have : eIdent x = (x.patch.bs.map u8 ++ [Value.int .i64 x.n]).map .raw := by simp [eIdent, eDig, eU8]
  rw [this] at h2
  rw [h2.raws_inv]

theorem run_equal_ident (d : Nat) {T : TypeId} [hT : TIdent P T] (a b : Ident) (w : World) :
    (Op.equalIn (d + 3) T (.agg (a.patch.bs.map u8 ++ [Value.int .i64 a.n]).toArray) (.agg (b.patch.bs.map u8 ++ [Value.int .i64 b.n]).toArray)).run P w = .ok (decide (a = b)) w := by
  obtain ⟨D, I, h1, h2, ⟨i, h3, h3'⟩, h4⟩ := hT.str
  rw [run_equalIn_struct w (d + 2) T _ _ hT.und hT.held, h1]
  have hagg : AggT P D 32 := by obtain ⟨E, j, e1, _⟩ := h4; exact ⟨.inr ⟨32, E, e1⟩, i, h3, h3'⟩
  have pD : ∀ (x : Ident), (part D (x.patch.bs.map u8 ++ [Value.int .i64 x.n]).toArray 0).run P w = .ok (.agg (x.patch.bs.map u8).toArray) w := fun x => by
    obtain ⟨q1, q2⟩ := isAgg_run hagg w
    unfold part
    simp only [Sem.run_bind, q1, Result.andThen_ok, if_true, q2, Sem.run_pure]
    congr 2
    simp [x.patch.len]
  have pI : ∀ (x : Ident), (part I (x.patch.bs.map u8 ++ [Value.int .i64 x.n]).toArray 32).run P w = .ok (.int .i64 x.n) w := fun x =>
    run_part_scal (scal_int h2) (by simp [x.patch.len]) w
  simp only [Op.eqFields, ne_eq, String.reduceEq, not_false_eq_true, if_true, Sem.run_bind, pD, Result.andThen_ok, run_equal_dig d h4]
  by_cases e1 : a.patch = b.patch
  · have d1 : decide (a.patch = b.patch) = true := by simp [e1]
    simp only [d1, Bool.not_true, Bool.false_eq_true, if_false, Sem.run_bind, pI, Result.andThen_ok, run_equalIn_int w (d + 1) I .i64 .i64 _ _ h2]
    by_cases e2 : a.n = b.n
    · have : a = b := by cases a; cases b; simp_all
      have d2 : (a.n == b.n) = true := by simp [e2]
      have d3 : decide (a = b) = true := by simp [this]
      simp [d2, d3]
    · have : ¬ a = b := fun e => e2 (e ▸ rfl)
      simp [e2, this]
  · have : ¬ a = b := fun e => e1 (e ▸ rfl)
    simp [e1, this]
end

section
variable {P : Program} {N : Nat} {all : Array Oper} {K : Env → List Res → Prop} {fl : List Bool} {os : List Oper} {ρ : Env} {L : List Res}
variable {d : Nat} {ty : TypeId} {pos : String} {af : Array Edge}

theorem s_eqDig {T T' : TypeId} [hT : TDig P T] {x y : Operand} {a b : Dig} (hx : ρ.ev x = .agg (eDig a)) (hy : ρ.ev y = .agg (eDig b)) (k : pops P N all K fl.tail os (upd ρ d (.raw (.bool (decide (a = b))))) L) (hd : Nat.blt d N = true := by rfl) :
    pops P N all K fl (⟨some d, .binOp .eql T x y T', ty, pos, af, none⟩ :: os) ρ L :=
  step_q hd (qop_of_run fun A w g ha hi => ⟨.bool (decide (a = b)), by
    have h1 := ha x (by simp [Op.operands]); rw [hx] at h1
    have h2 := ha y (by simp [Op.operands]); rw [hy] at h2
    simp only [execOp, eDig_inv h1, eDig_inv h2, Sem.run_bind, run_eqGuard_agg w .eql T x y _ _ hT.guard, Result.andThen_ok, run_eql_struct, run_equal_dig 9998 hT.arr, Sem.run_pure], .raw _⟩) k
theorem s_neDig {T T' : TypeId} [hT : TDig P T] {x y : Operand} {a b : Dig} (hx : ρ.ev x = .agg (eDig a)) (hy : ρ.ev y = .agg (eDig b)) (k : pops P N all K fl.tail os (upd ρ d (.raw (.bool (!decide (a = b))))) L) (hd : Nat.blt d N = true := by rfl) :
    pops P N all K fl (⟨some d, .binOp .neq T x y T', ty, pos, af, none⟩ :: os) ρ L :=
  step_q hd (qop_of_run fun A w g ha hi => ⟨.bool (!decide (a = b)), by
    have h1 := ha x (by simp [Op.operands]); rw [hx] at h1
    have h2 := ha y (by simp [Op.operands]); rw [hy] at h2
    simp only [execOp, eDig_inv h1, eDig_inv h2, Sem.run_bind, run_eqGuard_agg w .neq T x y _ _ hT.guard, Result.andThen_ok, run_neq_struct, run_equal_dig 9998 hT.arr, Sem.run_pure], .raw _⟩) k
theorem s_eqId {T T' : TypeId} [hT : TIdent P T] {x y : Operand} {a b : Ident} (hx : ρ.ev x = .agg (eIdent a)) (hy : ρ.ev y = .agg (eIdent b)) (k : pops P N all K fl.tail os (upd ρ d (.raw (.bool (decide (a = b))))) L) (hd : Nat.blt d N = true := by rfl) :
    pops P N all K fl (⟨some d, .binOp .eql T x y T', ty, pos, af, none⟩ :: os) ρ L :=
  step_q hd (qop_of_run fun A w g ha hi => ⟨.bool (decide (a = b)), by
    have h1 := ha x (by simp [Op.operands]); rw [hx] at h1
    have h2 := ha y (by simp [Op.operands]); rw [hy] at h2
    simp only [execOp, eIdent_inv h1, eIdent_inv h2, Sem.run_bind, run_eqGuard_agg w .eql T x y _ _ hT.guard, Result.andThen_ok, run_eql_struct, run_equal_ident 9997, Sem.run_pure], .raw _⟩) k
theorem s_neId {T T' : TypeId} [hT : TIdent P T] {x y : Operand} {a b : Ident} (hx : ρ.ev x = .agg (eIdent a)) (hy : ρ.ev y = .agg (eIdent b)) (k : pops P N all K fl.tail os (upd ρ d (.raw (.bool (!decide (a = b))))) L) (hd : Nat.blt d N = true := by rfl) :
    pops P N all K fl (⟨some d, .binOp .neq T x y T', ty, pos, af, none⟩ :: os) ρ L :=
  step_q hd (qop_of_run fun A w g ha hi => ⟨.bool (!decide (a = b)), by
    have h1 := ha x (by simp [Op.operands]); rw [hx] at h1
    have h2 := ha y (by simp [Op.operands]); rw [hy] at h2
    simp only [execOp, eIdent_inv h1, eIdent_inv h2, Sem.run_bind, run_eqGuard_agg w .neq T x y _ _ hT.guard, Result.andThen_ok, run_neq_struct, run_equal_ident 9997, Sem.run_pure], .raw _⟩) k
end
end Go.Q

/-! ### Closed facts by evaluation -/
namespace Go.Q
open Go
def aggB (P : Program) (T : Nat) : Option Nat := match P.underlying T with
  | some (.struct _) => (P.info? T).map (·.size)
  | some (.array _ _) => (P.info? T).map (·.size)
  | _ => none
def scalB (P : Program) (T : Nat) : Bool := match P.underlying T with
  | some (.struct _) => false
  | some (.array _ _) => false
  | some _ => true
  | none => false
def fldB (P : Program) (S k : Nat) : Option Nat := match P.underlying S with
  | some (.struct fs) => match fs[k]? with
    | some f => match P.info? f.type with
      | some i => if i.size = 0 then none else some f.offset
      | none => none
    | none => none
  | _ => none
theorem TAgg.of {P : Program} {T n : Nat} (h : aggB P T = some n) : TAgg P T n := ⟨by
  unfold aggB at h
  split at h
  · rename_i fs hu
    obtain ⟨i, h1, h2⟩ := Option.map_eq_some_iff.1 h
    exact ⟨.inl ⟨fs, hu⟩, i, h1, h2⟩
  · rename_i m e hu
    obtain ⟨i, h1, h2⟩ := Option.map_eq_some_iff.1 h
    exact ⟨.inr ⟨m, e, hu⟩, i, h1, h2⟩
  · cases h⟩
theorem TScal.of {P : Program} {T : Nat} (h : scalB P T = true) : TScal P T := ⟨by
  unfold scalB at h
  split at h
  · cases h
  · cases h
  · rename_i d h1 h2 hu; exact ⟨d, hu, fun fs e => h1 fs e, fun m e' e => h2 m e' e⟩
  · cases h⟩
theorem TFld.of {P : Program} {S k off : Nat} (h : fldB P S k = some off) : TFld P S k off := ⟨by
  unfold fldB at h
  split at h
  · rename_i fs hu
    split at h
    · rename_i f hf
      split at h
      · rename_i i hi
        split at h
        · cases h
        · rename_i h0; exact ⟨fs, f, i, hu, hf, Option.some.inj h, hi, h0⟩
      · cases h
    · cases h
  · cases h⟩
theorem TSz.of {P : Program} {E sz bytes : Nat} (h : (P.info? E).map (fun i => (i.size, i.bytes)) = some (sz, bytes)) : TSz P E sz bytes := ⟨by
  obtain ⟨i, h1, h2⟩ := Option.map_eq_some_iff.1 h
  simp only [Prod.mk.injEq] at h2
  exact ⟨i, h1, h2.1, h2.2⟩⟩
theorem TDig.of {P : Program} {T E : Nat} (h1 : P.underlying T = some (.array 32 E)) (h2 : P.underlying E = some (.int .u8)) (h3 : (P.info? E).map (·.size) = some 1) (h4 : P.eqGuardType P.depth T = false) : TDig P T := ⟨by
  obtain ⟨i, h5, h6⟩ := Option.map_eq_some_iff.1 h3
  exact ⟨E, i, h1, h2, h5, h6⟩, h4⟩
theorem TIdent.of {P : Program} {T D I E : Nat} (h1 : P.fieldsOf T = #[⟨ "Patch", D, 0, false, "", "", 0⟩, ⟨ "N", I, 32, false, "", "", 32⟩]) (h2 : P.underlying I = some (.int .i64)) (h3 : (P.info? D).map (·.size) = some 32)
    (h4 : P.underlying D = some (.array 32 E)) (h5 : P.underlying E = some (.int .u8)) (h6 : (P.info? E).map (·.size) = some 1) (h7 : P.underlying T = some (.struct (P.fieldsOf T))) (h8 : P.stoodInHeld T = false) (h9 : P.eqGuardType P.depth T = false) : TIdent P T := ⟨by
  obtain ⟨i, e1, e2⟩ := Option.map_eq_some_iff.1 h3
  obtain ⟨j, e3, e4⟩ := Option.map_eq_some_iff.1 h6
  exact ⟨D, I, h1, h2, ⟨i, e1, e2⟩, E, j, h4, h5, e3, e4⟩, h7, h8, h9⟩
end Go.Q
/- The small logic, seventh text: typed steps, stores, and a walk that goes by itself. Library, no statement of its own. -/
namespace Go.Q
open Go

/-- The cells of a field, by where they begin. -/
class Fld (cs : List PV) (off : Nat) (r : outParam (List PV)) : Prop where
  out : (cs.drop off).take r.length = r ∧ off + r.length ≤ cs.length
/-- A stretch of n cells. -/
class Sub (cs : List PV) (off n : Nat) (r : outParam (List PV)) : Prop where
  out : (cs.drop off).take n = r ∧ off + n ≤ cs.length
/-- A stretch written over. -/
class Put (cs : List PV) (off : Nat) (new : List PV) (r : outParam (List PV)) : Prop where
  out : cs.take off ++ new ++ cs.drop (off + new.length) = r ∧ off + new.length ≤ cs.length
/-- One cell. -/
class At (cs : List PV) (off : Nat) (c : outParam PV) : Prop where
  out : cs[off]? = some c
theorem at_fld {cs : List PV} {off : Nat} {c : PV} (h : Fld cs off [c]) : At cs off c := ⟨by
  obtain ⟨h1, h2⟩ := h.out
  have := congrArg (fun l => l[0]?) h1
  simpa [List.getElem?_drop] using this⟩
/-- The encoding's length. -/
class Len {α : Type} (f : α → List PV) (n : outParam Nat) : Prop where
  out : ∀ a, (f a).length = n
instance : Len eDig 32 := ⟨fun _ => by simp⟩
instance : Len eIdent 33 := ⟨fun _ => by simp⟩
instance (x : Ident) : Fld (eIdent x) 0 (eDig x.patch) := ⟨by simp [eIdent]⟩
instance fld_Ident_n (x : Ident) : Fld (eIdent x) 32 [.raw (.int .i64 x.n)] := ⟨by simp [eIdent]⟩
instance (x : Ident) : At (eIdent x) 32 (.raw (.int .i64 x.n)) := at_fld (fld_Ident_n x)
instance (x : Ident) : Sub (eIdent x) 0 32 (eDig x.patch) := ⟨by simp [eIdent]⟩
instance (x : Ident) (d : Dig) : Put (eIdent x) 0 (eDig d) (eIdent ⟨d, x.n⟩) := ⟨by simp [eIdent]⟩
instance (x : Ident) (n : Int) : Put (eIdent x) 32 [.raw (.int .i64 n)] (eIdent ⟨x.patch, n⟩) := ⟨by simp [eIdent]⟩

section
variable {P : Program} {N : Nat} {all : Array Oper} {K : Env → List Res → Prop} {fl : List Bool} {os : List Oper} {ρ : Env} {L : List Res}
variable {d : Nat} {ty : TypeId} {pos : String} {af : Array Edge}

theorem s_indexN {T : TypeId} {E sz by_ : Nat} [hT : TSl P T E] [hE : TSz P E sz by_] {x y : Operand} {α : Type} {f : α → List PV} [hf : Len f sz] {l : List α} {t : Tag} {kk : IntKind} {n : Nat} (hx : ρ.ev x = .slice (l.map f) t) (hy : ρ.ev y = .raw (.int kk (n : Int))) (hn : n < l.length)
    (k : pops P N all K fl.tail os (upd ρ d (.pt (f l[n]) 0)) L) (hd : Nat.blt d N = true := by rfl) :
    pops P N all K fl (⟨some d, .indexAddr T x y, ty, pos, af, none⟩ :: os) ρ L :=
  s_index hx hy (by omega) (by simpa using hn) (by simp [hf.out]) (by simpa using k) hd

theorem s_lenM {T : TypeId} {E : Nat} [hT : TSl P T E] {x : Operand} {α : Type} {f : α → List PV} {l : List α} {t : Tag} (hx : ρ.ev x = .slice (l.map f) t) (k : pops P N all K fl.tail os (upd ρ d (.raw (.int .i64 l.length))) L) (hd : Nat.blt d N = true := by rfl) :
    pops P N all K fl (⟨some d, .call { callee := .builtin .len, args := #[x], argTypes := #[T] }, ty, pos, af, none⟩ :: os) ρ L := s_len hx (by simpa using k) hd

theorem s_loadA0 {T n : Nat} [hT : TAgg P T n] {x : Operand} {cs : List PV} (hx : ρ.ev x = .pt cs 0) (hl : cs.length = n) (k : pops P N all K fl.tail os (upd ρ d (.agg cs)) L) (hd : Nat.blt d N = true := by rfl) :
    pops P N all K fl (⟨some d, .load T x, ty, pos, af, none⟩ :: os) ρ L :=
  s_loadA hx (by omega) (by rw [List.drop_zero, List.take_of_length_le (by omega)]; exact k) hd

theorem s_loadBA0 {T n : Nat} [hT : TAgg P T n] {x : Operand} {b T' : Nat} {cs : List PV} (hx : ρ.ev x = .raw (.pointer (some ⟨b, 0, none⟩))) (hm : Res.box b T' cs ∈ L) (hl : cs.length = n) (k : pops P N all K fl.tail os (upd ρ d (.agg cs)) L) (hd : Nat.blt d N = true := by rfl) :
    pops P N all K fl (⟨some d, .load T x, ty, pos, af, none⟩ :: os) ρ L :=
  s_loadBA hx hm (by omega) (by rw [List.drop_zero, List.take_of_length_le (by omega)]; exact k) hd

theorem s_loadBF {T n : Nat} [hT : TAgg P T n] {x : Operand} {b off T' : Nat} {cs r : List PV} (hx : ρ.ev x = .raw (.pointer (some ⟨b, off, none⟩))) (hm : Res.box b T' cs ∈ L) [hs : Sub cs off n r] (k : pops P N all K fl.tail os (upd ρ d (.agg r)) L) (hd : Nat.blt d N = true := by rfl) :
    pops P N all K fl (⟨some d, .load T x, ty, pos, af, none⟩ :: os) ρ L :=
  s_loadBA hx hm hs.out.2 (by rw [hs.out.1]; exact k) hd
theorem s_loadBG {T : Nat} [hT : TScal P T] {x : Operand} {b off T' : Nat} {cs : List PV} {c : PV} (hx : ρ.ev x = .raw (.pointer (some ⟨b, off, none⟩))) (hm : Res.box b T' cs ∈ L) [hs : At cs off c] (k : pops P N all K fl.tail os (upd ρ d c) L) (hd : Nat.blt d N = true := by rfl) :
    pops P N all K fl (⟨some d, .load T x, ty, pos, af, none⟩ :: os) ρ L :=
  s_loadBS hx hm hs.out k hd

/-- A field of frozen memory. -/
theorem s_fldF {S f off' : Nat} [hF : TFld P S f off'] {x : Operand} {cs r : List PV} (hx : ρ.ev x = .pt cs 0) [hr : Fld cs off' r] (k : pops P N all K fl.tail os (upd ρ d (.pt r 0)) L) (hd : Nat.blt d N = true := by rfl) :
    pops P N all K fl (⟨some d, .fieldAddr S x f, ty, pos, af, none⟩ :: os) ρ L :=
  step_q hd (qop_of_run fun a w g ha hi => by
    have h1 := ha x (by simp [Op.operands])
    rw [hx] at h1
    generalize hv : a.eval x = v at h1
    obtain ⟨fs, fd, i, h2, h3, h4, h5, h6⟩ := hF.out
    obtain ⟨e1, e2⟩ := hr.out
    cases h1 with
    | pt ff hH hv' =>
      rename_i b o
      refine ⟨.pointer (some ⟨b, o + off' + 0, none⟩), ?_, .pt (fun j => ff (off' + j)) (fun j hj => ?_) (fun j hj => ?_)⟩
      · simp [execOp, Instr.fieldAt, hv, run_und h2, h3, Instr.sureAddr, fieldPlace, sizeOf, typeInfo, h5, h6, h4, add_plain]
      · rw [Nat.add_assoc]; exact hH (off' + j) (by omega)
      · have := hv' (off' + j) (by omega)
        have e3 : r[j] = cs[off' + j] := by
          have := congrArg (fun l => l[j]?) e1
          simp only [List.getElem?_take, hj, if_true, List.getElem?_drop] at this
          rw [List.getElem?_eq_getElem (by omega), List.getElem?_eq_getElem hj] at this
          exact (Option.some.inj this).symm
        rw [e3]; exact this) k

/-! ### Stores into boxes -/
inductive Upd (b : Nat) : List PV → List PV → List Res → List Res → Prop
  | here {T : TypeId} {cs cs' : List PV} {L : List Res} : Upd b cs cs' (.box b T cs :: L) (.box b T cs' :: L)
  | there {cs cs' : List PV} {r : Res} {L L' : List Res} (h : Upd b cs cs' L L') : Upd b cs cs' (r :: L) (r :: L')

theorem Upd.split {b : Nat} {cs cs' : List PV} {L L' : List Res} (h : Upd b cs cs' L L') : ∃ A B T, L = A ++ .box b T cs :: B ∧ L' = A ++ .box b T cs' :: B := by
  induction h with
  | here => rename_i T cs cs' L; exact ⟨[], L, T, rfl, rfl⟩
  | there h ih => rename_i r _ _; obtain ⟨A, B, T, h1, h2⟩ := ih; exact ⟨r :: A, B, T, by rw [h1]; rfl, by rw [h2]; rfl⟩

theorem storeCells_runF {P : Program} {b T : Nat} {fr : Nat × Nat} : ∀ (new : List Value) (w : World) (vs : List Value) (off i : Nat), w.heap[b]? = some (.cells vs.toArray T fr) → off + i + new.length ≤ vs.length → (fr.2 ≤ fr.1 ∨ vs.length ≤ fr.1) → (∀ v ∈ new, v.oneCell' = true) →
    ∃ w', (storeCells ⟨b, off, none⟩ new i).run P w = .ok () w' ∧ w'.heap[b]? = some (.cells (vs.take (off + i) ++ new ++ vs.drop (off + i + new.length)).toArray T fr) ∧ w'.os = w.os ∧ w'.tape = w.tape ∧ (w'.output = w.output ∧ w.drawn ≤ w'.drawn) ∧ w'.heap.size = w.heap.size ∧ ∀ k, k ≠ b → w'.heap[k]? = w.heap[k]? := by
  intro new
  induction new with
  | nil => intro w vs off i hb hl _ _; exact ⟨w, rfl, by simpa using hb, rfl, rfl, ⟨rfl, Nat.le_refl _⟩, rfl, fun _ _ => rfl⟩
  | cons v new ih =>
    intro w vs off i hb hl hfr hone
    simp only [List.length_cons] at hl
    have hc : w.cell? ⟨b, off + i, none⟩ = some (vs[off + i]'(by omega)) := cell_of_box hb (off + i) (by omega)
    have hf : w.frozen? ⟨b, off + i, none⟩ = false := by simp [World.frozen?, hb]; omega
    have hblt : b < w.heap.size := (Array.getElem?_eq_some_iff.1 hb).1
    have hset : (w.setCell ⟨b, off + i, none⟩ v).heap[b]? = some (.cells (vs.set (off + i) v).toArray T fr) := by
      obtain ⟨_, hk⟩ := Array.getElem?_eq_some_iff.1 hb
      show (w.heap.modify b _)[b]? = _
      rw [Array.getElem?_eq_getElem (by rw [Array.size_modify]; exact hblt), Array.getElem_modify_self, hk]
      simp
    obtain ⟨w', h1, h2, h3, h4, h5, h6, h7⟩ := ih (w.setCell ⟨b, off + i, none⟩ v) (vs.set (off + i) v) off (i + 1) hset (by simp; omega) (by simpa using hfr) (fun u hu => hone u (List.mem_cons_of_mem _ hu))
    refine ⟨w', ?_, ?_, h3, h4, h5, h6.trans (by simp [World.setCell]), fun k hk => (h7 k hk).trans ?_⟩
    · unfold storeCells
      rw [Sem.run_bind, add_plain, run_store P w _ v .plain (hone v (List.mem_cons_self)), hc]
      simp only [hf, Bool.false_eq_true, if_false, Result.andThen_ok]
      exact h1
    · rw [h2]
      congr 3
      rw [show off + (i + 1) = off + i + 1 by omega, List.take_set, List.drop_set_of_lt (by omega)]
      rw [List.take_succ_eq_append_getElem (by omega : off + i < vs.length)]
      rw [List.set_append]
      simp only [List.length_take, Nat.min_eq_left (by omega : off + i ≤ vs.length), Nat.lt_irrefl, if_false, Nat.sub_self, List.set_cons_zero, List.append_assoc, List.cons_append, List.nil_append, List.length_cons]
      rw [show off + i + 1 + new.length = off + i + (new.length + 1) by omega]
    · simp only [World.setCell, Array.getElem?_modify]
      rw [if_neg (Ne.symm hk)]
theorem storeCells_run {P : Program} {b T : Nat} : ∀ (new : List Value) (w : World) (vs : List Value) (off i : Nat), w.heap[b]? = some (.cells vs.toArray T (0, 0)) → off + i + new.length ≤ vs.length → (∀ v ∈ new, v.oneCell' = true) →
    ∃ w', (storeCells ⟨b, off, none⟩ new i).run P w = .ok () w' ∧ w'.heap[b]? = some (.cells (vs.take (off + i) ++ new ++ vs.drop (off + i + new.length)).toArray T (0, 0)) ∧ w'.os = w.os ∧ w'.tape = w.tape ∧ (w'.output = w.output ∧ w.drawn ≤ w'.drawn) ∧ w'.heap.size = w.heap.size ∧ ∀ k, k ≠ b → w'.heap[k]? = w.heap[k]? :=
  fun new w vs off i hb hl h1 => storeCells_runF new w vs off i hb hl (.inl (Nat.le_refl _)) h1

theorem VR.one {g : Gh} {v : Value} {x : PV} (h : VR g v x) (hx : ∀ cs, x ≠ .agg cs) (hx' : ∀ cs, x ≠ .tuple cs) (hr : ∀ u, x = .raw u → u.oneCell' = true) (hj : x ≠ .junk) : v.oneCell' = true := by
  cases h <;> first | rfl | exact hr _ rfl | exact absurd rfl hj | exact absurd rfl (hx _) | exact absurd rfl (hx' _)

/-- No cell of these is a struct, an array or a tuple. -/
def flat : List PV → Prop := fun cs => ∀ x ∈ cs, (∀ cs, x ≠ .agg cs) ∧ (∀ cs, x ≠ .tuple cs) ∧ (∀ u, x = .raw u → u.oneCell' = true) ∧ x ≠ .junk

theorem flat_nil : flat [] := fun _ h => by cases h
theorem flat_append {a b : List PV} (h : flat a) (k : flat b) : flat (a ++ b) := fun x hx => by
  rcases List.mem_append.1 hx with h' | h'
  · exact h x h'
  · exact k x h'
theorem flat_raw {v : Value} {cs : List PV} (hv : v.oneCell' = true) (h : flat cs) : flat (.raw v :: cs) := fun x hx => by
  rcases List.mem_cons.1 hx with rfl | h'
  · exact ⟨by simp, by simp, (fun u e => by cases e; exact hv), by simp⟩
  · exact h x h'
theorem flat_slice {xs : List (List PV)} {t : Tag} {cs : List PV} (h : flat cs) : flat (.slice xs t :: cs) := fun x hx => by
  rcases List.mem_cons.1 hx with rfl | h'
  · exact ⟨by simp, by simp, by simp, by simp⟩
  · exact h x h'
theorem flat_fmap {xs : List (PV × PV)} {cs : List PV} (h : flat cs) : flat (.fmap xs :: cs) := fun x hx => by
  rcases List.mem_cons.1 hx with rfl | h'
  · exact ⟨by simp, by simp, by simp, by simp⟩
  · exact h x h'
theorem flat_str {s : List UInt8} {cs : List PV} (h : flat cs) : flat (.str s :: cs) := fun x hx => by
  rcases List.mem_cons.1 hx with rfl | h'
  · exact ⟨by simp, by simp, by simp, by simp⟩
  · exact h x h'
class Flat (cs : List PV) : Prop where
  out : flat cs
instance : Flat [] := ⟨flat_nil⟩
instance (d : Dig) : Flat (eDig d) := ⟨fun x hx => by
  obtain ⟨b, _, rfl⟩ := List.mem_map.1 hx
  exact flat_raw (v := u8 b) rfl flat_nil _ (by simp [eU8])⟩
instance {a b : List PV} [h : Flat a] [k : Flat b] : Flat (a ++ b) := ⟨flat_append h.out k.out⟩
instance {cs : List PV} {xs : List (List PV)} {t : Tag} [h : Flat cs] : Flat (.slice xs t :: cs) := ⟨flat_slice h.out⟩
instance {cs : List PV} {s : List UInt8} [h : Flat cs] : Flat (.str s :: cs) := ⟨flat_str h.out⟩
instance {cs : List PV} {xs : List (PV × PV)} [h : Flat cs] : Flat (.fmap xs :: cs) := ⟨flat_fmap h.out⟩
instance {cs : List PV} {k : IntKind} {n : Int} [h : Flat cs] : Flat (.raw (.int k n) :: cs) := ⟨flat_raw rfl h.out⟩
instance {cs : List PV} {b : Bool} [h : Flat cs] : Flat (.raw (.bool b) :: cs) := ⟨flat_raw rfl h.out⟩
instance {cs : List PV} {b : Option Nat} [h : Flat cs] : Flat (.raw (.map b) :: cs) := ⟨flat_raw rfl h.out⟩
instance {cs : List PV} {a : Fn} {b c : Array Value} [h : Flat cs] : Flat (.raw (.func a b c) :: cs) := ⟨flat_raw rfl h.out⟩
instance (x : Ident) : Flat (eIdent x) := ⟨by unfold eIdent; exact Flat.out⟩

/-- The resources, when one box is written. -/
theorem Inv.write {w w' : World} {g : Gh} {b : Nat} {cs cs' : List PV} {L' : List Res} (hi : Inv w g L) (hu : Upd b cs cs' L L') (hsz : w'.heap.size = w.heap.size) (hos : w'.os = w.os) (htp : w'.tape = w.tape) (hout : w'.output = w.output ∧ w.drawn ≤ w'.drawn)
    (hk : ∀ k, k ≠ b → w'.heap[k]? = w.heap[k]?) (hb : ∀ T vs, w.heap[b]? = some (.cells vs T (0, 0)) → ∃ us : List Value, w'.heap[b]? = some (.cells us.toArray T (0, 0)) ∧ VRl g us cs') :
    Inv w' g L' ∧ Step (blocks L) w g w' g ∧ Within w L L' := by
  obtain ⟨A, B, T, rfl, rfl⟩ := hu.split
  have hme := hi.res (.box b T cs) (by simp)
  obtain ⟨vs, h1, h2, h3, h4⟩ := hme
  have hbl : blocks (A ++ .box b T cs' :: B) = blocks (A ++ .box b T cs :: B) := by simp [blocks, List.filterMap_append, Res.block]
  have hnd := hi.nodup
  have hne : ∀ r ∈ A ++ B, r.block ≠ some b := fun r hr e => by
    simp only [blocks, List.filterMap_append, List.filterMap_cons, Res.block] at hnd
    rw [List.nodup_append] at hnd
    obtain ⟨n1, n2, n3⟩ := hnd
    rcases List.mem_append.1 hr with hr | hr
    · exact n3 b (List.mem_filterMap.2 ⟨r, hr, e⟩) b (by simp) rfl
    · exact (List.nodup_cons.1 n2).1 (List.mem_filterMap.2 ⟨r, hr, e⟩)
  have hcell : ∀ k o, k ≠ b → w'.cell? ⟨k, o, none⟩ = w.cell? ⟨k, o, none⟩ := fun k o h => by simp only [World.cell?]; rw [hk k h]
  refine ⟨⟨fun b' o v h => ?_, fun b' es h => ?_, fun r hr => ?_, by rw [hbl]; exact hi.nodup, hi.glob⟩, ⟨hos, htp, hout, Nat.le_of_eq hsz.symm, fun k hlt hn => hk k (fun e => hn ?_), .refl g, fun _ _ _ => ⟨fun _ => rfl, rfl⟩⟩, fun b' hb' _ => by rw [hbl] at hb'; exact hb'⟩
  · have hne' : b' ≠ b := fun e => by subst e; rw [h3] at h; cases h
    rw [hcell _ _ hne']; exact hi.sat _ _ _ h
  · have hne' : b' ≠ b := fun e => by subst e; rw [h4] at h; cases h
    exact (hi.satM _ _ h).congr (hk _ hne')
  · have hr' : r = .box b T cs' ∨ r ∈ A ++ B := by
      simp only [List.mem_append, List.mem_cons] at hr ⊢
      rcases hr with h | h | h
      · exact .inr (.inl h)
      · exact .inl h
      · exact .inr (.inr h)
    rcases hr' with rfl | hr'
    · obtain ⟨us, e1, e2⟩ := hb T vs.toArray h1
      exact ⟨us, e1, e2, h3, h4⟩
    · have hold := hi.res r (by simp only [List.mem_append, List.mem_cons] at hr' ⊢; rcases hr' with h | h; exact .inl h; exact .inr (.inr h))
      have hblk := hne r hr'
      cases r with
      | box b' T' cs'' => obtain ⟨us, e1, e2⟩ := hold; exact ⟨us, by rw [hk b' (fun e => hblk (by simp [Res.block, e]))]; exact e1, e2⟩
      | tok t n sz => cases t with
        | own b' cap => obtain ⟨us, T', fr, e1, e2⟩ := hold; exact ⟨us, T', fr, by rw [hk b' (fun e => hblk (by simp [Res.block, e]))]; exact e1, e2⟩
        | _ => exact hold
      | map b' kvs => obtain ⟨es, c, e1, e2⟩ := hold; exact ⟨es, c, by rw [hk b' (fun e => hblk (by simp [Res.block, e]))]; exact e1, e2⟩
      | raw b' o => obtain ⟨e1, e2⟩ := hold; exact ⟨by rw [hk b' (fun e => hblk (by simp [Res.block, e]))]; exact e1, e2⟩
      | know vs xs => exact hold
      | iter b' kvs dn => obtain ⟨m, es, c, e1, e2⟩ := hold; exact ⟨m, es, c, by rw [hk b' (fun e => hblk (by simp [Res.block, e]))]; exact e1, e2⟩
  · subst e; simp [blocks, List.filterMap_append, Res.block]

theorem VRl.one {g : Gh} {vs : List Value} {cs : List PV} (h : VRl g vs cs) (hf : flat cs) : ∀ v ∈ vs, v.oneCell' = true := fun v hv => by
  obtain ⟨i, hi, rfl⟩ := List.mem_iff_getElem.1 hv
  have hi' : i < cs.length := by rw [← h.len]; exact hi
  obtain ⟨h1, h2, h3, h4⟩ := hf cs[i] (List.getElem_mem hi')
  exact (h.at_ i hi hi').one h1 h2 h3 h4

theorem opN_store {T : TypeId} {x y : Operand} {b off sz by_ : Nat} {cs cs' new : List PV} {L' : List Res} [hT : TSz P T sz by_] {gd : Option (Nat × Bool)} {dst : Option Nat}
    (hx : ρ.ev x = .raw (.pointer (some ⟨b, off, none⟩))) (hv : ∀ g v, VR g v (ρ.ev y) → ∃ us : List Value, v.cells = us.toArray ∧ VRl g us new) (hlen : new.length = sz) (hfl : flat new) (hp : cs.take off ++ new ++ cs.drop (off + new.length) = cs') (hle : off + new.length ≤ cs.length) (hu : Upd b cs cs' L L')
    {Ψ : PV → List Res → Prop} (k : Ψ (.raw undef) L') : OpN P ⟨dst, .store T x y, ty, pos, af, gd⟩ ρ L Ψ := by
  intro a w g ha hi
  have h1 := evRaw ha (x := x) (by simp [Op.operands]) hx
  obtain ⟨us, hc, hus⟩ := hv g (a.eval y) (ha y (by simp [Op.operands]))
  obtain ⟨A, B, T', e1, _⟩ := hu.split
  have hme := hi.res (.box b T' cs) (by rw [e1]; simp)
  obtain ⟨vs, hb, hvs, _, _⟩ := hme
  obtain ⟨w', hrun, hb', hos, htp, hout, hsz, hk⟩ := storeCells_run (P := P) us w vs off 0 hb (by rw [hus.len, hvs.len]; exact hle) (hus.one hfl)
  have hr : (execOp a.eval ⟨dst, .store T x y, ty, pos, af, gd⟩).run P w = .ok .skip w' := by
    simp only [execOp, Instr.storeAt, h1, Instr.sureAddr, Sem.run_bind, Sem.run_pure, Result.andThen_ok, storeVar, TSz.run hT, hc, List.size_toArray]
    rw [if_neg (by rw [hus.len, hlen]; simp)]
    simp [hrun]
  obtain ⟨j1, j2, j3⟩ := hi.write hu hsz hos htp hout hk (fun T'' vs' hb'' => by
    rw [hb] at hb''
    injection hb'' with hb''
    injection hb'' with e2 e3
    subst e3
    refine ⟨_, hb', ?_⟩
    rw [← hp, Nat.add_zero, ← hus.len]
    exact (((hvs.take off).append hus).append (hvs.drop _)))
  refine Oper.wq_of_run hr ?_
  exact ⟨undef, .raw undef, g, L', rfl, .raw _, j1, j2, j3, k⟩




end
end Go.Q
/- The small logic, ninth text: frames that are written out, loops over a ghost state, calls by their contracts, ends. Library, no statement of its own. -/
namespace Go.Q
open Go

/-! ### Frames that are written out -/
@[reducible] def env : List (Nat × PV) → Env
  | [] => fun _ => .junk
  | (i, v) :: E => upd (env E) i v

@[reducible] def Holds (ρ : Env) : List (Nat × PV) → Prop
  | [] => True
  | [(i, v)] => ρ i = v
  | (i, v) :: E => ρ i = v ∧ Holds ρ E

theorem env_le {ρ : Env} : ∀ {E : List (Nat × PV)}, Holds ρ E → ∀ i, env E i = ρ i ∨ env E i = .junk
  | [], _, _ => .inr rfl
  | [(j, v)], h, i => by
    by_cases e : i = j
    · subst e; left; show upd _ _ _ _ = _; rw [upd_self]; exact h.symm
    · right; show upd _ _ _ _ = _; rw [upd_ne _ _ e]
  | (j, v) :: (p :: E), h, i => by
    by_cases e : i = j
    · subst e; left; show upd _ _ _ _ = _; rw [upd_self]; exact h.1.symm
    · show upd _ _ _ _ = _ ∨ upd _ _ _ _ = _; rw [upd_ne _ _ e]; exact env_le h.2 i

section
variable {P : Program} {N : Nat} {Q : PPost} {ρ : Env} {L : List Res} {c : Code}

/-- A step of what is known alone. -/
theorem pwp_ghost {ρ' : Env} {L' : List Res} (hg : ∀ base a w g, Agr base g N a ρ → Inv w g L → ∃ g', Agr base g' N a ρ' ∧ Inv w g' L' ∧ Step (blocks L) w g w g' ∧ Within w L L') (h : pwp P N c Q ρ' L') : pwp P N c Q ρ L := fun ro base a w g hs => by
  obtain ⟨g', h1, h2, h3, h4⟩ := hg base a w g hs.agr hs.inv
  exact wpIn_mono (h ro base a w g' (hs.step h1 h2 h3 h4)) fun e a' w' k => Lift.later h3 h4 (fun _ _ x => x) k
/-- Less may be known of the frame; resources may be let go. -/
theorem pwp_weaken {ρ' : Env} {L' : List Res} (hρ : ∀ i, ρ' i = ρ i ∨ ρ' i = .junk) (hL : L'.Sublist L) (h : pwp P N c Q ρ' L') : pwp P N c Q ρ L :=
  pwp_ghost (fun base a w g ha hi => ⟨g, ⟨ha.size, ha.defers, fun i => by
    rcases hρ i with e | e
    · rw [e]; exact ha.slot i
    · rw [e]; exact .junk _⟩, hi.sub hL, .refl _ _ _, fun b hb _ => (blocks_sublist hL).subset hb⟩) h
/-- The resources in another order. -/
theorem pwp_perm {L' : List Res} (hL : L.Perm L') (h : pwp P N c Q ρ L') : pwp P N c Q ρ L :=
  pwp_ghost (fun base a w g ha hi => ⟨g, ha, hi.perm hL, .refl _ _ _, fun b hb _ => (hL.symm.filterMap _).subset hb⟩) h

theorem pwp_env {L' : List Res} (E : List (Nat × PV)) (hE : Holds ρ E) (hL : L'.Sublist L) (h : pwp P N c Q (env E) L') : pwp P N c Q ρ L := pwp_weaken (env_le hE) hL h

@[reducible] def PRoundS {σ : Type} (I : σ → Prop) (μ : σ → Nat) (E : σ → List (Nat × PV)) (Ls : σ → List Res) (s : σ) (Q : PPost) : PPost
  | .normal, ρ, L => ∃ s', I s' ∧ μ s' < μ s ∧ Holds ρ (E s') ∧ (Ls s').Sublist L
  | e, ρ, L => Q e ρ L

theorem pwp_loopS {σ : Type} (I : σ → Prop) (μ : σ → Nat) (E : σ → List (Nat × PV)) (Ls : σ → List Res) (s₀ : σ) (h0 : I s₀) (hρ : Holds ρ (E s₀)) (hL : (Ls s₀).Sublist L)
    (round : ∀ s, I s → pwp P N c (PRoundS I μ E Ls s Q) (env (E s)) (Ls s)) : pwp P N (.loop c) Q ρ L := by
  refine pwp_loop (fun n ρ L => ∃ s, I s ∧ μ s = n ∧ Holds ρ (E s) ∧ (Ls s).Sublist L) ⟨s₀, h0, rfl, hρ, hL⟩ ?_
  rintro n ρ L ⟨s, hI, rfl, hE, hS⟩
  refine pwp_mono (pwp_env (E s) hE hS (round s hI)) ?_
  intro e ρ' L' h
  cases e with
  | normal => obtain ⟨s', h1, h2, h3, h4⟩ := h; exact ⟨μ s', h2, s', h1, rfl, h3, h4⟩
  | _ => exact h

end

/-! ### Bounds that every value has -/
inductive Bd : PV → Prop
  | raw (v : Value) : Bd (.raw v)
  | junk : Bd .junk
  | str {s : List UInt8} (h : s.length ≤ maxN) : Bd (.str s)
  | agg {cs : List PV} (h : ∀ c ∈ cs, Bd c) : Bd (.agg cs)
  | tuple {cs : List PV} (h : ∀ c ∈ cs, Bd c) : Bd (.tuple cs)
  | slice {xs : List (List PV)} {t : Tag} (hl : xs.length ≤ maxN) (hc : ∀ sz, (∀ e ∈ xs, e.length = sz) → xs.length * sz ≤ maxN) (h : ∀ e ∈ xs, ∀ c ∈ e, Bd c) : Bd (.slice xs t)
  | pt {cs : List PV} {off : Nat} (h : ∀ c ∈ cs, Bd c) : Bd (.pt cs off)
  | fmap {kvs : List (PV × PV)} (h1 : ∀ p ∈ kvs, Bd p.1) (h2 : ∀ p ∈ kvs, Bd p.2) : Bd (.fmap kvs)
  | clo {f : Nat} {cs : List PV} (h : ∀ c ∈ cs, Bd c) : Bd (.clo f cs)

theorem VR.bd {g : Gh} {v : Value} {x : PV} (h : VR g v x) : Bd x := by
  induction h with
  | raw v => exact .raw v
  | junk v => exact .junk
  | str h => exact .str h
  | agg hl _ ih => exact .agg fun c hc => by obtain ⟨i, hi, rfl⟩ := List.mem_iff_getElem.1 hc; exact ih i (by omega) hi
  | tuple hl _ ih => exact .tuple fun c hc => by obtain ⟨i, hi, rfl⟩ := List.mem_iff_getElem.1 hc; exact ih i (by omega) hi
  | nilN => exact .slice (Nat.zero_le _) (by simp) (by simp)
  | nilR => exact .slice (Nat.zero_le _) (by simp) (by simp)
  | slice sz f hl hc hm hs hH _ ht hn ih =>
    refine .slice (by have := hm.1; omega) (fun sz' hs' => ?_) fun e he c hc => ?_
    · rename_i xs t _
      clear ht hn ih
      cases xs with
      | nil => simp
      | cons x xs =>
        have e1 := hs x (by simp)
        have e2 := hs' x (by simp)
        rw [← e2, e1, hl]; exact hm.2
    obtain ⟨i, hi, rfl⟩ := List.mem_iff_getElem.1 he
    obtain ⟨j, hj, rfl⟩ := List.mem_iff_getElem.1 hc
    exact ih i hi j hj
  | pt f hH _ ih => exact .pt fun c hc => by obtain ⟨i, hi, rfl⟩ := List.mem_iff_getElem.1 hc; exact ih i hi
  | fmap hM hl _ _ ik iv => exact .fmap (fun p hp => by obtain ⟨i, hi, rfl⟩ := List.mem_iff_getElem.1 hp; exact ik i (by omega) hi) (fun p hp => by obtain ⟨i, hi, rfl⟩ := List.mem_iff_getElem.1 hp; exact iv i (by omega) hi)
  | nilM => exact .fmap (by simp) (by simp)
  | clo f hl _ ih => exact .clo fun c hc => by obtain ⟨i, hi, rfl⟩ := List.mem_iff_getElem.1 hc; exact ih i (by omega) hi

theorem Bd.slice_len {xs : List (List PV)} {t : Tag} (h : Bd (.slice xs t)) : xs.length ≤ maxN := by cases h; assumption
theorem Bd.slice_map {α : Type} {f : α → List PV} {l : List α} {t : Tag} (h : Bd (.slice (l.map f) t)) : l.length ≤ maxN := by simpa using h.slice_len
theorem Bd.slice_cells {α : Type} {f : α → List PV} {sz : Nat} [hf : Len f sz] {l : List α} {t : Tag} (h : Bd (.slice (l.map f) t)) : l.length * sz ≤ maxN := by
  cases h with
  | slice _ hc _ => simpa using hc sz (fun e he => by obtain ⟨a, _, rfl⟩ := List.mem_map.1 he; exact hf.out a)
theorem Bd.slice_at {α : Type} {f : α → List PV} {l : List α} {t : Tag} (h : Bd (.slice (l.map f) t)) {a : α} (ha : a ∈ l) {c : PV} (hc : c ∈ f a) : Bd c := by
  cases h with
  | slice _ _ h => exact h (f a) (List.mem_map.2 ⟨a, ha, rfl⟩) c hc
theorem Bd.str_len {s : List UInt8} (h : Bd (.str s)) : s.length ≤ maxN := by cases h; assumption
theorem Bd.agg_at {cs : List PV} (h : Bd (.agg cs)) {c : PV} (hc : c ∈ cs) : Bd c := by cases h with | agg h => exact h c hc

/-! ### Functions that leave the resources alone, and whose result is known -/
def Fn (P : Program) (f : FuncId) (args : List PV) (X : PV) : Prop := PCalls P f args [] (fun r L' => r = X ∧ L' = [])

class FnC (P : Program) (f : Nat) (args : List PV) (X : outParam PV) : Prop where
  out : Fn P f args X


/-- A contract with resources, the arguments' bounds at hand. -/
theorem pcalls_bd {P : Program} {f : FuncId} {fn : Func} {c : Code} {rs : List ResultVar} {N : Nat} {args : List PV} {L : List Res} {R : PV → List Res → Prop}
    (hf : P.funcs[f]? = some fn) (hb : fn.body = some c) (hn : fn.ntmps = N) (hr : fn.results = rs.toArray) (hN : Nat.ble args.length N = true)
    (h : (∀ x ∈ args, Bd x) → ∀ LF, pwp P N c (Ret P rs R LF) (ini args) (L ++ LF)) : PCalls P f args L R := by
  intro vs w g LF hv hi
  have hbd : ∀ x ∈ args, Bd x := fun x hx => by
    obtain ⟨i, hi, rfl⟩ := List.mem_iff_getElem.1 hx
    exact (hv.at_ i (by rw [hv.len]; exact hi) hi).bd
  exact pcalls_of_pwp hf hb hn hr (Nat.le_of_ble_eq_true hN) (fun LF => h hbd LF) vs w g LF hv hi

theorem q_call {P : Program} {dst : Option Nat} {f : FuncId} {xs : List Operand} {ats : Array TypeId} {ty : TypeId} {pos : String} {af : Array Edge} {gd : Option (Nat × Bool)} {ρ : Env} {L : List Res} {args : List PV} {X : PV} [hf : TFun P f]
    (ha : xs.map ρ.ev = args) (hc : Fn P f args X) : QOp P ⟨dst, .call { callee := .value (.func f), args := xs.toArray, argTypes := ats }, ty, pos, af, gd⟩ ρ L X := by
  have := opN_call (P := P) (dst := dst) (ats := ats) (ty := ty) (pos := pos) (after := af) (gd := gd) (ρ := ρ) (L₁ := []) (LF := L) (Ψ := fun x L' => x = X ∧ L' = L) hf.out ha (hc.mono fun x L' ⟨h1, h2⟩ => ⟨h1, by rw [h2]; rfl⟩)
  exact this

section
variable {P : Program} {N : Nat} {all : Array Oper} {K : Env → List Res → Prop} {fl : List Bool} {os : List Oper} {ρ : Env} {L : List Res}
variable {d : Nat} {ty : TypeId} {pos : String} {af : Array Edge} {ats : Array TypeId} {f : Nat} {X : PV} {x₁ x₂ x₃ x₄ x₅ : Operand} {a₁ a₂ a₃ a₄ a₅ : PV}



end

/-! ### Ends -/
section
variable {P : Program} {ρ : Env} {L LF : List Res} {X : PV}
end
end Go.Q
