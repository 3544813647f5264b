/- The small logic, thirteenth text: what the structs are; cells of values; results that are known to be more. Library, no statement of its own. -/
import Derived.Test.YtddlffkdpocmhaaGreatDoorVac
set_option linter.unusedSimpArgs false
set_option linter.unusedVariables false
namespace Go.Q
open Go

/-- A fact that lies at hand. -/
class Small (p : Prop) : Prop where
  out : p

/-! ### Fields of cells laid one behind the other -/
theorem fld_here {a b : List PV} : Fld (a ++ b) 0 a := ⟨by simp⟩
theorem fld_last {a : List PV} : Fld a 0 a := ⟨by simp⟩
theorem fld_skip {a b r : List PV} {n off : Nat} (ha : a.length = n) (h : Fld b off r) : Fld (a ++ b) (n + off) r := ⟨by
  obtain ⟨h1, h2⟩ := h.out
  subst ha
  constructor
  · rw [List.drop_length_add_append]; exact h1
  · simp; omega⟩
theorem sub_fld {cs r : List PV} {off n : Nat} (h : Fld cs off r) (hn : r.length = n) : Sub cs off n r := ⟨by
  obtain ⟨h1, h2⟩ := h.out; subst hn; exact ⟨h1, h2⟩⟩
theorem put_here {a b new : List PV} (h : new.length = a.length) : Put (a ++ b) 0 new (new ++ b) := ⟨by simp [h]⟩
theorem put_last {a new : List PV} (h : new.length = a.length) : Put a 0 new new := ⟨by simp [h]⟩
theorem put_skip {a b r new : List PV} {n off : Nat} (ha : a.length = n) (h : Put b off new r) : Put (a ++ b) (n + off) new (a ++ r) := ⟨by
  obtain ⟨h1, h2⟩ := h.out
  subst ha
  constructor
  · rw [← h1, List.take_length_add_append, Nat.add_assoc, List.drop_length_add_append]; simp
  · simp; omega⟩
theorem put_in {cs r r' new cs' : List PV} {off io : Nat} (h : Fld cs off r) (k : Put r io new r') (p : Put cs off r' cs') : Put cs (off + io) new cs' := ⟨by
  obtain ⟨h1, h2⟩ := h.out
  obtain ⟨k1, k2⟩ := k.out
  obtain ⟨p1, p2⟩ := p.out
  refine ⟨?_, by omega⟩
  have hl : r'.length = r.length := by rw [← k1]; simp; omega
  rw [← p1, hl, ← k1]
  have e1 : List.take (off + io) cs = List.take off cs ++ List.take io r := by
    rw [List.take_add, ← h1, List.take_take, Nat.min_eq_left (by omega)]
  have e2 : List.drop (off + io + new.length) cs = List.drop (io + new.length) r ++ List.drop (off + r.length) cs := by
    conv => rhs; rw [← h1]
    rw [List.drop_take, List.drop_drop, h1, Nat.add_assoc]
    conv => lhs; rw [← List.take_append_drop (r.length - (io + new.length)) (List.drop (off + (io + new.length)) cs)]
    rw [List.drop_drop]
    congr 2; omega
  rw [e1, e2]
  simp⟩

def Dig.zero : Dig := ⟨List.replicate 32 0, rfl⟩
def Ident.zero : Ident := ⟨Dig.zero, 0⟩

/-! ### What a value's cells are, by its form -/
class CellsC (x : PV) (cs : outParam (List PV)) : Prop where
  out : Cells x cs
instance {cs : List PV} : CellsC (.agg cs) cs := ⟨.agg cs⟩
instance {xs : List (List PV)} {t : Tag} : CellsC (.slice xs t) [.slice xs .ro] := ⟨.ro xs t⟩
instance {k : IntKind} {n : Int} : CellsC (.raw (.int k n)) [.raw (.int k n)] := ⟨.one (Flat.out)⟩
instance {b : Bool} : CellsC (.raw (.bool b)) [.raw (.bool b)] := ⟨.one (Flat.out)⟩
instance {s : Str} : CellsC (.str s) [.str s] := ⟨.one (Flat.out)⟩
instance {a : Go.Fn} {b c : Array Value} : CellsC (.raw (.func a b c)) [.raw (.func a b c)] := ⟨.one (Flat.out)⟩
instance {kvs : List (PV × PV)} : CellsC (.fmap kvs) [.fmap kvs] := ⟨.one (Flat.out)⟩
instance : CellsC (.raw (.slice none 0 0)) [.slice [] .ro] := ⟨fun g v hv => ⟨[v], by cases hv; rfl, by cases hv; exact .cons .nilR (.nil g)⟩⟩

class LenIs (cs : List PV) (n : outParam Nat) : Prop where
  out : cs.length = n
instance (priority := low) {α : Type} {f : α → List PV} {a : α} {n : Nat} [h : Len f n] : LenIs (f a) n := ⟨h.out a⟩
instance {x : PV} : LenIs [x] 1 := ⟨rfl⟩

/-- The value is a's form. -/
class EncC {α : outParam Type} (x : PV) (f : outParam (α → List PV)) (a : outParam α) : Prop where
  out : Cells x (f a)
instance (d : Dig) : EncC (.agg (eDig d)) eDig d := ⟨.agg _⟩
instance (d : Ident) : EncC (.agg (eIdent d)) eIdent d := ⟨.agg _⟩
instance (n : Int) : EncC (.raw (.int .i64 n)) eI n := ⟨.one (FlatF.out (f := eI) n)⟩
instance (b : Bool) : EncC (.raw (.bool b)) eB b := ⟨.one (FlatF.out (f := eB) b)⟩
instance : CellsC (.raw (.string ⟨[].toArray⟩)) [.str []] := ⟨fun g v hv => ⟨[v], by cases hv; rfl, by cases hv; exact .cons (.str (by show 0 ≤ maxN; decide)) (.nil g)⟩⟩
instance (a b c : UInt8) : CellsC (.raw (.string ⟨[a, b, c].toArray⟩)) [.str [a, b, c]] := ⟨fun g v hv => ⟨[v], by cases hv; rfl, by cases hv; exact .cons (.str (by show 3 ≤ maxN; decide)) (.nil g)⟩⟩

/-! ### Values that are known as more -/
def Le (x y : PV) : Prop := ∀ g v, VR g v x → VR g v y
theorem Le.refl (x : PV) : Le x x := fun _ _ h => h
theorem Le.of_eq {x y : PV} (h : x = y) : Le x y := h ▸ .refl x
theorem Le.ro (xs : List (List PV)) (t : Tag) : Le (.slice xs t) (.slice xs .ro) := fun _ _ h => h.ro
theorem Le.ros {xs ys : List (List PV)} {t : Tag} (h : xs = ys) : Le (.slice xs t) (.slice ys .ro) := h ▸ .ro xs t
theorem Le.nil : Le (.raw (.slice none 0 0)) (.slice [] .nil) := fun _ v h => by cases h; exact .nilN none (by simp)
theorem Le.tuple {xs ys : List PV} (hl : xs.length = ys.length) (h : ∀ i (h1 : i < xs.length) (h2 : i < ys.length), Le xs[i] ys[i]) : Le (.tuple xs) (.tuple ys) := fun g v hv => by
  obtain ⟨vs, rfl, h1⟩ := hv.tuple_inv
  exact VRl.tuple ⟨h1.len.trans hl, fun i h2 h3 => h i (by omega) h3 g _ (h1.at_ i h2 (by omega))⟩
theorem Le.tuple2 {a b a' b' : PV} (h1 : Le a a') (h2 : Le b b') : Le (.tuple [a, b]) (.tuple [a', b']) := .tuple rfl fun i h _ => by
  match i, h with
  | 0, _ => exact h1
  | 1, _ => exact h2
  | n + 2, h => simp at h; omega
theorem Le.tuple3 {a b c a' b' c' : PV} (h1 : Le a a') (h2 : Le b b') (h3 : Le c c') : Le (.tuple [a, b, c]) (.tuple [a', b', c']) := .tuple rfl fun i h _ => by
  match i, h with
  | 0, _ => exact h1
  | 1, _ => exact h2
  | 2, _ => exact h3
  | n + 3, h => simp at h; omega

/-- A value's usual form. -/
class Norm (x : PV) (y : outParam PV) : Prop where
  out : Le x y
instance (priority := low) (x : PV) : Norm x x := ⟨.refl x⟩
instance : Norm (.raw (.slice none 0 0)) (.slice [] .nil) := ⟨.nil⟩
instance : Norm (.raw (.string ⟨[].toArray⟩)) (.str []) := ⟨fun g v hv => by cases hv; exact .str (by show 0 ≤ maxN; decide)⟩
instance (a : UInt8) : Norm (.raw (.string ⟨[a].toArray⟩)) (.str [a]) := ⟨fun g v hv => by cases hv; exact .str (by show 1 ≤ maxN; decide)⟩
instance (a b c d e f : UInt8) : Norm (.raw (.string ⟨[a, b, c, d, e, f].toArray⟩)) (.str [a, b, c, d, e, f]) := ⟨fun g v hv => by cases hv; exact .str (by show 6 ≤ maxN; decide)⟩

/-- The value is this string. -/
class IsStr (x : PV) (s : outParam Str) : Prop where
  out : ∀ g v, VR g v x → v = .string (sB s)
instance (s : Str) : IsStr (.str s) s := ⟨fun g v h => by cases h; rfl⟩
instance (s : List UInt8) : IsStr (.raw (.string ⟨s.toArray⟩)) s := ⟨fun g v h => by cases h; rfl⟩

/-- A function by its contract, the result known as more than is said. -/
theorem fn_le {P : Program} {f : FuncId} {args : List PV} {X : PV} (h : PCalls P f args [] (fun r L' => Le r X ∧ L' = [])) : Fn P f args X := fun vs w g LF hv hi =>
  (h vs w g LF hv hi).mono fun _ _ ⟨v, x, g', L', h1, h2, h3, h4, h5, h6, h7⟩ => ⟨v, X, g', L', h1, h6 _ _ h2, h3, h4, h5, rfl, h7⟩
theorem fn_of {P : Program} {f : FuncId} {fn : Func} {c : Code} {rs : List ResultVar} {N : Nat} {args : List PV} {X : PV}
    (hf : P.funcs[f]? = some fn) (hn : fn.ntmps = N) (hb : fn.body = some c) (hr : fn.results = rs.toArray) (hN : Nat.ble args.length N = true)
    (h : (∀ x ∈ args, Bd x) → ∀ LF, pwp P N c (Ret P rs (fun r L' => Le r X ∧ L' = []) LF) (ini args) LF) : Fn P f args X := fn_le (pcalls_bd hf hb hn hr hN h)

section
variable {P : Program} {ρ : Env} {L LF : List Res} {X : PV}
theorem end1 {t : Nat} {y : PV} (hX : Le y X) (hx : ρ t = y := by conv => lhs; whnf) (hs : LF.Sublist L := by repeat (first | exact List.Sublist.refl _ | apply List.Sublist.cons)) : Ret P [.tmp t] (fun r L' => Le r X ∧ L' = []) LF .ret ρ L :=
  ⟨trivial, _, [], .cons (.tmp t) .nil, hs, hx ▸ hX, rfl⟩
theorem end2 {t u : Nat} {x y : PV} (hX : Le (.tuple [x, y]) X) (hx : ρ t = x := by conv => lhs; whnf) (hy : ρ u = y := by conv => lhs; whnf) (hs : LF.Sublist L := by repeat (first | exact List.Sublist.refl _ | apply List.Sublist.cons)) : Ret P [.tmp t, .tmp u] (fun r L' => Le r X ∧ L' = []) LF .ret ρ L :=
  ⟨trivial, _, [], .cons (.tmp t) (.cons (.tmp u) .nil), hs, by subst hx; subst hy; exact hX, rfl⟩
theorem end3 {t u s : Nat} {x y z : PV} (hX : Le (.tuple [x, y, z]) X) (hx : ρ t = x := by conv => lhs; whnf) (hy : ρ u = y := by conv => lhs; whnf) (hz : ρ s = z := by conv => lhs; whnf) (hs : LF.Sublist L := by repeat (first | exact List.Sublist.refl _ | apply List.Sublist.cons)) : Ret P [.tmp t, .tmp u, .tmp s] (fun r L' => Le r X ∧ L' = []) LF .ret ρ L :=
  ⟨trivial, _, [], .cons (.tmp t) (.cons (.tmp u) (.cons (.tmp s) .nil)), hs, by subst hx; subst hy; subst hz; exact hX, rfl⟩
/-- A result that lies in a box. -/
theorem endC {t T n b T' : Nat} {cs : List PV} [hT : TAgg P T n] (h : ρ t = .raw (.pointer (some ⟨b, 0, none⟩))) (hx : Le (.agg cs) X) (hm : Res.box b T' cs ∈ L := by repeat (first | exact List.mem_cons_self | apply List.mem_cons_of_mem)) (hn : cs.length = n := by simp) (hs : LF.Sublist L := by repeat (first | exact List.Sublist.refl _ | apply List.Sublist.cons)) :
    Ret P [.cell t T] (fun r L' => Le r X ∧ L' = []) LF .ret ρ L := ⟨trivial, _, [], .cons (.cell t T h hm hT.out hn) .nil, hs, hx, rfl⟩
theorem endC1 {t T n b T' u : Nat} {cs : List PV} {y : PV} [hT : TAgg P T n] (h : ρ t = .raw (.pointer (some ⟨b, 0, none⟩))) (hx : Le (.tuple [.agg cs, y]) X) (hy : ρ u = y := by conv => lhs; whnf) (hm : Res.box b T' cs ∈ L := by repeat (first | exact List.mem_cons_self | apply List.mem_cons_of_mem)) (hn : cs.length = n := by simp) (hs : LF.Sublist L := by repeat (first | exact List.Sublist.refl _ | apply List.Sublist.cons)) :
    Ret P [.cell t T, .tmp u] (fun r L' => Le r X ∧ L' = []) LF .ret ρ L := ⟨trivial, _, [], .cons (.cell t T h hm hT.out hn) (.cons (.tmp u) .nil), hs, by subst hy; exact hx, rfl⟩
end

structure Chg where
  kind : Int
  file : Ident
  type : Int
  parent : Ident
  name : Str
  mode : Int
  data : Str
  after : Ident
  before : Ident
  lines : List Str
  over : List Ident
  deriving DecidableEq
def Chg.zero : Chg := ⟨0, Ident.zero, 0, Ident.zero, [], 0, [], Ident.zero, Ident.zero, [], []⟩
def eChg (c : Chg) : List PV := [.raw (.int .i64 c.kind)] ++ ((eIdent c.file) ++ ([.raw (.int .i64 c.type)] ++ ((eIdent c.parent) ++ ([.str c.name] ++ ([.raw (.int .i64 c.mode)] ++ ([.str c.data] ++ ((eIdent c.after) ++ ((eIdent c.before) ++ ([.slice ((c.lines).map eS) .ro] ++ ([.slice ((c.over).map eIdent) .ro]))))))))))
@[simp] theorem len_eChg (c : Chg) : (eChg c).length = 139 := by unfold eChg; simp
instance : Len eChg 139 := ⟨len_eChg⟩
instance (c : Chg) : Flat (eChg c) := by unfold eChg; infer_instance
instance (c : Chg) : EncC (.agg (eChg c)) eChg c := ⟨Cells.agg _⟩
instance fld_Chg_kind (c : Chg) : Fld (eChg c) 0 [.raw (.int .i64 c.kind)] := by unfold eChg; exact fld_here
instance at_Chg_kind (c : Chg) : At (eChg c) 0 (.raw (.int .i64 c.kind)) := at_fld (fld_Chg_kind c)
instance put_Chg_kind (c : Chg) (x : Int) : Put (eChg c) 0 [.raw (.int .i64 x)] (eChg { c with kind := x }) := by unfold eChg; exact put_here (by simp)
instance fld_Chg_file (c : Chg) : Fld (eChg c) 1 (eIdent c.file) := by unfold eChg; exact fld_skip (n := 1) (off := 0) (by simp) (fld_here)
instance sub_Chg_file (c : Chg) : Sub (eChg c) 1 33 (eIdent c.file) := sub_fld (fld_Chg_file c) (by simp)
instance put_Chg_file (c : Chg) (x : Ident) : Put (eChg c) 1 (eIdent x) (eChg { c with file := x }) := by unfold eChg; exact put_skip (n := 1) (off := 0) (by simp) (put_here (by simp))
instance fld_Chg_type (c : Chg) : Fld (eChg c) 34 [.raw (.int .i64 c.type)] := by unfold eChg; exact fld_skip (n := 1) (off := 33) (by simp) (fld_skip (n := 33) (off := 0) (by simp) (fld_here))
instance at_Chg_type (c : Chg) : At (eChg c) 34 (.raw (.int .i64 c.type)) := at_fld (fld_Chg_type c)
instance put_Chg_type (c : Chg) (x : Int) : Put (eChg c) 34 [.raw (.int .i64 x)] (eChg { c with type := x }) := by unfold eChg; exact put_skip (n := 1) (off := 33) (by simp) (put_skip (n := 33) (off := 0) (by simp) (put_here (by simp)))
instance fld_Chg_parent (c : Chg) : Fld (eChg c) 35 (eIdent c.parent) := by unfold eChg; exact fld_skip (n := 1) (off := 34) (by simp) (fld_skip (n := 33) (off := 1) (by simp) (fld_skip (n := 1) (off := 0) (by simp) (fld_here)))
instance sub_Chg_parent (c : Chg) : Sub (eChg c) 35 33 (eIdent c.parent) := sub_fld (fld_Chg_parent c) (by simp)
instance put_Chg_parent (c : Chg) (x : Ident) : Put (eChg c) 35 (eIdent x) (eChg { c with parent := x }) := by unfold eChg; exact put_skip (n := 1) (off := 34) (by simp) (put_skip (n := 33) (off := 1) (by simp) (put_skip (n := 1) (off := 0) (by simp) (put_here (by simp))))
instance fld_Chg_name (c : Chg) : Fld (eChg c) 68 [.str c.name] := by unfold eChg; exact fld_skip (n := 1) (off := 67) (by simp) (fld_skip (n := 33) (off := 34) (by simp) (fld_skip (n := 1) (off := 33) (by simp) (fld_skip (n := 33) (off := 0) (by simp) (fld_here))))
instance at_Chg_name (c : Chg) : At (eChg c) 68 (.str c.name) := at_fld (fld_Chg_name c)
instance put_Chg_name (c : Chg) (x : Str) : Put (eChg c) 68 [.str x] (eChg { c with name := x }) := by unfold eChg; exact put_skip (n := 1) (off := 67) (by simp) (put_skip (n := 33) (off := 34) (by simp) (put_skip (n := 1) (off := 33) (by simp) (put_skip (n := 33) (off := 0) (by simp) (put_here (by simp)))))
instance fld_Chg_mode (c : Chg) : Fld (eChg c) 69 [.raw (.int .i64 c.mode)] := by unfold eChg; exact fld_skip (n := 1) (off := 68) (by simp) (fld_skip (n := 33) (off := 35) (by simp) (fld_skip (n := 1) (off := 34) (by simp) (fld_skip (n := 33) (off := 1) (by simp) (fld_skip (n := 1) (off := 0) (by simp) (fld_here)))))
instance at_Chg_mode (c : Chg) : At (eChg c) 69 (.raw (.int .i64 c.mode)) := at_fld (fld_Chg_mode c)
instance put_Chg_mode (c : Chg) (x : Int) : Put (eChg c) 69 [.raw (.int .i64 x)] (eChg { c with mode := x }) := by unfold eChg; exact put_skip (n := 1) (off := 68) (by simp) (put_skip (n := 33) (off := 35) (by simp) (put_skip (n := 1) (off := 34) (by simp) (put_skip (n := 33) (off := 1) (by simp) (put_skip (n := 1) (off := 0) (by simp) (put_here (by simp))))))
instance fld_Chg_data (c : Chg) : Fld (eChg c) 70 [.str c.data] := by unfold eChg; exact fld_skip (n := 1) (off := 69) (by simp) (fld_skip (n := 33) (off := 36) (by simp) (fld_skip (n := 1) (off := 35) (by simp) (fld_skip (n := 33) (off := 2) (by simp) (fld_skip (n := 1) (off := 1) (by simp) (fld_skip (n := 1) (off := 0) (by simp) (fld_here))))))
instance at_Chg_data (c : Chg) : At (eChg c) 70 (.str c.data) := at_fld (fld_Chg_data c)
instance put_Chg_data (c : Chg) (x : Str) : Put (eChg c) 70 [.str x] (eChg { c with data := x }) := by unfold eChg; exact put_skip (n := 1) (off := 69) (by simp) (put_skip (n := 33) (off := 36) (by simp) (put_skip (n := 1) (off := 35) (by simp) (put_skip (n := 33) (off := 2) (by simp) (put_skip (n := 1) (off := 1) (by simp) (put_skip (n := 1) (off := 0) (by simp) (put_here (by simp)))))))
instance fld_Chg_after (c : Chg) : Fld (eChg c) 71 (eIdent c.after) := by unfold eChg; exact fld_skip (n := 1) (off := 70) (by simp) (fld_skip (n := 33) (off := 37) (by simp) (fld_skip (n := 1) (off := 36) (by simp) (fld_skip (n := 33) (off := 3) (by simp) (fld_skip (n := 1) (off := 2) (by simp) (fld_skip (n := 1) (off := 1) (by simp) (fld_skip (n := 1) (off := 0) (by simp) (fld_here)))))))
instance sub_Chg_after (c : Chg) : Sub (eChg c) 71 33 (eIdent c.after) := sub_fld (fld_Chg_after c) (by simp)
instance put_Chg_after (c : Chg) (x : Ident) : Put (eChg c) 71 (eIdent x) (eChg { c with after := x }) := by unfold eChg; exact put_skip (n := 1) (off := 70) (by simp) (put_skip (n := 33) (off := 37) (by simp) (put_skip (n := 1) (off := 36) (by simp) (put_skip (n := 33) (off := 3) (by simp) (put_skip (n := 1) (off := 2) (by simp) (put_skip (n := 1) (off := 1) (by simp) (put_skip (n := 1) (off := 0) (by simp) (put_here (by simp))))))))
instance fld_Chg_before (c : Chg) : Fld (eChg c) 104 (eIdent c.before) := by unfold eChg; exact fld_skip (n := 1) (off := 103) (by simp) (fld_skip (n := 33) (off := 70) (by simp) (fld_skip (n := 1) (off := 69) (by simp) (fld_skip (n := 33) (off := 36) (by simp) (fld_skip (n := 1) (off := 35) (by simp) (fld_skip (n := 1) (off := 34) (by simp) (fld_skip (n := 1) (off := 33) (by simp) (fld_skip (n := 33) (off := 0) (by simp) (fld_here))))))))
instance sub_Chg_before (c : Chg) : Sub (eChg c) 104 33 (eIdent c.before) := sub_fld (fld_Chg_before c) (by simp)
instance put_Chg_before (c : Chg) (x : Ident) : Put (eChg c) 104 (eIdent x) (eChg { c with before := x }) := by unfold eChg; exact put_skip (n := 1) (off := 103) (by simp) (put_skip (n := 33) (off := 70) (by simp) (put_skip (n := 1) (off := 69) (by simp) (put_skip (n := 33) (off := 36) (by simp) (put_skip (n := 1) (off := 35) (by simp) (put_skip (n := 1) (off := 34) (by simp) (put_skip (n := 1) (off := 33) (by simp) (put_skip (n := 33) (off := 0) (by simp) (put_here (by simp)))))))))
instance fld_Chg_lines (c : Chg) : Fld (eChg c) 137 [.slice ((c.lines).map eS) .ro] := by unfold eChg; exact fld_skip (n := 1) (off := 136) (by simp) (fld_skip (n := 33) (off := 103) (by simp) (fld_skip (n := 1) (off := 102) (by simp) (fld_skip (n := 33) (off := 69) (by simp) (fld_skip (n := 1) (off := 68) (by simp) (fld_skip (n := 1) (off := 67) (by simp) (fld_skip (n := 1) (off := 66) (by simp) (fld_skip (n := 33) (off := 33) (by simp) (fld_skip (n := 33) (off := 0) (by simp) (fld_here)))))))))
instance at_Chg_lines (c : Chg) : At (eChg c) 137 (.slice ((c.lines).map eS) .ro) := at_fld (fld_Chg_lines c)
instance put_Chg_lines (c : Chg) (x : List Str) : Put (eChg c) 137 [.slice ((x).map eS) .ro] (eChg { c with lines := x }) := by unfold eChg; exact put_skip (n := 1) (off := 136) (by simp) (put_skip (n := 33) (off := 103) (by simp) (put_skip (n := 1) (off := 102) (by simp) (put_skip (n := 33) (off := 69) (by simp) (put_skip (n := 1) (off := 68) (by simp) (put_skip (n := 1) (off := 67) (by simp) (put_skip (n := 1) (off := 66) (by simp) (put_skip (n := 33) (off := 33) (by simp) (put_skip (n := 33) (off := 0) (by simp) (put_here (by simp))))))))))
instance putn_Chg_lines (c : Chg) : Put (eChg c) 137 [.slice [] .ro] (eChg { c with lines := [] }) := put_Chg_lines c []
instance fld_Chg_over (c : Chg) : Fld (eChg c) 138 [.slice ((c.over).map eIdent) .ro] := by unfold eChg; exact fld_skip (n := 1) (off := 137) (by simp) (fld_skip (n := 33) (off := 104) (by simp) (fld_skip (n := 1) (off := 103) (by simp) (fld_skip (n := 33) (off := 70) (by simp) (fld_skip (n := 1) (off := 69) (by simp) (fld_skip (n := 1) (off := 68) (by simp) (fld_skip (n := 1) (off := 67) (by simp) (fld_skip (n := 33) (off := 34) (by simp) (fld_skip (n := 33) (off := 1) (by simp) (fld_skip (n := 1) (off := 0) (by simp) (fld_last))))))))))
instance at_Chg_over (c : Chg) : At (eChg c) 138 (.slice ((c.over).map eIdent) .ro) := at_fld (fld_Chg_over c)
instance put_Chg_over (c : Chg) (x : List Ident) : Put (eChg c) 138 [.slice ((x).map eIdent) .ro] (eChg { c with over := x }) := by unfold eChg; exact put_skip (n := 1) (off := 137) (by simp) (put_skip (n := 33) (off := 104) (by simp) (put_skip (n := 1) (off := 103) (by simp) (put_skip (n := 33) (off := 70) (by simp) (put_skip (n := 1) (off := 69) (by simp) (put_skip (n := 1) (off := 68) (by simp) (put_skip (n := 1) (off := 67) (by simp) (put_skip (n := 33) (off := 34) (by simp) (put_skip (n := 33) (off := 1) (by simp) (put_skip (n := 1) (off := 0) (by simp) (put_last (by simp)))))))))))
instance putn_Chg_over (c : Chg) : Put (eChg c) 138 [.slice [] .ro] (eChg { c with over := [] }) := put_Chg_over c []
structure Pat where
  author : Str
  message : Str
  time : Int
  deps : List Dig
  changes : List Chg
  deriving DecidableEq
def Pat.zero : Pat := ⟨[], [], 0, [], []⟩
def ePat (c : Pat) : List PV := [.str c.author] ++ ([.str c.message] ++ ([.raw (.int .i64 c.time)] ++ ([.slice ((c.deps).map eDig) .ro] ++ ([.slice ((c.changes).map eChg) .ro]))))
@[simp] theorem len_ePat (c : Pat) : (ePat c).length = 5 := by unfold ePat; simp
instance : Len ePat 5 := ⟨len_ePat⟩
instance (c : Pat) : Flat (ePat c) := by unfold ePat; infer_instance
instance fld_Pat_author (c : Pat) : Fld (ePat c) 0 [.str c.author] := by unfold ePat; exact fld_here
instance at_Pat_author (c : Pat) : At (ePat c) 0 (.str c.author) := at_fld (fld_Pat_author c)
instance put_Pat_author (c : Pat) (x : Str) : Put (ePat c) 0 [.str x] (ePat { c with author := x }) := by unfold ePat; exact put_here (by simp)
instance fld_Pat_message (c : Pat) : Fld (ePat c) 1 [.str c.message] := by unfold ePat; exact fld_skip (n := 1) (off := 0) (by simp) (fld_here)
instance at_Pat_message (c : Pat) : At (ePat c) 1 (.str c.message) := at_fld (fld_Pat_message c)
instance fld_Pat_time (c : Pat) : Fld (ePat c) 2 [.raw (.int .i64 c.time)] := by unfold ePat; exact fld_skip (n := 1) (off := 1) (by simp) (fld_skip (n := 1) (off := 0) (by simp) (fld_here))
instance at_Pat_time (c : Pat) : At (ePat c) 2 (.raw (.int .i64 c.time)) := at_fld (fld_Pat_time c)
instance put_Pat_time (c : Pat) (x : Int) : Put (ePat c) 2 [.raw (.int .i64 x)] (ePat { c with time := x }) := by unfold ePat; exact put_skip (n := 1) (off := 1) (by simp) (put_skip (n := 1) (off := 0) (by simp) (put_here (by simp)))
instance fld_Pat_deps (c : Pat) : Fld (ePat c) 3 [.slice ((c.deps).map eDig) .ro] := by unfold ePat; exact fld_skip (n := 1) (off := 2) (by simp) (fld_skip (n := 1) (off := 1) (by simp) (fld_skip (n := 1) (off := 0) (by simp) (fld_here)))
instance at_Pat_deps (c : Pat) : At (ePat c) 3 (.slice ((c.deps).map eDig) .ro) := at_fld (fld_Pat_deps c)
instance put_Pat_deps (c : Pat) (x : List Dig) : Put (ePat c) 3 [.slice ((x).map eDig) .ro] (ePat { c with deps := x }) := by unfold ePat; exact put_skip (n := 1) (off := 2) (by simp) (put_skip (n := 1) (off := 1) (by simp) (put_skip (n := 1) (off := 0) (by simp) (put_here (by simp))))
instance fld_Pat_changes (c : Pat) : Fld (ePat c) 4 [.slice ((c.changes).map eChg) .ro] := by unfold ePat; exact fld_skip (n := 1) (off := 3) (by simp) (fld_skip (n := 1) (off := 2) (by simp) (fld_skip (n := 1) (off := 1) (by simp) (fld_skip (n := 1) (off := 0) (by simp) (fld_last))))
instance at_Pat_changes (c : Pat) : At (ePat c) 4 (.slice ((c.changes).map eChg) .ro) := at_fld (fld_Pat_changes c)
instance put_Pat_changes (c : Pat) (x : List Chg) : Put (ePat c) 4 [.slice ((x).map eChg) .ro] (ePat { c with changes := x }) := by unfold ePat; exact put_skip (n := 1) (off := 3) (by simp) (put_skip (n := 1) (off := 2) (by simp) (put_skip (n := 1) (off := 1) (by simp) (put_skip (n := 1) (off := 0) (by simp) (put_last (by simp)))))
structure Sto where
  id : Dig
  patch : Pat
  deriving DecidableEq
def Sto.zero : Sto := ⟨Dig.zero, Pat.zero⟩
def eSto (c : Sto) : List PV := (eDig c.id) ++ ((ePat c.patch))
@[simp] theorem len_eSto (c : Sto) : (eSto c).length = 37 := by unfold eSto; simp
instance : Len eSto 37 := ⟨len_eSto⟩
instance (c : Sto) : Flat (eSto c) := by unfold eSto; infer_instance
instance : FlatF eSto := ⟨fun c => (inferInstance : Flat (eSto c)).out⟩
instance (c : Sto) : EncC (.agg (eSto c)) eSto c := ⟨Cells.agg _⟩
instance fld_Sto_id (c : Sto) : Fld (eSto c) 0 (eDig c.id) := by unfold eSto; exact fld_here
instance sub_Sto_id (c : Sto) : Sub (eSto c) 0 32 (eDig c.id) := sub_fld (fld_Sto_id c) (by simp)
instance put_Sto_id (c : Sto) (x : Dig) : Put (eSto c) 0 (eDig x) (eSto { c with id := x }) := by unfold eSto; exact put_here (by simp)
instance fld_Sto_patch (c : Sto) : Fld (eSto c) 32 (ePat c.patch) := by unfold eSto; exact fld_skip (n := 32) (off := 0) (by simp) (fld_last)
instance put_Sto_patch (c : Sto) (x : Pat) : Put (eSto c) 32 (ePat x) (eSto { c with patch := x }) := by unfold eSto; exact put_skip (n := 32) (off := 0) (by simp) (put_last (by simp))
structure Atm where
  id : Ident
  kind : Int
  file : Ident
  type : Int
  parent : Ident
  name : Str
  mode : Int
  data : Str
  text : Str
  src : Ident
  dst : Ident
  over : List Ident
  deriving DecidableEq
def Atm.zero : Atm := ⟨Ident.zero, 0, Ident.zero, 0, Ident.zero, [], 0, [], [], Ident.zero, Ident.zero, []⟩
def eAtm (c : Atm) : List PV := (eIdent c.id) ++ ([.raw (.int .i64 c.kind)] ++ ((eIdent c.file) ++ ([.raw (.int .i64 c.type)] ++ ((eIdent c.parent) ++ ([.str c.name] ++ ([.raw (.int .i64 c.mode)] ++ ([.str c.data] ++ ([.str c.text] ++ ((eIdent c.src) ++ ((eIdent c.dst) ++ ([.slice ((c.over).map eIdent) .ro])))))))))))
@[simp] theorem len_eAtm (c : Atm) : (eAtm c).length = 172 := by unfold eAtm; simp
instance : Len eAtm 172 := ⟨len_eAtm⟩
instance (c : Atm) : Flat (eAtm c) := by unfold eAtm; infer_instance
instance : FlatF eAtm := ⟨fun c => (inferInstance : Flat (eAtm c)).out⟩
instance (c : Atm) : EncC (.agg (eAtm c)) eAtm c := ⟨Cells.agg _⟩
instance fld_Atm_id (c : Atm) : Fld (eAtm c) 0 (eIdent c.id) := by unfold eAtm; exact fld_here
instance sub_Atm_id (c : Atm) : Sub (eAtm c) 0 33 (eIdent c.id) := sub_fld (fld_Atm_id c) (by simp)
instance put_Atm_id (c : Atm) (x : Ident) : Put (eAtm c) 0 (eIdent x) (eAtm { c with id := x }) := by unfold eAtm; exact put_here (by simp)
instance put_Atm_id_patch (c : Atm) (x : Dig) : Put (eAtm c) 0 (eDig x) (eAtm { c with id := { c.id with patch := x } }) := put_in (fld_Atm_id c) (by infer_instance : Put (eIdent c.id) 0 (eDig x) (eIdent { c.id with patch := x })) (put_Atm_id c _)
instance fld_Atm_kind (c : Atm) : Fld (eAtm c) 33 [.raw (.int .i64 c.kind)] := by unfold eAtm; exact fld_skip (n := 33) (off := 0) (by simp) (fld_here)
instance at_Atm_kind (c : Atm) : At (eAtm c) 33 (.raw (.int .i64 c.kind)) := at_fld (fld_Atm_kind c)
instance put_Atm_kind (c : Atm) (x : Int) : Put (eAtm c) 33 [.raw (.int .i64 x)] (eAtm { c with kind := x }) := by unfold eAtm; exact put_skip (n := 33) (off := 0) (by simp) (put_here (by simp))
instance fld_Atm_file (c : Atm) : Fld (eAtm c) 34 (eIdent c.file) := by unfold eAtm; exact fld_skip (n := 33) (off := 1) (by simp) (fld_skip (n := 1) (off := 0) (by simp) (fld_here))
instance sub_Atm_file (c : Atm) : Sub (eAtm c) 34 33 (eIdent c.file) := sub_fld (fld_Atm_file c) (by simp)
instance put_Atm_file (c : Atm) (x : Ident) : Put (eAtm c) 34 (eIdent x) (eAtm { c with file := x }) := by unfold eAtm; exact put_skip (n := 33) (off := 1) (by simp) (put_skip (n := 1) (off := 0) (by simp) (put_here (by simp)))
instance fld_Atm_type (c : Atm) : Fld (eAtm c) 67 [.raw (.int .i64 c.type)] := by unfold eAtm; exact fld_skip (n := 33) (off := 34) (by simp) (fld_skip (n := 1) (off := 33) (by simp) (fld_skip (n := 33) (off := 0) (by simp) (fld_here)))
instance at_Atm_type (c : Atm) : At (eAtm c) 67 (.raw (.int .i64 c.type)) := at_fld (fld_Atm_type c)
instance put_Atm_type (c : Atm) (x : Int) : Put (eAtm c) 67 [.raw (.int .i64 x)] (eAtm { c with type := x }) := by unfold eAtm; exact put_skip (n := 33) (off := 34) (by simp) (put_skip (n := 1) (off := 33) (by simp) (put_skip (n := 33) (off := 0) (by simp) (put_here (by simp))))
instance fld_Atm_parent (c : Atm) : Fld (eAtm c) 68 (eIdent c.parent) := by unfold eAtm; exact fld_skip (n := 33) (off := 35) (by simp) (fld_skip (n := 1) (off := 34) (by simp) (fld_skip (n := 33) (off := 1) (by simp) (fld_skip (n := 1) (off := 0) (by simp) (fld_here))))
instance sub_Atm_parent (c : Atm) : Sub (eAtm c) 68 33 (eIdent c.parent) := sub_fld (fld_Atm_parent c) (by simp)
instance put_Atm_parent (c : Atm) (x : Ident) : Put (eAtm c) 68 (eIdent x) (eAtm { c with parent := x }) := by unfold eAtm; exact put_skip (n := 33) (off := 35) (by simp) (put_skip (n := 1) (off := 34) (by simp) (put_skip (n := 33) (off := 1) (by simp) (put_skip (n := 1) (off := 0) (by simp) (put_here (by simp)))))
instance put_Atm_name (c : Atm) (x : Str) : Put (eAtm c) 101 [.str x] (eAtm { c with name := x }) := by unfold eAtm; exact put_skip (n := 33) (off := 68) (by simp) (put_skip (n := 1) (off := 67) (by simp) (put_skip (n := 33) (off := 34) (by simp) (put_skip (n := 1) (off := 33) (by simp) (put_skip (n := 33) (off := 0) (by simp) (put_here (by simp))))))
instance put_Atm_mode (c : Atm) (x : Int) : Put (eAtm c) 102 [.raw (.int .i64 x)] (eAtm { c with mode := x }) := by unfold eAtm; exact put_skip (n := 33) (off := 69) (by simp) (put_skip (n := 1) (off := 68) (by simp) (put_skip (n := 33) (off := 35) (by simp) (put_skip (n := 1) (off := 34) (by simp) (put_skip (n := 33) (off := 1) (by simp) (put_skip (n := 1) (off := 0) (by simp) (put_here (by simp)))))))
instance put_Atm_data (c : Atm) (x : Str) : Put (eAtm c) 103 [.str x] (eAtm { c with data := x }) := by unfold eAtm; exact put_skip (n := 33) (off := 70) (by simp) (put_skip (n := 1) (off := 69) (by simp) (put_skip (n := 33) (off := 36) (by simp) (put_skip (n := 1) (off := 35) (by simp) (put_skip (n := 33) (off := 2) (by simp) (put_skip (n := 1) (off := 1) (by simp) (put_skip (n := 1) (off := 0) (by simp) (put_here (by simp))))))))
instance put_Atm_text (c : Atm) (x : Str) : Put (eAtm c) 104 [.str x] (eAtm { c with text := x }) := by unfold eAtm; exact put_skip (n := 33) (off := 71) (by simp) (put_skip (n := 1) (off := 70) (by simp) (put_skip (n := 33) (off := 37) (by simp) (put_skip (n := 1) (off := 36) (by simp) (put_skip (n := 33) (off := 3) (by simp) (put_skip (n := 1) (off := 2) (by simp) (put_skip (n := 1) (off := 1) (by simp) (put_skip (n := 1) (off := 0) (by simp) (put_here (by simp)))))))))
instance fld_Atm_src (c : Atm) : Fld (eAtm c) 105 (eIdent c.src) := by unfold eAtm; exact fld_skip (n := 33) (off := 72) (by simp) (fld_skip (n := 1) (off := 71) (by simp) (fld_skip (n := 33) (off := 38) (by simp) (fld_skip (n := 1) (off := 37) (by simp) (fld_skip (n := 33) (off := 4) (by simp) (fld_skip (n := 1) (off := 3) (by simp) (fld_skip (n := 1) (off := 2) (by simp) (fld_skip (n := 1) (off := 1) (by simp) (fld_skip (n := 1) (off := 0) (by simp) (fld_here)))))))))
instance sub_Atm_src (c : Atm) : Sub (eAtm c) 105 33 (eIdent c.src) := sub_fld (fld_Atm_src c) (by simp)
instance put_Atm_src (c : Atm) (x : Ident) : Put (eAtm c) 105 (eIdent x) (eAtm { c with src := x }) := by unfold eAtm; exact put_skip (n := 33) (off := 72) (by simp) (put_skip (n := 1) (off := 71) (by simp) (put_skip (n := 33) (off := 38) (by simp) (put_skip (n := 1) (off := 37) (by simp) (put_skip (n := 33) (off := 4) (by simp) (put_skip (n := 1) (off := 3) (by simp) (put_skip (n := 1) (off := 2) (by simp) (put_skip (n := 1) (off := 1) (by simp) (put_skip (n := 1) (off := 0) (by simp) (put_here (by simp))))))))))
instance fld_Atm_dst (c : Atm) : Fld (eAtm c) 138 (eIdent c.dst) := by unfold eAtm; exact fld_skip (n := 33) (off := 105) (by simp) (fld_skip (n := 1) (off := 104) (by simp) (fld_skip (n := 33) (off := 71) (by simp) (fld_skip (n := 1) (off := 70) (by simp) (fld_skip (n := 33) (off := 37) (by simp) (fld_skip (n := 1) (off := 36) (by simp) (fld_skip (n := 1) (off := 35) (by simp) (fld_skip (n := 1) (off := 34) (by simp) (fld_skip (n := 1) (off := 33) (by simp) (fld_skip (n := 33) (off := 0) (by simp) (fld_here))))))))))
instance sub_Atm_dst (c : Atm) : Sub (eAtm c) 138 33 (eIdent c.dst) := sub_fld (fld_Atm_dst c) (by simp)
instance put_Atm_dst (c : Atm) (x : Ident) : Put (eAtm c) 138 (eIdent x) (eAtm { c with dst := x }) := by unfold eAtm; exact put_skip (n := 33) (off := 105) (by simp) (put_skip (n := 1) (off := 104) (by simp) (put_skip (n := 33) (off := 71) (by simp) (put_skip (n := 1) (off := 70) (by simp) (put_skip (n := 33) (off := 37) (by simp) (put_skip (n := 1) (off := 36) (by simp) (put_skip (n := 1) (off := 35) (by simp) (put_skip (n := 1) (off := 34) (by simp) (put_skip (n := 1) (off := 33) (by simp) (put_skip (n := 33) (off := 0) (by simp) (put_here (by simp)))))))))))
instance fld_Atm_over (c : Atm) : Fld (eAtm c) 171 [.slice ((c.over).map eIdent) .ro] := by unfold eAtm; exact fld_skip (n := 33) (off := 138) (by simp) (fld_skip (n := 1) (off := 137) (by simp) (fld_skip (n := 33) (off := 104) (by simp) (fld_skip (n := 1) (off := 103) (by simp) (fld_skip (n := 33) (off := 70) (by simp) (fld_skip (n := 1) (off := 69) (by simp) (fld_skip (n := 1) (off := 68) (by simp) (fld_skip (n := 1) (off := 67) (by simp) (fld_skip (n := 1) (off := 66) (by simp) (fld_skip (n := 33) (off := 33) (by simp) (fld_skip (n := 33) (off := 0) (by simp) (fld_last)))))))))))
instance at_Atm_over (c : Atm) : At (eAtm c) 171 (.slice ((c.over).map eIdent) .ro) := at_fld (fld_Atm_over c)
instance put_Atm_over (c : Atm) (x : List Ident) : Put (eAtm c) 171 [.slice ((x).map eIdent) .ro] (eAtm { c with over := x }) := by unfold eAtm; exact put_skip (n := 33) (off := 138) (by simp) (put_skip (n := 1) (off := 137) (by simp) (put_skip (n := 33) (off := 104) (by simp) (put_skip (n := 1) (off := 103) (by simp) (put_skip (n := 33) (off := 70) (by simp) (put_skip (n := 1) (off := 69) (by simp) (put_skip (n := 1) (off := 68) (by simp) (put_skip (n := 1) (off := 67) (by simp) (put_skip (n := 1) (off := 66) (by simp) (put_skip (n := 33) (off := 33) (by simp) (put_skip (n := 33) (off := 0) (by simp) (put_last (by simp))))))))))))
structure Bis where
  left : List Dig
  asked : List Dig
  bad : List Bool
  deriving DecidableEq
def Bis.zero : Bis := ⟨[], [], []⟩
def eBis (c : Bis) : List PV := [.slice ((c.left).map eDig) .ro] ++ ([.slice ((c.asked).map eDig) .ro] ++ ([.slice ((c.bad).map eB) .ro]))
@[simp] theorem len_eBis (c : Bis) : (eBis c).length = 3 := by unfold eBis; simp
instance : Len eBis 3 := ⟨len_eBis⟩
instance (c : Bis) : Flat (eBis c) := by unfold eBis; infer_instance
instance fld_Bis_left (c : Bis) : Fld (eBis c) 0 [.slice ((c.left).map eDig) .ro] := by unfold eBis; exact fld_here
instance at_Bis_left (c : Bis) : At (eBis c) 0 (.slice ((c.left).map eDig) .ro) := at_fld (fld_Bis_left c)
instance put_Bis_left (c : Bis) (x : List Dig) : Put (eBis c) 0 [.slice ((x).map eDig) .ro] (eBis { c with left := x }) := by unfold eBis; exact put_here (by simp)
instance fld_Bis_asked (c : Bis) : Fld (eBis c) 1 [.slice ((c.asked).map eDig) .ro] := by unfold eBis; exact fld_skip (n := 1) (off := 0) (by simp) (fld_here)
instance at_Bis_asked (c : Bis) : At (eBis c) 1 (.slice ((c.asked).map eDig) .ro) := at_fld (fld_Bis_asked c)
instance put_Bis_asked (c : Bis) (x : List Dig) : Put (eBis c) 1 [.slice ((x).map eDig) .ro] (eBis { c with asked := x }) := by unfold eBis; exact put_skip (n := 1) (off := 0) (by simp) (put_here (by simp))
instance fld_Bis_bad (c : Bis) : Fld (eBis c) 2 [.slice ((c.bad).map eB) .ro] := by unfold eBis; exact fld_skip (n := 1) (off := 1) (by simp) (fld_skip (n := 1) (off := 0) (by simp) (fld_last))
instance at_Bis_bad (c : Bis) : At (eBis c) 2 (.slice ((c.bad).map eB) .ro) := at_fld (fld_Bis_bad c)
instance put_Bis_bad (c : Bis) (x : List Bool) : Put (eBis c) 2 [.slice ((x).map eB) .ro] (eBis { c with bad := x }) := by unfold eBis; exact put_skip (n := 1) (off := 1) (by simp) (put_skip (n := 1) (off := 0) (by simp) (put_last (by simp)))

/-! ### Trees of strings -/
inductive Sx where
  | mk (isList : Bool) (atom : Str) (list : List Sx)
def Sx.isList : Sx → Bool | .mk b _ _ => b
def Sx.atom : Sx → Str | .mk _ a _ => a
def Sx.list : Sx → List Sx | .mk _ _ l => l
def Sx.zero : Sx := .mk false [] []
mutual
def eSx : Sx → List PV
  | .mk b a l => [.raw (.bool b), .str a, .slice (eSxs l) .ro]
def eSxs : List Sx → List (List PV)
  | [] => []
  | x :: l => eSx x :: eSxs l
end
theorem eSxs_eq : ∀ l : List Sx, eSxs l = l.map eSx
  | [] => by simp [eSxs]
  | x :: l => by simp [eSxs, eSxs_eq l]
theorem eSx_eq (x : Sx) : eSx x = [.raw (.bool x.isList), .str x.atom, .slice (x.list.map eSx) .ro] := by
  cases x; simp [eSx, eSxs_eq, Sx.isList, Sx.atom, Sx.list]
@[simp] theorem len_eSx (x : Sx) : (eSx x).length = 3 := by rw [eSx_eq]; rfl
instance : Len eSx 3 := ⟨len_eSx⟩
instance (c : Sx) : Flat (eSx c) := by rw [eSx_eq]; infer_instance
instance : FlatF eSx := ⟨fun c => (inferInstance : Flat (eSx c)).out⟩
instance (c : Sx) : EncC (.agg (eSx c)) eSx c := ⟨Cells.agg _⟩
instance fld_Sx_isList (c : Sx) : Fld (eSx c) 0 [.raw (.bool c.isList)] := ⟨by rw [eSx_eq]; simp⟩
instance at_Sx_isList (c : Sx) : At (eSx c) 0 (.raw (.bool c.isList)) := ⟨by rw [eSx_eq]; simp⟩
instance fld_Sx_atom (c : Sx) : Fld (eSx c) 1 [.str c.atom] := ⟨by rw [eSx_eq]; simp⟩
instance at_Sx_atom (c : Sx) : At (eSx c) 1 (.str c.atom) := ⟨by rw [eSx_eq]; simp⟩
instance fld_Sx_list (c : Sx) : Fld (eSx c) 2 [.slice (c.list.map eSx) .ro] := ⟨by rw [eSx_eq]; simp⟩
instance at_Sx_list (c : Sx) : At (eSx c) 2 (.slice (c.list.map eSx) .ro) := ⟨by rw [eSx_eq]; simp⟩
instance put_Sx_isList (c : Sx) (x : Bool) : Put (eSx c) 0 [.raw (.bool x)] (eSx (.mk x c.atom c.list)) := ⟨by rw [eSx_eq, eSx_eq]; simp [Sx.isList, Sx.atom, Sx.list]⟩
instance put_Sx_atom (c : Sx) (x : Str) : Put (eSx c) 1 [.str x] (eSx (.mk c.isList x c.list)) := ⟨by rw [eSx_eq, eSx_eq]; simp [Sx.isList, Sx.atom, Sx.list]⟩
instance put_Sx_list (c : Sx) (x : List Sx) : Put (eSx c) 2 [.slice (x.map eSx) .ro] (eSx (.mk c.isList c.atom x)) := ⟨by rw [eSx_eq, eSx_eq]; simp [Sx.isList, Sx.atom, Sx.list]⟩

end Go.Q
